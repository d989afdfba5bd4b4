/- Texts joined into one file (wip/tools/pack.py): Fn69 -/
import Derived.Test.YtfiamddinkokbaaGreatTB2
import Derived.Test.YtfiamddinkokbaaGreatTB1
import Derived.Test.YtfiamddinkokbaaGreatTB6
set_option linter.unusedVariables false
set_option linter.unusedSimpArgs false
namespace Go.Proofs.YtfiamddinkokbaaGreat.F
open Go.RowKit Go.Proofs.YtfiamddinkokbaaGreatW.PrintWords Go.Proofs.YtfiamddinkokbaaGreatW.PrintLast Go.Proofs.YtfiamddinkokbaaGreatW.PrintMore
attribute [local go_sem] max2_int min2_int max_two min_two max_three min_three max_four min_four
attribute [local go_sem high] eqA124
def doc_Of.l0 : Nat→List (S124)→List (S124)→Int→Int→Option ((List (S124)))
 | 0,_,_,_,_=>none
 | k+1,x3,x7,x8,x9=>if x9<x8 then (if 0≤x9 then (if x9<(x7.length:Int) then (if (((((rd_T124 x7 x9).f0.f0).toList).isEmpty&&((((rd_T124 x7 x9).f0.f1).toList).isEmpty&&((((rd_T124 x7 x9).f0.f2).toList).isEmpty)))&&(!((rd_T124 x7 x9).f1)&&((((rd_T124 x7 x9).f2).toList).isEmpty&&((((rd_T124 x7 x9).f3).toList).isEmpty&&((((rd_T124 x7 x9).f4).toList).isEmpty&&((((rd_T124 x7 x9).f5).toList).isEmpty&&(!((rd_T124 x7 x9).f6))))))))=true then (doc_Of.l0 k x3 x7 x8 (wrap64 (x9+1))) else ((doc_Part_isText.f ((rd_T124 x7 x9).f0.f0) ((rd_T124 x7 x9).f0.f1) ((rd_T124 x7 x9).f0.f2) ((rd_T124 x7 x9).f1) ((rd_T124 x7 x9).f2) ((rd_T124 x7 x9).f3) ((rd_T124 x7 x9).f4) ((rd_T124 x7 x9).f5) ((rd_T124 x7 x9).f6)).bind fun t128=>(if t128=true then (if (x3.length:Int)>0 then (if 0≤(wrap64 ((x3.length:Int)-1)) then (if (wrap64 ((x3.length:Int)-1))<(x3.length:Int) then ((doc_Part_isText.f ((rd_T124 x3 (wrap64 ((x3.length:Int)-1))).f0.f0) ((rd_T124 x3 (wrap64 ((x3.length:Int)-1))).f0.f1) ((rd_T124 x3 (wrap64 ((x3.length:Int)-1))).f0.f2) ((rd_T124 x3 (wrap64 ((x3.length:Int)-1))).f1) ((rd_T124 x3 (wrap64 ((x3.length:Int)-1))).f2) ((rd_T124 x3 (wrap64 ((x3.length:Int)-1))).f3) ((rd_T124 x3 (wrap64 ((x3.length:Int)-1))).f4) ((rd_T124 x3 (wrap64 ((x3.length:Int)-1))).f5) ((rd_T124 x3 (wrap64 ((x3.length:Int)-1))).f6)).bind fun t130=>(if t130=true then (if ((rd_T124 x3 (wrap64 ((x3.length:Int)-1))).f2).size+((rd_T124 x7 x9).f2).size≤9223372036854775807 then (doc_Of.l0 k (x3.set ((wrap64 ((x3.length:Int)-1)):Int).toNat (⟨(⟨(rd_T124 x3 (wrap64 ((x3.length:Int)-1))).f0.f0,(rd_T124 x3 (wrap64 ((x3.length:Int)-1))).f0.f1,(rd_T124 x3 (wrap64 ((x3.length:Int)-1))).f0.f2⟩:S29),(rd_T124 x3 (wrap64 ((x3.length:Int)-1))).f1,((rd_T124 x3 (wrap64 ((x3.length:Int)-1))).f2)++((rd_T124 x7 x9).f2),(rd_T124 x3 (wrap64 ((x3.length:Int)-1))).f3,(rd_T124 x3 (wrap64 ((x3.length:Int)-1))).f4,(rd_T124 x3 (wrap64 ((x3.length:Int)-1))).f5,(rd_T124 x3 (wrap64 ((x3.length:Int)-1))).f6⟩:S124)) x7 x8 (wrap64 (x9+1))) else (none)) else (if x3.length<1099511627776 then (doc_Of.l0 k (x3++[(⟨(⟨(rd_T124 x7 x9).f0.f0,(rd_T124 x7 x9).f0.f1,(rd_T124 x7 x9).f0.f2⟩:S29),(rd_T124 x7 x9).f1,(rd_T124 x7 x9).f2,(rd_T124 x7 x9).f3,(rd_T124 x7 x9).f4,(rd_T124 x7 x9).f5,(rd_T124 x7 x9).f6⟩:S124)]) x7 x8 (wrap64 (x9+1))) else (none)))) else (none)) else (none)) else (if x3.length<1099511627776 then (doc_Of.l0 k (x3++[(⟨(⟨(rd_T124 x7 x9).f0.f0,(rd_T124 x7 x9).f0.f1,(rd_T124 x7 x9).f0.f2⟩:S29),(rd_T124 x7 x9).f1,(rd_T124 x7 x9).f2,(rd_T124 x7 x9).f3,(rd_T124 x7 x9).f4,(rd_T124 x7 x9).f5,(rd_T124 x7 x9).f6⟩:S124)]) x7 x8 (wrap64 (x9+1))) else (none))) else (if x3.length<1099511627776 then (doc_Of.l0 k (x3++[(⟨(⟨(rd_T124 x7 x9).f0.f0,(rd_T124 x7 x9).f0.f1,(rd_T124 x7 x9).f0.f2⟩:S29),(rd_T124 x7 x9).f1,(rd_T124 x7 x9).f2,(rd_T124 x7 x9).f3,(rd_T124 x7 x9).f4,(rd_T124 x7 x9).f5,(rd_T124 x7 x9).f6⟩:S124)]) x7 x8 (wrap64 (x9+1))) else (none))))) else (none)) else (none)) else (some x3)
def doc_Of.f (k : Nat) (l0 : List (S124)) : Option ((List (S124))) := doc_Of.l0 k ([] : List (S124)) l0 (l0.length : Int) 0
theorem doc_Of.mono_l : ∀ k,(∀ y0 y1 y2 y3,LeO (doc_Of.l0 k y0 y1 y2 y3) (doc_Of.l0 (k+1) y0 y1 y2 y3))
 | 0=>fun _ _ _ _ r h=>by simp [doc_Of.l0] at h
 | k+1=>by
  have ih0:=doc_Of.mono_l k
  ·intro y0 y1 y2 y3
   unfold doc_Of.l0
   repeat' first
   | (with_reducible exact ih0 _ _ _ _)
   | (with_reducible exact LeO.refl _)
   | (with_reducible exact LeO.none _)
   | (with_reducible refine LeO.ite ?_ ?_)
   | (with_reducible refine LeO.bind ?_ (fun _=>?_))
   | exact ih0 _ _ _ _
   | exact LeO.none _
   | refine LeO.ite ?_ ?_
   | refine LeO.bind ?_ (fun _=>?_)
theorem doc_Of.mono : ∀ a0 k,LeO (doc_Of.f k a0) (doc_Of.f (k+1) a0) := by
 intro a0 k
 have ih0:=doc_Of.mono_l k
 unfold doc_Of.f
 repeat' first
   | (with_reducible exact ih0 _ _ _ _)
   | (with_reducible exact LeO.refl _)
   | (with_reducible exact LeO.none _)
   | (with_reducible refine LeO.ite ?_ ?_)
   | (with_reducible refine LeO.bind ?_ (fun _=>?_))
   | exact ih0 _ _ _ _
   | exact LeO.none _
   | refine LeO.ite ?_ ?_
   | refine LeO.bind ?_ (fun _=>?_)
def doc_Of.T9 : Bool×List (List Nat×List Nat) := (true,[([],[]),([],[]),([1],[1]),([0,2],[0,2]),([3],[3]),([4],[4]),([],[]),([6],[6]),([5,7],[5,7]),([0,2,0,1,2,3,4,5,6,7,8],[0,2]),([9,0,1,2,3,4,5,6,7,8],[9]),([10,8,0,1,2,3,4,5,6,7,8],[8,10])])
def doc_Of.B9 : List Nat := [0,0,2,7,15,31,0,64,255,511,1023,2047]
theorem doc_Of.tab9 : rtab .any (opsOf Tryz.f69 9)=doc_Of.T9 := by kernel_rfl
theorem doc_Of.bits9 : waitsOk doc_Of.T9.2 doc_Of.B9=true := by kernel_rfl
set_option maxHeartbeats 8000000 in
set_option maxRecDepth 100000 in
theorem doc_Of.calls (k : Nat) (A0 : Option Addr) (c0 : Nat) (l0 : List (S124)) (r : List (S124)) (w : World) (hr0 : Kd.C k124 w A0 l0.length l0) (hc0 : l0.length≤c0) (h : doc_Of.f k l0=some r) :
  Calls Tryz.prog 69 #[.slice A0 l0.length c0] w fun e w'=>∃ v0_:Value,e = .returned (v0_)∧Kd.R k124 124 w' w.heap.size (fun _=>True) v0_ r∧Below w.heap.size w w':=by
 have hu124:=Tryz.underlying124
 have HR0:=Zd hr0
 have HC0:=Zd hc0
 clear hr0 hc0
 have HB:=Zd (Below.refl w.heap.size w)
 have H:(doc_Of.l0 k ([]:List (S124)) l0 (l0.length:Int) 0)=some r:=h
 clear h
 have H':=Zd H
 clear H
 go_enter Tryz.func69,Tryz.ntmps69
 go_wp2
 go_loopg [3,9] k (fun kq v3 v9 w'=>∃ (x3_1:List (S124)) (x9_1:Int),v9 = .int .i64 x9_1∧Aside0 (doc_Of.l0 kq x3_1 l0 (l0.length:Int) x9_1=some r)∧Aside0 (kq≤k)∧Aside0 (Kd.R k124 124 w' w.heap.size (fun _=>True) v3 x3_1)∧Aside0 (Below w.heap.size w w'))
 case atStart=>exact⟨(([]:List (S124))),(0),(by first|rfl|(simp;done)|(simp [*];done)),H',⟨Nat.le_refl _⟩,⟨by first|exact Kd.R_nil _ _ _ _ _|exact Kd.N_nil _ _ _ _ _|exact Kd.V_nil _ _ _ _ _|exact Kd.Q_nil _ _ _ _ _|exact Kd.S_nil _ _ _ _ _⟩,⟨by repeat (first|(with_reducible first|exact HB.out|apply below_alloc|apply pw_below_drewN|apply below_drew1)|exact HB.out)⟩⟩
 case round =>
  clear H'
  obtain⟨x3_1,x9_1,rfl,HA,HK1,HO_3,HB⟩:=hrel
  cases gk with
  | zero=>exact absurd HA.out (by simp [doc_Of.l0])
  | succ k1 =>
   have H:=HA.out
   clear HA
   simp only [doc_Of.l0] at H
   by_cases c2:x9_1<(l0.length:Int)
   ·rw [if_pos c2] at H
    have c2b0:decide (x9_1<(l0.length:Int))=true:=decide_eq_true c2
    clear c2
    by_cases c3:0≤x9_1
    ·rw [if_pos c3] at H
     have c3b0:decide (0≤x9_1)=true:=decide_eq_true c3
     clear c3
     by_cases c4:x9_1<(l0.length:Int)
     ·rw [if_pos c4] at H
      have c4b0:decide (x9_1<(l0.length:Int))=true:=decide_eq_true c4
      clear c4
      by_cases c5:(((((rd_T124 l0 x9_1).f0.f0).toList).isEmpty&&((((rd_T124 l0 x9_1).f0.f1).toList).isEmpty&&((((rd_T124 l0 x9_1).f0.f2).toList).isEmpty)))&&(!((rd_T124 l0 x9_1).f1)&&((((rd_T124 l0 x9_1).f2).toList).isEmpty&&((((rd_T124 l0 x9_1).f3).toList).isEmpty&&((((rd_T124 l0 x9_1).f4).toList).isEmpty&&((((rd_T124 l0 x9_1).f5).toList).isEmpty&&(!((rd_T124 l0 x9_1).f6))))))))=true
      ·rw [if_pos c5] at H
       have c5b0:(((((rd_T124 l0 x9_1).f0.f0).toList).isEmpty&&((((rd_T124 l0 x9_1).f0.f1).toList).isEmpty&&((((rd_T124 l0 x9_1).f0.f2).toList).isEmpty)))&&(!((rd_T124 l0 x9_1).f1)&&((((rd_T124 l0 x9_1).f2).toList).isEmpty&&((((rd_T124 l0 x9_1).f3).toList).isEmpty&&((((rd_T124 l0 x9_1).f4).toList).isEmpty&&((((rd_T124 l0 x9_1).f5).toList).isEmpty&&(!((rd_T124 l0 x9_1).f6))))))))=true:=c5
       clear c5
       have H':=Zd H
       clear H
       have p126:0≤(x9_1:Int):=Zo
       have q126:x9_1<(l0.length:Int):=Zo
       obtain⟨ad126,e126,hx126_0,hx126_1,hx126_2,hx126_3,hx126_4,hx126_5,hx126_6,hx126_7,hx126_8⟩:=at_T124 HR0.out x9_1 p126 q126
       cases e126
       replace hx126_0:=Zx HB rfl hx126_0
       replace hx126_1:=Zx HB rfl hx126_1
       replace hx126_2:=Zx HB rfl hx126_2
       replace hx126_3:=Zx HB rfl hx126_3
       replace hx126_4:=Zx HB rfl hx126_4
       replace hx126_5:=Zx HB rfl hx126_5
       replace hx126_6:=Zx HB rfl hx126_6
       replace hx126_7:=Zx HB rfl hx126_7
       replace hx126_8:=Zx HB rfl hx126_8
       replace p126:=eq_true p126
       replace q126:=eq_true q126
       go_wp2_with (first|((with_reducible refine gate_dst (N:=5) rfl ?_);refine box_event ?hg (N:=5) ?hd (cs:=#[.string (⟨#[]⟩:ByteArray),.string (⟨#[]⟩:ByteArray),.string (⟨#[]⟩:ByteArray),.bool false,.string (⟨#[]⟩:ByteArray),.string (⟨#[]⟩:ByteArray),.string (⟨#[]⟩:ByteArray),.string (⟨#[]⟩:ByteArray),.bool false]) (t:=124) ?hr ?_;(case hd=>rfl);(case hg=>rfl);(case hr=>first|(go_simp;done)|(go_simp;rfl));intro gb127 hg w6 hbox hb;have n0_:=Zd (Kd.R_below (Kd.R_elderB (Zr HO_3.out) gb127 (Nat.le_of_eq hg.symm)) hb);have n1_:=Zd (below_step Zb hb);have n2_:=Zd (hbox);have n3_:=Zd ((Zg hg:w.heap.size≤gb127));have n4_:=Zd ((Zg hg:w.heap.size≤gb127));clear HO_3;clear HB;have HO_3:=n0_;have HB:=n1_;have BK127:=n2_;have GW127:=n3_;have GE127:=n4_;clear n0_ n1_ n2_ n3_ n4_;clear hb hbox hg;obtain⟨hcz7_0,hcz7_1,hcz7_2,hcz7_3,hcz7_4,hcz7_5,hcz7_6,hcz7_7,hcz7_8,hfz7_0,hfz7_1,hfz7_2,hfz7_3,hfz7_4,hfz7_5,hfz7_6,hfz7_7,hfz7_8⟩:=Zc9 BK127.out;obtain⟨Ao8,co8,eo8⟩:=Kd.R_slice HO_3.out;subst eo8))
       go_roundg k1
       case measure=>have:=HK1.out;omega
       case rel=>exact⟨(x3_1),(wrap64 (x9_1+1)),(by first|rfl|(simp;done)|(simp [*];done)),H',⟨by have:=HK1.out;omega⟩,⟨by refine Zr ?_;exact Kd.R_mono (Kd.R_far (p:=⟨gb127,8,none⟩) (Kd.R_far (p:=⟨gb127,7,none⟩) (Kd.R_far (p:=⟨gb127,6,none⟩) (Kd.R_far (p:=⟨gb127,5,none⟩) (Kd.R_far (p:=⟨gb127,4,none⟩) (Kd.R_far (p:=⟨gb127,3,none⟩) (Kd.R_far (p:=⟨gb127,2,none⟩) (Kd.R_far (p:=⟨gb127,1,none⟩) (Kd.R_far (p:=⟨gb127,0,none⟩) (Kd.R_mono HO_3.out (fun k_ hk=>(⟨hk,hk.2⟩:_∧k_≠gb127))) (fun _ hk=>hk.2) (.string ((rd_T124 l0 x9_1).f0.f0))) (fun _ hk=>hk.2) (.string ((rd_T124 l0 x9_1).f0.f1))) (fun _ hk=>hk.2) (.string ((rd_T124 l0 x9_1).f0.f2))) (fun _ hk=>hk.2) (.bool ((rd_T124 l0 x9_1).f1))) (fun _ hk=>hk.2) (.string ((rd_T124 l0 x9_1).f2))) (fun _ hk=>hk.2) (.string ((rd_T124 l0 x9_1).f3))) (fun _ hk=>hk.2) (.string ((rd_T124 l0 x9_1).f4))) (fun _ hk=>hk.2) (.string ((rd_T124 l0 x9_1).f5))) (fun _ hk=>hk.2) (.bool ((rd_T124 l0 x9_1).f6))) (fun _ hk=>trivial)⟩,⟨by repeat (first|(with_reducible first|exact HB.out|apply below_alloc|apply pw_below_drewN|apply below_drew1|refine below_set ?_ GE127.out)|exact HB.out)⟩⟩
      ·rw [if_neg c5] at H
       have c5b0:(((((rd_T124 l0 x9_1).f0.f0).toList).isEmpty&&((((rd_T124 l0 x9_1).f0.f1).toList).isEmpty&&((((rd_T124 l0 x9_1).f0.f2).toList).isEmpty)))&&(!((rd_T124 l0 x9_1).f1)&&((((rd_T124 l0 x9_1).f2).toList).isEmpty&&((((rd_T124 l0 x9_1).f3).toList).isEmpty&&((((rd_T124 l0 x9_1).f4).toList).isEmpty&&((((rd_T124 l0 x9_1).f5).toList).isEmpty&&(!((rd_T124 l0 x9_1).f6))))))))=false:=by simpa using c5
       clear c5
       replace H:=Option.bind_eq_some_iff.mp H
       obtain⟨t128,A90,H⟩:=H
       replace H:(if t128=true then (if (x3_1.length:Int)>0 then (if 0≤(wrap64 ((x3_1.length:Int)-1)) then (if (wrap64 ((x3_1.length:Int)-1))<(x3_1.length:Int) then ((doc_Part_isText.f ((rd_T124 x3_1 (wrap64 ((x3_1.length:Int)-1))).f0.f0) ((rd_T124 x3_1 (wrap64 ((x3_1.length:Int)-1))).f0.f1) ((rd_T124 x3_1 (wrap64 ((x3_1.length:Int)-1))).f0.f2) ((rd_T124 x3_1 (wrap64 ((x3_1.length:Int)-1))).f1) ((rd_T124 x3_1 (wrap64 ((x3_1.length:Int)-1))).f2) ((rd_T124 x3_1 (wrap64 ((x3_1.length:Int)-1))).f3) ((rd_T124 x3_1 (wrap64 ((x3_1.length:Int)-1))).f4) ((rd_T124 x3_1 (wrap64 ((x3_1.length:Int)-1))).f5) ((rd_T124 x3_1 (wrap64 ((x3_1.length:Int)-1))).f6)).bind fun t130=>(if t130=true then (if ((rd_T124 x3_1 (wrap64 ((x3_1.length:Int)-1))).f2).size+((rd_T124 l0 x9_1).f2).size≤9223372036854775807 then (doc_Of.l0 k1 (x3_1.set ((wrap64 ((x3_1.length:Int)-1)):Int).toNat (⟨(⟨(rd_T124 x3_1 (wrap64 ((x3_1.length:Int)-1))).f0.f0,(rd_T124 x3_1 (wrap64 ((x3_1.length:Int)-1))).f0.f1,(rd_T124 x3_1 (wrap64 ((x3_1.length:Int)-1))).f0.f2⟩:S29),(rd_T124 x3_1 (wrap64 ((x3_1.length:Int)-1))).f1,((rd_T124 x3_1 (wrap64 ((x3_1.length:Int)-1))).f2)++((rd_T124 l0 x9_1).f2),(rd_T124 x3_1 (wrap64 ((x3_1.length:Int)-1))).f3,(rd_T124 x3_1 (wrap64 ((x3_1.length:Int)-1))).f4,(rd_T124 x3_1 (wrap64 ((x3_1.length:Int)-1))).f5,(rd_T124 x3_1 (wrap64 ((x3_1.length:Int)-1))).f6⟩:S124)) l0 (l0.length:Int) (wrap64 (x9_1+1))) else (none)) else (if x3_1.length<1099511627776 then (doc_Of.l0 k1 (x3_1++[(⟨(⟨(rd_T124 l0 x9_1).f0.f0,(rd_T124 l0 x9_1).f0.f1,(rd_T124 l0 x9_1).f0.f2⟩:S29),(rd_T124 l0 x9_1).f1,(rd_T124 l0 x9_1).f2,(rd_T124 l0 x9_1).f3,(rd_T124 l0 x9_1).f4,(rd_T124 l0 x9_1).f5,(rd_T124 l0 x9_1).f6⟩:S124)]) l0 (l0.length:Int) (wrap64 (x9_1+1))) else (none)))) else (none)) else (none)) else (if x3_1.length<1099511627776 then (doc_Of.l0 k1 (x3_1++[(⟨(⟨(rd_T124 l0 x9_1).f0.f0,(rd_T124 l0 x9_1).f0.f1,(rd_T124 l0 x9_1).f0.f2⟩:S29),(rd_T124 l0 x9_1).f1,(rd_T124 l0 x9_1).f2,(rd_T124 l0 x9_1).f3,(rd_T124 l0 x9_1).f4,(rd_T124 l0 x9_1).f5,(rd_T124 l0 x9_1).f6⟩:S124)]) l0 (l0.length:Int) (wrap64 (x9_1+1))) else (none))) else (if x3_1.length<1099511627776 then (doc_Of.l0 k1 (x3_1++[(⟨(⟨(rd_T124 l0 x9_1).f0.f0,(rd_T124 l0 x9_1).f0.f1,(rd_T124 l0 x9_1).f0.f2⟩:S29),(rd_T124 l0 x9_1).f1,(rd_T124 l0 x9_1).f2,(rd_T124 l0 x9_1).f3,(rd_T124 l0 x9_1).f4,(rd_T124 l0 x9_1).f5,(rd_T124 l0 x9_1).f6⟩:S124)]) l0 (l0.length:Int) (wrap64 (x9_1+1))) else (none)))=some r:=H
       have A9:=Zd A90
       clear A90
       by_cases c10:t128=true
       ·subst c10
        have H1:(if (x3_1.length:Int)>0 then (if 0≤(wrap64 ((x3_1.length:Int)-1)) then (if (wrap64 ((x3_1.length:Int)-1))<(x3_1.length:Int) then ((doc_Part_isText.f ((rd_T124 x3_1 (wrap64 ((x3_1.length:Int)-1))).f0.f0) ((rd_T124 x3_1 (wrap64 ((x3_1.length:Int)-1))).f0.f1) ((rd_T124 x3_1 (wrap64 ((x3_1.length:Int)-1))).f0.f2) ((rd_T124 x3_1 (wrap64 ((x3_1.length:Int)-1))).f1) ((rd_T124 x3_1 (wrap64 ((x3_1.length:Int)-1))).f2) ((rd_T124 x3_1 (wrap64 ((x3_1.length:Int)-1))).f3) ((rd_T124 x3_1 (wrap64 ((x3_1.length:Int)-1))).f4) ((rd_T124 x3_1 (wrap64 ((x3_1.length:Int)-1))).f5) ((rd_T124 x3_1 (wrap64 ((x3_1.length:Int)-1))).f6)).bind fun t130=>(if t130=true then (if ((rd_T124 x3_1 (wrap64 ((x3_1.length:Int)-1))).f2).size+((rd_T124 l0 x9_1).f2).size≤9223372036854775807 then (doc_Of.l0 k1 (x3_1.set ((wrap64 ((x3_1.length:Int)-1)):Int).toNat (⟨(⟨(rd_T124 x3_1 (wrap64 ((x3_1.length:Int)-1))).f0.f0,(rd_T124 x3_1 (wrap64 ((x3_1.length:Int)-1))).f0.f1,(rd_T124 x3_1 (wrap64 ((x3_1.length:Int)-1))).f0.f2⟩:S29),(rd_T124 x3_1 (wrap64 ((x3_1.length:Int)-1))).f1,((rd_T124 x3_1 (wrap64 ((x3_1.length:Int)-1))).f2)++((rd_T124 l0 x9_1).f2),(rd_T124 x3_1 (wrap64 ((x3_1.length:Int)-1))).f3,(rd_T124 x3_1 (wrap64 ((x3_1.length:Int)-1))).f4,(rd_T124 x3_1 (wrap64 ((x3_1.length:Int)-1))).f5,(rd_T124 x3_1 (wrap64 ((x3_1.length:Int)-1))).f6⟩:S124)) l0 (l0.length:Int) (wrap64 (x9_1+1))) else (none)) else (if x3_1.length<1099511627776 then (doc_Of.l0 k1 (x3_1++[(⟨(⟨(rd_T124 l0 x9_1).f0.f0,(rd_T124 l0 x9_1).f0.f1,(rd_T124 l0 x9_1).f0.f2⟩:S29),(rd_T124 l0 x9_1).f1,(rd_T124 l0 x9_1).f2,(rd_T124 l0 x9_1).f3,(rd_T124 l0 x9_1).f4,(rd_T124 l0 x9_1).f5,(rd_T124 l0 x9_1).f6⟩:S124)]) l0 (l0.length:Int) (wrap64 (x9_1+1))) else (none)))) else (none)) else (none)) else (if x3_1.length<1099511627776 then (doc_Of.l0 k1 (x3_1++[(⟨(⟨(rd_T124 l0 x9_1).f0.f0,(rd_T124 l0 x9_1).f0.f1,(rd_T124 l0 x9_1).f0.f2⟩:S29),(rd_T124 l0 x9_1).f1,(rd_T124 l0 x9_1).f2,(rd_T124 l0 x9_1).f3,(rd_T124 l0 x9_1).f4,(rd_T124 l0 x9_1).f5,(rd_T124 l0 x9_1).f6⟩:S124)]) l0 (l0.length:Int) (wrap64 (x9_1+1))) else (none)))=some r:=by rw [if_pos rfl] at H;exact H
        clear H
        have H:=H1
        clear H1
        by_cases c11:(x3_1.length:Int)>0
        ·rw [if_pos c11] at H
         have c11b0:decide (0<(x3_1.length:Int))=true:=decide_eq_true c11
         have c11b1:decide (0<x3_1.length)=true:=decide_eq_true (by omega)
         clear c11
         obtain⟨ji12,hji12⟩:∃ j_:Int,(wrap64 ((x3_1.length:Int)-1))=j_:=⟨_,rfl⟩
         replace H:(if 0≤(ji12) then (if (ji12)<(x3_1.length:Int) then ((doc_Part_isText.f ((rd_T124 x3_1 (ji12)).f0.f0) ((rd_T124 x3_1 (ji12)).f0.f1) ((rd_T124 x3_1 (ji12)).f0.f2) ((rd_T124 x3_1 (ji12)).f1) ((rd_T124 x3_1 (ji12)).f2) ((rd_T124 x3_1 (ji12)).f3) ((rd_T124 x3_1 (ji12)).f4) ((rd_T124 x3_1 (ji12)).f5) ((rd_T124 x3_1 (ji12)).f6)).bind fun t130=>(if t130=true then (if ((rd_T124 x3_1 (ji12)).f2).size+((rd_T124 l0 x9_1).f2).size≤9223372036854775807 then (doc_Of.l0 k1 (x3_1.set ((ji12):Int).toNat (⟨(⟨(rd_T124 x3_1 (ji12)).f0.f0,(rd_T124 x3_1 (ji12)).f0.f1,(rd_T124 x3_1 (ji12)).f0.f2⟩:S29),(rd_T124 x3_1 (ji12)).f1,((rd_T124 x3_1 (ji12)).f2)++((rd_T124 l0 x9_1).f2),(rd_T124 x3_1 (ji12)).f3,(rd_T124 x3_1 (ji12)).f4,(rd_T124 x3_1 (ji12)).f5,(rd_T124 x3_1 (ji12)).f6⟩:S124)) l0 (l0.length:Int) (wrap64 (x9_1+1))) else (none)) else (if x3_1.length<1099511627776 then (doc_Of.l0 k1 (x3_1++[(⟨(⟨(rd_T124 l0 x9_1).f0.f0,(rd_T124 l0 x9_1).f0.f1,(rd_T124 l0 x9_1).f0.f2⟩:S29),(rd_T124 l0 x9_1).f1,(rd_T124 l0 x9_1).f2,(rd_T124 l0 x9_1).f3,(rd_T124 l0 x9_1).f4,(rd_T124 l0 x9_1).f5,(rd_T124 l0 x9_1).f6⟩:S124)]) l0 (l0.length:Int) (wrap64 (x9_1+1))) else (none)))) else (none)) else (none))=some r:=by first|(rw [hji12] at H;exact H)|(simp only [hji12] at H ⊢;exact H)
         (try rw [hji12] at A9)
         have hji12w:(IntKind.i64.wrap ((x3_1.length:Int)-1))=ji12:=(i64_w _).trans hji12
         by_cases c13:0≤(ji12)
         ·rw [if_pos c13] at H
          have c13b0:decide (0≤(ji12))=true:=decide_eq_true c13
          clear c13
          by_cases c14:(ji12)<(x3_1.length:Int)
          ·rw [if_pos c14] at H
           have c14b0:decide ((ji12)<(x3_1.length:Int))=true:=decide_eq_true c14
           clear c14
           replace H:=Option.bind_eq_some_iff.mp H
           obtain⟨t130,A150,H⟩:=H
           replace H:(if t130=true then (if ((rd_T124 x3_1 (ji12)).f2).size+((rd_T124 l0 x9_1).f2).size≤9223372036854775807 then (doc_Of.l0 k1 (x3_1.set ((ji12):Int).toNat (⟨(⟨(rd_T124 x3_1 (ji12)).f0.f0,(rd_T124 x3_1 (ji12)).f0.f1,(rd_T124 x3_1 (ji12)).f0.f2⟩:S29),(rd_T124 x3_1 (ji12)).f1,((rd_T124 x3_1 (ji12)).f2)++((rd_T124 l0 x9_1).f2),(rd_T124 x3_1 (ji12)).f3,(rd_T124 x3_1 (ji12)).f4,(rd_T124 x3_1 (ji12)).f5,(rd_T124 x3_1 (ji12)).f6⟩:S124)) l0 (l0.length:Int) (wrap64 (x9_1+1))) else (none)) else (if x3_1.length<1099511627776 then (doc_Of.l0 k1 (x3_1++[(⟨(⟨(rd_T124 l0 x9_1).f0.f0,(rd_T124 l0 x9_1).f0.f1,(rd_T124 l0 x9_1).f0.f2⟩:S29),(rd_T124 l0 x9_1).f1,(rd_T124 l0 x9_1).f2,(rd_T124 l0 x9_1).f3,(rd_T124 l0 x9_1).f4,(rd_T124 l0 x9_1).f5,(rd_T124 l0 x9_1).f6⟩:S124)]) l0 (l0.length:Int) (wrap64 (x9_1+1))) else (none)))=some r:=H
           have A15:=Zd A150
           clear A150
           by_cases c16:t130=true
           ·subst c16
            have H1:(if ((rd_T124 x3_1 (ji12)).f2).size+((rd_T124 l0 x9_1).f2).size≤9223372036854775807 then (doc_Of.l0 k1 (x3_1.set ((ji12):Int).toNat (⟨(⟨(rd_T124 x3_1 (ji12)).f0.f0,(rd_T124 x3_1 (ji12)).f0.f1,(rd_T124 x3_1 (ji12)).f0.f2⟩:S29),(rd_T124 x3_1 (ji12)).f1,((rd_T124 x3_1 (ji12)).f2)++((rd_T124 l0 x9_1).f2),(rd_T124 x3_1 (ji12)).f3,(rd_T124 x3_1 (ji12)).f4,(rd_T124 x3_1 (ji12)).f5,(rd_T124 x3_1 (ji12)).f6⟩:S124)) l0 (l0.length:Int) (wrap64 (x9_1+1))) else (none))=some r:=by rw [if_pos rfl] at H;exact H
            clear H
            have H:=H1
            clear H1
            by_cases c17:((rd_T124 x3_1 (ji12)).f2).size+((rd_T124 l0 x9_1).f2).size≤9223372036854775807
            ·rw [if_pos c17] at H
             have c17b0:=eq_true c17
             have c17b1:decide (((rd_T124 x3_1 (ji12)).f2).size+((rd_T124 l0 x9_1).f2).size≤9223372036854775807)=true:=decide_eq_true c17
             try have c17b2:(9223372036854775807<((rd_T124 x3_1 (ji12)).f2).size+((rd_T124 l0 x9_1).f2).size)=False:=eq_false (Nat.not_lt.2 c17)
             obtain⟨y132,hy132⟩:∃ y_:List (S124),y_=(x3_1.set ((ji12):Int).toNat (⟨(⟨(rd_T124 x3_1 (ji12)).f0.f0,(rd_T124 x3_1 (ji12)).f0.f1,(rd_T124 x3_1 (ji12)).f0.f2⟩:S29),(rd_T124 x3_1 (ji12)).f1,((rd_T124 x3_1 (ji12)).f2)++((rd_T124 l0 x9_1).f2),(rd_T124 x3_1 (ji12)).f3,(rd_T124 x3_1 (ji12)).f4,(rd_T124 x3_1 (ji12)).f5,(rd_T124 x3_1 (ji12)).f6⟩:S124)):=⟨_,rfl⟩
             replace H:(doc_Of.l0 k1 y132 l0 (l0.length:Int) (wrap64 (x9_1+1)))=some r:=by first|(rw [hy132];with_reducible exact H)|(have H2_:=(Option.bind_some _ _).symm.trans H;rw [hy132];with_reducible exact H2_)|(have H2_:=(Option.bind_some _ _).symm.trans H;with_reducible exact H2_)|with_reducible exact H|(rw [hy132];exact H)|exact H
             have Ny132:=Zd hy132
             clear hy132
             have H':=Zd H
             clear H
             have p126:0≤(x9_1:Int):=Zo
             have q126:x9_1<(l0.length:Int):=Zo
             obtain⟨ad126,e126,hx126_0,hx126_1,hx126_2,hx126_3,hx126_4,hx126_5,hx126_6,hx126_7,hx126_8⟩:=at_T124 HR0.out x9_1 p126 q126
             cases e126
             replace hx126_0:=Zx HB rfl hx126_0
             replace hx126_1:=Zx HB rfl hx126_1
             replace hx126_2:=Zx HB rfl hx126_2
             replace hx126_3:=Zx HB rfl hx126_3
             replace hx126_4:=Zx HB rfl hx126_4
             replace hx126_5:=Zx HB rfl hx126_5
             replace hx126_6:=Zx HB rfl hx126_6
             replace hx126_7:=Zx HB rfl hx126_7
             replace hx126_8:=Zx HB rfl hx126_8
             replace p126:=eq_true p126
             replace q126:=eq_true q126
             try go_wp2_with (first|((with_reducible refine gate_dst (N:=5) rfl ?_);refine box_event ?hg (N:=5) ?hd (cs:=#[.string (⟨#[]⟩:ByteArray),.string (⟨#[]⟩:ByteArray),.string (⟨#[]⟩:ByteArray),.bool false,.string (⟨#[]⟩:ByteArray),.string (⟨#[]⟩:ByteArray),.string (⟨#[]⟩:ByteArray),.string (⟨#[]⟩:ByteArray),.bool false]) (t:=124) ?hr ?_;(case hd=>rfl);(case hg=>rfl);(case hr=>first|(go_simp;done)|(go_simp;rfl));intro gb127 hg w19 hbox hb;have n0_:=Zd (Kd.R_below (Kd.R_elderB (Zr HO_3.out) gb127 (Nat.le_of_eq hg.symm)) hb);have n1_:=Zd (below_step Zb hb);have n2_:=Zd (hbox);have n3_:=Zd ((Zg hg:w.heap.size≤gb127));have n4_:=Zd ((Zg hg:w.heap.size≤gb127));clear HO_3;clear HB;have HO_3:=n0_;have HB:=n1_;have BK127:=n2_;have GW127:=n3_;have GE127:=n4_;clear n0_ n1_ n2_ n3_ n4_;clear hb hbox hg;obtain⟨hcz20_0,hcz20_1,hcz20_2,hcz20_3,hcz20_4,hcz20_5,hcz20_6,hcz20_7,hcz20_8,hfz20_0,hfz20_1,hfz20_2,hfz20_3,hfz20_4,hfz20_5,hfz20_6,hfz20_7,hfz20_8⟩:=Zc9 BK127.out;obtain⟨Ao21,co21,eo21⟩:=Kd.R_slice HO_3.out;subst eo21)|((with_reducible refine gate_callee (f:=106) rfl ?_);refine goesL_ (some 25) rfl rfl Tryz.func106 (by kernel_rfl) rfl #[.agg #[.string ((rd_T124 l0 x9_1).f0.f0),.string ((rd_T124 l0 x9_1).f0.f1),.string ((rd_T124 l0 x9_1).f0.f2),.bool ((rd_T124 l0 x9_1).f1),.string ((rd_T124 l0 x9_1).f2),.string ((rd_T124 l0 x9_1).f3),.string ((rd_T124 l0 x9_1).f4),.string ((rd_T124 l0 x9_1).f5),.bool ((rd_T124 l0 x9_1).f6)]] rfl Zl ?_;(with_reducible refine (doc_Part_isText.calls ((rd_T124 l0 x9_1).f0.f0) ((rd_T124 l0 x9_1).f0.f1) ((rd_T124 l0 x9_1).f0.f2) ((rd_T124 l0 x9_1).f1) ((rd_T124 l0 x9_1).f2) ((rd_T124 l0 x9_1).f3) ((rd_T124 l0 x9_1).f4) ((rd_T124 l0 x9_1).f5) ((rd_T124 l0 x9_1).f6) true _ A9.out).mono ?_);rintro e w22 ⟨rfl,hb⟩;refine⟨_,rfl,?_⟩;have n0_:=Zd (Kd.R_below (by refine Zr ?_;exact (Kd.R_mono (Kd.R_far (p:=⟨gb127,8,none⟩) (Kd.R_far (p:=⟨gb127,7,none⟩) (Kd.R_far (p:=⟨gb127,6,none⟩) (Kd.R_far (p:=⟨gb127,5,none⟩) (Kd.R_far (p:=⟨gb127,4,none⟩) (Kd.R_far (p:=⟨gb127,3,none⟩) (Kd.R_far (p:=⟨gb127,2,none⟩) (Kd.R_far (p:=⟨gb127,1,none⟩) (Kd.R_far (p:=⟨gb127,0,none⟩) (Kd.R_mono HO_3.out (fun k_ hk=>(⟨hk,hk.2⟩:_∧k_≠gb127))) (fun _ hk=>hk.2) (.string ((rd_T124 l0 x9_1).f0.f0))) (fun _ hk=>hk.2) (.string ((rd_T124 l0 x9_1).f0.f1))) (fun _ hk=>hk.2) (.string ((rd_T124 l0 x9_1).f0.f2))) (fun _ hk=>hk.2) (.bool ((rd_T124 l0 x9_1).f1))) (fun _ hk=>hk.2) (.string ((rd_T124 l0 x9_1).f2))) (fun _ hk=>hk.2) (.string ((rd_T124 l0 x9_1).f3))) (fun _ hk=>hk.2) (.string ((rd_T124 l0 x9_1).f4))) (fun _ hk=>hk.2) (.string ((rd_T124 l0 x9_1).f5))) (fun _ hk=>hk.2) (.bool ((rd_T124 l0 x9_1).f6))) (fun _ h_=>h_.1))) hb);have n1_:=Zd (blk_below (g:=gb127) (o := .cells #[.string ((rd_T124 l0 x9_1).f0.f0),.string ((rd_T124 l0 x9_1).f0.f1),.string ((rd_T124 l0 x9_1).f0.f2),.bool ((rd_T124 l0 x9_1).f1),.string ((rd_T124 l0 x9_1).f2),.string ((rd_T124 l0 x9_1).f3),.string ((rd_T124 l0 x9_1).f4),.string ((rd_T124 l0 x9_1).f5),.bool ((rd_T124 l0 x9_1).f6)] 124 (0,0)) (by refine Zk ?_;refine blk_put (cs:=#[.string ((rd_T124 l0 x9_1).f0.f0),.string ((rd_T124 l0 x9_1).f0.f1),.string ((rd_T124 l0 x9_1).f0.f2),.bool ((rd_T124 l0 x9_1).f1),.string ((rd_T124 l0 x9_1).f2),.string ((rd_T124 l0 x9_1).f3),.string ((rd_T124 l0 x9_1).f4),.string ((rd_T124 l0 x9_1).f5),.bool false]) ?_ 8 _ rfl;refine Zk ?_;refine blk_put (cs:=#[.string ((rd_T124 l0 x9_1).f0.f0),.string ((rd_T124 l0 x9_1).f0.f1),.string ((rd_T124 l0 x9_1).f0.f2),.bool ((rd_T124 l0 x9_1).f1),.string ((rd_T124 l0 x9_1).f2),.string ((rd_T124 l0 x9_1).f3),.string ((rd_T124 l0 x9_1).f4),.string (⟨#[]⟩:ByteArray),.bool false]) ?_ 7 _ rfl;refine Zk ?_;refine blk_put (cs:=#[.string ((rd_T124 l0 x9_1).f0.f0),.string ((rd_T124 l0 x9_1).f0.f1),.string ((rd_T124 l0 x9_1).f0.f2),.bool ((rd_T124 l0 x9_1).f1),.string ((rd_T124 l0 x9_1).f2),.string ((rd_T124 l0 x9_1).f3),.string (⟨#[]⟩:ByteArray),.string (⟨#[]⟩:ByteArray),.bool false]) ?_ 6 _ rfl;refine Zk ?_;refine blk_put (cs:=#[.string ((rd_T124 l0 x9_1).f0.f0),.string ((rd_T124 l0 x9_1).f0.f1),.string ((rd_T124 l0 x9_1).f0.f2),.bool ((rd_T124 l0 x9_1).f1),.string ((rd_T124 l0 x9_1).f2),.string (⟨#[]⟩:ByteArray),.string (⟨#[]⟩:ByteArray),.string (⟨#[]⟩:ByteArray),.bool false]) ?_ 5 _ rfl;refine Zk ?_;refine blk_put (cs:=#[.string ((rd_T124 l0 x9_1).f0.f0),.string ((rd_T124 l0 x9_1).f0.f1),.string ((rd_T124 l0 x9_1).f0.f2),.bool ((rd_T124 l0 x9_1).f1),.string (⟨#[]⟩:ByteArray),.string (⟨#[]⟩:ByteArray),.string (⟨#[]⟩:ByteArray),.string (⟨#[]⟩:ByteArray),.bool false]) ?_ 4 _ rfl;refine Zk ?_;refine blk_put (cs:=#[.string ((rd_T124 l0 x9_1).f0.f0),.string ((rd_T124 l0 x9_1).f0.f1),.string ((rd_T124 l0 x9_1).f0.f2),.bool false,.string (⟨#[]⟩:ByteArray),.string (⟨#[]⟩:ByteArray),.string (⟨#[]⟩:ByteArray),.string (⟨#[]⟩:ByteArray),.bool false]) ?_ 3 _ rfl;refine Zk ?_;refine blk_put (cs:=#[.string ((rd_T124 l0 x9_1).f0.f0),.string ((rd_T124 l0 x9_1).f0.f1),.string (⟨#[]⟩:ByteArray),.bool false,.string (⟨#[]⟩:ByteArray),.string (⟨#[]⟩:ByteArray),.string (⟨#[]⟩:ByteArray),.string (⟨#[]⟩:ByteArray),.bool false]) ?_ 2 _ rfl;refine Zk ?_;refine blk_put (cs:=#[.string ((rd_T124 l0 x9_1).f0.f0),.string (⟨#[]⟩:ByteArray),.string (⟨#[]⟩:ByteArray),.bool false,.string (⟨#[]⟩:ByteArray),.string (⟨#[]⟩:ByteArray),.string (⟨#[]⟩:ByteArray),.string (⟨#[]⟩:ByteArray),.bool false]) ?_ 1 _ rfl;refine Zk ?_;refine blk_put (cs:=#[.string (⟨#[]⟩:ByteArray),.string (⟨#[]⟩:ByteArray),.string (⟨#[]⟩:ByteArray),.bool false,.string (⟨#[]⟩:ByteArray),.string (⟨#[]⟩:ByteArray),.string (⟨#[]⟩:ByteArray),.string (⟨#[]⟩:ByteArray),.bool false]) ?_ 0 _ rfl;refine Zk ?_;exact BK127.out) hb);have n2_:=Zd (below_step Zb hb);clear HO_3;clear BK127;clear HB;have HO_3:=n0_;have BK127:=n1_;have HB:=n2_;clear n0_ n1_ n2_;(try clear hb);(try clear hb2);(try clear hk);(try clear hi);have p129:0≤((ji12):Int):=Zo;have q129:(ji12)<(x3_1.length:Int):=Zo;obtain⟨ad129,e129,hx129_0,hx129_1,hx129_2,hx129_3,hx129_4,hx129_5,hx129_6,hx129_7,hx129_8⟩:=at_T124 (Kd.R_reads' HO_3.out).2.2 (ji12) p129 q129;cases e129;replace p129:=eq_true p129;replace q129:=eq_true q129)|(go_at_call 106;(with_reducible refine (doc_Part_isText.calls ((rd_T124 x3_1 (ji12)).f0.f0) ((rd_T124 x3_1 (ji12)).f0.f1) ((rd_T124 x3_1 (ji12)).f0.f2) ((rd_T124 x3_1 (ji12)).f1) ((rd_T124 x3_1 (ji12)).f2) ((rd_T124 x3_1 (ji12)).f3) ((rd_T124 x3_1 (ji12)).f4) ((rd_T124 x3_1 (ji12)).f5) ((rd_T124 x3_1 (ji12)).f6) true _ A15.out).mono ?_);rintro e w23 ⟨rfl,hb⟩;have n0_:=Zd (Kd.R_below (Zr HO_3.out) hb);have n1_:=Zd (blk_below (g:=gb127) (o := .cells #[.string ((rd_T124 l0 x9_1).f0.f0),.string ((rd_T124 l0 x9_1).f0.f1),.string ((rd_T124 l0 x9_1).f0.f2),.bool ((rd_T124 l0 x9_1).f1),.string ((rd_T124 l0 x9_1).f2),.string ((rd_T124 l0 x9_1).f3),.string ((rd_T124 l0 x9_1).f4),.string ((rd_T124 l0 x9_1).f5),.bool ((rd_T124 l0 x9_1).f6)] 124 (0,0)) (Zk BK127.out) hb);have n2_:=Zd (below_step Zb hb);clear HO_3;clear BK127;clear HB;have HO_3:=n0_;have BK127:=n1_;have HB:=n2_;clear n0_ n1_ n2_;(try clear hb);(try clear hb2);(try clear hk);(try clear hi)))
             have n0_:=Zd (Kd.R_drew HO_3.out)
             have n1_:=Zd (blk_drew BK127.out)
             have n2_:=Zd (below_drew1 HB.out)
             clear HO_3
             clear BK127
             clear HB
             have HO_3:=n0_
             have BK127:=n1_
             have HB:=n2_
             clear n0_ n1_ n2_
             have p131:0≤((ji12):Int):=Zo
             have q131:(ji12)<(x3_1.length:Int):=Zo
             obtain⟨ad131,e131,hx131_0,hx131_1,hx131_2,hx131_3,hx131_4,hx131_5,hx131_6,hx131_7,hx131_8⟩:=at_T124 (Kd.R_reads' HO_3.out).2.2 (ji12) p131 q131
             obtain rfl:ad129=ad131:=(by injection e131)
             replace p131:=eq_true p131
             replace q131:=eq_true q131
             have p18:0≤((ji12):Int):=Zo
             have q18:((ji12):Int)<((x3_1.length:Int):Int):=Zo
             obtain⟨go18,co18,eo18,gb18,gl18,cl18,HG18⟩:=Kd.R_form HO_3.out (by omega)
             (first|cases eo18|(injection eo18 with ea_ en_ ec_;(first|subst ea_|(injection ea_ with ea_;subst ea_));subst ec_;clear en_))
             have GB18:=Zd gb18
             have GG18:=Zd HG18
             clear gb18 gl18 HG18
             (first|simp only [add_plain] at hx129_0|skip)
             (first|simp only [add_plain] at hx129_1|skip)
             (first|simp only [add_plain] at hx129_2|skip)
             (first|simp only [add_plain] at hx129_3|skip)
             (first|simp only [add_plain] at hx129_4|skip)
             (first|simp only [add_plain] at hx129_5|skip)
             (first|simp only [add_plain] at hx129_6|skip)
             (first|simp only [add_plain] at hx129_7|skip)
             (first|simp only [add_plain] at hx129_8|skip)
             (first|simp only [add_plain] at hx131_0|skip)
             (first|simp only [add_plain] at hx131_1|skip)
             (first|simp only [add_plain] at hx131_2|skip)
             (first|simp only [add_plain] at hx131_3|skip)
             (first|simp only [add_plain] at hx131_4|skip)
             (first|simp only [add_plain] at hx131_5|skip)
             (first|simp only [add_plain] at hx131_6|skip)
             (first|simp only [add_plain] at hx131_7|skip)
             (first|simp only [add_plain] at hx131_8|skip)
             obtain⟨ce18,hcl18,hM18,hcc18,hfr18⟩:=Kd.R_elem HO_3.out z124 ((ji12):Int) p18 q18
             obtain rfl:=k124_openM hM18
             have hx18_0:World.cell? _ ⟨go18,((ji12):Int).toNat*9,none⟩=some (.string ((rd_T124 x3_1 (ji12)).f0.f0)):=hcc18 0 _ rfl
             have hx18_1:World.cell? _ ⟨go18,((ji12):Int).toNat*9+1,none⟩=some (.string ((rd_T124 x3_1 (ji12)).f0.f1)):=hcc18 1 _ rfl
             have hx18_2:World.cell? _ ⟨go18,((ji12):Int).toNat*9+2,none⟩=some (.string ((rd_T124 x3_1 (ji12)).f0.f2)):=hcc18 2 _ rfl
             have hx18_3:World.cell? _ ⟨go18,((ji12):Int).toNat*9+3,none⟩=some (.bool ((rd_T124 x3_1 (ji12)).f1)):=hcc18 3 _ rfl
             have hx18_4:World.cell? _ ⟨go18,((ji12):Int).toNat*9+4,none⟩=some (.string ((rd_T124 x3_1 (ji12)).f2)):=hcc18 4 _ rfl
             have hx18_5:World.cell? _ ⟨go18,((ji12):Int).toNat*9+5,none⟩=some (.string ((rd_T124 x3_1 (ji12)).f3)):=hcc18 5 _ rfl
             have hx18_6:World.cell? _ ⟨go18,((ji12):Int).toNat*9+6,none⟩=some (.string ((rd_T124 x3_1 (ji12)).f4)):=hcc18 6 _ rfl
             have hx18_7:World.cell? _ ⟨go18,((ji12):Int).toNat*9+7,none⟩=some (.string ((rd_T124 x3_1 (ji12)).f5)):=hcc18 7 _ rfl
             have hx18_8:World.cell? _ ⟨go18,((ji12):Int).toNat*9+8,none⟩=some (.bool ((rd_T124 x3_1 (ji12)).f6)):=hcc18 8 _ rfl
             have hf18_0:World.frozen? _ ⟨go18,((ji12):Int).toNat*9,none⟩=false:=hfr18 0
             have hf18_1:World.frozen? _ ⟨go18,((ji12):Int).toNat*9+1,none⟩=false:=hfr18 1
             have hf18_2:World.frozen? _ ⟨go18,((ji12):Int).toNat*9+2,none⟩=false:=hfr18 2
             have hf18_3:World.frozen? _ ⟨go18,((ji12):Int).toNat*9+3,none⟩=false:=hfr18 3
             have hf18_4:World.frozen? _ ⟨go18,((ji12):Int).toNat*9+4,none⟩=false:=hfr18 4
             have hf18_5:World.frozen? _ ⟨go18,((ji12):Int).toNat*9+5,none⟩=false:=hfr18 5
             have hf18_6:World.frozen? _ ⟨go18,((ji12):Int).toNat*9+6,none⟩=false:=hfr18 6
             have hf18_7:World.frozen? _ ⟨go18,((ji12):Int).toNat*9+7,none⟩=false:=hfr18 7
             have hf18_8:World.frozen? _ ⟨go18,((ji12):Int).toNat*9+8,none⟩=false:=hfr18 8
             clear hcl18 hcc18 hfr18 hM18
             replace p18:=eq_true p18
             replace q18:=eq_true q18
             obtain⟨ce25,hcl25,hM25,hcc25,hfr25⟩:=Kd.R_elem HO_3.out z124 ((ji12):Int) (Zo) (by have h_:((ji12):Int)<((x3_1.length:Int):Int):=Zo;first|exact h_|(have e_:=(Kd.R_reads' HO_3.out).1;omega)|simpa using h_)
             obtain rfl:=k124_openM hM25
             have HP25:=(Kd.R_seg HO_3.out ((ji12):Int) (Zo) (by have h_:((ji12):Int)<((x3_1.length:Int):Int):=Zo;first|exact h_|(have e_:=(Kd.R_reads' HO_3.out).1;omega)|simpa using h_) (seg:=[.string (((rd_T124 x3_1 (ji12)).f2)++((rd_T124 l0 x9_1).f2))]) (j:=4) hcl25 hcc25 (show 5≤9 from by decide) (x':=(⟨(⟨(rd_T124 x3_1 (ji12)).f0.f0,(rd_T124 x3_1 (ji12)).f0.f1,(rd_T124 x3_1 (ji12)).f0.f2⟩:S29),(rd_T124 x3_1 (ji12)).f1,((rd_T124 x3_1 (ji12)).f2)++((rd_T124 l0 x9_1).f2),(rd_T124 x3_1 (ji12)).f3,(rd_T124 x3_1 (ji12)).f4,(rd_T124 x3_1 (ji12)).f5,(rd_T124 x3_1 (ji12)).f6⟩:S124)) (k124_mkM _ _ _ (⟨(⟨(rd_T124 x3_1 (ji12)).f0.f0,(rd_T124 x3_1 (ji12)).f0.f1,(rd_T124 x3_1 (ji12)).f0.f2⟩:S29),(rd_T124 x3_1 (ji12)).f1,((rd_T124 x3_1 (ji12)).f2)++((rd_T124 l0 x9_1).f2),(rd_T124 x3_1 (ji12)).f3,(rd_T124 x3_1 (ji12)).f4,(rd_T124 x3_1 (ji12)).f5,(rd_T124 x3_1 (ji12)).f6⟩:S124) ) (fun _ hk=>hk)).1
             rw [←Ny132.out] at HP25
             have HQ25:=Zd HP25
             clear hcl25 hcc25 hfr25 hM25 HP25
             refine start_ (n:=12) (S:=fun w'=>w'.cell? ⟨gb127,0,none⟩=some (.string ((rd_T124 l0 x9_1).f0.f0))∧w'.cell? ⟨gb127,1,none⟩=some (.string ((rd_T124 l0 x9_1).f0.f1))∧w'.cell? ⟨gb127,2,none⟩=some (.string ((rd_T124 l0 x9_1).f0.f2))∧w'.cell? ⟨gb127,3,none⟩=some (.bool ((rd_T124 l0 x9_1).f1))∧w'.cell? ⟨gb127,4,none⟩=some (.string ((rd_T124 l0 x9_1).f2))∧w'.cell? ⟨gb127,5,none⟩=some (.string ((rd_T124 l0 x9_1).f3))∧w'.cell? ⟨gb127,6,none⟩=some (.string ((rd_T124 l0 x9_1).f4))∧w'.cell? ⟨gb127,7,none⟩=some (.string ((rd_T124 l0 x9_1).f5))∧w'.cell? ⟨gb127,8,none⟩=some (.bool ((rd_T124 l0 x9_1).f6))∧w'.cell? ⟨go18,((ji12)).toNat*9,none⟩=some (.string ((rd_T124 x3_1 (ji12)).f0.f0))∧w'.cell? ⟨go18,((ji12)).toNat*9+1,none⟩=some (.string ((rd_T124 x3_1 (ji12)).f0.f1))∧w'.cell? ⟨go18,((ji12)).toNat*9+2,none⟩=some (.string ((rd_T124 x3_1 (ji12)).f0.f2))∧w'.cell? ⟨go18,((ji12)).toNat*9+3,none⟩=some (.bool ((rd_T124 x3_1 (ji12)).f1))∧w'.cell? ⟨go18,((ji12)).toNat*9+4,none⟩=some (.string ((rd_T124 x3_1 (ji12)).f2))∧w'.cell? ⟨go18,((ji12)).toNat*9+5,none⟩=some (.string ((rd_T124 x3_1 (ji12)).f3))∧w'.cell? ⟨go18,((ji12)).toNat*9+6,none⟩=some (.string ((rd_T124 x3_1 (ji12)).f4))∧w'.cell? ⟨go18,((ji12)).toNat*9+7,none⟩=some (.string ((rd_T124 x3_1 (ji12)).f5))∧w'.cell? ⟨go18,((ji12)).toNat*9+8,none⟩=some (.bool ((rd_T124 x3_1 (ji12)).f6))) (ds:=[11]) #[false,false,false,false,false,false,false,false,false,false,false,false] (by kernel_rfl) rfl rfl ⟨(blk_cell BK127.out 0).trans rfl,(blk_cell BK127.out 1).trans rfl,(blk_cell BK127.out 2).trans rfl,(blk_cell BK127.out 3).trans rfl,(blk_cell BK127.out 4).trans rfl,(blk_cell BK127.out 5).trans rfl,(blk_cell BK127.out 6).trans rfl,(blk_cell BK127.out 7).trans rfl,(blk_cell BK127.out 8).trans rfl,hx131_0,hx131_1,hx131_2,hx131_3,hx131_4,hx131_5,hx131_6,hx131_7,hx131_8⟩ (fun hHeld=>?_);refine with_tabW doc_Of.tab9 doc_Of.bits9 (fun HT_ HW_=>?_)
             generalize w23.drew=w24 at HO_3 BK127 HB GG18 HQ25 hf18_0 hf18_1 hf18_2 hf18_3 hf18_4 hf18_5 hf18_6 hf18_7 hf18_8 hx129_0 hx129_1 hx129_2 hx129_3 hx129_4 hx129_5 hx129_6 hx129_7 hx129_8 hx131_0 hx131_1 hx131_2 hx131_3 hx131_4 hx131_5 hx131_6 hx131_7 hx131_8 hx18_0 hx18_1 hx18_2 hx18_3 hx18_4 hx18_5 hx18_6 hx18_7 hx18_8 hHeld ⊢
             refine pure_ (i:=0) (N:=some 38) (v:=?_) (a':=?_) #[true,false,false,false,false,false,false,false,false,false,false,false] rfl rfl (any_of HT_.out (by kernel_rfl)) (fun _ _ _ h=>h) (Or.inl ⟨by rfl,?_⟩) ?_ ?_
             rotate_left
             ·intro w'
              go_simp
              with_reducible rfl
             rotate_left
             ·simp only [Act.put,List.setIfInBounds_toArray,List.set_cons_zero,List.set_cons_succ,i64_w,i32_w]
              rfl
             refine pure_ (i:=1) (N:=some 39) (v:=?_) (a':=?_) #[true,true,false,false,false,false,false,false,false,false,false,false] rfl rfl (any_of HT_.out (by kernel_rfl)) (fun _ _ _ h=>h) (Or.inl ⟨by rfl,?_⟩) ?_ ?_
             rotate_left
             ·intro w'
              go_simp
              with_reducible rfl
             rotate_left
             ·simp only [Act.put,List.setIfInBounds_toArray,List.set_cons_zero,List.set_cons_succ,i64_w,i32_w]
              rfl
             refine pure_ (i:=2) (N:=some 40) (v:=?_) (a':=?_) #[true,true,true,false,false,false,false,false,false,false,false,false] rfl rfl (any_of HT_.out (by kernel_rfl)) (fun _ _ _ h=>h) (Or.inl ⟨by rfl,?_⟩) ?_ ?_
             rotate_left
             ·intro w'
              go_simp
              with_reducible rfl
             rotate_left
             ·simp only [Act.put,List.setIfInBounds_toArray,List.set_cons_zero,List.set_cons_succ,i64_w,i32_w]
              rfl
             refine pure_ (i:=3) (N:=some 41) (v:=?_) (a':=?_) #[true,true,true,true,false,false,false,false,false,false,false,false] rfl rfl (any_of HT_.out (by kernel_rfl)) (fun _ _ _ h=>h) (Or.inl ⟨by rfl,?_⟩) ?_ ?_
             rotate_left
             ·intro w'
              go_simp
              with_reducible rfl
             rotate_left
             ·simp only [Act.put,List.setIfInBounds_toArray,List.set_cons_zero,List.set_cons_succ,i64_w,i32_w]
              rfl
             refine pure_ (i:=4) (N:=some 42) (v:=?_) (a':=?_) #[true,true,true,true,true,false,false,false,false,false,false,false] rfl rfl (any_of HT_.out (by kernel_rfl)) (fun _ _ _ h=>h) (Or.inl ⟨by rfl,?_⟩) ?_ ?_
             rotate_left
             ·intro w'
              go_simp
              with_reducible rfl
             rotate_left
             ·simp only [Act.put,List.setIfInBounds_toArray,List.set_cons_zero,List.set_cons_succ,i64_w,i32_w]
              rfl
             refine pure_ (i:=6) (N:=some 44) (v:=?_) (a':=?_) #[true,true,true,true,true,false,true,false,false,false,false,false] rfl rfl (any_of HT_.out (by kernel_rfl)) (fun _ _ _ h=>h) (Or.inl ⟨by rfl,?_⟩) ?_ ?_
             rotate_left
             ·intro w'
              go_simp
              with_reducible rfl
             rotate_left
             ·simp only [Act.put,List.setIfInBounds_toArray,List.set_cons_zero,List.set_cons_succ,i64_w,i32_w]
              rfl
             refine take_ (i:=5) (N:=some 43) (v:=?_) (a':=?_) #[true,true,true,true,true,true,true,false,false,false,false,false] rfl rfl (take_ofW HT_.out HW_.out (by kernel_rfl)) (fun _ _ _ h=>h) (Or.inl ⟨by rfl,?_⟩) hHeld ?_ ?_
             rotate_left
             ·rintro w' ⟨s0,s1,s2,s3,s4,s5,s6,s7,s8,s9,s10,s11,s12,s13,s14,s15,s16,s17⟩
              go_simp
              with_reducible rfl
             rotate_left
             ·simp only [Act.put,List.setIfInBounds_toArray,List.set_cons_zero,List.set_cons_succ,i64_w,i32_w]
              rfl
             refine take_ (i:=7) (N:=some 45) (v:=?_) (a':=?_) #[true,true,true,true,true,true,true,true,false,false,false,false] rfl rfl (take_ofW HT_.out HW_.out (by kernel_rfl)) (fun _ _ _ h=>h) (Or.inl ⟨by rfl,?_⟩) hHeld ?_ ?_
             rotate_left
             ·rintro w' ⟨s0,s1,s2,s3,s4,s5,s6,s7,s8,s9,s10,s11,s12,s13,s14,s15,s16,s17⟩
              go_simp
              with_reducible rfl
             rotate_left
             ·simp only [Act.put,List.setIfInBounds_toArray,List.set_cons_zero,List.set_cons_succ,i64_w,i32_w]
              rfl
             refine pure_ (i:=8) (N:=some 46) (v:=?_) (a':=?_) #[true,true,true,true,true,true,true,true,true,false,false,false] rfl rfl (any_of HT_.out (by kernel_rfl)) (fun _ _ _ h=>h) (Or.inl ⟨by rfl,?_⟩) ?_ ?_
             rotate_left
             ·intro w'
              go_simp
              with_reducible rfl
             rotate_left
             ·simp only [Act.put,List.setIfInBounds_toArray,List.set_cons_zero,List.set_cons_succ,i64_w,i32_w]
              rfl
             refine pure_ (i:=9) (N:=some 47) (v:=?_) (a':=?_) #[true,true,true,true,true,true,true,true,true,true,false,false] rfl rfl (any_of HT_.out (by kernel_rfl)) (fun _ _ _ h=>h) (Or.inl ⟨by rfl,?_⟩) ?_ ?_
             rotate_left
             ·intro w'
              go_simp
              with_reducible rfl
             rotate_left
             ·simp only [Act.put,List.setIfInBounds_toArray,List.set_cons_zero,List.set_cons_succ,i64_w,i32_w]
              rfl
             refine pure_ (i:=10) (N:=some 48) (v:=?_) (a':=?_) #[true,true,true,true,true,true,true,true,true,true,true,false] rfl rfl (any_of HT_.out (by kernel_rfl)) (fun _ _ _ h=>h) (Or.inl ⟨by rfl,?_⟩) ?_ ?_
             rotate_left
             ·intro w'
              go_simp
              with_reducible rfl
             rotate_left
             ·simp only [Act.put,List.setIfInBounds_toArray,List.set_cons_zero,List.set_cons_succ,i64_w,i32_w]
              rfl
             refine last_ (i:=11) (N:=none) #[true,true,true,true,true,true,true,true,true,true,true,true] rfl rfl (one_of HT_.out (by kernel_rfl)) (by decide) (fun K hK=>?_)
             refine skip_ (w1:=?_) (by rfl) rfl ?_ ?_
             rotate_left
             ·go_simp
              rfl
             refine hK.out _ _ ?_
             clear hK K
             refine done_ (done_of HT_.out (by kernel_rfl)) ?_
             try go_wp2
             go_roundg k1
             case measure=>have:=HK1.out;omega
             case rel=>exact⟨(y132),(wrap64 (x9_1+1)),(by first|rfl|(simp;done)|(simp [*];done)),H',⟨by have:=HK1.out;omega⟩,⟨by refine Zr ?_;exact Kd.R_mono HQ25.out (fun _ hk=>trivial)⟩,⟨by repeat (first|(with_reducible first|exact HB.out|apply below_alloc|apply pw_below_drewN|apply below_drew1|refine below_set ?_ GB18.out|refine below_set ?_ GE127.out)|exact HB.out)⟩⟩
            ·rw [if_neg c17] at H
             exact absurd H (by simp)
           ·replace c16:=Bool.eq_false_iff.mpr c16
            subst c16
            have H1:(if x3_1.length<1099511627776 then (doc_Of.l0 k1 (x3_1++[(⟨(⟨(rd_T124 l0 x9_1).f0.f0,(rd_T124 l0 x9_1).f0.f1,(rd_T124 l0 x9_1).f0.f2⟩:S29),(rd_T124 l0 x9_1).f1,(rd_T124 l0 x9_1).f2,(rd_T124 l0 x9_1).f3,(rd_T124 l0 x9_1).f4,(rd_T124 l0 x9_1).f5,(rd_T124 l0 x9_1).f6⟩:S124)]) l0 (l0.length:Int) (wrap64 (x9_1+1))) else (none))=some r:=by rw [if_neg (show ¬ (false=true) by decide)] at H;exact H
            clear H
            have H:=H1
            clear H1
            by_cases c26:x3_1.length<1099511627776
            ·rw [if_pos c26] at H
             have LMc26:=Zd c26
             clear c26
             obtain⟨y133,hy133⟩:∃ y_:List (S124),y_=(x3_1++[(⟨(⟨(rd_T124 l0 x9_1).f0.f0,(rd_T124 l0 x9_1).f0.f1,(rd_T124 l0 x9_1).f0.f2⟩:S29),(rd_T124 l0 x9_1).f1,(rd_T124 l0 x9_1).f2,(rd_T124 l0 x9_1).f3,(rd_T124 l0 x9_1).f4,(rd_T124 l0 x9_1).f5,(rd_T124 l0 x9_1).f6⟩:S124)]):=⟨_,rfl⟩
             replace H:(doc_Of.l0 k1 y133 l0 (l0.length:Int) (wrap64 (x9_1+1)))=some r:=by first|(rw [hy133];with_reducible exact H)|(have H2_:=(Option.bind_some _ _).symm.trans H;rw [hy133];with_reducible exact H2_)|(have H2_:=(Option.bind_some _ _).symm.trans H;with_reducible exact H2_)|with_reducible exact H|(rw [hy133];exact H)|exact H
             have Ny133:=Zd hy133
             clear hy133
             have H':=Zd H
             clear H
             have p126:0≤(x9_1:Int):=Zo
             have q126:x9_1<(l0.length:Int):=Zo
             obtain⟨ad126,e126,hx126_0,hx126_1,hx126_2,hx126_3,hx126_4,hx126_5,hx126_6,hx126_7,hx126_8⟩:=at_T124 HR0.out x9_1 p126 q126
             cases e126
             replace hx126_0:=Zx HB rfl hx126_0
             replace hx126_1:=Zx HB rfl hx126_1
             replace hx126_2:=Zx HB rfl hx126_2
             replace hx126_3:=Zx HB rfl hx126_3
             replace hx126_4:=Zx HB rfl hx126_4
             replace hx126_5:=Zx HB rfl hx126_5
             replace hx126_6:=Zx HB rfl hx126_6
             replace hx126_7:=Zx HB rfl hx126_7
             replace hx126_8:=Zx HB rfl hx126_8
             replace p126:=eq_true p126
             replace q126:=eq_true q126
             go_wp2_with (first|((with_reducible refine gate_dst (N:=5) rfl ?_);refine box_event ?hg (N:=5) ?hd (cs:=#[.string (⟨#[]⟩:ByteArray),.string (⟨#[]⟩:ByteArray),.string (⟨#[]⟩:ByteArray),.bool false,.string (⟨#[]⟩:ByteArray),.string (⟨#[]⟩:ByteArray),.string (⟨#[]⟩:ByteArray),.string (⟨#[]⟩:ByteArray),.bool false]) (t:=124) ?hr ?_;(case hd=>rfl);(case hg=>rfl);(case hr=>first|(go_simp;done)|(go_simp;rfl));intro gb127 hg w27 hbox hb;have n0_:=Zd (Kd.R_below (Kd.R_elderB (Zr HO_3.out) gb127 (Nat.le_of_eq hg.symm)) hb);have n1_:=Zd (below_step Zb hb);have n2_:=Zd (hbox);have n3_:=Zd ((Zg hg:w.heap.size≤gb127));have n4_:=Zd ((Zg hg:w.heap.size≤gb127));clear HO_3;clear HB;have HO_3:=n0_;have HB:=n1_;have BK127:=n2_;have GW127:=n3_;have GE127:=n4_;clear n0_ n1_ n2_ n3_ n4_;clear hb hbox hg;obtain⟨hcz28_0,hcz28_1,hcz28_2,hcz28_3,hcz28_4,hcz28_5,hcz28_6,hcz28_7,hcz28_8,hfz28_0,hfz28_1,hfz28_2,hfz28_3,hfz28_4,hfz28_5,hfz28_6,hfz28_7,hfz28_8⟩:=Zc9 BK127.out;obtain⟨Ao29,co29,eo29⟩:=Kd.R_slice HO_3.out;subst eo29)|((with_reducible refine gate_callee (f:=106) rfl ?_);refine goesL_ (some 25) rfl rfl Tryz.func106 (by kernel_rfl) rfl #[.agg #[.string ((rd_T124 l0 x9_1).f0.f0),.string ((rd_T124 l0 x9_1).f0.f1),.string ((rd_T124 l0 x9_1).f0.f2),.bool ((rd_T124 l0 x9_1).f1),.string ((rd_T124 l0 x9_1).f2),.string ((rd_T124 l0 x9_1).f3),.string ((rd_T124 l0 x9_1).f4),.string ((rd_T124 l0 x9_1).f5),.bool ((rd_T124 l0 x9_1).f6)]] rfl Zl ?_;(with_reducible refine (doc_Part_isText.calls ((rd_T124 l0 x9_1).f0.f0) ((rd_T124 l0 x9_1).f0.f1) ((rd_T124 l0 x9_1).f0.f2) ((rd_T124 l0 x9_1).f1) ((rd_T124 l0 x9_1).f2) ((rd_T124 l0 x9_1).f3) ((rd_T124 l0 x9_1).f4) ((rd_T124 l0 x9_1).f5) ((rd_T124 l0 x9_1).f6) true _ A9.out).mono ?_);rintro e w30 ⟨rfl,hb⟩;refine⟨_,rfl,?_⟩;have n0_:=Zd (Kd.R_below (by refine Zr ?_;exact (Kd.R_mono (Kd.R_far (p:=⟨gb127,8,none⟩) (Kd.R_far (p:=⟨gb127,7,none⟩) (Kd.R_far (p:=⟨gb127,6,none⟩) (Kd.R_far (p:=⟨gb127,5,none⟩) (Kd.R_far (p:=⟨gb127,4,none⟩) (Kd.R_far (p:=⟨gb127,3,none⟩) (Kd.R_far (p:=⟨gb127,2,none⟩) (Kd.R_far (p:=⟨gb127,1,none⟩) (Kd.R_far (p:=⟨gb127,0,none⟩) (Kd.R_mono HO_3.out (fun k_ hk=>(⟨hk,hk.2⟩:_∧k_≠gb127))) (fun _ hk=>hk.2) (.string ((rd_T124 l0 x9_1).f0.f0))) (fun _ hk=>hk.2) (.string ((rd_T124 l0 x9_1).f0.f1))) (fun _ hk=>hk.2) (.string ((rd_T124 l0 x9_1).f0.f2))) (fun _ hk=>hk.2) (.bool ((rd_T124 l0 x9_1).f1))) (fun _ hk=>hk.2) (.string ((rd_T124 l0 x9_1).f2))) (fun _ hk=>hk.2) (.string ((rd_T124 l0 x9_1).f3))) (fun _ hk=>hk.2) (.string ((rd_T124 l0 x9_1).f4))) (fun _ hk=>hk.2) (.string ((rd_T124 l0 x9_1).f5))) (fun _ hk=>hk.2) (.bool ((rd_T124 l0 x9_1).f6))) (fun _ h_=>h_.1))) hb);have n1_:=Zd (blk_below (g:=gb127) (o := .cells #[.string ((rd_T124 l0 x9_1).f0.f0),.string ((rd_T124 l0 x9_1).f0.f1),.string ((rd_T124 l0 x9_1).f0.f2),.bool ((rd_T124 l0 x9_1).f1),.string ((rd_T124 l0 x9_1).f2),.string ((rd_T124 l0 x9_1).f3),.string ((rd_T124 l0 x9_1).f4),.string ((rd_T124 l0 x9_1).f5),.bool ((rd_T124 l0 x9_1).f6)] 124 (0,0)) (by refine Zk ?_;refine blk_put (cs:=#[.string ((rd_T124 l0 x9_1).f0.f0),.string ((rd_T124 l0 x9_1).f0.f1),.string ((rd_T124 l0 x9_1).f0.f2),.bool ((rd_T124 l0 x9_1).f1),.string ((rd_T124 l0 x9_1).f2),.string ((rd_T124 l0 x9_1).f3),.string ((rd_T124 l0 x9_1).f4),.string ((rd_T124 l0 x9_1).f5),.bool false]) ?_ 8 _ rfl;refine Zk ?_;refine blk_put (cs:=#[.string ((rd_T124 l0 x9_1).f0.f0),.string ((rd_T124 l0 x9_1).f0.f1),.string ((rd_T124 l0 x9_1).f0.f2),.bool ((rd_T124 l0 x9_1).f1),.string ((rd_T124 l0 x9_1).f2),.string ((rd_T124 l0 x9_1).f3),.string ((rd_T124 l0 x9_1).f4),.string (⟨#[]⟩:ByteArray),.bool false]) ?_ 7 _ rfl;refine Zk ?_;refine blk_put (cs:=#[.string ((rd_T124 l0 x9_1).f0.f0),.string ((rd_T124 l0 x9_1).f0.f1),.string ((rd_T124 l0 x9_1).f0.f2),.bool ((rd_T124 l0 x9_1).f1),.string ((rd_T124 l0 x9_1).f2),.string ((rd_T124 l0 x9_1).f3),.string (⟨#[]⟩:ByteArray),.string (⟨#[]⟩:ByteArray),.bool false]) ?_ 6 _ rfl;refine Zk ?_;refine blk_put (cs:=#[.string ((rd_T124 l0 x9_1).f0.f0),.string ((rd_T124 l0 x9_1).f0.f1),.string ((rd_T124 l0 x9_1).f0.f2),.bool ((rd_T124 l0 x9_1).f1),.string ((rd_T124 l0 x9_1).f2),.string (⟨#[]⟩:ByteArray),.string (⟨#[]⟩:ByteArray),.string (⟨#[]⟩:ByteArray),.bool false]) ?_ 5 _ rfl;refine Zk ?_;refine blk_put (cs:=#[.string ((rd_T124 l0 x9_1).f0.f0),.string ((rd_T124 l0 x9_1).f0.f1),.string ((rd_T124 l0 x9_1).f0.f2),.bool ((rd_T124 l0 x9_1).f1),.string (⟨#[]⟩:ByteArray),.string (⟨#[]⟩:ByteArray),.string (⟨#[]⟩:ByteArray),.string (⟨#[]⟩:ByteArray),.bool false]) ?_ 4 _ rfl;refine Zk ?_;refine blk_put (cs:=#[.string ((rd_T124 l0 x9_1).f0.f0),.string ((rd_T124 l0 x9_1).f0.f1),.string ((rd_T124 l0 x9_1).f0.f2),.bool false,.string (⟨#[]⟩:ByteArray),.string (⟨#[]⟩:ByteArray),.string (⟨#[]⟩:ByteArray),.string (⟨#[]⟩:ByteArray),.bool false]) ?_ 3 _ rfl;refine Zk ?_;refine blk_put (cs:=#[.string ((rd_T124 l0 x9_1).f0.f0),.string ((rd_T124 l0 x9_1).f0.f1),.string (⟨#[]⟩:ByteArray),.bool false,.string (⟨#[]⟩:ByteArray),.string (⟨#[]⟩:ByteArray),.string (⟨#[]⟩:ByteArray),.string (⟨#[]⟩:ByteArray),.bool false]) ?_ 2 _ rfl;refine Zk ?_;refine blk_put (cs:=#[.string ((rd_T124 l0 x9_1).f0.f0),.string (⟨#[]⟩:ByteArray),.string (⟨#[]⟩:ByteArray),.bool false,.string (⟨#[]⟩:ByteArray),.string (⟨#[]⟩:ByteArray),.string (⟨#[]⟩:ByteArray),.string (⟨#[]⟩:ByteArray),.bool false]) ?_ 1 _ rfl;refine Zk ?_;refine blk_put (cs:=#[.string (⟨#[]⟩:ByteArray),.string (⟨#[]⟩:ByteArray),.string (⟨#[]⟩:ByteArray),.bool false,.string (⟨#[]⟩:ByteArray),.string (⟨#[]⟩:ByteArray),.string (⟨#[]⟩:ByteArray),.string (⟨#[]⟩:ByteArray),.bool false]) ?_ 0 _ rfl;refine Zk ?_;exact BK127.out) hb);have n2_:=Zd (below_step Zb hb);clear HO_3;clear BK127;clear HB;have HO_3:=n0_;have BK127:=n1_;have HB:=n2_;clear n0_ n1_ n2_;(try clear hb);(try clear hb2);(try clear hk);(try clear hi);have p129:0≤((ji12):Int):=Zo;have q129:(ji12)<(x3_1.length:Int):=Zo;obtain⟨ad129,e129,hx129_0,hx129_1,hx129_2,hx129_3,hx129_4,hx129_5,hx129_6,hx129_7,hx129_8⟩:=at_T124 (Kd.R_reads' HO_3.out).2.2 (ji12) p129 q129;cases e129;replace p129:=eq_true p129;replace q129:=eq_true q129)|(go_at_call 106;(with_reducible refine (doc_Part_isText.calls ((rd_T124 x3_1 (ji12)).f0.f0) ((rd_T124 x3_1 (ji12)).f0.f1) ((rd_T124 x3_1 (ji12)).f0.f2) ((rd_T124 x3_1 (ji12)).f1) ((rd_T124 x3_1 (ji12)).f2) ((rd_T124 x3_1 (ji12)).f3) ((rd_T124 x3_1 (ji12)).f4) ((rd_T124 x3_1 (ji12)).f5) ((rd_T124 x3_1 (ji12)).f6) false _ A15.out).mono ?_);rintro e w31 ⟨rfl,hb⟩;have n0_:=Zd (Kd.R_below (Zr HO_3.out) hb);have n1_:=Zd (blk_below (g:=gb127) (o := .cells #[.string ((rd_T124 l0 x9_1).f0.f0),.string ((rd_T124 l0 x9_1).f0.f1),.string ((rd_T124 l0 x9_1).f0.f2),.bool ((rd_T124 l0 x9_1).f1),.string ((rd_T124 l0 x9_1).f2),.string ((rd_T124 l0 x9_1).f3),.string ((rd_T124 l0 x9_1).f4),.string ((rd_T124 l0 x9_1).f5),.bool ((rd_T124 l0 x9_1).f6)] 124 (0,0)) (Zk BK127.out) hb);have n2_:=Zd (below_step Zb hb);clear HO_3;clear BK127;clear HB;have HO_3:=n0_;have BK127:=n1_;have HB:=n2_;clear n0_ n1_ n2_;(try clear hb);(try clear hb2);(try clear hk);(try clear hi);obtain⟨hcz32_0,hcz32_1,hcz32_2,hcz32_3,hcz32_4,hcz32_5,hcz32_6,hcz32_7,hcz32_8,hfz32_0,hfz32_1,hfz32_2,hfz32_3,hfz32_4,hfz32_5,hfz32_6,hfz32_7,hfz32_8⟩:=Zc9 BK127.out)|((with_reducible refine gate_builtin (b := .append) (xs:=#[.tmp 15,.tmp 17]) rfl ?_);at_builtin;refine Kd.R_append k124 (w0:=w) w.heap.size rfl (.tmp 15) (.tmp 17) 34 124 (.agg #[(.string ⟨#[]⟩),(.string ⟨#[]⟩),(.string ⟨#[]⟩),(.bool false),(.string ⟨#[]⟩),(.string ⟨#[]⟩),(.string ⟨#[]⟩),(.string ⟨#[]⟩),(.bool false)]) 128 rfl Tryz.underlying34 info124 rfl (by decide) (by omega) (.slice (some ad129) x3_1.length co29) x3_1 (⟨(⟨(rd_T124 l0 x9_1).f0.f0,(rd_T124 l0 x9_1).f0.f1,(rd_T124 l0 x9_1).f0.f2⟩:S29),(rd_T124 l0 x9_1).f1,(rd_T124 l0 x9_1).f2,(rd_T124 l0 x9_1).f3,(rd_T124 l0 x9_1).f4,(rd_T124 l0 x9_1).f5,(rd_T124 l0 x9_1).f6⟩:S124) [.string ((rd_T124 l0 x9_1).f0.f0),.string ((rd_T124 l0 x9_1).f0.f1),.string ((rd_T124 l0 x9_1).f0.f2),.bool ((rd_T124 l0 x9_1).f1),.string ((rd_T124 l0 x9_1).f2),.string ((rd_T124 l0 x9_1).f3),.string ((rd_T124 l0 x9_1).f4),.string ((rd_T124 l0 x9_1).f5),.bool ((rd_T124 l0 x9_1).f6)] (fun k_=>k_≠gb127) (fun _=>False) rfl rfl ?aP (fun _ hk=>hk.elim) ?aF ?aO ?aB ?aS ?aL ?_;(case aP=>exact k124_mkM _ _ _ (⟨(⟨(rd_T124 l0 x9_1).f0.f0,(rd_T124 l0 x9_1).f0.f1,(rd_T124 l0 x9_1).f0.f2⟩:S29),(rd_T124 l0 x9_1).f1,(rd_T124 l0 x9_1).f2,(rd_T124 l0 x9_1).f3,(rd_T124 l0 x9_1).f4,(rd_T124 l0 x9_1).f5,(rd_T124 l0 x9_1).f6⟩:S124));(case aB=>exact Zb);(case aF=>exact (fun k_ hk=>Kd.freshB (g:=gb127) (o := .cells #[.string ((rd_T124 l0 x9_1).f0.f0),.string ((rd_T124 l0 x9_1).f0.f1),.string ((rd_T124 l0 x9_1).f0.f2),.bool ((rd_T124 l0 x9_1).f1),.string ((rd_T124 l0 x9_1).f2),.string ((rd_T124 l0 x9_1).f3),.string ((rd_T124 l0 x9_1).f4),.string ((rd_T124 l0 x9_1).f5),.bool ((rd_T124 l0 x9_1).f6)] 124 (0,0)) (Zk BK127.out) k_ hk));(case aO=>exact (by refine Zr ?_;exact Kd.R_mono HO_3.out (fun _ hk=>hk.2)));(case aS=>exact (below_size Zb));(case aL=>have:=LMc26.out;omega);intro v134 w33 ho hb hg hat;rw [←Ny133.out] at ho;have n0_:=Zd (blk_grown (g:=gb127) (o := .cells #[.string ((rd_T124 l0 x9_1).f0.f0),.string ((rd_T124 l0 x9_1).f0.f1),.string ((rd_T124 l0 x9_1).f0.f2),.bool ((rd_T124 l0 x9_1).f1),.string ((rd_T124 l0 x9_1).f2),.string ((rd_T124 l0 x9_1).f3),.string ((rd_T124 l0 x9_1).f4),.string ((rd_T124 l0 x9_1).f5),.bool ((rd_T124 l0 x9_1).f6)] 124 (0,0)) (Zk BK127.out) hg (Kd.R_away HO_3.out (fun _ hk=>hk.2)));have n1_:=Zd (hb);have n2_:=Zd (ho);clear BK127;clear HB;clear HO_3;have BK127:=n0_;have HB:=n1_;have HO135:=n2_;clear n0_ n1_ n2_;clear ho hb hg hat))
             go_roundg k1
             case measure=>have:=HK1.out;omega
             case rel=>exact⟨(y133),(wrap64 (x9_1+1)),(by first|rfl|(simp;done)|(simp [*];done)),H',⟨by have:=HK1.out;omega⟩,⟨by refine Zr ?_;exact Kd.R_mono HO135.out (fun _ hk=>trivial)⟩,⟨by repeat (first|(with_reducible first|exact HB.out|apply below_alloc|apply pw_below_drewN|apply below_drew1|refine below_set ?_ GE127.out)|exact HB.out)⟩⟩
            ·rw [if_neg c26] at H
             exact absurd H (by simp)
          ·rw [if_neg c14] at H
           exact absurd H (by simp)
         ·rw [if_neg c13] at H
          exact absurd H (by simp)
        ·rw [if_neg c11] at H
         have c11b0:decide (0<(x3_1.length:Int))=false:=decide_eq_false c11
         have c11b1:decide (0<x3_1.length)=false:=decide_eq_false (by omega)
         clear c11
         by_cases c34:x3_1.length<1099511627776
         ·rw [if_pos c34] at H
          have LMc34:=Zd c34
          clear c34
          obtain⟨y136,hy136⟩:∃ y_:List (S124),y_=(x3_1++[(⟨(⟨(rd_T124 l0 x9_1).f0.f0,(rd_T124 l0 x9_1).f0.f1,(rd_T124 l0 x9_1).f0.f2⟩:S29),(rd_T124 l0 x9_1).f1,(rd_T124 l0 x9_1).f2,(rd_T124 l0 x9_1).f3,(rd_T124 l0 x9_1).f4,(rd_T124 l0 x9_1).f5,(rd_T124 l0 x9_1).f6⟩:S124)]):=⟨_,rfl⟩
          replace H:(doc_Of.l0 k1 y136 l0 (l0.length:Int) (wrap64 (x9_1+1)))=some r:=by first|(rw [hy136];with_reducible exact H)|(have H2_:=(Option.bind_some _ _).symm.trans H;rw [hy136];with_reducible exact H2_)|(have H2_:=(Option.bind_some _ _).symm.trans H;with_reducible exact H2_)|with_reducible exact H|(rw [hy136];exact H)|exact H
          have Ny136:=Zd hy136
          clear hy136
          have H':=Zd H
          clear H
          have p126:0≤(x9_1:Int):=Zo
          have q126:x9_1<(l0.length:Int):=Zo
          obtain⟨ad126,e126,hx126_0,hx126_1,hx126_2,hx126_3,hx126_4,hx126_5,hx126_6,hx126_7,hx126_8⟩:=at_T124 HR0.out x9_1 p126 q126
          cases e126
          replace hx126_0:=Zx HB rfl hx126_0
          replace hx126_1:=Zx HB rfl hx126_1
          replace hx126_2:=Zx HB rfl hx126_2
          replace hx126_3:=Zx HB rfl hx126_3
          replace hx126_4:=Zx HB rfl hx126_4
          replace hx126_5:=Zx HB rfl hx126_5
          replace hx126_6:=Zx HB rfl hx126_6
          replace hx126_7:=Zx HB rfl hx126_7
          replace hx126_8:=Zx HB rfl hx126_8
          replace p126:=eq_true p126
          replace q126:=eq_true q126
          go_wp2_with (first|((with_reducible refine gate_dst (N:=5) rfl ?_);refine box_event ?hg (N:=5) ?hd (cs:=#[.string (⟨#[]⟩:ByteArray),.string (⟨#[]⟩:ByteArray),.string (⟨#[]⟩:ByteArray),.bool false,.string (⟨#[]⟩:ByteArray),.string (⟨#[]⟩:ByteArray),.string (⟨#[]⟩:ByteArray),.string (⟨#[]⟩:ByteArray),.bool false]) (t:=124) ?hr ?_;(case hd=>rfl);(case hg=>rfl);(case hr=>first|(go_simp;done)|(go_simp;rfl));intro gb127 hg w35 hbox hb;have n0_:=Zd (Kd.R_below (Kd.R_elderB (Zr HO_3.out) gb127 (Nat.le_of_eq hg.symm)) hb);have n1_:=Zd (below_step Zb hb);have n2_:=Zd (hbox);have n3_:=Zd ((Zg hg:w.heap.size≤gb127));have n4_:=Zd ((Zg hg:w.heap.size≤gb127));clear HO_3;clear HB;have HO_3:=n0_;have HB:=n1_;have BK127:=n2_;have GW127:=n3_;have GE127:=n4_;clear n0_ n1_ n2_ n3_ n4_;clear hb hbox hg;obtain⟨hcz36_0,hcz36_1,hcz36_2,hcz36_3,hcz36_4,hcz36_5,hcz36_6,hcz36_7,hcz36_8,hfz36_0,hfz36_1,hfz36_2,hfz36_3,hfz36_4,hfz36_5,hfz36_6,hfz36_7,hfz36_8⟩:=Zc9 BK127.out;obtain⟨Ao37,co37,eo37⟩:=Kd.R_slice HO_3.out;subst eo37)|((with_reducible refine gate_callee (f:=106) rfl ?_);refine goesL_ (some 25) rfl rfl Tryz.func106 (by kernel_rfl) rfl #[.agg #[.string ((rd_T124 l0 x9_1).f0.f0),.string ((rd_T124 l0 x9_1).f0.f1),.string ((rd_T124 l0 x9_1).f0.f2),.bool ((rd_T124 l0 x9_1).f1),.string ((rd_T124 l0 x9_1).f2),.string ((rd_T124 l0 x9_1).f3),.string ((rd_T124 l0 x9_1).f4),.string ((rd_T124 l0 x9_1).f5),.bool ((rd_T124 l0 x9_1).f6)]] rfl Zl ?_;(with_reducible refine (doc_Part_isText.calls ((rd_T124 l0 x9_1).f0.f0) ((rd_T124 l0 x9_1).f0.f1) ((rd_T124 l0 x9_1).f0.f2) ((rd_T124 l0 x9_1).f1) ((rd_T124 l0 x9_1).f2) ((rd_T124 l0 x9_1).f3) ((rd_T124 l0 x9_1).f4) ((rd_T124 l0 x9_1).f5) ((rd_T124 l0 x9_1).f6) true _ A9.out).mono ?_);rintro e w38 ⟨rfl,hb⟩;refine⟨_,rfl,?_⟩;have n0_:=Zd (Kd.R_below (by refine Zr ?_;exact (Kd.R_mono (Kd.R_far (p:=⟨gb127,8,none⟩) (Kd.R_far (p:=⟨gb127,7,none⟩) (Kd.R_far (p:=⟨gb127,6,none⟩) (Kd.R_far (p:=⟨gb127,5,none⟩) (Kd.R_far (p:=⟨gb127,4,none⟩) (Kd.R_far (p:=⟨gb127,3,none⟩) (Kd.R_far (p:=⟨gb127,2,none⟩) (Kd.R_far (p:=⟨gb127,1,none⟩) (Kd.R_far (p:=⟨gb127,0,none⟩) (Kd.R_mono HO_3.out (fun k_ hk=>(⟨hk,hk.2⟩:_∧k_≠gb127))) (fun _ hk=>hk.2) (.string ((rd_T124 l0 x9_1).f0.f0))) (fun _ hk=>hk.2) (.string ((rd_T124 l0 x9_1).f0.f1))) (fun _ hk=>hk.2) (.string ((rd_T124 l0 x9_1).f0.f2))) (fun _ hk=>hk.2) (.bool ((rd_T124 l0 x9_1).f1))) (fun _ hk=>hk.2) (.string ((rd_T124 l0 x9_1).f2))) (fun _ hk=>hk.2) (.string ((rd_T124 l0 x9_1).f3))) (fun _ hk=>hk.2) (.string ((rd_T124 l0 x9_1).f4))) (fun _ hk=>hk.2) (.string ((rd_T124 l0 x9_1).f5))) (fun _ hk=>hk.2) (.bool ((rd_T124 l0 x9_1).f6))) (fun _ h_=>h_.1))) hb);have n1_:=Zd (blk_below (g:=gb127) (o := .cells #[.string ((rd_T124 l0 x9_1).f0.f0),.string ((rd_T124 l0 x9_1).f0.f1),.string ((rd_T124 l0 x9_1).f0.f2),.bool ((rd_T124 l0 x9_1).f1),.string ((rd_T124 l0 x9_1).f2),.string ((rd_T124 l0 x9_1).f3),.string ((rd_T124 l0 x9_1).f4),.string ((rd_T124 l0 x9_1).f5),.bool ((rd_T124 l0 x9_1).f6)] 124 (0,0)) (by refine Zk ?_;refine blk_put (cs:=#[.string ((rd_T124 l0 x9_1).f0.f0),.string ((rd_T124 l0 x9_1).f0.f1),.string ((rd_T124 l0 x9_1).f0.f2),.bool ((rd_T124 l0 x9_1).f1),.string ((rd_T124 l0 x9_1).f2),.string ((rd_T124 l0 x9_1).f3),.string ((rd_T124 l0 x9_1).f4),.string ((rd_T124 l0 x9_1).f5),.bool false]) ?_ 8 _ rfl;refine Zk ?_;refine blk_put (cs:=#[.string ((rd_T124 l0 x9_1).f0.f0),.string ((rd_T124 l0 x9_1).f0.f1),.string ((rd_T124 l0 x9_1).f0.f2),.bool ((rd_T124 l0 x9_1).f1),.string ((rd_T124 l0 x9_1).f2),.string ((rd_T124 l0 x9_1).f3),.string ((rd_T124 l0 x9_1).f4),.string (⟨#[]⟩:ByteArray),.bool false]) ?_ 7 _ rfl;refine Zk ?_;refine blk_put (cs:=#[.string ((rd_T124 l0 x9_1).f0.f0),.string ((rd_T124 l0 x9_1).f0.f1),.string ((rd_T124 l0 x9_1).f0.f2),.bool ((rd_T124 l0 x9_1).f1),.string ((rd_T124 l0 x9_1).f2),.string ((rd_T124 l0 x9_1).f3),.string (⟨#[]⟩:ByteArray),.string (⟨#[]⟩:ByteArray),.bool false]) ?_ 6 _ rfl;refine Zk ?_;refine blk_put (cs:=#[.string ((rd_T124 l0 x9_1).f0.f0),.string ((rd_T124 l0 x9_1).f0.f1),.string ((rd_T124 l0 x9_1).f0.f2),.bool ((rd_T124 l0 x9_1).f1),.string ((rd_T124 l0 x9_1).f2),.string (⟨#[]⟩:ByteArray),.string (⟨#[]⟩:ByteArray),.string (⟨#[]⟩:ByteArray),.bool false]) ?_ 5 _ rfl;refine Zk ?_;refine blk_put (cs:=#[.string ((rd_T124 l0 x9_1).f0.f0),.string ((rd_T124 l0 x9_1).f0.f1),.string ((rd_T124 l0 x9_1).f0.f2),.bool ((rd_T124 l0 x9_1).f1),.string (⟨#[]⟩:ByteArray),.string (⟨#[]⟩:ByteArray),.string (⟨#[]⟩:ByteArray),.string (⟨#[]⟩:ByteArray),.bool false]) ?_ 4 _ rfl;refine Zk ?_;refine blk_put (cs:=#[.string ((rd_T124 l0 x9_1).f0.f0),.string ((rd_T124 l0 x9_1).f0.f1),.string ((rd_T124 l0 x9_1).f0.f2),.bool false,.string (⟨#[]⟩:ByteArray),.string (⟨#[]⟩:ByteArray),.string (⟨#[]⟩:ByteArray),.string (⟨#[]⟩:ByteArray),.bool false]) ?_ 3 _ rfl;refine Zk ?_;refine blk_put (cs:=#[.string ((rd_T124 l0 x9_1).f0.f0),.string ((rd_T124 l0 x9_1).f0.f1),.string (⟨#[]⟩:ByteArray),.bool false,.string (⟨#[]⟩:ByteArray),.string (⟨#[]⟩:ByteArray),.string (⟨#[]⟩:ByteArray),.string (⟨#[]⟩:ByteArray),.bool false]) ?_ 2 _ rfl;refine Zk ?_;refine blk_put (cs:=#[.string ((rd_T124 l0 x9_1).f0.f0),.string (⟨#[]⟩:ByteArray),.string (⟨#[]⟩:ByteArray),.bool false,.string (⟨#[]⟩:ByteArray),.string (⟨#[]⟩:ByteArray),.string (⟨#[]⟩:ByteArray),.string (⟨#[]⟩:ByteArray),.bool false]) ?_ 1 _ rfl;refine Zk ?_;refine blk_put (cs:=#[.string (⟨#[]⟩:ByteArray),.string (⟨#[]⟩:ByteArray),.string (⟨#[]⟩:ByteArray),.bool false,.string (⟨#[]⟩:ByteArray),.string (⟨#[]⟩:ByteArray),.string (⟨#[]⟩:ByteArray),.string (⟨#[]⟩:ByteArray),.bool false]) ?_ 0 _ rfl;refine Zk ?_;exact BK127.out) hb);have n2_:=Zd (below_step Zb hb);clear HO_3;clear BK127;clear HB;have HO_3:=n0_;have BK127:=n1_;have HB:=n2_;clear n0_ n1_ n2_;(try clear hb);(try clear hb2);(try clear hk);(try clear hi);obtain⟨hcz39_0,hcz39_1,hcz39_2,hcz39_3,hcz39_4,hcz39_5,hcz39_6,hcz39_7,hcz39_8,hfz39_0,hfz39_1,hfz39_2,hfz39_3,hfz39_4,hfz39_5,hfz39_6,hfz39_7,hfz39_8⟩:=Zc9 BK127.out)|((with_reducible refine gate_builtin (b := .append) (xs:=#[.tmp 15,.tmp 17]) rfl ?_);at_builtin;refine Kd.R_append k124 (w0:=w) w.heap.size rfl (.tmp 15) (.tmp 17) 34 124 (.agg #[(.string ⟨#[]⟩),(.string ⟨#[]⟩),(.string ⟨#[]⟩),(.bool false),(.string ⟨#[]⟩),(.string ⟨#[]⟩),(.string ⟨#[]⟩),(.string ⟨#[]⟩),(.bool false)]) 128 rfl Tryz.underlying34 info124 rfl (by decide) (by omega) (.slice Ao37 x3_1.length co37) x3_1 (⟨(⟨(rd_T124 l0 x9_1).f0.f0,(rd_T124 l0 x9_1).f0.f1,(rd_T124 l0 x9_1).f0.f2⟩:S29),(rd_T124 l0 x9_1).f1,(rd_T124 l0 x9_1).f2,(rd_T124 l0 x9_1).f3,(rd_T124 l0 x9_1).f4,(rd_T124 l0 x9_1).f5,(rd_T124 l0 x9_1).f6⟩:S124) [.string ((rd_T124 l0 x9_1).f0.f0),.string ((rd_T124 l0 x9_1).f0.f1),.string ((rd_T124 l0 x9_1).f0.f2),.bool ((rd_T124 l0 x9_1).f1),.string ((rd_T124 l0 x9_1).f2),.string ((rd_T124 l0 x9_1).f3),.string ((rd_T124 l0 x9_1).f4),.string ((rd_T124 l0 x9_1).f5),.bool ((rd_T124 l0 x9_1).f6)] (fun k_=>k_≠gb127) (fun _=>False) rfl rfl ?aP (fun _ hk=>hk.elim) ?aF ?aO ?aB ?aS ?aL ?_;(case aP=>exact k124_mkM _ _ _ (⟨(⟨(rd_T124 l0 x9_1).f0.f0,(rd_T124 l0 x9_1).f0.f1,(rd_T124 l0 x9_1).f0.f2⟩:S29),(rd_T124 l0 x9_1).f1,(rd_T124 l0 x9_1).f2,(rd_T124 l0 x9_1).f3,(rd_T124 l0 x9_1).f4,(rd_T124 l0 x9_1).f5,(rd_T124 l0 x9_1).f6⟩:S124));(case aB=>exact Zb);(case aF=>exact (fun k_ hk=>Kd.freshB (g:=gb127) (o := .cells #[.string ((rd_T124 l0 x9_1).f0.f0),.string ((rd_T124 l0 x9_1).f0.f1),.string ((rd_T124 l0 x9_1).f0.f2),.bool ((rd_T124 l0 x9_1).f1),.string ((rd_T124 l0 x9_1).f2),.string ((rd_T124 l0 x9_1).f3),.string ((rd_T124 l0 x9_1).f4),.string ((rd_T124 l0 x9_1).f5),.bool ((rd_T124 l0 x9_1).f6)] 124 (0,0)) (Zk BK127.out) k_ hk));(case aO=>exact (by refine Zr ?_;exact Kd.R_mono HO_3.out (fun _ hk=>hk.2)));(case aS=>exact (below_size Zb));(case aL=>have:=LMc34.out;omega);intro v137 w40 ho hb hg hat;rw [←Ny136.out] at ho;have n0_:=Zd (blk_grown (g:=gb127) (o := .cells #[.string ((rd_T124 l0 x9_1).f0.f0),.string ((rd_T124 l0 x9_1).f0.f1),.string ((rd_T124 l0 x9_1).f0.f2),.bool ((rd_T124 l0 x9_1).f1),.string ((rd_T124 l0 x9_1).f2),.string ((rd_T124 l0 x9_1).f3),.string ((rd_T124 l0 x9_1).f4),.string ((rd_T124 l0 x9_1).f5),.bool ((rd_T124 l0 x9_1).f6)] 124 (0,0)) (Zk BK127.out) hg (Kd.R_away HO_3.out (fun _ hk=>hk.2)));have n1_:=Zd (hb);have n2_:=Zd (ho);clear BK127;clear HB;clear HO_3;have BK127:=n0_;have HB:=n1_;have HO138:=n2_;clear n0_ n1_ n2_;clear ho hb hg hat))
          go_roundg k1
          case measure=>have:=HK1.out;omega
          case rel=>exact⟨(y136),(wrap64 (x9_1+1)),(by first|rfl|(simp;done)|(simp [*];done)),H',⟨by have:=HK1.out;omega⟩,⟨by refine Zr ?_;exact Kd.R_mono HO138.out (fun _ hk=>trivial)⟩,⟨by repeat (first|(with_reducible first|exact HB.out|apply below_alloc|apply pw_below_drewN|apply below_drew1|refine below_set ?_ GE127.out)|exact HB.out)⟩⟩
         ·rw [if_neg c34] at H
          exact absurd H (by simp)
       ·replace c10:=Bool.eq_false_iff.mpr c10
        subst c10
        have H1:(if x3_1.length<1099511627776 then (doc_Of.l0 k1 (x3_1++[(⟨(⟨(rd_T124 l0 x9_1).f0.f0,(rd_T124 l0 x9_1).f0.f1,(rd_T124 l0 x9_1).f0.f2⟩:S29),(rd_T124 l0 x9_1).f1,(rd_T124 l0 x9_1).f2,(rd_T124 l0 x9_1).f3,(rd_T124 l0 x9_1).f4,(rd_T124 l0 x9_1).f5,(rd_T124 l0 x9_1).f6⟩:S124)]) l0 (l0.length:Int) (wrap64 (x9_1+1))) else (none))=some r:=by rw [if_neg (show ¬ (false=true) by decide)] at H;exact H
        clear H
        have H:=H1
        clear H1
        by_cases c41:x3_1.length<1099511627776
        ·rw [if_pos c41] at H
         have LMc41:=Zd c41
         clear c41
         obtain⟨y139,hy139⟩:∃ y_:List (S124),y_=(x3_1++[(⟨(⟨(rd_T124 l0 x9_1).f0.f0,(rd_T124 l0 x9_1).f0.f1,(rd_T124 l0 x9_1).f0.f2⟩:S29),(rd_T124 l0 x9_1).f1,(rd_T124 l0 x9_1).f2,(rd_T124 l0 x9_1).f3,(rd_T124 l0 x9_1).f4,(rd_T124 l0 x9_1).f5,(rd_T124 l0 x9_1).f6⟩:S124)]):=⟨_,rfl⟩
         replace H:(doc_Of.l0 k1 y139 l0 (l0.length:Int) (wrap64 (x9_1+1)))=some r:=by first|(rw [hy139];with_reducible exact H)|(have H2_:=(Option.bind_some _ _).symm.trans H;rw [hy139];with_reducible exact H2_)|(have H2_:=(Option.bind_some _ _).symm.trans H;with_reducible exact H2_)|with_reducible exact H|(rw [hy139];exact H)|exact H
         have Ny139:=Zd hy139
         clear hy139
         have H':=Zd H
         clear H
         have p126:0≤(x9_1:Int):=Zo
         have q126:x9_1<(l0.length:Int):=Zo
         obtain⟨ad126,e126,hx126_0,hx126_1,hx126_2,hx126_3,hx126_4,hx126_5,hx126_6,hx126_7,hx126_8⟩:=at_T124 HR0.out x9_1 p126 q126
         cases e126
         replace hx126_0:=Zx HB rfl hx126_0
         replace hx126_1:=Zx HB rfl hx126_1
         replace hx126_2:=Zx HB rfl hx126_2
         replace hx126_3:=Zx HB rfl hx126_3
         replace hx126_4:=Zx HB rfl hx126_4
         replace hx126_5:=Zx HB rfl hx126_5
         replace hx126_6:=Zx HB rfl hx126_6
         replace hx126_7:=Zx HB rfl hx126_7
         replace hx126_8:=Zx HB rfl hx126_8
         replace p126:=eq_true p126
         replace q126:=eq_true q126
         go_wp2_with (first|((with_reducible refine gate_dst (N:=5) rfl ?_);refine box_event ?hg (N:=5) ?hd (cs:=#[.string (⟨#[]⟩:ByteArray),.string (⟨#[]⟩:ByteArray),.string (⟨#[]⟩:ByteArray),.bool false,.string (⟨#[]⟩:ByteArray),.string (⟨#[]⟩:ByteArray),.string (⟨#[]⟩:ByteArray),.string (⟨#[]⟩:ByteArray),.bool false]) (t:=124) ?hr ?_;(case hd=>rfl);(case hg=>rfl);(case hr=>first|(go_simp;done)|(go_simp;rfl));intro gb127 hg w42 hbox hb;have n0_:=Zd (Kd.R_below (Kd.R_elderB (Zr HO_3.out) gb127 (Nat.le_of_eq hg.symm)) hb);have n1_:=Zd (below_step Zb hb);have n2_:=Zd (hbox);have n3_:=Zd ((Zg hg:w.heap.size≤gb127));have n4_:=Zd ((Zg hg:w.heap.size≤gb127));clear HO_3;clear HB;have HO_3:=n0_;have HB:=n1_;have BK127:=n2_;have GW127:=n3_;have GE127:=n4_;clear n0_ n1_ n2_ n3_ n4_;clear hb hbox hg;obtain⟨hcz43_0,hcz43_1,hcz43_2,hcz43_3,hcz43_4,hcz43_5,hcz43_6,hcz43_7,hcz43_8,hfz43_0,hfz43_1,hfz43_2,hfz43_3,hfz43_4,hfz43_5,hfz43_6,hfz43_7,hfz43_8⟩:=Zc9 BK127.out;obtain⟨Ao44,co44,eo44⟩:=Kd.R_slice HO_3.out;subst eo44)|((with_reducible refine gate_callee (f:=106) rfl ?_);refine goesL_ (some 25) rfl rfl Tryz.func106 (by kernel_rfl) rfl #[.agg #[.string ((rd_T124 l0 x9_1).f0.f0),.string ((rd_T124 l0 x9_1).f0.f1),.string ((rd_T124 l0 x9_1).f0.f2),.bool ((rd_T124 l0 x9_1).f1),.string ((rd_T124 l0 x9_1).f2),.string ((rd_T124 l0 x9_1).f3),.string ((rd_T124 l0 x9_1).f4),.string ((rd_T124 l0 x9_1).f5),.bool ((rd_T124 l0 x9_1).f6)]] rfl Zl ?_;(with_reducible refine (doc_Part_isText.calls ((rd_T124 l0 x9_1).f0.f0) ((rd_T124 l0 x9_1).f0.f1) ((rd_T124 l0 x9_1).f0.f2) ((rd_T124 l0 x9_1).f1) ((rd_T124 l0 x9_1).f2) ((rd_T124 l0 x9_1).f3) ((rd_T124 l0 x9_1).f4) ((rd_T124 l0 x9_1).f5) ((rd_T124 l0 x9_1).f6) false _ A9.out).mono ?_);rintro e w45 ⟨rfl,hb⟩;refine⟨_,rfl,?_⟩;have n0_:=Zd (Kd.R_below (by refine Zr ?_;exact (Kd.R_mono (Kd.R_far (p:=⟨gb127,8,none⟩) (Kd.R_far (p:=⟨gb127,7,none⟩) (Kd.R_far (p:=⟨gb127,6,none⟩) (Kd.R_far (p:=⟨gb127,5,none⟩) (Kd.R_far (p:=⟨gb127,4,none⟩) (Kd.R_far (p:=⟨gb127,3,none⟩) (Kd.R_far (p:=⟨gb127,2,none⟩) (Kd.R_far (p:=⟨gb127,1,none⟩) (Kd.R_far (p:=⟨gb127,0,none⟩) (Kd.R_mono HO_3.out (fun k_ hk=>(⟨hk,hk.2⟩:_∧k_≠gb127))) (fun _ hk=>hk.2) (.string ((rd_T124 l0 x9_1).f0.f0))) (fun _ hk=>hk.2) (.string ((rd_T124 l0 x9_1).f0.f1))) (fun _ hk=>hk.2) (.string ((rd_T124 l0 x9_1).f0.f2))) (fun _ hk=>hk.2) (.bool ((rd_T124 l0 x9_1).f1))) (fun _ hk=>hk.2) (.string ((rd_T124 l0 x9_1).f2))) (fun _ hk=>hk.2) (.string ((rd_T124 l0 x9_1).f3))) (fun _ hk=>hk.2) (.string ((rd_T124 l0 x9_1).f4))) (fun _ hk=>hk.2) (.string ((rd_T124 l0 x9_1).f5))) (fun _ hk=>hk.2) (.bool ((rd_T124 l0 x9_1).f6))) (fun _ h_=>h_.1))) hb);have n1_:=Zd (blk_below (g:=gb127) (o := .cells #[.string ((rd_T124 l0 x9_1).f0.f0),.string ((rd_T124 l0 x9_1).f0.f1),.string ((rd_T124 l0 x9_1).f0.f2),.bool ((rd_T124 l0 x9_1).f1),.string ((rd_T124 l0 x9_1).f2),.string ((rd_T124 l0 x9_1).f3),.string ((rd_T124 l0 x9_1).f4),.string ((rd_T124 l0 x9_1).f5),.bool ((rd_T124 l0 x9_1).f6)] 124 (0,0)) (by refine Zk ?_;refine blk_put (cs:=#[.string ((rd_T124 l0 x9_1).f0.f0),.string ((rd_T124 l0 x9_1).f0.f1),.string ((rd_T124 l0 x9_1).f0.f2),.bool ((rd_T124 l0 x9_1).f1),.string ((rd_T124 l0 x9_1).f2),.string ((rd_T124 l0 x9_1).f3),.string ((rd_T124 l0 x9_1).f4),.string ((rd_T124 l0 x9_1).f5),.bool false]) ?_ 8 _ rfl;refine Zk ?_;refine blk_put (cs:=#[.string ((rd_T124 l0 x9_1).f0.f0),.string ((rd_T124 l0 x9_1).f0.f1),.string ((rd_T124 l0 x9_1).f0.f2),.bool ((rd_T124 l0 x9_1).f1),.string ((rd_T124 l0 x9_1).f2),.string ((rd_T124 l0 x9_1).f3),.string ((rd_T124 l0 x9_1).f4),.string (⟨#[]⟩:ByteArray),.bool false]) ?_ 7 _ rfl;refine Zk ?_;refine blk_put (cs:=#[.string ((rd_T124 l0 x9_1).f0.f0),.string ((rd_T124 l0 x9_1).f0.f1),.string ((rd_T124 l0 x9_1).f0.f2),.bool ((rd_T124 l0 x9_1).f1),.string ((rd_T124 l0 x9_1).f2),.string ((rd_T124 l0 x9_1).f3),.string (⟨#[]⟩:ByteArray),.string (⟨#[]⟩:ByteArray),.bool false]) ?_ 6 _ rfl;refine Zk ?_;refine blk_put (cs:=#[.string ((rd_T124 l0 x9_1).f0.f0),.string ((rd_T124 l0 x9_1).f0.f1),.string ((rd_T124 l0 x9_1).f0.f2),.bool ((rd_T124 l0 x9_1).f1),.string ((rd_T124 l0 x9_1).f2),.string (⟨#[]⟩:ByteArray),.string (⟨#[]⟩:ByteArray),.string (⟨#[]⟩:ByteArray),.bool false]) ?_ 5 _ rfl;refine Zk ?_;refine blk_put (cs:=#[.string ((rd_T124 l0 x9_1).f0.f0),.string ((rd_T124 l0 x9_1).f0.f1),.string ((rd_T124 l0 x9_1).f0.f2),.bool ((rd_T124 l0 x9_1).f1),.string (⟨#[]⟩:ByteArray),.string (⟨#[]⟩:ByteArray),.string (⟨#[]⟩:ByteArray),.string (⟨#[]⟩:ByteArray),.bool false]) ?_ 4 _ rfl;refine Zk ?_;refine blk_put (cs:=#[.string ((rd_T124 l0 x9_1).f0.f0),.string ((rd_T124 l0 x9_1).f0.f1),.string ((rd_T124 l0 x9_1).f0.f2),.bool false,.string (⟨#[]⟩:ByteArray),.string (⟨#[]⟩:ByteArray),.string (⟨#[]⟩:ByteArray),.string (⟨#[]⟩:ByteArray),.bool false]) ?_ 3 _ rfl;refine Zk ?_;refine blk_put (cs:=#[.string ((rd_T124 l0 x9_1).f0.f0),.string ((rd_T124 l0 x9_1).f0.f1),.string (⟨#[]⟩:ByteArray),.bool false,.string (⟨#[]⟩:ByteArray),.string (⟨#[]⟩:ByteArray),.string (⟨#[]⟩:ByteArray),.string (⟨#[]⟩:ByteArray),.bool false]) ?_ 2 _ rfl;refine Zk ?_;refine blk_put (cs:=#[.string ((rd_T124 l0 x9_1).f0.f0),.string (⟨#[]⟩:ByteArray),.string (⟨#[]⟩:ByteArray),.bool false,.string (⟨#[]⟩:ByteArray),.string (⟨#[]⟩:ByteArray),.string (⟨#[]⟩:ByteArray),.string (⟨#[]⟩:ByteArray),.bool false]) ?_ 1 _ rfl;refine Zk ?_;refine blk_put (cs:=#[.string (⟨#[]⟩:ByteArray),.string (⟨#[]⟩:ByteArray),.string (⟨#[]⟩:ByteArray),.bool false,.string (⟨#[]⟩:ByteArray),.string (⟨#[]⟩:ByteArray),.string (⟨#[]⟩:ByteArray),.string (⟨#[]⟩:ByteArray),.bool false]) ?_ 0 _ rfl;refine Zk ?_;exact BK127.out) hb);have n2_:=Zd (below_step Zb hb);clear HO_3;clear BK127;clear HB;have HO_3:=n0_;have BK127:=n1_;have HB:=n2_;clear n0_ n1_ n2_;(try clear hb);(try clear hb2);(try clear hk);(try clear hi);obtain⟨hcz46_0,hcz46_1,hcz46_2,hcz46_3,hcz46_4,hcz46_5,hcz46_6,hcz46_7,hcz46_8,hfz46_0,hfz46_1,hfz46_2,hfz46_3,hfz46_4,hfz46_5,hfz46_6,hfz46_7,hfz46_8⟩:=Zc9 BK127.out)|((with_reducible refine gate_builtin (b := .append) (xs:=#[.tmp 15,.tmp 17]) rfl ?_);at_builtin;refine Kd.R_append k124 (w0:=w) w.heap.size rfl (.tmp 15) (.tmp 17) 34 124 (.agg #[(.string ⟨#[]⟩),(.string ⟨#[]⟩),(.string ⟨#[]⟩),(.bool false),(.string ⟨#[]⟩),(.string ⟨#[]⟩),(.string ⟨#[]⟩),(.string ⟨#[]⟩),(.bool false)]) 128 rfl Tryz.underlying34 info124 rfl (by decide) (by omega) (.slice Ao44 x3_1.length co44) x3_1 (⟨(⟨(rd_T124 l0 x9_1).f0.f0,(rd_T124 l0 x9_1).f0.f1,(rd_T124 l0 x9_1).f0.f2⟩:S29),(rd_T124 l0 x9_1).f1,(rd_T124 l0 x9_1).f2,(rd_T124 l0 x9_1).f3,(rd_T124 l0 x9_1).f4,(rd_T124 l0 x9_1).f5,(rd_T124 l0 x9_1).f6⟩:S124) [.string ((rd_T124 l0 x9_1).f0.f0),.string ((rd_T124 l0 x9_1).f0.f1),.string ((rd_T124 l0 x9_1).f0.f2),.bool ((rd_T124 l0 x9_1).f1),.string ((rd_T124 l0 x9_1).f2),.string ((rd_T124 l0 x9_1).f3),.string ((rd_T124 l0 x9_1).f4),.string ((rd_T124 l0 x9_1).f5),.bool ((rd_T124 l0 x9_1).f6)] (fun k_=>k_≠gb127) (fun _=>False) rfl rfl ?aP (fun _ hk=>hk.elim) ?aF ?aO ?aB ?aS ?aL ?_;(case aP=>exact k124_mkM _ _ _ (⟨(⟨(rd_T124 l0 x9_1).f0.f0,(rd_T124 l0 x9_1).f0.f1,(rd_T124 l0 x9_1).f0.f2⟩:S29),(rd_T124 l0 x9_1).f1,(rd_T124 l0 x9_1).f2,(rd_T124 l0 x9_1).f3,(rd_T124 l0 x9_1).f4,(rd_T124 l0 x9_1).f5,(rd_T124 l0 x9_1).f6⟩:S124));(case aB=>exact Zb);(case aF=>exact (fun k_ hk=>Kd.freshB (g:=gb127) (o := .cells #[.string ((rd_T124 l0 x9_1).f0.f0),.string ((rd_T124 l0 x9_1).f0.f1),.string ((rd_T124 l0 x9_1).f0.f2),.bool ((rd_T124 l0 x9_1).f1),.string ((rd_T124 l0 x9_1).f2),.string ((rd_T124 l0 x9_1).f3),.string ((rd_T124 l0 x9_1).f4),.string ((rd_T124 l0 x9_1).f5),.bool ((rd_T124 l0 x9_1).f6)] 124 (0,0)) (Zk BK127.out) k_ hk));(case aO=>exact (by refine Zr ?_;exact Kd.R_mono HO_3.out (fun _ hk=>hk.2)));(case aS=>exact (below_size Zb));(case aL=>have:=LMc41.out;omega);intro v140 w47 ho hb hg hat;rw [←Ny139.out] at ho;have n0_:=Zd (blk_grown (g:=gb127) (o := .cells #[.string ((rd_T124 l0 x9_1).f0.f0),.string ((rd_T124 l0 x9_1).f0.f1),.string ((rd_T124 l0 x9_1).f0.f2),.bool ((rd_T124 l0 x9_1).f1),.string ((rd_T124 l0 x9_1).f2),.string ((rd_T124 l0 x9_1).f3),.string ((rd_T124 l0 x9_1).f4),.string ((rd_T124 l0 x9_1).f5),.bool ((rd_T124 l0 x9_1).f6)] 124 (0,0)) (Zk BK127.out) hg (Kd.R_away HO_3.out (fun _ hk=>hk.2)));have n1_:=Zd (hb);have n2_:=Zd (ho);clear BK127;clear HB;clear HO_3;have BK127:=n0_;have HB:=n1_;have HO141:=n2_;clear n0_ n1_ n2_;clear ho hb hg hat))
         go_roundg k1
         case measure=>have:=HK1.out;omega
         case rel=>exact⟨(y139),(wrap64 (x9_1+1)),(by first|rfl|(simp;done)|(simp [*];done)),H',⟨by have:=HK1.out;omega⟩,⟨by refine Zr ?_;exact Kd.R_mono HO141.out (fun _ hk=>trivial)⟩,⟨by repeat (first|(with_reducible first|exact HB.out|apply below_alloc|apply pw_below_drewN|apply below_drew1|refine below_set ?_ GE127.out)|exact HB.out)⟩⟩
        ·rw [if_neg c41] at H
         exact absurd H (by simp)
     ·rw [if_neg c4] at H
      exact absurd H (by simp)
    ·rw [if_neg c3] at H
     exact absurd H (by simp)
   ·rw [if_neg c2] at H
    have c2b0:decide (x9_1<(l0.length:Int))=false:=decide_eq_false c2
    clear c2
    obtain rfl:=Option.some.inj H
    go_wp2
    go_ret
    exact⟨_,by first|rfl|(simp [errW_none,errW_some]<;>rfl)|(simp [*,errW_none,errW_some]<;>rfl),by refine Zr ?_;exact HO_3.out,by repeat (first|(with_reducible first|exact HB.out|apply below_alloc|apply pw_below_drewN|apply below_drew1)|exact HB.out)⟩
end Go.Proofs.YtfiamddinkokbaaGreat.F
