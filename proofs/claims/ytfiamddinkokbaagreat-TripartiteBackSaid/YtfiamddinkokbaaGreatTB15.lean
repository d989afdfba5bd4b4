/- Texts joined into one file (wip/tools/pack.py): Fn29, Fn38, Fn10, Fn9, Fn25, Fn8, Fn7, PureMarkReads, PureMarkLines -/
import Derived.Test.YtfiamddinkokbaaGreatTB2
import Derived.Test.YtfiamddinkokbaaGreatTB1
import Derived.Test.YtfiamddinkokbaaGreatTB14
import Derived.Test.YtfiamddinkokbaaGreatTB9
set_option linter.unusedVariables false
set_option linter.unusedSimpArgs false
section
namespace Go.Proofs.YtfiamddinkokbaaGreat.F
open Go.RowKit Go.Proofs.YtfiamddinkokbaaGreatW.PrintWords Go.Proofs.YtfiamddinkokbaaGreatW.PrintLast Go.Proofs.YtfiamddinkokbaaGreatW.PrintMore
attribute [local go_sem] max2_int min2_int max_two min_two max_three min_three max_four min_four
def tripartitelaw12_labels.f (a0_0 : Int) (a0_1 : Int) (a0_2 : Int) (a0_3 : ByteArray) (a0_4 : ByteArray) (a0_5 : ByteArray) : Option (ByteArray×ByteArray×ByteArray×Bool×ByteArray×ByteArray×ByteArray×ByteArray×Bool) := some (a0_3,a0_4,a0_5,false,(⟨#[]⟩ : ByteArray),(⟨#[]⟩ : ByteArray),(⟨#[]⟩ : ByteArray),(⟨#[]⟩ : ByteArray),false)
set_option maxHeartbeats 8000000 in
set_option maxRecDepth 100000 in
theorem tripartitelaw12_labels.calls (a0_0 : Int) (a0_1 : Int) (a0_2 : Int) (a0_3 : ByteArray) (a0_4 : ByteArray) (a0_5 : ByteArray) (r1 : ByteArray) (r2 : ByteArray) (r3 : ByteArray) (r4 : Bool) (r5 : ByteArray) (r6 : ByteArray) (r7 : ByteArray) (r8 : ByteArray) (r9 : Bool) (w : World) (h : tripartitelaw12_labels.f a0_0 a0_1 a0_2 a0_3 a0_4 a0_5=some (r1,r2,r3,r4,r5,r6,r7,r8,r9)) :
  Calls Tryz.prog 29 #[.agg #[.int .i64 a0_0,.int .i64 a0_1,.int .i64 a0_2,.string a0_3,.string a0_4,.string a0_5]] w fun e w'=>e = .returned (.agg #[.string r1,.string r2,.string r3,.bool r4,.string r5,.string r6,.string r7,.string r8,.bool r9])∧Below w.heap.size w w':=by
 have hu24:=Tryz.underlying24
 have hu60:=Tryz.underlying60
 have HB:=Zd (Below.refl w.heap.size w)
 have H:(some (a0_3,a0_4,a0_5,false,(⟨#[]⟩:ByteArray),(⟨#[]⟩:ByteArray),(⟨#[]⟩:ByteArray),(⟨#[]⟩:ByteArray),false))=some (r1,r2,r3,r4,r5,r6,r7,r8,r9):=h
 clear h
 simp only [Option.some.injEq,Prod.mk.injEq] at H
 obtain⟨rfl,rfl,rfl,rfl,rfl,rfl,rfl,rfl,rfl⟩:=H
 go_enter Tryz.func29,Tryz.ntmps29
 go_wp2_with (first|((with_reducible refine gate_dst (N:=1) rfl ?_);refine box_event ?hg (N:=1) ?hd (cs:=#[.int .i64 a0_0,.int .i64 a0_1,.int .i64 a0_2,.string a0_3,.string a0_4,.string a0_5]) (t:=24) ?hr ?_;(case hd=>rfl);(case hg=>rfl);(case hr=>first|(go_simp;done)|(go_simp;rfl));intro gb223 hg w2 hbox hb;have n0_:=Zd (below_step Zb hb);have n1_:=Zd (hbox);have n2_:=Zd ((Zg hg:w.heap.size≤gb223));have n3_:=Zd ((Zg hg:w.heap.size≤gb223));clear HB;have HB:=n0_;have BK223:=n1_;have GW223:=n2_;have GE223:=n3_;clear n0_ n1_ n2_ n3_;clear hb hbox hg)|((with_reducible refine gate_dst (N:=2) rfl ?_);refine box_event ?hg (N:=2) ?hd (cs:=#[.string (⟨#[]⟩:ByteArray),.string (⟨#[]⟩:ByteArray),.string (⟨#[]⟩:ByteArray),.bool false,.string (⟨#[]⟩:ByteArray),.string (⟨#[]⟩:ByteArray),.string (⟨#[]⟩:ByteArray),.string (⟨#[]⟩:ByteArray),.bool false]) (t:=60) ?hr ?_;(case hd=>rfl);(case hg=>rfl);(case hr=>first|(go_simp;done)|(go_simp;rfl));intro gb224 hg w3 hbox hb;have n0_:=Zd (blk_below (g:=gb223) (o := .cells #[.int .i64 a0_0,.int .i64 a0_1,.int .i64 a0_2,.string a0_3,.string a0_4,.string a0_5] 24 (0,0)) (Zk BK223.out) hb);have n1_:=Zd (below_step Zb hb);have n2_:=Zd (hbox);have n3_:=Zd ((Zg hg:w.heap.size≤gb224));have n4_:=Zd ((Zg hg:w.heap.size≤gb224));have n5_:=Zd ((by rw [hg];exact Nat.ne_of_lt (blk_lt (g:=gb223) (o := .cells #[.int .i64 a0_0,.int .i64 a0_1,.int .i64 a0_2,.string a0_3,.string a0_4,.string a0_5] 24 (0,0)) (Zk BK223.out)):gb223≠gb224));have n6_:=Zd ((by rw [hg];exact Nat.ne_of_gt (blk_lt (g:=gb223) (o := .cells #[.int .i64 a0_0,.int .i64 a0_1,.int .i64 a0_2,.string a0_3,.string a0_4,.string a0_5] 24 (0,0)) (Zk BK223.out)):gb224≠gb223));clear BK223;clear HB;have BK223:=n0_;have HB:=n1_;have BK224:=n2_;have GW224:=n3_;have GE224:=n4_;have NB223_224:=n5_;have NB224_223:=n6_;clear n0_ n1_ n2_ n3_ n4_ n5_ n6_;clear hb hbox hg;have hnb4:=NB223_224.out;have hnc4:=NB224_223.out;obtain⟨hcz5_0,hcz5_1,hcz5_2,hcz5_3,hcz5_4,hcz5_5,hfz5_0,hfz5_1,hfz5_2,hfz5_3,hfz5_4,hfz5_5⟩:=Zc6 BK223.out;obtain⟨hcz6_0,hcz6_1,hcz6_2,hcz6_3,hcz6_4,hcz6_5,hcz6_6,hcz6_7,hcz6_8,hfz6_0,hfz6_1,hfz6_2,hfz6_3,hfz6_4,hfz6_5,hfz6_6,hfz6_7,hfz6_8⟩:=Zc9 BK224.out))
 refine bodyPost_ret (results_cell_row rfl _ _ gb224 60 #[.string a0_3,.string a0_4,.string a0_5,.bool false,.string (⟨#[]⟩:ByteArray),.string (⟨#[]⟩:ByteArray),.string (⟨#[]⟩:ByteArray),.string (⟨#[]⟩:ByteArray),.bool false] (0,0) _ rfl (by refine Zk ?_;refine blk_put (cs:=#[.string a0_3,.string a0_4,.string a0_5,.bool false,.string (⟨#[]⟩:ByteArray),.string (⟨#[]⟩:ByteArray),.string (⟨#[]⟩:ByteArray),.string (⟨#[]⟩:ByteArray),.bool false]) ?_ 8 _ rfl;refine Zk ?_;refine blk_put (cs:=#[.string a0_3,.string a0_4,.string a0_5,.bool false,.string (⟨#[]⟩:ByteArray),.string (⟨#[]⟩:ByteArray),.string (⟨#[]⟩:ByteArray),.string (⟨#[]⟩:ByteArray),.bool false]) ?_ 7 _ rfl;refine Zk ?_;refine blk_put (cs:=#[.string a0_3,.string a0_4,.string a0_5,.bool false,.string (⟨#[]⟩:ByteArray),.string (⟨#[]⟩:ByteArray),.string (⟨#[]⟩:ByteArray),.string (⟨#[]⟩:ByteArray),.bool false]) ?_ 6 _ rfl;refine Zk ?_;refine blk_put (cs:=#[.string a0_3,.string a0_4,.string a0_5,.bool false,.string (⟨#[]⟩:ByteArray),.string (⟨#[]⟩:ByteArray),.string (⟨#[]⟩:ByteArray),.string (⟨#[]⟩:ByteArray),.bool false]) ?_ 5 _ rfl;refine Zk ?_;refine blk_put (cs:=#[.string a0_3,.string a0_4,.string a0_5,.bool false,.string (⟨#[]⟩:ByteArray),.string (⟨#[]⟩:ByteArray),.string (⟨#[]⟩:ByteArray),.string (⟨#[]⟩:ByteArray),.bool false]) ?_ 4 _ rfl;refine Zk ?_;refine blk_put (cs:=#[.string a0_3,.string a0_4,.string a0_5,.bool false,.string (⟨#[]⟩:ByteArray),.string (⟨#[]⟩:ByteArray),.string (⟨#[]⟩:ByteArray),.string (⟨#[]⟩:ByteArray),.bool false]) ?_ 3 _ rfl;refine Zk ?_;refine blk_put (cs:=#[.string a0_3,.string a0_4,.string (⟨#[]⟩:ByteArray),.bool false,.string (⟨#[]⟩:ByteArray),.string (⟨#[]⟩:ByteArray),.string (⟨#[]⟩:ByteArray),.string (⟨#[]⟩:ByteArray),.bool false]) ?_ 2 _ rfl;refine Zk ?_;refine blk_put (cs:=#[.string a0_3,.string (⟨#[]⟩:ByteArray),.string (⟨#[]⟩:ByteArray),.bool false,.string (⟨#[]⟩:ByteArray),.string (⟨#[]⟩:ByteArray),.string (⟨#[]⟩:ByteArray),.string (⟨#[]⟩:ByteArray),.bool false]) ?_ 1 _ rfl;refine Zk ?_;refine blk_put (cs:=#[.string (⟨#[]⟩:ByteArray),.string (⟨#[]⟩:ByteArray),.string (⟨#[]⟩:ByteArray),.bool false,.string (⟨#[]⟩:ByteArray),.string (⟨#[]⟩:ByteArray),.string (⟨#[]⟩:ByteArray),.string (⟨#[]⟩:ByteArray),.bool false]) ?_ 0 _ rfl;refine Zk ?_;exact BK224.out) Tryz.underlying60 rfl (by kernel_rfl)) rfl ?_
 exact⟨by first|rfl|(simp [errW_none,errW_some]<;>rfl)|(simp [*,errW_none,errW_some]<;>rfl),by repeat (first|(with_reducible first|exact HB.out|apply below_alloc|apply pw_below_drewN|apply below_drew1|refine below_set ?_ GE223.out|refine below_set ?_ GE224.out)|exact HB.out)⟩
def tripartitelaw12_bare.l0 : Nat→ByteArray→Int→Option (ByteArray)
 | 0,_,_=>none
 | k+1,x0,x3=>if x3<(x0.size:Int) then (if 0≤x3 then (if (bt x0 x3)=10 then (if x3≤(x0.size:Int) then (some (x0.extract 0 (x3:Int).toNat)) else (none)) else (tripartitelaw12_bare.l0 k x0 (wrap64 (x3+1)))) else (none)) else (some x0)
def tripartitelaw12_bare.f (k : Nat) (a0 : ByteArray) : Option (ByteArray) := tripartitelaw12_bare.l0 k a0 0
theorem tripartitelaw12_bare.mono_l : ∀ k,(∀ y0 y1,LeO (tripartitelaw12_bare.l0 k y0 y1) (tripartitelaw12_bare.l0 (k+1) y0 y1))
 | 0=>fun _ _ r h=>by simp [tripartitelaw12_bare.l0] at h
 | k+1=>by
  have ih0:=tripartitelaw12_bare.mono_l k
  ·intro y0 y1
   unfold tripartitelaw12_bare.l0
   repeat' first
   | (with_reducible exact ih0 _ _)
   | (with_reducible exact LeO.refl _)
   | (with_reducible exact LeO.none _)
   | (with_reducible refine LeO.ite ?_ ?_)
   | (with_reducible refine LeO.bind ?_ (fun _=>?_))
   | exact ih0 _ _
   | exact LeO.none _
   | refine LeO.ite ?_ ?_
   | refine LeO.bind ?_ (fun _=>?_)
theorem tripartitelaw12_bare.mono : ∀ a0 k,LeO (tripartitelaw12_bare.f k a0) (tripartitelaw12_bare.f (k+1) a0) := by
 intro a0 k
 have ih0:=tripartitelaw12_bare.mono_l k
 unfold tripartitelaw12_bare.f
 repeat' first
   | (with_reducible exact ih0 _ _)
   | (with_reducible exact LeO.refl _)
   | (with_reducible exact LeO.none _)
   | (with_reducible refine LeO.ite ?_ ?_)
   | (with_reducible refine LeO.bind ?_ (fun _=>?_))
   | exact ih0 _ _
   | exact LeO.none _
   | refine LeO.ite ?_ ?_
   | refine LeO.bind ?_ (fun _=>?_)
set_option maxHeartbeats 8000000 in
set_option maxRecDepth 100000 in
theorem tripartitelaw12_bare.calls (k : Nat) (a0 : ByteArray) (r : ByteArray) (w : World) (h : tripartitelaw12_bare.f k a0=some r) :
  Calls Tryz.prog 38 #[.string a0] w fun e w'=>e = .returned (.string r)∧Drawn0 w w':=by
 have H:(tripartitelaw12_bare.l0 k a0 0)=some r:=h
 clear h
 have H':=Zd H
 clear H
 go_enter Tryz.func38,Tryz.ntmps38
 go_wp2
 go_loopg [3] k (fun kq v3 w'=>∃ (x3_1:Int),v3 = .int .i64 x3_1∧Aside0 (tripartitelaw12_bare.l0 kq a0 x3_1=some r)∧Aside0 (kq≤k)∧Drawn0 w w')
 case atStart=>exact⟨(0),(by first|rfl|(simp;done)|(simp [*];done)),H',⟨Nat.le_refl _⟩,by repeat (first|exact Drawn0.refl _|apply Drawn0.step)⟩
 case round =>
  clear H'
  obtain⟨x3_1,rfl,HA,HK1,⟨m1,rfl⟩⟩:=hrel
  cases gk with
  | zero=>exact absurd HA.out (by simp [tripartitelaw12_bare.l0])
  | succ k1 =>
   have H:=HA.out
   clear HA
   simp only [tripartitelaw12_bare.l0] at H
   by_cases c2:x3_1<(a0.size:Int)
   ·rw [if_pos c2] at H
    have c2b0:decide (x3_1<(a0.size:Int))=true:=decide_eq_true c2
    clear c2
    by_cases c3:0≤x3_1
    ·rw [if_pos c3] at H
     have c3b0:decide (0≤x3_1)=true:=decide_eq_true c3
     clear c3
     by_cases c5:(bt a0 x3_1)=10
     ·rw [if_pos c5] at H
      have c5b0:((bt a0 x3_1)==10)=true:=beq_iff_eq.mpr c5
      have c5b1:((bt a0 x3_1) != 10)=false:=bne_eq_false_iff_eq.mpr c5
      clear c5
      have c6b0:=eq_true (Zo:0≤x3_1)
      by_cases c7:x3_1≤(a0.size:Int)
      ·rw [if_pos c7] at H
       have c7b0:=eq_true c7
       have c7b1:decide (x3_1≤(a0.size:Int))=true:=decide_eq_true c7
       clear c7
       obtain rfl:=Option.some.inj H
       have p4:0≤(x3_1:Int):=Zo
       have q4:x3_1<(a0.size:Int):=Zo
       have hx4:=bt_at a0 x3_1
       replace p4:=eq_true p4
       replace q4:=eq_true q4
       go_wp2
       go_ret
       exact⟨by first|rfl|(simp;done)|(simp [*];done),by repeat (first|exact Drawn0.refl _|apply Drawn0.step)⟩
      ·rw [if_neg c7] at H
       exact absurd H (by simp)
     ·rw [if_neg c5] at H
      have c5b0:((bt a0 x3_1)==10)=false:=beq_eq_false_iff_ne.mpr c5
      have c5b1:((bt a0 x3_1) != 10)=true:=bne_iff_ne.mpr c5
      have H':=Zd H
      clear H
      have p4:0≤(x3_1:Int):=Zo
      have q4:x3_1<(a0.size:Int):=Zo
      have hx4:=bt_at a0 x3_1
      replace p4:=eq_true p4
      replace q4:=eq_true q4
      go_wp2
      go_roundg k1
      case measure=>have:=HK1.out;omega
      case rel=>exact⟨(wrap64 (x3_1+1)),(by first|rfl|(simp;done)|(simp [*];done)),H',⟨by have:=HK1.out;omega⟩,by repeat (first|exact Drawn0.refl _|apply Drawn0.step)⟩
    ·rw [if_neg c3] at H
     exact absurd H (by simp)
   ·rw [if_neg c2] at H
    have c2b0:decide (x3_1<(a0.size:Int))=false:=decide_eq_false c2
    clear c2
    obtain rfl:=Option.some.inj H
    go_wp2
    go_ret
    exact⟨by first|rfl|(simp;done)|(simp [*];done),by repeat (first|exact Drawn0.refl _|apply Drawn0.step)⟩
def tripartitelaw12_Options.f (k : Nat) (a0_0 : Int) (a0_1 : Int) (a0_2 : Int) (a0_3 : ByteArray) (a0_4 : ByteArray) (a0_5 : ByteArray) : Option (ByteArray×ByteArray×ByteArray×Int×Int×Int) := (tripartitelaw12_labels.f a0_0 a0_1 a0_2 a0_3 a0_4 a0_5).bind fun bt227=>((tripartitelaw12_bare.f k bt227.1).bind fun t237=>((tripartitelaw12_bare.f k bt227.2.1).bind fun t238=>((tripartitelaw12_bare.f k bt227.2.2.1).bind fun t239=>(some (t237,t238,t239,wrap64 (Int.tmod (IntKind.u64.wrap (a0_0)) 3),wrap64 (7+(wrap64 (Int.tmod (IntKind.u64.wrap (a0_1)) 58))),0)))))
theorem tripartitelaw12_Options.mono : ∀ a0 a1 a2 a3 a4 a5 k,LeO (tripartitelaw12_Options.f k a0 a1 a2 a3 a4 a5) (tripartitelaw12_Options.f (k+1) a0 a1 a2 a3 a4 a5) := by
 intro a0 a1 a2 a3 a4 a5 k
 unfold tripartitelaw12_Options.f
 repeat' first
   | (with_reducible exact tripartitelaw12_bare.mono _ _)
   | (with_reducible exact LeO.refl _)
   | (with_reducible exact LeO.none _)
   | (with_reducible refine LeO.ite ?_ ?_)
   | (with_reducible refine LeO.bind ?_ (fun _=>?_))
   | exact tripartitelaw12_bare.mono _ _
   | exact LeO.none _
   | refine LeO.ite ?_ ?_
   | refine LeO.bind ?_ (fun _=>?_)
def tripartitelaw12_Options.T2 : Bool×List (List Nat×List Nat) := (true,[([],[]),([0],[0]),([1],[1]),([],[]),([3],[3]),([4,2],[4]),([],[]),([6],[6]),([7,5],[7]),([0,1,2,3,4,6,7],[]),([9,2,8,0,1,2,3,4,6,7],[2,9]),([0,1,2,3,4,5,6,7,9,10],[]),([11,5,10,0,1,2,3,4,5,6,7,9,10],[5,11]),([0,1,2,3,4,5,6,7,8,9,10,11,12],[]),([13,8,12,0,1,2,3,4,5,6,7,8,9,10,11,12],[8,13])])
def tripartitelaw12_Options.B2 : List Nat := [0,1,3,0,8,31,0,64,255,223,1023,2047,4095,8191,16383]
theorem tripartitelaw12_Options.tab2 : rtab .any (opsOf Tryz.f10 2)=tripartitelaw12_Options.T2 := by kernel_rfl
theorem tripartitelaw12_Options.bits2 : waitsOk tripartitelaw12_Options.T2.2 tripartitelaw12_Options.B2=true := by kernel_rfl
set_option maxHeartbeats 8000000 in
set_option maxRecDepth 100000 in
theorem tripartitelaw12_Options.calls (k : Nat) (a0_0 : Int) (a0_1 : Int) (a0_2 : Int) (a0_3 : ByteArray) (a0_4 : ByteArray) (a0_5 : ByteArray) (r1 : ByteArray) (r2 : ByteArray) (r3 : ByteArray) (r4 : Int) (r5 : Int) (r6 : Int) (w : World) (h : tripartitelaw12_Options.f k a0_0 a0_1 a0_2 a0_3 a0_4 a0_5=some (r1,r2,r3,r4,r5,r6)) :
  Calls Tryz.prog 10 #[.agg #[.int .i64 a0_0,.int .i64 a0_1,.int .i64 a0_2,.string a0_3,.string a0_4,.string a0_5]] w fun e w'=>e = .returned (.agg #[.string r1,.string r2,.string r3,.int .i64 r4,.int .i64 r5,.int .i64 r6])∧Below w.heap.size w w':=by
 have hu24:=Tryz.underlying24
 have hu31:=Tryz.underlying31
 have hu60:=Tryz.underlying60
 have hu29:=Tryz.underlying29
 have HB:=Zd (Below.refl w.heap.size w)
 have H:((tripartitelaw12_labels.f a0_0 a0_1 a0_2 a0_3 a0_4 a0_5).bind fun bt227=>((tripartitelaw12_bare.f k bt227.1).bind fun t237=>((tripartitelaw12_bare.f k bt227.2.1).bind fun t238=>((tripartitelaw12_bare.f k bt227.2.2.1).bind fun t239=>(some (t237,t238,t239,wrap64 (Int.tmod (IntKind.u64.wrap (a0_0)) 3),wrap64 (7+(wrap64 (Int.tmod (IntKind.u64.wrap (a0_1)) 58))),0))))))=some (r1,r2,r3,r4,r5,r6):=h
 clear h
 replace H:=Option.bind_eq_some_iff.mp H
 obtain⟨⟨t227,t228,t229,t230,t231,t232,t233,t234,t235⟩,A20,H⟩:=H
 replace H:((tripartitelaw12_bare.f k t227).bind fun t237=>((tripartitelaw12_bare.f k t228).bind fun t238=>((tripartitelaw12_bare.f k t229).bind fun t239=>(some (t237,t238,t239,wrap64 (Int.tmod (IntKind.u64.wrap (a0_0)) 3),wrap64 (7+(wrap64 (Int.tmod (IntKind.u64.wrap (a0_1)) 58))),0)))))=some (r1,r2,r3,r4,r5,r6):=H
 have A2:=Zd A20
 clear A20
 replace H:=Option.bind_eq_some_iff.mp H
 obtain⟨t237,A30,H⟩:=H
 replace H:((tripartitelaw12_bare.f k t228).bind fun t238=>((tripartitelaw12_bare.f k t229).bind fun t239=>(some (t237,t238,t239,wrap64 (Int.tmod (IntKind.u64.wrap (a0_0)) 3),wrap64 (7+(wrap64 (Int.tmod (IntKind.u64.wrap (a0_1)) 58))),0))))=some (r1,r2,r3,r4,r5,r6):=H
 have A3:=Zd A30
 clear A30
 replace H:=Option.bind_eq_some_iff.mp H
 obtain⟨t238,A40,H⟩:=H
 replace H:((tripartitelaw12_bare.f k t229).bind fun t239=>(some (t237,t238,t239,wrap64 (Int.tmod (IntKind.u64.wrap (a0_0)) 3),wrap64 (7+(wrap64 (Int.tmod (IntKind.u64.wrap (a0_1)) 58))),0)))=some (r1,r2,r3,r4,r5,r6):=H
 have A4:=Zd A40
 clear A40
 replace H:=Option.bind_eq_some_iff.mp H
 obtain⟨t239,A50,H⟩:=H
 replace H:(some (t237,t238,t239,wrap64 (Int.tmod (IntKind.u64.wrap (a0_0)) 3),wrap64 (7+(wrap64 (Int.tmod (IntKind.u64.wrap (a0_1)) 58))),0))=some (r1,r2,r3,r4,r5,r6):=H
 have A5:=Zd A50
 clear A50
 simp only [Option.some.injEq,Prod.mk.injEq] at H
 obtain⟨rfl,rfl,rfl,rfl,rfl,rfl⟩:=H
 go_enter Tryz.func10,Tryz.ntmps10
 try go_wp2_with (first|((with_reducible refine gate_dst (N:=1) rfl ?_);refine box_event ?hg (N:=1) ?hd (cs:=#[.int .i64 a0_0,.int .i64 a0_1,.int .i64 a0_2,.string a0_3,.string a0_4,.string a0_5]) (t:=24) ?hr ?_;(case hd=>rfl);(case hg=>rfl);(case hr=>first|(go_simp;done)|(go_simp;rfl));intro gb225 hg w6 hbox hb;have n0_:=Zd (below_step Zb hb);have n1_:=Zd (hbox);have n2_:=Zd ((Zg hg:w.heap.size≤gb225));have n3_:=Zd ((Zg hg:w.heap.size≤gb225));clear HB;have HB:=n0_;have BK225:=n1_;have GW225:=n2_;have GE225:=n3_;clear n0_ n1_ n2_ n3_;clear hb hbox hg)|((with_reducible refine gate_dst (N:=2) rfl ?_);refine box_event ?hg (N:=2) ?hd (cs:=#[.string (⟨#[]⟩:ByteArray),.string (⟨#[]⟩:ByteArray),.string (⟨#[]⟩:ByteArray),.int .i64 0,.int .i64 0,.int .i64 0]) (t:=31) ?hr ?_;(case hd=>rfl);(case hg=>rfl);(case hr=>first|(go_simp;done)|(go_simp;rfl));intro gb226 hg w7 hbox hb;have n0_:=Zd (blk_below (g:=gb225) (o := .cells #[.int .i64 a0_0,.int .i64 a0_1,.int .i64 a0_2,.string a0_3,.string a0_4,.string a0_5] 24 (0,0)) (Zk BK225.out) hb);have n1_:=Zd (below_step Zb hb);have n2_:=Zd (hbox);have n3_:=Zd ((Zg hg:w.heap.size≤gb226));have n4_:=Zd ((Zg hg:w.heap.size≤gb226));have n5_:=Zd ((by rw [hg];exact Nat.ne_of_lt (blk_lt (g:=gb225) (o := .cells #[.int .i64 a0_0,.int .i64 a0_1,.int .i64 a0_2,.string a0_3,.string a0_4,.string a0_5] 24 (0,0)) (Zk BK225.out)):gb225≠gb226));have n6_:=Zd ((by rw [hg];exact Nat.ne_of_gt (blk_lt (g:=gb225) (o := .cells #[.int .i64 a0_0,.int .i64 a0_1,.int .i64 a0_2,.string a0_3,.string a0_4,.string a0_5] 24 (0,0)) (Zk BK225.out)):gb226≠gb225));clear BK225;clear HB;have BK225:=n0_;have HB:=n1_;have BK226:=n2_;have GW226:=n3_;have GE226:=n4_;have NB225_226:=n5_;have NB226_225:=n6_;clear n0_ n1_ n2_ n3_ n4_ n5_ n6_;clear hb hbox hg;have hnb8:=NB225_226.out;have hnc8:=NB226_225.out;obtain⟨hcz9_0,hcz9_1,hcz9_2,hcz9_3,hcz9_4,hcz9_5,hfz9_0,hfz9_1,hfz9_2,hfz9_3,hfz9_4,hfz9_5⟩:=Zc6 BK225.out)|((with_reducible refine gate_callee (f:=29) rfl ?_);refine goesL_ (some 5) rfl rfl Tryz.func29 (by kernel_rfl) rfl #[.agg #[.int .i64 a0_0,.int .i64 a0_1,.int .i64 a0_2,.string a0_3,.string a0_4,.string a0_5]] rfl Zl ?_;(with_reducible refine (tripartitelaw12_labels.calls a0_0 a0_1 a0_2 a0_3 a0_4 a0_5 t227 t228 t229 t230 t231 t232 t233 t234 t235 _ A2.out).mono ?_);rintro e w10 ⟨rfl,hb⟩;refine⟨_,rfl,?_⟩;have n0_:=Zd (blk_below (g:=gb225) (o := .cells #[.int .i64 a0_0,.int .i64 a0_1,.int .i64 a0_2,.string a0_3,.string a0_4,.string a0_5] 24 (0,0)) (Zk BK225.out) hb);have n1_:=Zd (blk_below (g:=gb226) (o := .cells #[.string (⟨#[]⟩:ByteArray),.string (⟨#[]⟩:ByteArray),.string (⟨#[]⟩:ByteArray),.int .i64 0,.int .i64 0,.int .i64 0] 31 (0,0)) (Zk BK226.out) hb);have n2_:=Zd (below_step Zb hb);clear BK225;clear BK226;clear HB;have BK225:=n0_;have BK226:=n1_;have HB:=n2_;clear n0_ n1_ n2_;(try clear hb);(try clear hb2);(try clear hk);(try clear hi))|((with_reducible refine gate_dst (N:=3) rfl ?_);refine box_event ?hg (N:=3) ?hd (cs:=#[.string (⟨#[]⟩:ByteArray),.string (⟨#[]⟩:ByteArray),.string (⟨#[]⟩:ByteArray),.bool false,.string (⟨#[]⟩:ByteArray),.string (⟨#[]⟩:ByteArray),.string (⟨#[]⟩:ByteArray),.string (⟨#[]⟩:ByteArray),.bool false]) (t:=60) ?hr ?_;(case hd=>rfl);(case hg=>rfl);(case hr=>first|(go_simp;done)|(go_simp;rfl));intro gb236 hg w11 hbox hb;have n0_:=Zd (blk_below (g:=gb225) (o := .cells #[.int .i64 a0_0,.int .i64 a0_1,.int .i64 a0_2,.string a0_3,.string a0_4,.string a0_5] 24 (0,0)) (Zk BK225.out) hb);have n1_:=Zd (blk_below (g:=gb226) (o := .cells #[.string (⟨#[]⟩:ByteArray),.string (⟨#[]⟩:ByteArray),.string (⟨#[]⟩:ByteArray),.int .i64 0,.int .i64 0,.int .i64 0] 31 (0,0)) (Zk BK226.out) hb);have n2_:=Zd (below_step Zb hb);have n3_:=Zd (hbox);have n4_:=Zd ((Zg hg:w.heap.size≤gb236));have n5_:=Zd ((Zg hg:w.heap.size≤gb236));have n6_:=Zd ((by rw [hg];exact Nat.ne_of_lt (blk_lt (g:=gb225) (o := .cells #[.int .i64 a0_0,.int .i64 a0_1,.int .i64 a0_2,.string a0_3,.string a0_4,.string a0_5] 24 (0,0)) (Zk BK225.out)):gb225≠gb236));have n7_:=Zd ((by rw [hg];exact Nat.ne_of_gt (blk_lt (g:=gb225) (o := .cells #[.int .i64 a0_0,.int .i64 a0_1,.int .i64 a0_2,.string a0_3,.string a0_4,.string a0_5] 24 (0,0)) (Zk BK225.out)):gb236≠gb225));have n8_:=Zd ((by rw [hg];exact Nat.ne_of_lt (blk_lt (g:=gb226) (o := .cells #[.string (⟨#[]⟩:ByteArray),.string (⟨#[]⟩:ByteArray),.string (⟨#[]⟩:ByteArray),.int .i64 0,.int .i64 0,.int .i64 0] 31 (0,0)) (Zk BK226.out)):gb226≠gb236));have n9_:=Zd ((by rw [hg];exact Nat.ne_of_gt (blk_lt (g:=gb226) (o := .cells #[.string (⟨#[]⟩:ByteArray),.string (⟨#[]⟩:ByteArray),.string (⟨#[]⟩:ByteArray),.int .i64 0,.int .i64 0,.int .i64 0] 31 (0,0)) (Zk BK226.out)):gb236≠gb226));clear BK225;clear BK226;clear HB;have BK225:=n0_;have BK226:=n1_;have HB:=n2_;have BK236:=n3_;have GW236:=n4_;have GE236:=n5_;have NB225_236:=n6_;have NB236_225:=n7_;have NB226_236:=n8_;have NB236_226:=n9_;clear n0_ n1_ n2_ n3_ n4_ n5_ n6_ n7_ n8_ n9_;clear hb hbox hg;have hnb12:=NB236_225.out;have hnc12:=NB225_236.out;have hnb13:=NB236_226.out;have hnc13:=NB226_236.out;obtain⟨hcz14_0,hcz14_1,hcz14_2,hcz14_3,hcz14_4,hcz14_5,hcz14_6,hcz14_7,hcz14_8,hfz14_0,hfz14_1,hfz14_2,hfz14_3,hfz14_4,hfz14_5,hfz14_6,hfz14_7,hfz14_8⟩:=Zc9 BK236.out))
 have n0_:Aside0 ((((((((((w11.setCell ⟨gb236,0,none⟩ (.string t227)).setCell ⟨gb236,1,none⟩ (.string t228)).setCell ⟨gb236,2,none⟩ (.string t229)).setCell ⟨gb236,3,none⟩ (.bool t230)).setCell ⟨gb236,4,none⟩ (.string t231)).setCell ⟨gb236,5,none⟩ (.string t232)).setCell ⟨gb236,6,none⟩ (.string t233)).setCell ⟨gb236,7,none⟩ (.string t234)).setCell ⟨gb236,8,none⟩ (.bool t235)).heap[gb225]? = some (.cells #[.int .i64 a0_0,.int .i64 a0_1,.int .i64 a0_2,.string a0_3,.string a0_4,.string a0_5] 24 (0,0))):=⟨by refine Zk ?_;refine blk_far ?_ NB225_236.out _;refine Zk ?_;refine blk_far ?_ NB225_236.out _;refine Zk ?_;refine blk_far ?_ NB225_236.out _;refine Zk ?_;refine blk_far ?_ NB225_236.out _;refine Zk ?_;refine blk_far ?_ NB225_236.out _;refine Zk ?_;refine blk_far ?_ NB225_236.out _;refine Zk ?_;refine blk_far ?_ NB225_236.out _;refine Zk ?_;refine blk_far ?_ NB225_236.out _;refine Zk ?_;refine blk_far ?_ NB225_236.out _;refine Zk ?_;exact BK225.out⟩
 have n1_:Aside0 ((((((((((w11.setCell ⟨gb236,0,none⟩ (.string t227)).setCell ⟨gb236,1,none⟩ (.string t228)).setCell ⟨gb236,2,none⟩ (.string t229)).setCell ⟨gb236,3,none⟩ (.bool t230)).setCell ⟨gb236,4,none⟩ (.string t231)).setCell ⟨gb236,5,none⟩ (.string t232)).setCell ⟨gb236,6,none⟩ (.string t233)).setCell ⟨gb236,7,none⟩ (.string t234)).setCell ⟨gb236,8,none⟩ (.bool t235)).heap[gb226]? = some (.cells #[.string (⟨#[]⟩:ByteArray),.string (⟨#[]⟩:ByteArray),.string (⟨#[]⟩:ByteArray),.int .i64 0,.int .i64 0,.int .i64 0] 31 (0,0))):=⟨by refine Zk ?_;refine blk_far ?_ NB226_236.out _;refine Zk ?_;refine blk_far ?_ NB226_236.out _;refine Zk ?_;refine blk_far ?_ NB226_236.out _;refine Zk ?_;refine blk_far ?_ NB226_236.out _;refine Zk ?_;refine blk_far ?_ NB226_236.out _;refine Zk ?_;refine blk_far ?_ NB226_236.out _;refine Zk ?_;refine blk_far ?_ NB226_236.out _;refine Zk ?_;refine blk_far ?_ NB226_236.out _;refine Zk ?_;refine blk_far ?_ NB226_236.out _;refine Zk ?_;exact BK226.out⟩
 have n2_:Aside0 ((((((((((w11.setCell ⟨gb236,0,none⟩ (.string t227)).setCell ⟨gb236,1,none⟩ (.string t228)).setCell ⟨gb236,2,none⟩ (.string t229)).setCell ⟨gb236,3,none⟩ (.bool t230)).setCell ⟨gb236,4,none⟩ (.string t231)).setCell ⟨gb236,5,none⟩ (.string t232)).setCell ⟨gb236,6,none⟩ (.string t233)).setCell ⟨gb236,7,none⟩ (.string t234)).setCell ⟨gb236,8,none⟩ (.bool t235)).heap[gb236]? = some (.cells #[.string t227,.string t228,.string t229,.bool t230,.string t231,.string t232,.string t233,.string t234,.bool t235] 60 (0,0))):=⟨by refine Zk ?_;refine blk_put (cs:=#[.string t227,.string t228,.string t229,.bool t230,.string t231,.string t232,.string t233,.string t234,.bool false]) ?_ 8 _ rfl;refine Zk ?_;refine blk_put (cs:=#[.string t227,.string t228,.string t229,.bool t230,.string t231,.string t232,.string t233,.string (⟨#[]⟩:ByteArray),.bool false]) ?_ 7 _ rfl;refine Zk ?_;refine blk_put (cs:=#[.string t227,.string t228,.string t229,.bool t230,.string t231,.string t232,.string (⟨#[]⟩:ByteArray),.string (⟨#[]⟩:ByteArray),.bool false]) ?_ 6 _ rfl;refine Zk ?_;refine blk_put (cs:=#[.string t227,.string t228,.string t229,.bool t230,.string t231,.string (⟨#[]⟩:ByteArray),.string (⟨#[]⟩:ByteArray),.string (⟨#[]⟩:ByteArray),.bool false]) ?_ 5 _ rfl;refine Zk ?_;refine blk_put (cs:=#[.string t227,.string t228,.string t229,.bool t230,.string (⟨#[]⟩:ByteArray),.string (⟨#[]⟩:ByteArray),.string (⟨#[]⟩:ByteArray),.string (⟨#[]⟩:ByteArray),.bool false]) ?_ 4 _ rfl;refine Zk ?_;refine blk_put (cs:=#[.string t227,.string t228,.string t229,.bool false,.string (⟨#[]⟩:ByteArray),.string (⟨#[]⟩:ByteArray),.string (⟨#[]⟩:ByteArray),.string (⟨#[]⟩:ByteArray),.bool false]) ?_ 3 _ rfl;refine Zk ?_;refine blk_put (cs:=#[.string t227,.string t228,.string (⟨#[]⟩:ByteArray),.bool false,.string (⟨#[]⟩:ByteArray),.string (⟨#[]⟩:ByteArray),.string (⟨#[]⟩:ByteArray),.string (⟨#[]⟩:ByteArray),.bool false]) ?_ 2 _ rfl;refine Zk ?_;refine blk_put (cs:=#[.string t227,.string (⟨#[]⟩:ByteArray),.string (⟨#[]⟩:ByteArray),.bool false,.string (⟨#[]⟩:ByteArray),.string (⟨#[]⟩:ByteArray),.string (⟨#[]⟩:ByteArray),.string (⟨#[]⟩:ByteArray),.bool false]) ?_ 1 _ rfl;refine Zk ?_;refine blk_put (cs:=#[.string (⟨#[]⟩:ByteArray),.string (⟨#[]⟩:ByteArray),.string (⟨#[]⟩:ByteArray),.bool false,.string (⟨#[]⟩:ByteArray),.string (⟨#[]⟩:ByteArray),.string (⟨#[]⟩:ByteArray),.string (⟨#[]⟩:ByteArray),.bool false]) ?_ 0 _ rfl;refine Zk ?_;exact BK236.out⟩
 have n3_:Aside0 (Below w.heap.size w (((((((((w11.setCell ⟨gb236,0,none⟩ (.string t227)).setCell ⟨gb236,1,none⟩ (.string t228)).setCell ⟨gb236,2,none⟩ (.string t229)).setCell ⟨gb236,3,none⟩ (.bool t230)).setCell ⟨gb236,4,none⟩ (.string t231)).setCell ⟨gb236,5,none⟩ (.string t232)).setCell ⟨gb236,6,none⟩ (.string t233)).setCell ⟨gb236,7,none⟩ (.string t234)).setCell ⟨gb236,8,none⟩ (.bool t235))):=⟨by repeat (first|(with_reducible first|exact HB.out|apply below_alloc|apply pw_below_drewN|apply below_drew1|refine below_set ?_ GE225.out|refine below_set ?_ GE226.out|refine below_set ?_ GE236.out)|exact HB.out)⟩
 (try clear BK225)
 (try clear BK226)
 (try clear BK236)
 (try clear HB)
 generalize (((((((((w11.setCell ⟨gb236,0,none⟩ (.string t227)).setCell ⟨gb236,1,none⟩ (.string t228)).setCell ⟨gb236,2,none⟩ (.string t229)).setCell ⟨gb236,3,none⟩ (.bool t230)).setCell ⟨gb236,4,none⟩ (.string t231)).setCell ⟨gb236,5,none⟩ (.string t232)).setCell ⟨gb236,6,none⟩ (.string t233)).setCell ⟨gb236,7,none⟩ (.string t234)).setCell ⟨gb236,8,none⟩ (.bool t235))=w15 at n0_ n1_ n2_ n3_ ⊢
 have BK225:=n0_
 have BK226:=n1_
 have BK236:=n2_
 have HB:=n3_
 clear n0_ n1_ n2_ n3_
 have n0_:=Zd (blk_drew BK225.out)
 have n1_:=Zd (blk_drew BK226.out)
 have n2_:=Zd (blk_drew BK236.out)
 have n3_:=Zd (below_drew1 HB.out)
 clear BK225
 clear BK226
 clear BK236
 clear HB
 have BK225:=n0_
 have BK226:=n1_
 have BK236:=n2_
 have HB:=n3_
 clear n0_ n1_ n2_ n3_
 refine start_ (n:=15) (S:=fun w'=>w'.cell? ⟨gb236,0,none⟩=some (.string t227)∧w'.cell? ⟨gb236,1,none⟩=some (.string t228)∧w'.cell? ⟨gb236,2,none⟩=some (.string t229)∧w'.cell? ⟨gb236,3,none⟩=some (.bool t230)∧w'.cell? ⟨gb236,4,none⟩=some (.string t231)∧w'.cell? ⟨gb236,5,none⟩=some (.string t232)∧w'.cell? ⟨gb236,6,none⟩=some (.string t233)∧w'.cell? ⟨gb236,7,none⟩=some (.string t234)∧w'.cell? ⟨gb236,8,none⟩=some (.bool t235)) (ds:=[10,12,14]) #[false,false,false,false,false,false,false,false,false,false,false,false,false,false,false] (by kernel_rfl) rfl rfl ⟨(blk_cell BK236.out 0).trans rfl,(blk_cell BK236.out 1).trans rfl,(blk_cell BK236.out 2).trans rfl,(blk_cell BK236.out 3).trans rfl,(blk_cell BK236.out 4).trans rfl,(blk_cell BK236.out 5).trans rfl,(blk_cell BK236.out 6).trans rfl,(blk_cell BK236.out 7).trans rfl,(blk_cell BK236.out 8).trans rfl⟩ (fun hHeld=>?_);refine with_tabW tripartitelaw12_Options.tab2 tripartitelaw12_Options.bits2 (fun HT_ HW_=>?_)
 generalize w15.drew=w16 at BK225 BK226 BK236 HB hHeld ⊢
 refine pure_ (i:=0) (N:=some 6) (v:=?_) (a':=?_) #[true,false,false,false,false,false,false,false,false,false,false,false,false,false,false] rfl rfl (any_of HT_.out (by kernel_rfl)) (fun _ _ _ h=>h) (Or.inl ⟨by rfl,?_⟩) ?_ ?_
 rotate_left
 ·intro w'
  go_simp
  with_reducible rfl
 rotate_left
 ·simp only [Act.put,List.setIfInBounds_toArray,List.set_cons_zero,List.set_cons_succ,i64_w,i32_w]
  rfl
 refine pure_ (i:=3) (N:=some 9) (v:=?_) (a':=?_) #[true,false,false,true,false,false,false,false,false,false,false,false,false,false,false] rfl rfl (any_of HT_.out (by kernel_rfl)) (fun _ _ _ h=>h) (Or.inl ⟨by rfl,?_⟩) ?_ ?_
 rotate_left
 ·intro w'
  go_simp
  with_reducible rfl
 rotate_left
 ·simp only [Act.put,List.setIfInBounds_toArray,List.set_cons_zero,List.set_cons_succ,i64_w,i32_w]
  rfl
 refine pure_ (i:=6) (N:=some 12) (v:=?_) (a':=?_) #[true,false,false,true,false,false,true,false,false,false,false,false,false,false,false] rfl rfl (any_of HT_.out (by kernel_rfl)) (fun _ _ _ h=>h) (Or.inl ⟨by rfl,?_⟩) ?_ ?_
 rotate_left
 ·intro w'
  go_simp
  with_reducible rfl
 rotate_left
 ·simp only [Act.put,List.setIfInBounds_toArray,List.set_cons_zero,List.set_cons_succ,i64_w,i32_w]
  rfl
 refine take_ (i:=1) (N:=some 7) (v:=?_) (a':=?_) #[true,true,false,true,false,false,true,false,false,false,false,false,false,false,false] rfl rfl (take_ofW HT_.out HW_.out (by kernel_rfl)) (fun _ _ _ h=>h) (Or.inl ⟨by rfl,?_⟩) hHeld ?_ ?_
 rotate_left
 ·rintro w' ⟨s0,s1,s2,s3,s4,s5,s6,s7,s8⟩
  go_simp
  with_reducible rfl
 rotate_left
 ·simp only [Act.put,List.setIfInBounds_toArray,List.set_cons_zero,List.set_cons_succ,i64_w,i32_w]
  rfl
 refine take_ (i:=4) (N:=some 10) (v:=?_) (a':=?_) #[true,true,false,true,true,false,true,false,false,false,false,false,false,false,false] rfl rfl (take_ofW HT_.out HW_.out (by kernel_rfl)) (fun _ _ _ h=>h) (Or.inl ⟨by rfl,?_⟩) hHeld ?_ ?_
 rotate_left
 ·rintro w' ⟨s0,s1,s2,s3,s4,s5,s6,s7,s8⟩
  go_simp
  with_reducible rfl
 rotate_left
 ·simp only [Act.put,List.setIfInBounds_toArray,List.set_cons_zero,List.set_cons_succ,i64_w,i32_w]
  rfl
 refine take_ (i:=7) (N:=some 13) (v:=?_) (a':=?_) #[true,true,false,true,true,false,true,true,false,false,false,false,false,false,false] rfl rfl (take_ofW HT_.out HW_.out (by kernel_rfl)) (fun _ _ _ h=>h) (Or.inl ⟨by rfl,?_⟩) hHeld ?_ ?_
 rotate_left
 ·rintro w' ⟨s0,s1,s2,s3,s4,s5,s6,s7,s8⟩
  go_simp
  with_reducible rfl
 rotate_left
 ·simp only [Act.put,List.setIfInBounds_toArray,List.set_cons_zero,List.set_cons_succ,i64_w,i32_w]
  rfl
 refine one_ (i:=2) (N:=some 8) #[true,true,true,true,true,false,true,true,false,false,false,false,false,false,false] rfl rfl (one_of HT_.out (by kernel_rfl)) (by decide) (fun K hK=>?_)
 refine goes_ Tryz.func38 (by kernel_rfl) rfl #[.string t227] (by rfl) rfl rfl Zl ?_
 with_reducible refine (tripartitelaw12_bare.calls k t227 t237 _ A3.out).mono ?_
 rintro e w' ⟨rfl,⟨nd,rfl⟩⟩
 refine⟨_,rfl,?_⟩
 refine hK.out _ _ ⟨(blk_cell BK236.out 0).trans rfl,(blk_cell BK236.out 1).trans rfl,(blk_cell BK236.out 2).trans rfl,(blk_cell BK236.out 3).trans rfl,(blk_cell BK236.out 4).trans rfl,(blk_cell BK236.out 5).trans rfl,(blk_cell BK236.out 6).trans rfl,(blk_cell BK236.out 7).trans rfl,(blk_cell BK236.out 8).trans rfl⟩ (fun hHeld=>?_)
 clear hK K
 refine norm_ (a':=?_) ?_ ?_
 rotate_left
 ·show Act.put _ (some 8) _=_
  simp only [Act.put,List.setIfInBounds_toArray,List.set_cons_zero,List.set_cons_succ,i64_w,i32_w]
  rfl
 refine pure_ (i:=9) (N:=some 15) (v:=?_) (a':=?_) #[true,true,true,true,true,false,true,true,false,true,false,false,false,false,false] rfl rfl (any_of HT_.out (by kernel_rfl)) (fun _ _ _ h=>h) (Or.inl ⟨by rfl,?_⟩) ?_ ?_
 rotate_left
 ·intro w'
  go_simp
  with_reducible rfl
 rotate_left
 ·simp only [Act.put,List.setIfInBounds_toArray,List.set_cons_zero,List.set_cons_succ,i64_w,i32_w]
  rfl
 refine one_ (i:=5) (N:=some 11) #[true,true,true,true,true,true,true,true,false,true,false,false,false,false,false] rfl rfl (one_of HT_.out (by kernel_rfl)) (by decide) (fun K hK=>?_)
 refine goes_ Tryz.func38 (by kernel_rfl) rfl #[.string t228] (by rfl) rfl rfl Zl ?_
 with_reducible refine (tripartitelaw12_bare.calls k t228 t238 _ A4.out).mono ?_
 rintro e w' ⟨rfl,⟨nd,rfl⟩⟩
 refine⟨_,rfl,?_⟩
 refine hK.out _ _ ⟨(blk_cell BK236.out 0).trans rfl,(blk_cell BK236.out 1).trans rfl,(blk_cell BK236.out 2).trans rfl,(blk_cell BK236.out 3).trans rfl,(blk_cell BK236.out 4).trans rfl,(blk_cell BK236.out 5).trans rfl,(blk_cell BK236.out 6).trans rfl,(blk_cell BK236.out 7).trans rfl,(blk_cell BK236.out 8).trans rfl⟩ (fun hHeld=>?_)
 clear hK K
 refine norm_ (a':=?_) ?_ ?_
 rotate_left
 ·show Act.put _ (some 11) _=_
  simp only [Act.put,List.setIfInBounds_toArray,List.set_cons_zero,List.set_cons_succ,i64_w,i32_w]
  rfl
 refine one_ (i:=8) (N:=some 14) #[true,true,true,true,true,true,true,true,true,true,false,false,false,false,false] rfl rfl (one_of HT_.out (by kernel_rfl)) (by decide) (fun K hK=>?_)
 refine goes_ Tryz.func38 (by kernel_rfl) rfl #[.string t229] (by rfl) rfl rfl Zl ?_
 with_reducible refine (tripartitelaw12_bare.calls k t229 t239 _ A5.out).mono ?_
 rintro e w' ⟨rfl,⟨nd,rfl⟩⟩
 refine⟨_,rfl,?_⟩
 refine hK.out _ _ ⟨(blk_cell BK236.out 0).trans rfl,(blk_cell BK236.out 1).trans rfl,(blk_cell BK236.out 2).trans rfl,(blk_cell BK236.out 3).trans rfl,(blk_cell BK236.out 4).trans rfl,(blk_cell BK236.out 5).trans rfl,(blk_cell BK236.out 6).trans rfl,(blk_cell BK236.out 7).trans rfl,(blk_cell BK236.out 8).trans rfl⟩ (fun hHeld=>?_)
 clear hK K
 refine norm_ (a':=?_) ?_ ?_
 rotate_left
 ·show Act.put _ (some 14) _=_
  simp only [Act.put,List.setIfInBounds_toArray,List.set_cons_zero,List.set_cons_succ,i64_w,i32_w]
  rfl
 refine last_ (i:=10) (N:=none) #[true,true,true,true,true,true,true,true,true,true,true,false,false,false,false] rfl rfl (one_of HT_.out (by kernel_rfl)) (by decide) (fun K hK=>?_)
 have hs17:w16.cell? ⟨gb236,0,none⟩=some (.string t227):=(blk_cell BK236.out 0).trans rfl
 have hfs17:=blk_frozen BK236.out 0
 have hns17_0:=NB225_236.out
 have hns17_1:=NB226_236.out
 have hms17_0:=NB236_225.out
 have hms17_1:=NB236_226.out
 refine skip_ (w1:=?_) (by rfl) rfl ?_ ?_
 rotate_left
 ·go_simp
  rfl
 refine hK.out _ _ ?_
 clear hK K
 refine pure_ (i:=11) (N:=some 16) (v:=?_) (a':=?_) #[true,true,true,true,true,true,true,true,true,true,true,true,false,false,false] rfl rfl (any_of HT_.out (by kernel_rfl)) (fun _ _ _ h=>h) (Or.inl ⟨by rfl,?_⟩) ?_ ?_
 rotate_left
 ·intro w'
  go_simp
  with_reducible rfl
 rotate_left
 ·simp only [Act.put,List.setIfInBounds_toArray,List.set_cons_zero,List.set_cons_succ,i64_w,i32_w]
  rfl
 refine last_ (i:=12) (N:=none) #[true,true,true,true,true,true,true,true,true,true,true,true,true,false,false] rfl rfl (one_of HT_.out (by kernel_rfl)) (by decide) (fun K hK=>?_)
 have hs18:w16.cell? ⟨gb236,1,none⟩=some (.string t228):=(blk_cell BK236.out 1).trans rfl
 have hfs18:=blk_frozen BK236.out 1
 have hns18_0:=NB225_236.out
 have hns18_1:=NB226_236.out
 have hms18_0:=NB236_225.out
 have hms18_1:=NB236_226.out
 refine skip_ (w1:=?_) (by rfl) rfl ?_ ?_
 rotate_left
 ·go_simp
  rfl
 refine hK.out _ _ ?_
 clear hK K
 refine pure_ (i:=13) (N:=some 17) (v:=?_) (a':=?_) #[true,true,true,true,true,true,true,true,true,true,true,true,true,true,false] rfl rfl (any_of HT_.out (by kernel_rfl)) (fun _ _ _ h=>h) (Or.inl ⟨by rfl,?_⟩) ?_ ?_
 rotate_left
 ·intro w'
  go_simp
  with_reducible rfl
 rotate_left
 ·simp only [Act.put,List.setIfInBounds_toArray,List.set_cons_zero,List.set_cons_succ,i64_w,i32_w]
  rfl
 refine last_ (i:=14) (N:=none) #[true,true,true,true,true,true,true,true,true,true,true,true,true,true,true] rfl rfl (one_of HT_.out (by kernel_rfl)) (by decide) (fun K hK=>?_)
 have hs19:w16.cell? ⟨gb236,2,none⟩=some (.string t229):=(blk_cell BK236.out 2).trans rfl
 have hfs19:=blk_frozen BK236.out 2
 have hns19_0:=NB225_236.out
 have hns19_1:=NB226_236.out
 have hms19_0:=NB236_225.out
 have hms19_1:=NB236_226.out
 refine skip_ (w1:=?_) (by rfl) rfl ?_ ?_
 rotate_left
 ·go_simp
  rfl
 refine hK.out _ _ ?_
 clear hK K
 refine done_ (done_of HT_.out (by kernel_rfl)) ?_
 have hcz20_0:w16.cell? ⟨gb236,0,none⟩=some (.string t227):=(blk_cell BK236.out 0).trans rfl
 have hcz20_1:w16.cell? ⟨gb236,1,none⟩=some (.string t228):=(blk_cell BK236.out 1).trans rfl
 have hcz20_2:w16.cell? ⟨gb236,2,none⟩=some (.string t229):=(blk_cell BK236.out 2).trans rfl
 have hcz20_3:w16.cell? ⟨gb236,3,none⟩=some (.bool t230):=(blk_cell BK236.out 3).trans rfl
 have hcz20_4:w16.cell? ⟨gb236,4,none⟩=some (.string t231):=(blk_cell BK236.out 4).trans rfl
 have hcz20_5:w16.cell? ⟨gb236,5,none⟩=some (.string t232):=(blk_cell BK236.out 5).trans rfl
 have hcz20_6:w16.cell? ⟨gb236,6,none⟩=some (.string t233):=(blk_cell BK236.out 6).trans rfl
 have hcz20_7:w16.cell? ⟨gb236,7,none⟩=some (.string t234):=(blk_cell BK236.out 7).trans rfl
 have hcz20_8:w16.cell? ⟨gb236,8,none⟩=some (.bool t235):=(blk_cell BK236.out 8).trans rfl
 have hfz20_0:=blk_frozen BK236.out 0
 have hfz20_1:=blk_frozen BK236.out 1
 have hfz20_2:=blk_frozen BK236.out 2
 have hfz20_3:=blk_frozen BK236.out 3
 have hfz20_4:=blk_frozen BK236.out 4
 have hfz20_5:=blk_frozen BK236.out 5
 have hfz20_6:=blk_frozen BK236.out 6
 have hfz20_7:=blk_frozen BK236.out 7
 have hfz20_8:=blk_frozen BK236.out 8
 have hcz21_0:w16.cell? ⟨gb225,0,none⟩=some (.int .i64 a0_0):=(blk_cell BK225.out 0).trans rfl
 have hcz21_1:w16.cell? ⟨gb225,1,none⟩=some (.int .i64 a0_1):=(blk_cell BK225.out 1).trans rfl
 have hcz21_2:w16.cell? ⟨gb225,2,none⟩=some (.int .i64 a0_2):=(blk_cell BK225.out 2).trans rfl
 have hcz21_3:w16.cell? ⟨gb225,3,none⟩=some (.string a0_3):=(blk_cell BK225.out 3).trans rfl
 have hcz21_4:w16.cell? ⟨gb225,4,none⟩=some (.string a0_4):=(blk_cell BK225.out 4).trans rfl
 have hcz21_5:w16.cell? ⟨gb225,5,none⟩=some (.string a0_5):=(blk_cell BK225.out 5).trans rfl
 have hfz21_0:=blk_frozen BK225.out 0
 have hfz21_1:=blk_frozen BK225.out 1
 have hfz21_2:=blk_frozen BK225.out 2
 have hfz21_3:=blk_frozen BK225.out 3
 have hfz21_4:=blk_frozen BK225.out 4
 have hfz21_5:=blk_frozen BK225.out 5
 have hcz22_0:w16.cell? ⟨gb226,0,none⟩=some (.string (⟨#[]⟩:ByteArray)):=(blk_cell BK226.out 0).trans rfl
 have hcz22_1:w16.cell? ⟨gb226,1,none⟩=some (.string (⟨#[]⟩:ByteArray)):=(blk_cell BK226.out 1).trans rfl
 have hcz22_2:w16.cell? ⟨gb226,2,none⟩=some (.string (⟨#[]⟩:ByteArray)):=(blk_cell BK226.out 2).trans rfl
 have hcz22_3:w16.cell? ⟨gb226,3,none⟩=some (.int .i64 0):=(blk_cell BK226.out 3).trans rfl
 have hcz22_4:w16.cell? ⟨gb226,4,none⟩=some (.int .i64 0):=(blk_cell BK226.out 4).trans rfl
 have hcz22_5:w16.cell? ⟨gb226,5,none⟩=some (.int .i64 0):=(blk_cell BK226.out 5).trans rfl
 have hfz22_0:=blk_frozen BK226.out 0
 have hfz22_1:=blk_frozen BK226.out 1
 have hfz22_2:=blk_frozen BK226.out 2
 have hfz22_3:=blk_frozen BK226.out 3
 have hfz22_4:=blk_frozen BK226.out 4
 have hfz22_5:=blk_frozen BK226.out 5
 try go_wp2
 refine bodyPost_ret (results_cell_row rfl _ _ gb226 31 #[.string t237,.string t238,.string t239,.int .i64 (wrap64 (Int.tmod (IntKind.u64.wrap (a0_0)) 3)),.int .i64 (wrap64 (7+(wrap64 (Int.tmod (IntKind.u64.wrap (a0_1)) 58)))),.int .i64 0] (0,0) _ rfl (by refine Zk ?_;refine blk_put (cs:=#[.string t237,.string t238,.string t239,.int .i64 (wrap64 (Int.tmod (IntKind.u64.wrap (a0_0)) 3)),.int .i64 (wrap64 (7+(wrap64 (Int.tmod (IntKind.u64.wrap (a0_1)) 58)))),.int .i64 0]) ?_ 5 _ rfl;refine Zk ?_;refine blk_put (cs:=#[.string t237,.string t238,.string t239,.int .i64 (wrap64 (Int.tmod (IntKind.u64.wrap (a0_0)) 3)),.int .i64 0,.int .i64 0]) ?_ 4 _ rfl;refine Zk ?_;refine blk_put (cs:=#[.string t237,.string t238,.string t239,.int .i64 0,.int .i64 0,.int .i64 0]) ?_ 3 _ rfl;refine Zk ?_;refine blk_put (cs:=#[.string t237,.string t238,.string (⟨#[]⟩:ByteArray),.int .i64 0,.int .i64 0,.int .i64 0]) ?_ 2 _ rfl;refine Zk ?_;refine blk_put (cs:=#[.string t237,.string (⟨#[]⟩:ByteArray),.string (⟨#[]⟩:ByteArray),.int .i64 0,.int .i64 0,.int .i64 0]) ?_ 1 _ rfl;refine Zk ?_;refine blk_put (cs:=#[.string (⟨#[]⟩:ByteArray),.string (⟨#[]⟩:ByteArray),.string (⟨#[]⟩:ByteArray),.int .i64 0,.int .i64 0,.int .i64 0]) ?_ 0 _ rfl;refine Zk ?_;refine blk_far ?_ NB226_236.out _;refine Zk ?_;refine blk_far ?_ NB226_236.out _;refine Zk ?_;refine blk_far ?_ NB226_236.out _;refine Zk ?_;exact BK226.out) Tryz.underlying31 rfl (by kernel_rfl)) rfl ?_
 exact⟨by first|rfl|(simp [errW_none,errW_some]<;>rfl)|(simp [*,errW_none,errW_some]<;>rfl),by repeat (first|(with_reducible first|exact HB.out|apply below_alloc|apply pw_below_drewN|apply below_drew1|refine below_set ?_ GE225.out|refine below_set ?_ GE226.out|refine below_set ?_ GE236.out)|exact HB.out)⟩
def tripartitelaw12_Short.f (a0 : ByteArray) : Option (ByteArray) := if 0≤(mn (a0.size : Int) 250) then (if (mn (a0.size : Int) 250)≤(a0.size : Int) then (some (a0.extract 0 ((mn (a0.size : Int) 250) : Int).toNat)) else (none)) else (none)
set_option maxHeartbeats 8000000 in
set_option maxRecDepth 100000 in
theorem tripartitelaw12_Short.calls (a0 : ByteArray) (r : ByteArray) (w : World) (h : tripartitelaw12_Short.f a0=some r) :
  Calls Tryz.prog 9 #[.string a0] w fun e w'=>e = .returned (.string r)∧Below w.heap.size w w':=by
 have HB:=Zd (Below.refl w.heap.size w)
 have H:(if 0≤(mn (a0.size:Int) 250) then (if (mn (a0.size:Int) 250)≤(a0.size:Int) then (some (a0.extract 0 ((mn (a0.size:Int) 250):Int).toNat)) else (none)) else (none))=some r:=h
 clear h
 obtain⟨ji2,hji2⟩:∃ j_:Int,(mn (a0.size:Int) 250)=j_:=⟨_,rfl⟩
 replace H:(if 0≤(ji2) then (if (ji2)≤(a0.size:Int) then (some (a0.extract 0 ((ji2):Int).toNat)) else (none)) else (none))=some r:=by first|(rw [hji2] at H;exact H)|(simp only [hji2] at H ⊢;exact H)
 (try (have hji2h:ji2≤250:=by (rw [←hji2];unfold mn;(repeat' split)<;>omega)))
 (try (have hji2g:ji2≤64:=by omega))
 (try (have hji2l:0≤ji2:=by (rw [←hji2];unfold mn;(repeat' split)<;>omega)))
 (try (have hji2m:0≤ji2:=by omega))
 have hji2_:(if 250<(a0.size:Int) then 250 else (a0.size:Int))=ji2:=hji2
 by_cases c3:0≤(ji2)
 ·rw [if_pos c3] at H
  have c3b0:=eq_true c3
  have c3b1:decide (0≤(ji2))=true:=decide_eq_true c3
  clear c3
  by_cases c4:(ji2)≤(a0.size:Int)
  ·rw [if_pos c4] at H
   have c4b0:=eq_true c4
   have c4b1:decide ((ji2)≤(a0.size:Int))=true:=decide_eq_true c4
   clear c4
   obtain rfl:=Option.some.inj H
   go_enter Tryz.func9,Tryz.ntmps9
   go_wp2
   go_ret
   exact⟨by first|rfl|(simp [errW_none,errW_some]<;>rfl)|(simp only [←hji2];first|rfl|(simp [errW_none,errW_some]<;>rfl))|(simp [*,errW_none,errW_some]<;>rfl),by repeat (first|(with_reducible first|exact HB.out|apply below_alloc|apply pw_below_drewN|apply below_drew1)|exact HB.out)⟩
  ·rw [if_neg c4] at H
   exact absurd H (by simp)
 ·rw [if_neg c3] at H
  exact absurd H (by simp)
def tripartitelaw12_few.f (a0_0 : Int) (a0_1 : Int) (a0_2 : Int) (a0_3 : ByteArray) (a0_4 : ByteArray) (a0_5 : ByteArray) : Option (Bool) := some (decide ((wrap64 ((wrap64 ((a0_3.size : Int)+(a0_4.size : Int)))+(a0_5.size : Int)))≤500))
set_option maxHeartbeats 8000000 in
set_option maxRecDepth 100000 in
theorem tripartitelaw12_few.calls (a0_0 : Int) (a0_1 : Int) (a0_2 : Int) (a0_3 : ByteArray) (a0_4 : ByteArray) (a0_5 : ByteArray) (r : Bool) (w : World) (h : tripartitelaw12_few.f a0_0 a0_1 a0_2 a0_3 a0_4 a0_5=some r) :
  Calls Tryz.prog 25 #[.agg #[.int .i64 a0_0,.int .i64 a0_1,.int .i64 a0_2,.string a0_3,.string a0_4,.string a0_5]] w fun e w'=>e = .returned (.bool r)∧Below w.heap.size w w':=by
 have hu24:=Tryz.underlying24
 have HB:=Zd (Below.refl w.heap.size w)
 have H:(some (decide ((wrap64 ((wrap64 ((a0_3.size:Int)+(a0_4.size:Int)))+(a0_5.size:Int)))≤500)))=some r:=h
 clear h
 obtain rfl:=Option.some.inj H
 go_enter Tryz.func25,Tryz.ntmps25
 go_wp2_with (first|((with_reducible refine gate_dst (N:=1) rfl ?_);refine box_event ?hg (N:=1) ?hd (cs:=#[.int .i64 a0_0,.int .i64 a0_1,.int .i64 a0_2,.string a0_3,.string a0_4,.string a0_5]) (t:=24) ?hr ?_;(case hd=>rfl);(case hg=>rfl);(case hr=>first|(go_simp;done)|(go_simp;rfl));intro gb532 hg w2 hbox hb;have n0_:=Zd (below_step Zb hb);have n1_:=Zd (hbox);have n2_:=Zd ((Zg hg:w.heap.size≤gb532));have n3_:=Zd ((Zg hg:w.heap.size≤gb532));clear HB;have HB:=n0_;have BK532:=n1_;have GW532:=n2_;have GE532:=n3_;clear n0_ n1_ n2_ n3_;clear hb hbox hg;obtain⟨hcz3_0,hcz3_1,hcz3_2,hcz3_3,hcz3_4,hcz3_5,hfz3_0,hfz3_1,hfz3_2,hfz3_3,hfz3_4,hfz3_5⟩:=Zc6 BK532.out))
 go_ret
 exact⟨by first|rfl|(simp [errW_none,errW_some]<;>rfl)|(simp [*,errW_none,errW_some]<;>rfl),by repeat (first|(with_reducible first|exact HB.out|apply below_alloc|apply pw_below_drewN|apply below_drew1|refine below_set ?_ GE532.out)|exact HB.out)⟩
def tripartitetop_alive.f (k : Nat)  : Option (Bool) := (merge_Default.f).bind fun bt200=>((merge_Texts.f k (⟨#[97,10]⟩ : ByteArray) (⟨#[98,10]⟩ : ByteArray) (⟨#[99,10]⟩ : ByteArray) bt200.1 bt200.2.1 bt200.2.2.1 bt200.2.2.2.1 bt200.2.2.2.2.1 bt200.2.2.2.2.2).bind fun bt206=>(if bt206.2.2.2.2.2.2.2=0 then (if bt206.2.2.2.2.2.2.1=1 then (some ((bt206.2.2.2.2.1.size : Int)==28)) else (some false)) else (some false)))
theorem tripartitetop_alive.mono : ∀ k,LeO (tripartitetop_alive.f k ) (tripartitetop_alive.f (k+1) ) := by
 intro  k
 unfold tripartitetop_alive.f
 repeat' first
   | (with_reducible exact merge_Texts.mono _ _ _ _ _ _ _ _ _ _)
   | (with_reducible exact LeO.refl _)
   | (with_reducible exact LeO.none _)
   | (with_reducible refine LeO.ite ?_ ?_)
   | (with_reducible refine LeO.bind ?_ (fun _=>?_))
   | exact merge_Texts.mono _ _ _ _ _ _ _ _ _ _
   | exact LeO.none _
   | refine LeO.ite ?_ ?_
   | refine LeO.bind ?_ (fun _=>?_)
set_option maxHeartbeats 8000000 in
set_option maxRecDepth 100000 in
theorem tripartitetop_alive.calls (k : Nat)  (r : Bool) (w : World) (h : tripartitetop_alive.f k  = some r) :
  Calls Tryz.prog 8 #[] w fun e w'=>e = .returned (.bool r)∧Below w.heap.size w w':=by
 have hu38:=Tryz.underlying38
 have HB:=Zd (Below.refl w.heap.size w)
 have H:((merge_Default.f).bind fun bt200=>((merge_Texts.f k (⟨#[97,10]⟩:ByteArray) (⟨#[98,10]⟩:ByteArray) (⟨#[99,10]⟩:ByteArray) bt200.1 bt200.2.1 bt200.2.2.1 bt200.2.2.2.1 bt200.2.2.2.2.1 bt200.2.2.2.2.2).bind fun bt206=>(if bt206.2.2.2.2.2.2.2=0 then (if bt206.2.2.2.2.2.2.1=1 then (some ((bt206.2.2.2.2.1.size:Int)==28)) else (some false)) else (some false))))=some r:=h
 clear h
 replace H:=Option.bind_eq_some_iff.mp H
 obtain⟨⟨t200,t201,t202,t203,t204,t205⟩,A10,H⟩:=H
 replace H:((merge_Texts.f k (⟨#[97,10]⟩:ByteArray) (⟨#[98,10]⟩:ByteArray) (⟨#[99,10]⟩:ByteArray) t200 t201 t202 t203 t204 t205).bind fun bt206=>(if bt206.2.2.2.2.2.2.2=0 then (if bt206.2.2.2.2.2.2.1=1 then (some ((bt206.2.2.2.2.1.size:Int)==28)) else (some false)) else (some false)))=some r:=H
 have A1:=Zd A10
 clear A10
 replace H:=Option.bind_eq_some_iff.mp H
 obtain⟨⟨t206,t209,t212,t215,t218,t219,t220,t221⟩,A20,H⟩:=H
 replace H:(if t221=0 then (if t220=1 then (some ((t218.size:Int)==28)) else (some false)) else (some false))=some r:=H
 have A2:=Zd A20
 clear A20
 by_cases c3:t221=0
 ·rw [if_pos c3] at H
  have c3b0:(t221==0)=true:=beq_iff_eq.mpr c3
  have c3b1:(t221 != 0)=false:=bne_eq_false_iff_eq.mpr c3
  clear c3
  by_cases c4:t220=1
  ·rw [if_pos c4] at H
   have c4b0:(t220==1)=true:=beq_iff_eq.mpr c4
   have c4b1:(t220 != 1)=false:=bne_eq_false_iff_eq.mpr c4
   clear c4
   obtain rfl:=Option.some.inj H
   go_enter Tryz.func8,Tryz.ntmps8
   go_wp2_with (first|((with_reducible refine gate_callee (f:=37) rfl ?_);refine goesL_ (some 4) rfl rfl Tryz.func37 (by kernel_rfl) rfl #[] rfl Zl ?_;(with_reducible refine (merge_Default.calls  t200 t201 t202 t203 t204 t205 _ A1.out).mono ?_);rintro e w5 ⟨rfl,hb⟩;refine⟨_,rfl,?_⟩;have n0_:=Zd (below_step Zb hb);clear HB;have HB:=n0_;clear n0_;(try clear hb);(try clear hb2);(try clear hk);(try clear hi))|((with_reducible refine gate_callee (f:=11) rfl ?_);refine goesL_ (some 5) rfl rfl Tryz.func11 (by kernel_rfl) rfl #[.string (⟨#[97,10]⟩:ByteArray),.string (⟨#[98,10]⟩:ByteArray),.string (⟨#[99,10]⟩:ByteArray),.agg #[.string t200,.string t201,.string t202,.int .i64 t203,.int .i64 t204,.int .i64 t205]] rfl Zl ?_;(with_reducible refine (merge_Texts.calls k (⟨#[97,10]⟩:ByteArray) (⟨#[98,10]⟩:ByteArray) (⟨#[99,10]⟩:ByteArray) t200 t201 t202 t203 t204 t205 t206 t209 t212 t215 t218 t219 t220 t221 _ A2.out).mono ?_);rintro e w6 ⟨v207,v210,v213,v216,rfl,ho0,ho1,ho2,ho3,hb⟩;refine⟨_,rfl,?_⟩;have n0_:=Zd (Kd.R_lower ho0 (below_size Zb));have n1_:=Zd (Kd.R_lower ho1 (below_size Zb));have n2_:=Zd (Kd.R_lower ho2 (below_size Zb));have n3_:=Zd (Kd.R_lower ho3 (below_size Zb));have n4_:=Zd (below_step Zb hb);clear HB;have HO208:=n0_;have HO211:=n1_;have HO214:=n2_;have HO217:=n3_;have HB:=n4_;clear n0_ n1_ n2_ n3_ n4_;(try clear hb);(try clear hb2);(try clear hk);(try clear hi);(try clear ho0);(try clear ho1);(try clear ho2);(try clear ho3))|((with_reducible refine gate_dst (N:=1) rfl ?_);(try (refine gate_guard (by rfl) ?_;dsimp only));refine box_event ?hg (N:=1) ?hd (cs:=#[.slice none 0 0,.slice none 0 0,.slice none 0 0,.slice none 0 0,.string (⟨#[]⟩:ByteArray),.int .i64 0,.int .i64 0]) (t:=38) ?hr ?_;(case hd=>rfl);(case hg=>rfl);(case hr=>first|(go_simp;done)|(go_simp;rfl));intro gb222 hg w7 hbox hb;have n0_:=Zd (Kd.R_below (Zr HO208.out) hb);have n1_:=Zd (Kd.R_below (Zr HO211.out) hb);have n2_:=Zd (Kd.R_below (Zr HO214.out) hb);have n3_:=Zd (Kd.R_below (Zr HO217.out) hb);have n4_:=Zd (below_step Zb hb);have n5_:=Zd (hbox);have n6_:=Zd ((Zg hg:w.heap.size≤gb222));have n7_:=Zd ((Zg hg:w.heap.size≤gb222));clear HO208;clear HO211;clear HO214;clear HO217;clear HB;have HO208:=n0_;have HO211:=n1_;have HO214:=n2_;have HO217:=n3_;have HB:=n4_;have BK222:=n5_;have GW222:=n6_;have GE222:=n7_;clear n0_ n1_ n2_ n3_ n4_ n5_ n6_ n7_;clear hb hbox hg;obtain⟨Ao8,co8,eo8⟩:=Kd.R_slice HO208.out;subst eo8;obtain⟨hcz9_0,hcz9_1,hcz9_2,hcz9_3,hcz9_4,hcz9_5,hcz9_6,hfz9_0,hfz9_1,hfz9_2,hfz9_3,hfz9_4,hfz9_5,hfz9_6⟩:=Zc7 BK222.out;obtain⟨Ao10,co10,eo10⟩:=Kd.R_slice HO211.out;subst eo10;obtain⟨Ao11,co11,eo11⟩:=Kd.R_slice HO214.out;subst eo11;obtain⟨Ao12,co12,eo12⟩:=Kd.R_slice HO217.out;subst eo12))
   go_ret
   exact⟨by first|rfl|(simp [errW_none,errW_some]<;>rfl)|(simp [*,errW_none,errW_some]<;>rfl),by repeat (first|(with_reducible first|exact HB.out|apply below_alloc|apply pw_below_drewN|apply below_drew1|refine below_set ?_ GE222.out)|exact HB.out)⟩
  ·rw [if_neg c4] at H
   have c4b0:(t220==1)=false:=beq_eq_false_iff_ne.mpr c4
   have c4b1:(t220 != 1)=true:=bne_iff_ne.mpr c4
   obtain rfl:=Option.some.inj H
   go_enter Tryz.func8,Tryz.ntmps8
   go_wp2_with (first|((with_reducible refine gate_callee (f:=37) rfl ?_);refine goesL_ (some 4) rfl rfl Tryz.func37 (by kernel_rfl) rfl #[] rfl Zl ?_;(with_reducible refine (merge_Default.calls  t200 t201 t202 t203 t204 t205 _ A1.out).mono ?_);rintro e w13 ⟨rfl,hb⟩;refine⟨_,rfl,?_⟩;have n0_:=Zd (below_step Zb hb);clear HB;have HB:=n0_;clear n0_;(try clear hb);(try clear hb2);(try clear hk);(try clear hi))|((with_reducible refine gate_callee (f:=11) rfl ?_);refine goesL_ (some 5) rfl rfl Tryz.func11 (by kernel_rfl) rfl #[.string (⟨#[97,10]⟩:ByteArray),.string (⟨#[98,10]⟩:ByteArray),.string (⟨#[99,10]⟩:ByteArray),.agg #[.string t200,.string t201,.string t202,.int .i64 t203,.int .i64 t204,.int .i64 t205]] rfl Zl ?_;(with_reducible refine (merge_Texts.calls k (⟨#[97,10]⟩:ByteArray) (⟨#[98,10]⟩:ByteArray) (⟨#[99,10]⟩:ByteArray) t200 t201 t202 t203 t204 t205 t206 t209 t212 t215 t218 t219 t220 t221 _ A2.out).mono ?_);rintro e w14 ⟨v207,v210,v213,v216,rfl,ho0,ho1,ho2,ho3,hb⟩;refine⟨_,rfl,?_⟩;have n0_:=Zd (Kd.R_lower ho0 (below_size Zb));have n1_:=Zd (Kd.R_lower ho1 (below_size Zb));have n2_:=Zd (Kd.R_lower ho2 (below_size Zb));have n3_:=Zd (Kd.R_lower ho3 (below_size Zb));have n4_:=Zd (below_step Zb hb);clear HB;have HO208:=n0_;have HO211:=n1_;have HO214:=n2_;have HO217:=n3_;have HB:=n4_;clear n0_ n1_ n2_ n3_ n4_;(try clear hb);(try clear hb2);(try clear hk);(try clear hi);(try clear ho0);(try clear ho1);(try clear ho2);(try clear ho3))|((with_reducible refine gate_dst (N:=1) rfl ?_);(try (refine gate_guard (by rfl) ?_;dsimp only));refine box_event ?hg (N:=1) ?hd (cs:=#[.slice none 0 0,.slice none 0 0,.slice none 0 0,.slice none 0 0,.string (⟨#[]⟩:ByteArray),.int .i64 0,.int .i64 0]) (t:=38) ?hr ?_;(case hd=>rfl);(case hg=>rfl);(case hr=>first|(go_simp;done)|(go_simp;rfl));intro gb222 hg w15 hbox hb;have n0_:=Zd (Kd.R_below (Zr HO208.out) hb);have n1_:=Zd (Kd.R_below (Zr HO211.out) hb);have n2_:=Zd (Kd.R_below (Zr HO214.out) hb);have n3_:=Zd (Kd.R_below (Zr HO217.out) hb);have n4_:=Zd (below_step Zb hb);have n5_:=Zd (hbox);have n6_:=Zd ((Zg hg:w.heap.size≤gb222));have n7_:=Zd ((Zg hg:w.heap.size≤gb222));clear HO208;clear HO211;clear HO214;clear HO217;clear HB;have HO208:=n0_;have HO211:=n1_;have HO214:=n2_;have HO217:=n3_;have HB:=n4_;have BK222:=n5_;have GW222:=n6_;have GE222:=n7_;clear n0_ n1_ n2_ n3_ n4_ n5_ n6_ n7_;clear hb hbox hg;obtain⟨Ao16,co16,eo16⟩:=Kd.R_slice HO208.out;subst eo16;obtain⟨hcz17_0,hcz17_1,hcz17_2,hcz17_3,hcz17_4,hcz17_5,hcz17_6,hfz17_0,hfz17_1,hfz17_2,hfz17_3,hfz17_4,hfz17_5,hfz17_6⟩:=Zc7 BK222.out;obtain⟨Ao18,co18,eo18⟩:=Kd.R_slice HO211.out;subst eo18;obtain⟨Ao19,co19,eo19⟩:=Kd.R_slice HO214.out;subst eo19;obtain⟨Ao20,co20,eo20⟩:=Kd.R_slice HO217.out;subst eo20))
   go_ret
   exact⟨by first|rfl|(simp [errW_none,errW_some]<;>rfl)|(simp [*,errW_none,errW_some]<;>rfl),by repeat (first|(with_reducible first|exact HB.out|apply below_alloc|apply pw_below_drewN|apply below_drew1|refine below_set ?_ GE222.out)|exact HB.out)⟩
 ·rw [if_neg c3] at H
  have c3b0:(t221==0)=false:=beq_eq_false_iff_ne.mpr c3
  have c3b1:(t221 != 0)=true:=bne_iff_ne.mpr c3
  obtain rfl:=Option.some.inj H
  go_enter Tryz.func8,Tryz.ntmps8
  go_wp2_with (first|((with_reducible refine gate_callee (f:=37) rfl ?_);refine goesL_ (some 4) rfl rfl Tryz.func37 (by kernel_rfl) rfl #[] rfl Zl ?_;(with_reducible refine (merge_Default.calls  t200 t201 t202 t203 t204 t205 _ A1.out).mono ?_);rintro e w21 ⟨rfl,hb⟩;refine⟨_,rfl,?_⟩;have n0_:=Zd (below_step Zb hb);clear HB;have HB:=n0_;clear n0_;(try clear hb);(try clear hb2);(try clear hk);(try clear hi))|((with_reducible refine gate_callee (f:=11) rfl ?_);refine goesL_ (some 5) rfl rfl Tryz.func11 (by kernel_rfl) rfl #[.string (⟨#[97,10]⟩:ByteArray),.string (⟨#[98,10]⟩:ByteArray),.string (⟨#[99,10]⟩:ByteArray),.agg #[.string t200,.string t201,.string t202,.int .i64 t203,.int .i64 t204,.int .i64 t205]] rfl Zl ?_;(with_reducible refine (merge_Texts.calls k (⟨#[97,10]⟩:ByteArray) (⟨#[98,10]⟩:ByteArray) (⟨#[99,10]⟩:ByteArray) t200 t201 t202 t203 t204 t205 t206 t209 t212 t215 t218 t219 t220 t221 _ A2.out).mono ?_);rintro e w22 ⟨v207,v210,v213,v216,rfl,ho0,ho1,ho2,ho3,hb⟩;refine⟨_,rfl,?_⟩;have n0_:=Zd (Kd.R_lower ho0 (below_size Zb));have n1_:=Zd (Kd.R_lower ho1 (below_size Zb));have n2_:=Zd (Kd.R_lower ho2 (below_size Zb));have n3_:=Zd (Kd.R_lower ho3 (below_size Zb));have n4_:=Zd (below_step Zb hb);clear HB;have HO208:=n0_;have HO211:=n1_;have HO214:=n2_;have HO217:=n3_;have HB:=n4_;clear n0_ n1_ n2_ n3_ n4_;(try clear hb);(try clear hb2);(try clear hk);(try clear hi);(try clear ho0);(try clear ho1);(try clear ho2);(try clear ho3))|((with_reducible refine gate_dst (N:=1) rfl ?_);(try (refine gate_guard (by rfl) ?_;dsimp only));refine box_event ?hg (N:=1) ?hd (cs:=#[.slice none 0 0,.slice none 0 0,.slice none 0 0,.slice none 0 0,.string (⟨#[]⟩:ByteArray),.int .i64 0,.int .i64 0]) (t:=38) ?hr ?_;(case hd=>rfl);(case hg=>rfl);(case hr=>first|(go_simp;done)|(go_simp;rfl));intro gb222 hg w23 hbox hb;have n0_:=Zd (Kd.R_below (Zr HO208.out) hb);have n1_:=Zd (Kd.R_below (Zr HO211.out) hb);have n2_:=Zd (Kd.R_below (Zr HO214.out) hb);have n3_:=Zd (Kd.R_below (Zr HO217.out) hb);have n4_:=Zd (below_step Zb hb);have n5_:=Zd (hbox);have n6_:=Zd ((Zg hg:w.heap.size≤gb222));have n7_:=Zd ((Zg hg:w.heap.size≤gb222));clear HO208;clear HO211;clear HO214;clear HO217;clear HB;have HO208:=n0_;have HO211:=n1_;have HO214:=n2_;have HO217:=n3_;have HB:=n4_;have BK222:=n5_;have GW222:=n6_;have GE222:=n7_;clear n0_ n1_ n2_ n3_ n4_ n5_ n6_ n7_;clear hb hbox hg;obtain⟨Ao24,co24,eo24⟩:=Kd.R_slice HO208.out;subst eo24;obtain⟨hcz25_0,hcz25_1,hcz25_2,hcz25_3,hcz25_4,hcz25_5,hcz25_6,hfz25_0,hfz25_1,hfz25_2,hfz25_3,hfz25_4,hfz25_5,hfz25_6⟩:=Zc7 BK222.out;obtain⟨Ao26,co26,eo26⟩:=Kd.R_slice HO211.out;subst eo26;obtain⟨Ao27,co27,eo27⟩:=Kd.R_slice HO214.out;subst eo27;obtain⟨Ao28,co28,eo28⟩:=Kd.R_slice HO217.out;subst eo28))
  go_ret
  exact⟨by first|rfl|(simp [errW_none,errW_some]<;>rfl)|(simp [*,errW_none,errW_some]<;>rfl),by repeat (first|(with_reducible first|exact HB.out|apply below_alloc|apply pw_below_drewN|apply below_drew1|refine below_set ?_ GE222.out)|exact HB.out)⟩
def tripartitetop_fits.f (a0_0 : Int) (a0_1 : Int) (a0_2 : Int) (a0_3 : ByteArray) (a0_4 : ByteArray) (a0_5 : ByteArray) : Option (Bool) := some (decide ((wrap64 ((wrap64 ((a0_3.size : Int)+(a0_4.size : Int)))+(a0_5.size : Int)))≤500))
set_option maxHeartbeats 8000000 in
set_option maxRecDepth 100000 in
theorem tripartitetop_fits.calls (a0_0 : Int) (a0_1 : Int) (a0_2 : Int) (a0_3 : ByteArray) (a0_4 : ByteArray) (a0_5 : ByteArray) (r : Bool) (w : World) (h : tripartitetop_fits.f a0_0 a0_1 a0_2 a0_3 a0_4 a0_5=some r) :
  Calls Tryz.prog 7 #[.agg #[.int .i64 a0_0,.int .i64 a0_1,.int .i64 a0_2,.string a0_3,.string a0_4,.string a0_5]] w fun e w'=>e = .returned (.bool r)∧Below w.heap.size w w':=by
 have hu24:=Tryz.underlying24
 have HB:=Zd (Below.refl w.heap.size w)
 have H:(some (decide ((wrap64 ((wrap64 ((a0_3.size:Int)+(a0_4.size:Int)))+(a0_5.size:Int)))≤500)))=some r:=h
 clear h
 obtain rfl:=Option.some.inj H
 go_enter Tryz.func7,Tryz.ntmps7
 go_wp2_with (first|((with_reducible refine gate_dst (N:=1) rfl ?_);refine box_event ?hg (N:=1) ?hd (cs:=#[.int .i64 a0_0,.int .i64 a0_1,.int .i64 a0_2,.string a0_3,.string a0_4,.string a0_5]) (t:=24) ?hr ?_;(case hd=>rfl);(case hg=>rfl);(case hr=>first|(go_simp;done)|(go_simp;rfl));intro gb101 hg w2 hbox hb;have n0_:=Zd (below_step Zb hb);have n1_:=Zd (hbox);have n2_:=Zd ((Zg hg:w.heap.size≤gb101));have n3_:=Zd ((Zg hg:w.heap.size≤gb101));clear HB;have HB:=n0_;have BK101:=n1_;have GW101:=n2_;have GE101:=n3_;clear n0_ n1_ n2_ n3_;clear hb hbox hg;obtain⟨hcz3_0,hcz3_1,hcz3_2,hcz3_3,hcz3_4,hcz3_5,hfz3_0,hfz3_1,hfz3_2,hfz3_3,hfz3_4,hfz3_5⟩:=Zc6 BK101.out))
 go_ret
 exact⟨by first|rfl|(simp [errW_none,errW_some]<;>rfl)|(simp [*,errW_none,errW_some]<;>rfl),by repeat (first|(with_reducible first|exact HB.out|apply below_alloc|apply pw_below_drewN|apply below_drew1|refine below_set ?_ GE101.out)|exact HB.out)⟩
end Go.Proofs.YtfiamddinkokbaaGreat.F
end

section
namespace Go.Proofs.YtfiamddinkokbaaGreat.F
open Go.RowKit Go.Proofs.YtfiamddinkokbaaGreatW.PrintWords Go.Proofs.YtfiamddinkokbaaGreatW.PrintLast Go.Proofs.YtfiamddinkokbaaGreatW.PrintMore
end Go.Proofs.YtfiamddinkokbaaGreat.F
namespace Go.Proofs.YtfiamddinkokbaaGreat
end Go.Proofs.YtfiamddinkokbaaGreat
end

section
namespace Go.Proofs.YtfiamddinkokbaaGreat.F
open Go.RowKit Go.Proofs.YtfiamddinkokbaaGreatW.PrintWords Go.Proofs.YtfiamddinkokbaaGreatW.PrintLast Go.Proofs.YtfiamddinkokbaaGreatW.PrintMore
theorem cut_rep (c : UInt8) (t : List UInt8) (ht : cutL c t=t) : ∀ n,cutL c (List.replicate n c++t)=t
 | 0=>ht
 | n+1=>by
  rw [List.replicate_succ]
  show (c::(List.replicate n c++t)).dropWhile (fun x=>x==c)=t
  rw [List.dropWhile_cons_of_pos (by simp)]
  exact cut_rep c t ht n
theorem tail_cut (c : UInt8) (hs : isSign c=true) (fl : Bool) (lb : List UInt8) : cutL c (tailM fl lb)=tailM fl lb := by
 unfold isSign at hs
 simp only [Bool.or_eq_true,beq_iff_eq] at hs
 rcases hs with ((h|h)|h)|h<;>subst h<;>cases fl<;>cases lb<;>rfl
theorem run_mark (c : UInt8) (hs : isSign c=true) (fl : Bool) (lb : List UInt8) (n : Nat) (hn : 1≤n) : runL (markL c fl lb n)=n := by
 obtain⟨m,rfl⟩:∃ m,n=m+1:=⟨n-1,by omega⟩
 have e0:markL c fl lb (m+1)=c::(List.replicate m c++tailM fl lb):=rfl
 rw [e0];unfold runL;simp only
 rw [if_pos hs]
 have e:cutL c (c::(List.replicate m c++tailM fl lb))=tailM fl lb:=cut_rep c _ (tail_cut c hs fl lb) (m+1)
 rw [e];simp only [List.length_cons,List.length_append,List.length_replicate];omega
theorem may_isSign (c : UInt8) (fl : Bool) (lb : ByteArray) (h : mayB (c.toNat : Int) fl lb=true) : isSign c=true := by
 unfold mayB at h
 simp only [Bool.and_eq_true] at h
 have h1:=h.1
 by_cases hc:c.toNat<128
 ·have:=sign_small ⟨c.toNat,hc⟩
  simp only [UInt8.ofNat_toNat] at this
  rw [this];exact h1
 ·exfalso
  unfold signI at h1
  simp only [Bool.or_eq_true,beq_iff_eq] at h1
  omega
theorem read_back (c : UInt8) (fl : Bool) (lb : List UInt8) (w v : Int) (h1 : 1≤w) (hm : mayB (c.toNat : Int) fl (toB lb)=true) (v1 : 1≤v) (v2 : v≤1073741824) :
  readA (toB (markL c fl lb w.toNat)) v=(if v<w then (0,false,⟨#[]⟩,false,6) else if v>w then (0,false,⟨#[]⟩,false,0) else ((c.toNat:Int),fl,toB lb,true,0)):=by
 have hs:=may_isSign c fl _ hm
 have hrun:runI (toB (markL c fl lb w.toNat))=w:=by
  unfold runI;rw [data_toB,run_mark c hs fl lb w.toNat (by omega)];omega
 unfold readA
 rw [if_pos ⟨v1,v2⟩,hrun,data_toB]
 by_cases hv:w<v
 ·rw [if_pos hv,if_neg (by omega),if_pos (by omega)]
 ·rw [if_neg hv]
  obtain⟨m,hm'⟩:∃ m,w.toNat=m+1:=⟨w.toNat-1,by omega⟩
  have e0:markL c fl lb w.toNat=c::(List.replicate m c++tailM fl lb):=by rw [hm'];rfl
  rw [e0]
  show readS c (candA ((c::(List.replicate m c++tailM fl lb)).drop v.toNat)) (c::(List.replicate m c++tailM fl lb)) v.toNat=_
  rw [←e0]
  by_cases he:v=w
  ·subst he
   have:(markL c fl lb v.toNat).drop v.toNat=tailM fl lb:=by
    show (List.replicate v.toNat c++tailM fl lb).drop v.toNat=_
    rw [List.drop_append_of_le_length (by simp),List.drop_of_length_le (by simp),List.nil_append]
   rw [this,candA_tail,readS_pos hm rfl,if_neg (by omega),if_neg (by omega)]
  ·rw [if_pos (by omega)]
   have key:∀ x:Bool×List UInt8,readS c x (markL c fl lb w.toNat) v.toNat=(0,false,⟨#[]⟩,false,6):=by
    intro x
    refine if_neg ?_
    rintro⟨_,h⟩
    have a:=run_mark c hs x.1 x.2 v.toNat (by omega)
    rw [h,run_mark c hs fl lb w.toNat (by omega)] at a
    omega
   exact key _
end Go.Proofs.YtfiamddinkokbaaGreat.F
end
