/- Texts joined into one file (wip/tools/pack.py): Fn59 -/
import Derived.Test.YtfiamddinkokbaaTA3
import Derived.Test.YtfiamddinkokbaaTA33
set_option linter.unusedVariables false
set_option linter.unusedSimpArgs false
namespace Go.Proofs.Ytfiamddinkokbaa.F
open Go.RowKit Go.Proofs.YtfiamddinkokbaaW.PrintWords Go.Proofs.YtfiamddinkokbaaW.PrintLast Go.Proofs.YtfiamddinkokbaaW.PrintMore
attribute [local go_sem] max2_int min2_int max_two min_two max_three min_three max_four min_four
def tripartitelaw12_Options.f (k : Nat) (a0_0 : Int) (a0_1 : Int) (a0_2 : Int) (a0_3 : ByteArray) (a0_4 : ByteArray) (a0_5 : ByteArray) : Option (ByteArray×ByteArray×ByteArray×Int×Int×Int) := (tripartitelaw12_labels.f a0_0 a0_1 a0_2 a0_3 a0_4 a0_5).bind fun bt582=>((tripartitelaw12_bare.f k bt582.1).bind fun t592=>((tripartitelaw12_bare.f k bt582.2.1).bind fun t593=>((tripartitelaw12_bare.f k bt582.2.2.1).bind fun t594=>(some (t592,t593,t594,wrap64 (Int.tmod (IntKind.u64.wrap (a0_0)) 3),wrap64 (7+(wrap64 (Int.tmod (IntKind.u64.wrap (a0_1)) 58))),0)))))
theorem tripartitelaw12_Options.mono : ∀ a0 a1 a2 a3 a4 a5 k,LeO (tripartitelaw12_Options.f k a0 a1 a2 a3 a4 a5) (tripartitelaw12_Options.f (k+1) a0 a1 a2 a3 a4 a5) := by
 intro a0 a1 a2 a3 a4 a5 k
 unfold tripartitelaw12_Options.f
 repeat' first
   | (with_reducible exact tripartitelaw12_bare.mono _ _)
   | (with_reducible exact LeO.refl _)
   | (with_reducible exact LeO.none _)
   | (with_reducible refine LeO.ite ?_ ?_)
   | (with_reducible refine LeO.bind ?_ (fun _=>?_))
   | exact tripartitelaw12_bare.mono _ _
   | exact LeO.none _
   | refine LeO.ite ?_ ?_
   | refine LeO.bind ?_ (fun _=>?_)
def tripartitelaw12_Options.T2 : Bool×List (List Nat×List Nat) := (true,[([],[]),([0],[0]),([1],[1]),([],[]),([3],[3]),([4,2],[4]),([],[]),([6],[6]),([7,5],[7]),([0,1,2,3,4,6,7],[]),([9,2,8,0,1,2,3,4,6,7],[2,9]),([0,1,2,3,4,5,6,7,9,10],[]),([11,5,10,0,1,2,3,4,5,6,7,9,10],[5,11]),([0,1,2,3,4,5,6,7,8,9,10,11,12],[]),([13,8,12,0,1,2,3,4,5,6,7,8,9,10,11,12],[8,13])])
def tripartitelaw12_Options.B2 : List Nat := [0,1,3,0,8,31,0,64,255,223,1023,2047,4095,8191,16383]
theorem tripartitelaw12_Options.tab2 : rtab .any (opsOf Try.f59 2)=tripartitelaw12_Options.T2 := by kernel_rfl
theorem tripartitelaw12_Options.bits2 : waitsOk tripartitelaw12_Options.T2.2 tripartitelaw12_Options.B2=true := by kernel_rfl
set_option maxHeartbeats 8000000 in
set_option maxRecDepth 100000 in
theorem tripartitelaw12_Options.calls (k : Nat) (a0_0 : Int) (a0_1 : Int) (a0_2 : Int) (a0_3 : ByteArray) (a0_4 : ByteArray) (a0_5 : ByteArray) (r1 : ByteArray) (r2 : ByteArray) (r3 : ByteArray) (r4 : Int) (r5 : Int) (r6 : Int) (w : World) (h : tripartitelaw12_Options.f k a0_0 a0_1 a0_2 a0_3 a0_4 a0_5=some (r1,r2,r3,r4,r5,r6)) :
  Calls Try.prog 59 #[.agg #[.int .i64 a0_0,.int .i64 a0_1,.int .i64 a0_2,.string a0_3,.string a0_4,.string a0_5]] w fun e w'=>e = .returned (.agg #[.string r1,.string r2,.string r3,.int .i64 r4,.int .i64 r5,.int .i64 r6])∧Below w.heap.size w w':=by
 have hu74:=Try.underlying74
 have hu86:=Try.underlying86
 have hu109:=Try.underlying109
 have hu84:=Try.underlying84
 have HB:=Aside0.mk (Below.refl w.heap.size w)
 have H:((tripartitelaw12_labels.f a0_0 a0_1 a0_2 a0_3 a0_4 a0_5).bind fun bt582=>((tripartitelaw12_bare.f k bt582.1).bind fun t592=>((tripartitelaw12_bare.f k bt582.2.1).bind fun t593=>((tripartitelaw12_bare.f k bt582.2.2.1).bind fun t594=>(some (t592,t593,t594,wrap64 (Int.tmod (IntKind.u64.wrap (a0_0)) 3),wrap64 (7+(wrap64 (Int.tmod (IntKind.u64.wrap (a0_1)) 58))),0))))))=some (r1,r2,r3,r4,r5,r6):=h
 clear h
 replace H:=Option.bind_eq_some_iff.mp H
 obtain⟨⟨t582,t583,t584,t585,t586,t587,t588,t589,t590⟩,A20,H⟩:=H
 replace H:((tripartitelaw12_bare.f k t582).bind fun t592=>((tripartitelaw12_bare.f k t583).bind fun t593=>((tripartitelaw12_bare.f k t584).bind fun t594=>(some (t592,t593,t594,wrap64 (Int.tmod (IntKind.u64.wrap (a0_0)) 3),wrap64 (7+(wrap64 (Int.tmod (IntKind.u64.wrap (a0_1)) 58))),0)))))=some (r1,r2,r3,r4,r5,r6):=H
 have A2:=Aside0.mk A20
 clear A20
 replace H:=Option.bind_eq_some_iff.mp H
 obtain⟨t592,A30,H⟩:=H
 replace H:((tripartitelaw12_bare.f k t583).bind fun t593=>((tripartitelaw12_bare.f k t584).bind fun t594=>(some (t592,t593,t594,wrap64 (Int.tmod (IntKind.u64.wrap (a0_0)) 3),wrap64 (7+(wrap64 (Int.tmod (IntKind.u64.wrap (a0_1)) 58))),0))))=some (r1,r2,r3,r4,r5,r6):=H
 have A3:=Aside0.mk A30
 clear A30
 replace H:=Option.bind_eq_some_iff.mp H
 obtain⟨t593,A40,H⟩:=H
 replace H:((tripartitelaw12_bare.f k t584).bind fun t594=>(some (t592,t593,t594,wrap64 (Int.tmod (IntKind.u64.wrap (a0_0)) 3),wrap64 (7+(wrap64 (Int.tmod (IntKind.u64.wrap (a0_1)) 58))),0)))=some (r1,r2,r3,r4,r5,r6):=H
 have A4:=Aside0.mk A40
 clear A40
 replace H:=Option.bind_eq_some_iff.mp H
 obtain⟨t594,A50,H⟩:=H
 replace H:(some (t592,t593,t594,wrap64 (Int.tmod (IntKind.u64.wrap (a0_0)) 3),wrap64 (7+(wrap64 (Int.tmod (IntKind.u64.wrap (a0_1)) 58))),0))=some (r1,r2,r3,r4,r5,r6):=H
 have A5:=Aside0.mk A50
 clear A50
 simp only [Option.some.injEq,Prod.mk.injEq] at H
 obtain⟨rfl,rfl,rfl,rfl,rfl,rfl⟩:=H
 go_enter Try.func59,Try.ntmps59
 try go_wp2_with (first|((with_reducible refine gate_dst (N:=1) rfl ?_);refine box_event ?hg (N:=1) ?hd (cs:=#[.int .i64 a0_0,.int .i64 a0_1,.int .i64 a0_2,.string a0_3,.string a0_4,.string a0_5]) (t:=74) ?hr ?_;(case hd=>rfl);(case hg=>rfl);(case hr=>first|(go_simp;done)|(go_simp;rfl));intro gb580 hg w6 hbox hb;have n0_:=Aside0.mk (below_step (by repeat (first|(with_reducible first|exact HB.out|apply below_alloc|apply pw_below_drewN|apply below_drew1)|exact HB.out)) hb);have n1_:=Aside0.mk (hbox);have n2_:=Aside0.mk ((by rw [hg];exact (below_size (by repeat (first|(with_reducible first|exact HB.out|apply below_alloc|apply pw_below_drewN|apply below_drew1)|exact HB.out))):w.heap.size≤gb580));have n3_:=Aside0.mk ((by rw [hg];exact (below_size (by repeat (first|(with_reducible first|exact HB.out|apply below_alloc|apply pw_below_drewN|apply below_drew1)|exact HB.out))):w.heap.size≤gb580));clear HB;have HB:=n0_;have BK580:=n1_;have GW580:=n2_;have GE580:=n3_;clear n0_ n1_ n2_ n3_;clear hb hbox hg)|((with_reducible refine gate_dst (N:=2) rfl ?_);refine box_event ?hg (N:=2) ?hd (cs:=#[.string (⟨#[]⟩:ByteArray),.string (⟨#[]⟩:ByteArray),.string (⟨#[]⟩:ByteArray),.int .i64 0,.int .i64 0,.int .i64 0]) (t:=86) ?hr ?_;(case hd=>rfl);(case hg=>rfl);(case hr=>first|(go_simp;done)|(go_simp;rfl));intro gb581 hg w7 hbox hb;have n0_:=Aside0.mk (blk_below (g:=gb580) (o := .cells #[.int .i64 a0_0,.int .i64 a0_1,.int .i64 a0_2,.string a0_3,.string a0_4,.string a0_5] 74 (0,0)) (by (with_reducible repeat (first|refine blk_drewN ?_ _|refine blk_drew ?_|refine blk_alloc ?_ _));exact BK580.out) hb);have n1_:=Aside0.mk (below_step (by repeat (first|(with_reducible first|exact HB.out|apply below_alloc|apply pw_below_drewN|apply below_drew1|refine below_set ?_ GE580.out)|exact HB.out)) hb);have n2_:=Aside0.mk (hbox);have n3_:=Aside0.mk ((by rw [hg];exact (below_size (by repeat (first|(with_reducible first|exact HB.out|apply below_alloc|apply pw_below_drewN|apply below_drew1|refine below_set ?_ GE580.out)|exact HB.out))):w.heap.size≤gb581));have n4_:=Aside0.mk ((by rw [hg];exact (below_size (by repeat (first|(with_reducible first|exact HB.out|apply below_alloc|apply pw_below_drewN|apply below_drew1|refine below_set ?_ GE580.out)|exact HB.out))):w.heap.size≤gb581));have n5_:=Aside0.mk ((by rw [hg];exact Nat.ne_of_lt (blk_lt (g:=gb580) (o := .cells #[.int .i64 a0_0,.int .i64 a0_1,.int .i64 a0_2,.string a0_3,.string a0_4,.string a0_5] 74 (0,0)) (by (with_reducible repeat (first|refine blk_drewN ?_ _|refine blk_drew ?_|refine blk_alloc ?_ _));exact BK580.out)):gb580≠gb581));have n6_:=Aside0.mk ((by rw [hg];exact Nat.ne_of_gt (blk_lt (g:=gb580) (o := .cells #[.int .i64 a0_0,.int .i64 a0_1,.int .i64 a0_2,.string a0_3,.string a0_4,.string a0_5] 74 (0,0)) (by (with_reducible repeat (first|refine blk_drewN ?_ _|refine blk_drew ?_|refine blk_alloc ?_ _));exact BK580.out)):gb581≠gb580));clear BK580;clear HB;have BK580:=n0_;have HB:=n1_;have BK581:=n2_;have GW581:=n3_;have GE581:=n4_;have NB580_581:=n5_;have NB581_580:=n6_;clear n0_ n1_ n2_ n3_ n4_ n5_ n6_;clear hb hbox hg;have hnb8:=NB580_581.out;have hnc8:=NB581_580.out;have hcz9_0:w7.cell? ⟨gb580,0,none⟩=some (.int .i64 a0_0):=(blk_cell BK580.out 0).trans rfl;have hcz9_1:w7.cell? ⟨gb580,1,none⟩=some (.int .i64 a0_1):=(blk_cell BK580.out 1).trans rfl;have hcz9_2:w7.cell? ⟨gb580,2,none⟩=some (.int .i64 a0_2):=(blk_cell BK580.out 2).trans rfl;have hcz9_3:w7.cell? ⟨gb580,3,none⟩=some (.string a0_3):=(blk_cell BK580.out 3).trans rfl;have hcz9_4:w7.cell? ⟨gb580,4,none⟩=some (.string a0_4):=(blk_cell BK580.out 4).trans rfl;have hcz9_5:w7.cell? ⟨gb580,5,none⟩=some (.string a0_5):=(blk_cell BK580.out 5).trans rfl;have hfz9_0:=blk_frozen BK580.out 0;have hfz9_1:=blk_frozen BK580.out 1;have hfz9_2:=blk_frozen BK580.out 2;have hfz9_3:=blk_frozen BK580.out 3;have hfz9_4:=blk_frozen BK580.out 4;have hfz9_5:=blk_frozen BK580.out 5)|((with_reducible refine gate_callee (f:=106) rfl ?_);refine goesL_ (some 5) rfl rfl Try.func106 (by kernel_rfl) rfl #[.agg #[.int .i64 a0_0,.int .i64 a0_1,.int .i64 a0_2,.string a0_3,.string a0_4,.string a0_5]] rfl (by (try simp only [List.map_toArray,List.map_cons,List.map_nil]);first|done|rfl|(simp only [List.length_drop,List.length_take];rfl)) ?_;(with_reducible refine (tripartitelaw12_labels.calls a0_0 a0_1 a0_2 a0_3 a0_4 a0_5 t582 t583 t584 t585 t586 t587 t588 t589 t590 _ A2.out).mono ?_);rintro e w10 ⟨rfl,hb⟩;refine⟨_,rfl,?_⟩;have n0_:=Aside0.mk (blk_below (g:=gb580) (o := .cells #[.int .i64 a0_0,.int .i64 a0_1,.int .i64 a0_2,.string a0_3,.string a0_4,.string a0_5] 74 (0,0)) (by (with_reducible repeat (first|refine blk_drewN ?_ _|refine blk_drew ?_|refine blk_alloc ?_ _));exact BK580.out) hb);have n1_:=Aside0.mk (blk_below (g:=gb581) (o := .cells #[.string (⟨#[]⟩:ByteArray),.string (⟨#[]⟩:ByteArray),.string (⟨#[]⟩:ByteArray),.int .i64 0,.int .i64 0,.int .i64 0] 86 (0,0)) (by (with_reducible repeat (first|refine blk_drewN ?_ _|refine blk_drew ?_|refine blk_alloc ?_ _));exact BK581.out) hb);have n2_:=Aside0.mk (below_step (by repeat (first|(with_reducible first|exact HB.out|apply below_alloc|apply pw_below_drewN|apply below_drew1|refine below_set ?_ GE580.out|refine below_set ?_ GE581.out)|exact HB.out)) hb);clear BK580;clear BK581;clear HB;have BK580:=n0_;have BK581:=n1_;have HB:=n2_;clear n0_ n1_ n2_;(try clear hb);(try clear hb2);(try clear hk);(try clear hi))|((with_reducible refine gate_dst (N:=3) rfl ?_);refine box_event ?hg (N:=3) ?hd (cs:=#[.string (⟨#[]⟩:ByteArray),.string (⟨#[]⟩:ByteArray),.string (⟨#[]⟩:ByteArray),.bool false,.string (⟨#[]⟩:ByteArray),.string (⟨#[]⟩:ByteArray),.string (⟨#[]⟩:ByteArray),.string (⟨#[]⟩:ByteArray),.bool false]) (t:=109) ?hr ?_;(case hd=>rfl);(case hg=>rfl);(case hr=>first|(go_simp;done)|(go_simp;rfl));intro gb591 hg w11 hbox hb;have n0_:=Aside0.mk (blk_below (g:=gb580) (o := .cells #[.int .i64 a0_0,.int .i64 a0_1,.int .i64 a0_2,.string a0_3,.string a0_4,.string a0_5] 74 (0,0)) (by (with_reducible repeat (first|refine blk_drewN ?_ _|refine blk_drew ?_|refine blk_alloc ?_ _));exact BK580.out) hb);have n1_:=Aside0.mk (blk_below (g:=gb581) (o := .cells #[.string (⟨#[]⟩:ByteArray),.string (⟨#[]⟩:ByteArray),.string (⟨#[]⟩:ByteArray),.int .i64 0,.int .i64 0,.int .i64 0] 86 (0,0)) (by (with_reducible repeat (first|refine blk_drewN ?_ _|refine blk_drew ?_|refine blk_alloc ?_ _));exact BK581.out) hb);have n2_:=Aside0.mk (below_step (by repeat (first|(with_reducible first|exact HB.out|apply below_alloc|apply pw_below_drewN|apply below_drew1|refine below_set ?_ GE580.out|refine below_set ?_ GE581.out)|exact HB.out)) hb);have n3_:=Aside0.mk (hbox);have n4_:=Aside0.mk ((by rw [hg];exact (below_size (by repeat (first|(with_reducible first|exact HB.out|apply below_alloc|apply pw_below_drewN|apply below_drew1|refine below_set ?_ GE580.out|refine below_set ?_ GE581.out)|exact HB.out))):w.heap.size≤gb591));have n5_:=Aside0.mk ((by rw [hg];exact (below_size (by repeat (first|(with_reducible first|exact HB.out|apply below_alloc|apply pw_below_drewN|apply below_drew1|refine below_set ?_ GE580.out|refine below_set ?_ GE581.out)|exact HB.out))):w.heap.size≤gb591));have n6_:=Aside0.mk ((by rw [hg];exact Nat.ne_of_lt (blk_lt (g:=gb580) (o := .cells #[.int .i64 a0_0,.int .i64 a0_1,.int .i64 a0_2,.string a0_3,.string a0_4,.string a0_5] 74 (0,0)) (by (with_reducible repeat (first|refine blk_drewN ?_ _|refine blk_drew ?_|refine blk_alloc ?_ _));exact BK580.out)):gb580≠gb591));have n7_:=Aside0.mk ((by rw [hg];exact Nat.ne_of_gt (blk_lt (g:=gb580) (o := .cells #[.int .i64 a0_0,.int .i64 a0_1,.int .i64 a0_2,.string a0_3,.string a0_4,.string a0_5] 74 (0,0)) (by (with_reducible repeat (first|refine blk_drewN ?_ _|refine blk_drew ?_|refine blk_alloc ?_ _));exact BK580.out)):gb591≠gb580));have n8_:=Aside0.mk ((by rw [hg];exact Nat.ne_of_lt (blk_lt (g:=gb581) (o := .cells #[.string (⟨#[]⟩:ByteArray),.string (⟨#[]⟩:ByteArray),.string (⟨#[]⟩:ByteArray),.int .i64 0,.int .i64 0,.int .i64 0] 86 (0,0)) (by (with_reducible repeat (first|refine blk_drewN ?_ _|refine blk_drew ?_|refine blk_alloc ?_ _));exact BK581.out)):gb581≠gb591));have n9_:=Aside0.mk ((by rw [hg];exact Nat.ne_of_gt (blk_lt (g:=gb581) (o := .cells #[.string (⟨#[]⟩:ByteArray),.string (⟨#[]⟩:ByteArray),.string (⟨#[]⟩:ByteArray),.int .i64 0,.int .i64 0,.int .i64 0] 86 (0,0)) (by (with_reducible repeat (first|refine blk_drewN ?_ _|refine blk_drew ?_|refine blk_alloc ?_ _));exact BK581.out)):gb591≠gb581));clear BK580;clear BK581;clear HB;have BK580:=n0_;have BK581:=n1_;have HB:=n2_;have BK591:=n3_;have GW591:=n4_;have GE591:=n5_;have NB580_591:=n6_;have NB591_580:=n7_;have NB581_591:=n8_;have NB591_581:=n9_;clear n0_ n1_ n2_ n3_ n4_ n5_ n6_ n7_ n8_ n9_;clear hb hbox hg;have hnb12:=NB591_580.out;have hnc12:=NB580_591.out;have hnb13:=NB591_581.out;have hnc13:=NB581_591.out;have hcz14_0:w11.cell? ⟨gb591,0,none⟩=some (.string (⟨#[]⟩:ByteArray)):=(blk_cell BK591.out 0).trans rfl;have hcz14_1:w11.cell? ⟨gb591,1,none⟩=some (.string (⟨#[]⟩:ByteArray)):=(blk_cell BK591.out 1).trans rfl;have hcz14_2:w11.cell? ⟨gb591,2,none⟩=some (.string (⟨#[]⟩:ByteArray)):=(blk_cell BK591.out 2).trans rfl;have hcz14_3:w11.cell? ⟨gb591,3,none⟩=some (.bool false):=(blk_cell BK591.out 3).trans rfl;have hcz14_4:w11.cell? ⟨gb591,4,none⟩=some (.string (⟨#[]⟩:ByteArray)):=(blk_cell BK591.out 4).trans rfl;have hcz14_5:w11.cell? ⟨gb591,5,none⟩=some (.string (⟨#[]⟩:ByteArray)):=(blk_cell BK591.out 5).trans rfl;have hcz14_6:w11.cell? ⟨gb591,6,none⟩=some (.string (⟨#[]⟩:ByteArray)):=(blk_cell BK591.out 6).trans rfl;have hcz14_7:w11.cell? ⟨gb591,7,none⟩=some (.string (⟨#[]⟩:ByteArray)):=(blk_cell BK591.out 7).trans rfl;have hcz14_8:w11.cell? ⟨gb591,8,none⟩=some (.bool false):=(blk_cell BK591.out 8).trans rfl;have hfz14_0:=blk_frozen BK591.out 0;have hfz14_1:=blk_frozen BK591.out 1;have hfz14_2:=blk_frozen BK591.out 2;have hfz14_3:=blk_frozen BK591.out 3;have hfz14_4:=blk_frozen BK591.out 4;have hfz14_5:=blk_frozen BK591.out 5;have hfz14_6:=blk_frozen BK591.out 6;have hfz14_7:=blk_frozen BK591.out 7;have hfz14_8:=blk_frozen BK591.out 8))
 have n0_:Aside0 ((((((((((w11.setCell ⟨gb591,0,none⟩ (.string t582)).setCell ⟨gb591,1,none⟩ (.string t583)).setCell ⟨gb591,2,none⟩ (.string t584)).setCell ⟨gb591,3,none⟩ (.bool t585)).setCell ⟨gb591,4,none⟩ (.string t586)).setCell ⟨gb591,5,none⟩ (.string t587)).setCell ⟨gb591,6,none⟩ (.string t588)).setCell ⟨gb591,7,none⟩ (.string t589)).setCell ⟨gb591,8,none⟩ (.bool t590)).heap[gb580]? = some (.cells #[.int .i64 a0_0,.int .i64 a0_1,.int .i64 a0_2,.string a0_3,.string a0_4,.string a0_5] 74 (0,0))):=⟨by (with_reducible repeat (first|refine blk_drewN ?_ _|refine blk_drew ?_|refine blk_alloc ?_ _));refine blk_far ?_ NB580_591.out _;(with_reducible repeat (first|refine blk_drewN ?_ _|refine blk_drew ?_|refine blk_alloc ?_ _));refine blk_far ?_ NB580_591.out _;(with_reducible repeat (first|refine blk_drewN ?_ _|refine blk_drew ?_|refine blk_alloc ?_ _));refine blk_far ?_ NB580_591.out _;(with_reducible repeat (first|refine blk_drewN ?_ _|refine blk_drew ?_|refine blk_alloc ?_ _));refine blk_far ?_ NB580_591.out _;(with_reducible repeat (first|refine blk_drewN ?_ _|refine blk_drew ?_|refine blk_alloc ?_ _));refine blk_far ?_ NB580_591.out _;(with_reducible repeat (first|refine blk_drewN ?_ _|refine blk_drew ?_|refine blk_alloc ?_ _));refine blk_far ?_ NB580_591.out _;(with_reducible repeat (first|refine blk_drewN ?_ _|refine blk_drew ?_|refine blk_alloc ?_ _));refine blk_far ?_ NB580_591.out _;(with_reducible repeat (first|refine blk_drewN ?_ _|refine blk_drew ?_|refine blk_alloc ?_ _));refine blk_far ?_ NB580_591.out _;(with_reducible repeat (first|refine blk_drewN ?_ _|refine blk_drew ?_|refine blk_alloc ?_ _));refine blk_far ?_ NB580_591.out _;(with_reducible repeat (first|refine blk_drewN ?_ _|refine blk_drew ?_|refine blk_alloc ?_ _));exact BK580.out⟩
 have n1_:Aside0 ((((((((((w11.setCell ⟨gb591,0,none⟩ (.string t582)).setCell ⟨gb591,1,none⟩ (.string t583)).setCell ⟨gb591,2,none⟩ (.string t584)).setCell ⟨gb591,3,none⟩ (.bool t585)).setCell ⟨gb591,4,none⟩ (.string t586)).setCell ⟨gb591,5,none⟩ (.string t587)).setCell ⟨gb591,6,none⟩ (.string t588)).setCell ⟨gb591,7,none⟩ (.string t589)).setCell ⟨gb591,8,none⟩ (.bool t590)).heap[gb581]? = some (.cells #[.string (⟨#[]⟩:ByteArray),.string (⟨#[]⟩:ByteArray),.string (⟨#[]⟩:ByteArray),.int .i64 0,.int .i64 0,.int .i64 0] 86 (0,0))):=⟨by (with_reducible repeat (first|refine blk_drewN ?_ _|refine blk_drew ?_|refine blk_alloc ?_ _));refine blk_far ?_ NB581_591.out _;(with_reducible repeat (first|refine blk_drewN ?_ _|refine blk_drew ?_|refine blk_alloc ?_ _));refine blk_far ?_ NB581_591.out _;(with_reducible repeat (first|refine blk_drewN ?_ _|refine blk_drew ?_|refine blk_alloc ?_ _));refine blk_far ?_ NB581_591.out _;(with_reducible repeat (first|refine blk_drewN ?_ _|refine blk_drew ?_|refine blk_alloc ?_ _));refine blk_far ?_ NB581_591.out _;(with_reducible repeat (first|refine blk_drewN ?_ _|refine blk_drew ?_|refine blk_alloc ?_ _));refine blk_far ?_ NB581_591.out _;(with_reducible repeat (first|refine blk_drewN ?_ _|refine blk_drew ?_|refine blk_alloc ?_ _));refine blk_far ?_ NB581_591.out _;(with_reducible repeat (first|refine blk_drewN ?_ _|refine blk_drew ?_|refine blk_alloc ?_ _));refine blk_far ?_ NB581_591.out _;(with_reducible repeat (first|refine blk_drewN ?_ _|refine blk_drew ?_|refine blk_alloc ?_ _));refine blk_far ?_ NB581_591.out _;(with_reducible repeat (first|refine blk_drewN ?_ _|refine blk_drew ?_|refine blk_alloc ?_ _));refine blk_far ?_ NB581_591.out _;(with_reducible repeat (first|refine blk_drewN ?_ _|refine blk_drew ?_|refine blk_alloc ?_ _));exact BK581.out⟩
 have n2_:Aside0 ((((((((((w11.setCell ⟨gb591,0,none⟩ (.string t582)).setCell ⟨gb591,1,none⟩ (.string t583)).setCell ⟨gb591,2,none⟩ (.string t584)).setCell ⟨gb591,3,none⟩ (.bool t585)).setCell ⟨gb591,4,none⟩ (.string t586)).setCell ⟨gb591,5,none⟩ (.string t587)).setCell ⟨gb591,6,none⟩ (.string t588)).setCell ⟨gb591,7,none⟩ (.string t589)).setCell ⟨gb591,8,none⟩ (.bool t590)).heap[gb591]? = some (.cells #[.string t582,.string t583,.string t584,.bool t585,.string t586,.string t587,.string t588,.string t589,.bool t590] 109 (0,0))):=⟨by (with_reducible repeat (first|refine blk_drewN ?_ _|refine blk_drew ?_|refine blk_alloc ?_ _));refine blk_put (cs:=#[.string t582,.string t583,.string t584,.bool t585,.string t586,.string t587,.string t588,.string t589,.bool false]) ?_ 8 _ rfl;(with_reducible repeat (first|refine blk_drewN ?_ _|refine blk_drew ?_|refine blk_alloc ?_ _));refine blk_put (cs:=#[.string t582,.string t583,.string t584,.bool t585,.string t586,.string t587,.string t588,.string (⟨#[]⟩:ByteArray),.bool false]) ?_ 7 _ rfl;(with_reducible repeat (first|refine blk_drewN ?_ _|refine blk_drew ?_|refine blk_alloc ?_ _));refine blk_put (cs:=#[.string t582,.string t583,.string t584,.bool t585,.string t586,.string t587,.string (⟨#[]⟩:ByteArray),.string (⟨#[]⟩:ByteArray),.bool false]) ?_ 6 _ rfl;(with_reducible repeat (first|refine blk_drewN ?_ _|refine blk_drew ?_|refine blk_alloc ?_ _));refine blk_put (cs:=#[.string t582,.string t583,.string t584,.bool t585,.string t586,.string (⟨#[]⟩:ByteArray),.string (⟨#[]⟩:ByteArray),.string (⟨#[]⟩:ByteArray),.bool false]) ?_ 5 _ rfl;(with_reducible repeat (first|refine blk_drewN ?_ _|refine blk_drew ?_|refine blk_alloc ?_ _));refine blk_put (cs:=#[.string t582,.string t583,.string t584,.bool t585,.string (⟨#[]⟩:ByteArray),.string (⟨#[]⟩:ByteArray),.string (⟨#[]⟩:ByteArray),.string (⟨#[]⟩:ByteArray),.bool false]) ?_ 4 _ rfl;(with_reducible repeat (first|refine blk_drewN ?_ _|refine blk_drew ?_|refine blk_alloc ?_ _));refine blk_put (cs:=#[.string t582,.string t583,.string t584,.bool false,.string (⟨#[]⟩:ByteArray),.string (⟨#[]⟩:ByteArray),.string (⟨#[]⟩:ByteArray),.string (⟨#[]⟩:ByteArray),.bool false]) ?_ 3 _ rfl;(with_reducible repeat (first|refine blk_drewN ?_ _|refine blk_drew ?_|refine blk_alloc ?_ _));refine blk_put (cs:=#[.string t582,.string t583,.string (⟨#[]⟩:ByteArray),.bool false,.string (⟨#[]⟩:ByteArray),.string (⟨#[]⟩:ByteArray),.string (⟨#[]⟩:ByteArray),.string (⟨#[]⟩:ByteArray),.bool false]) ?_ 2 _ rfl;(with_reducible repeat (first|refine blk_drewN ?_ _|refine blk_drew ?_|refine blk_alloc ?_ _));refine blk_put (cs:=#[.string t582,.string (⟨#[]⟩:ByteArray),.string (⟨#[]⟩:ByteArray),.bool false,.string (⟨#[]⟩:ByteArray),.string (⟨#[]⟩:ByteArray),.string (⟨#[]⟩:ByteArray),.string (⟨#[]⟩:ByteArray),.bool false]) ?_ 1 _ rfl;(with_reducible repeat (first|refine blk_drewN ?_ _|refine blk_drew ?_|refine blk_alloc ?_ _));refine blk_put (cs:=#[.string (⟨#[]⟩:ByteArray),.string (⟨#[]⟩:ByteArray),.string (⟨#[]⟩:ByteArray),.bool false,.string (⟨#[]⟩:ByteArray),.string (⟨#[]⟩:ByteArray),.string (⟨#[]⟩:ByteArray),.string (⟨#[]⟩:ByteArray),.bool false]) ?_ 0 _ rfl;(with_reducible repeat (first|refine blk_drewN ?_ _|refine blk_drew ?_|refine blk_alloc ?_ _));exact BK591.out⟩
 have n3_:Aside0 (Below w.heap.size w (((((((((w11.setCell ⟨gb591,0,none⟩ (.string t582)).setCell ⟨gb591,1,none⟩ (.string t583)).setCell ⟨gb591,2,none⟩ (.string t584)).setCell ⟨gb591,3,none⟩ (.bool t585)).setCell ⟨gb591,4,none⟩ (.string t586)).setCell ⟨gb591,5,none⟩ (.string t587)).setCell ⟨gb591,6,none⟩ (.string t588)).setCell ⟨gb591,7,none⟩ (.string t589)).setCell ⟨gb591,8,none⟩ (.bool t590))):=⟨by repeat (first|(with_reducible first|exact HB.out|apply below_alloc|apply pw_below_drewN|apply below_drew1|refine below_set ?_ GE580.out|refine below_set ?_ GE581.out|refine below_set ?_ GE591.out)|exact HB.out)⟩
 (try clear BK580)
 (try clear BK581)
 (try clear BK591)
 (try clear HB)
 generalize (((((((((w11.setCell ⟨gb591,0,none⟩ (.string t582)).setCell ⟨gb591,1,none⟩ (.string t583)).setCell ⟨gb591,2,none⟩ (.string t584)).setCell ⟨gb591,3,none⟩ (.bool t585)).setCell ⟨gb591,4,none⟩ (.string t586)).setCell ⟨gb591,5,none⟩ (.string t587)).setCell ⟨gb591,6,none⟩ (.string t588)).setCell ⟨gb591,7,none⟩ (.string t589)).setCell ⟨gb591,8,none⟩ (.bool t590))=w15 at n0_ n1_ n2_ n3_ ⊢
 have BK580:=n0_
 have BK581:=n1_
 have BK591:=n2_
 have HB:=n3_
 clear n0_ n1_ n2_ n3_
 have n0_:=Aside0.mk (blk_drew BK580.out)
 have n1_:=Aside0.mk (blk_drew BK581.out)
 have n2_:=Aside0.mk (blk_drew BK591.out)
 have n3_:=Aside0.mk (below_drew1 HB.out)
 clear BK580
 clear BK581
 clear BK591
 clear HB
 have BK580:=n0_
 have BK581:=n1_
 have BK591:=n2_
 have HB:=n3_
 clear n0_ n1_ n2_ n3_
 refine start_ (n:=15) (S:=fun w'=>w'.cell? ⟨gb591,0,none⟩=some (.string t582)∧w'.cell? ⟨gb591,1,none⟩=some (.string t583)∧w'.cell? ⟨gb591,2,none⟩=some (.string t584)∧w'.cell? ⟨gb591,3,none⟩=some (.bool t585)∧w'.cell? ⟨gb591,4,none⟩=some (.string t586)∧w'.cell? ⟨gb591,5,none⟩=some (.string t587)∧w'.cell? ⟨gb591,6,none⟩=some (.string t588)∧w'.cell? ⟨gb591,7,none⟩=some (.string t589)∧w'.cell? ⟨gb591,8,none⟩=some (.bool t590)) (ds:=[10,12,14]) #[false,false,false,false,false,false,false,false,false,false,false,false,false,false,false] (by kernel_rfl) rfl rfl ⟨(blk_cell BK591.out 0).trans rfl,(blk_cell BK591.out 1).trans rfl,(blk_cell BK591.out 2).trans rfl,(blk_cell BK591.out 3).trans rfl,(blk_cell BK591.out 4).trans rfl,(blk_cell BK591.out 5).trans rfl,(blk_cell BK591.out 6).trans rfl,(blk_cell BK591.out 7).trans rfl,(blk_cell BK591.out 8).trans rfl⟩ (fun hHeld=>?_);refine with_tabW tripartitelaw12_Options.tab2 tripartitelaw12_Options.bits2 (fun HT_ HW_=>?_)
 generalize w15.drew=w16 at BK580 BK581 BK591 HB hHeld ⊢
 refine pure_ (i:=0) (N:=some 6) (v:=?_) (a':=?_) #[true,false,false,false,false,false,false,false,false,false,false,false,false,false,false] rfl rfl (any_of HT_.out (by kernel_rfl)) (fun _ _ _ h=>h) (Or.inl ⟨by rfl,?_⟩) ?_ ?_
 rotate_left
 ·intro w'
  go_simp
  with_reducible rfl
 rotate_left
 ·simp only [Act.put,List.setIfInBounds_toArray,List.set_cons_zero,List.set_cons_succ,i64_w,i32_w]
  rfl
 refine pure_ (i:=3) (N:=some 9) (v:=?_) (a':=?_) #[true,false,false,true,false,false,false,false,false,false,false,false,false,false,false] rfl rfl (any_of HT_.out (by kernel_rfl)) (fun _ _ _ h=>h) (Or.inl ⟨by rfl,?_⟩) ?_ ?_
 rotate_left
 ·intro w'
  go_simp
  with_reducible rfl
 rotate_left
 ·simp only [Act.put,List.setIfInBounds_toArray,List.set_cons_zero,List.set_cons_succ,i64_w,i32_w]
  rfl
 refine pure_ (i:=6) (N:=some 12) (v:=?_) (a':=?_) #[true,false,false,true,false,false,true,false,false,false,false,false,false,false,false] rfl rfl (any_of HT_.out (by kernel_rfl)) (fun _ _ _ h=>h) (Or.inl ⟨by rfl,?_⟩) ?_ ?_
 rotate_left
 ·intro w'
  go_simp
  with_reducible rfl
 rotate_left
 ·simp only [Act.put,List.setIfInBounds_toArray,List.set_cons_zero,List.set_cons_succ,i64_w,i32_w]
  rfl
 refine take_ (i:=1) (N:=some 7) (v:=?_) (a':=?_) #[true,true,false,true,false,false,true,false,false,false,false,false,false,false,false] rfl rfl (take_ofW HT_.out HW_.out (by kernel_rfl)) (fun _ _ _ h=>h) (Or.inl ⟨by rfl,?_⟩) hHeld ?_ ?_
 rotate_left
 ·rintro w' ⟨s0,s1,s2,s3,s4,s5,s6,s7,s8⟩
  go_simp
  with_reducible rfl
 rotate_left
 ·simp only [Act.put,List.setIfInBounds_toArray,List.set_cons_zero,List.set_cons_succ,i64_w,i32_w]
  rfl
 refine take_ (i:=4) (N:=some 10) (v:=?_) (a':=?_) #[true,true,false,true,true,false,true,false,false,false,false,false,false,false,false] rfl rfl (take_ofW HT_.out HW_.out (by kernel_rfl)) (fun _ _ _ h=>h) (Or.inl ⟨by rfl,?_⟩) hHeld ?_ ?_
 rotate_left
 ·rintro w' ⟨s0,s1,s2,s3,s4,s5,s6,s7,s8⟩
  go_simp
  with_reducible rfl
 rotate_left
 ·simp only [Act.put,List.setIfInBounds_toArray,List.set_cons_zero,List.set_cons_succ,i64_w,i32_w]
  rfl
 refine take_ (i:=7) (N:=some 13) (v:=?_) (a':=?_) #[true,true,false,true,true,false,true,true,false,false,false,false,false,false,false] rfl rfl (take_ofW HT_.out HW_.out (by kernel_rfl)) (fun _ _ _ h=>h) (Or.inl ⟨by rfl,?_⟩) hHeld ?_ ?_
 rotate_left
 ·rintro w' ⟨s0,s1,s2,s3,s4,s5,s6,s7,s8⟩
  go_simp
  with_reducible rfl
 rotate_left
 ·simp only [Act.put,List.setIfInBounds_toArray,List.set_cons_zero,List.set_cons_succ,i64_w,i32_w]
  rfl
 refine one_ (i:=2) (N:=some 8) #[true,true,true,true,true,false,true,true,false,false,false,false,false,false,false] rfl rfl (one_of HT_.out (by kernel_rfl)) (by decide) (fun K hK=>?_)
 refine goes_ Try.func107 (by kernel_rfl) rfl #[.string t582] (by rfl) rfl rfl (by (try simp only [List.map_toArray,List.map_cons,List.map_nil]);first|done|rfl|(simp only [List.length_drop,List.length_take];rfl)) ?_
 with_reducible refine (tripartitelaw12_bare.calls k t582 t592 _ A3.out).mono ?_
 rintro e w' ⟨rfl,⟨nd,rfl⟩⟩
 refine⟨_,rfl,?_⟩
 refine hK.out _ _ ⟨(blk_cell BK591.out 0).trans rfl,(blk_cell BK591.out 1).trans rfl,(blk_cell BK591.out 2).trans rfl,(blk_cell BK591.out 3).trans rfl,(blk_cell BK591.out 4).trans rfl,(blk_cell BK591.out 5).trans rfl,(blk_cell BK591.out 6).trans rfl,(blk_cell BK591.out 7).trans rfl,(blk_cell BK591.out 8).trans rfl⟩ (fun hHeld=>?_)
 clear hK K
 refine norm_ (a':=?_) ?_ ?_
 rotate_left
 ·show Act.put _ (some 8) _=_
  simp only [Act.put,List.setIfInBounds_toArray,List.set_cons_zero,List.set_cons_succ,i64_w,i32_w]
  rfl
 refine pure_ (i:=9) (N:=some 15) (v:=?_) (a':=?_) #[true,true,true,true,true,false,true,true,false,true,false,false,false,false,false] rfl rfl (any_of HT_.out (by kernel_rfl)) (fun _ _ _ h=>h) (Or.inl ⟨by rfl,?_⟩) ?_ ?_
 rotate_left
 ·intro w'
  go_simp
  with_reducible rfl
 rotate_left
 ·simp only [Act.put,List.setIfInBounds_toArray,List.set_cons_zero,List.set_cons_succ,i64_w,i32_w]
  rfl
 refine one_ (i:=5) (N:=some 11) #[true,true,true,true,true,true,true,true,false,true,false,false,false,false,false] rfl rfl (one_of HT_.out (by kernel_rfl)) (by decide) (fun K hK=>?_)
 refine goes_ Try.func107 (by kernel_rfl) rfl #[.string t583] (by rfl) rfl rfl (by (try simp only [List.map_toArray,List.map_cons,List.map_nil]);first|done|rfl|(simp only [List.length_drop,List.length_take];rfl)) ?_
 with_reducible refine (tripartitelaw12_bare.calls k t583 t593 _ A4.out).mono ?_
 rintro e w' ⟨rfl,⟨nd,rfl⟩⟩
 refine⟨_,rfl,?_⟩
 refine hK.out _ _ ⟨(blk_cell BK591.out 0).trans rfl,(blk_cell BK591.out 1).trans rfl,(blk_cell BK591.out 2).trans rfl,(blk_cell BK591.out 3).trans rfl,(blk_cell BK591.out 4).trans rfl,(blk_cell BK591.out 5).trans rfl,(blk_cell BK591.out 6).trans rfl,(blk_cell BK591.out 7).trans rfl,(blk_cell BK591.out 8).trans rfl⟩ (fun hHeld=>?_)
 clear hK K
 refine norm_ (a':=?_) ?_ ?_
 rotate_left
 ·show Act.put _ (some 11) _=_
  simp only [Act.put,List.setIfInBounds_toArray,List.set_cons_zero,List.set_cons_succ,i64_w,i32_w]
  rfl
 refine one_ (i:=8) (N:=some 14) #[true,true,true,true,true,true,true,true,true,true,false,false,false,false,false] rfl rfl (one_of HT_.out (by kernel_rfl)) (by decide) (fun K hK=>?_)
 refine goes_ Try.func107 (by kernel_rfl) rfl #[.string t584] (by rfl) rfl rfl (by (try simp only [List.map_toArray,List.map_cons,List.map_nil]);first|done|rfl|(simp only [List.length_drop,List.length_take];rfl)) ?_
 with_reducible refine (tripartitelaw12_bare.calls k t584 t594 _ A5.out).mono ?_
 rintro e w' ⟨rfl,⟨nd,rfl⟩⟩
 refine⟨_,rfl,?_⟩
 refine hK.out _ _ ⟨(blk_cell BK591.out 0).trans rfl,(blk_cell BK591.out 1).trans rfl,(blk_cell BK591.out 2).trans rfl,(blk_cell BK591.out 3).trans rfl,(blk_cell BK591.out 4).trans rfl,(blk_cell BK591.out 5).trans rfl,(blk_cell BK591.out 6).trans rfl,(blk_cell BK591.out 7).trans rfl,(blk_cell BK591.out 8).trans rfl⟩ (fun hHeld=>?_)
 clear hK K
 refine norm_ (a':=?_) ?_ ?_
 rotate_left
 ·show Act.put _ (some 14) _=_
  simp only [Act.put,List.setIfInBounds_toArray,List.set_cons_zero,List.set_cons_succ,i64_w,i32_w]
  rfl
 refine last_ (i:=10) (N:=none) #[true,true,true,true,true,true,true,true,true,true,true,false,false,false,false] rfl rfl (one_of HT_.out (by kernel_rfl)) (by decide) (fun K hK=>?_)
 have hs17:w16.cell? ⟨gb591,0,none⟩=some (.string t582):=(blk_cell BK591.out 0).trans rfl
 have hfs17:=blk_frozen BK591.out 0
 have hns17_0:=NB580_591.out
 have hns17_1:=NB581_591.out
 have hms17_0:=NB591_580.out
 have hms17_1:=NB591_581.out
 refine skip_ (w1:=?_) (by rfl) rfl ?_ ?_
 rotate_left
 ·go_simp
  rfl
 refine hK.out _ _ ?_
 clear hK K
 refine pure_ (i:=11) (N:=some 16) (v:=?_) (a':=?_) #[true,true,true,true,true,true,true,true,true,true,true,true,false,false,false] rfl rfl (any_of HT_.out (by kernel_rfl)) (fun _ _ _ h=>h) (Or.inl ⟨by rfl,?_⟩) ?_ ?_
 rotate_left
 ·intro w'
  go_simp
  with_reducible rfl
 rotate_left
 ·simp only [Act.put,List.setIfInBounds_toArray,List.set_cons_zero,List.set_cons_succ,i64_w,i32_w]
  rfl
 refine last_ (i:=12) (N:=none) #[true,true,true,true,true,true,true,true,true,true,true,true,true,false,false] rfl rfl (one_of HT_.out (by kernel_rfl)) (by decide) (fun K hK=>?_)
 have hs18:w16.cell? ⟨gb591,1,none⟩=some (.string t583):=(blk_cell BK591.out 1).trans rfl
 have hfs18:=blk_frozen BK591.out 1
 have hns18_0:=NB580_591.out
 have hns18_1:=NB581_591.out
 have hms18_0:=NB591_580.out
 have hms18_1:=NB591_581.out
 refine skip_ (w1:=?_) (by rfl) rfl ?_ ?_
 rotate_left
 ·go_simp
  rfl
 refine hK.out _ _ ?_
 clear hK K
 refine pure_ (i:=13) (N:=some 17) (v:=?_) (a':=?_) #[true,true,true,true,true,true,true,true,true,true,true,true,true,true,false] rfl rfl (any_of HT_.out (by kernel_rfl)) (fun _ _ _ h=>h) (Or.inl ⟨by rfl,?_⟩) ?_ ?_
 rotate_left
 ·intro w'
  go_simp
  with_reducible rfl
 rotate_left
 ·simp only [Act.put,List.setIfInBounds_toArray,List.set_cons_zero,List.set_cons_succ,i64_w,i32_w]
  rfl
 refine last_ (i:=14) (N:=none) #[true,true,true,true,true,true,true,true,true,true,true,true,true,true,true] rfl rfl (one_of HT_.out (by kernel_rfl)) (by decide) (fun K hK=>?_)
 have hs19:w16.cell? ⟨gb591,2,none⟩=some (.string t584):=(blk_cell BK591.out 2).trans rfl
 have hfs19:=blk_frozen BK591.out 2
 have hns19_0:=NB580_591.out
 have hns19_1:=NB581_591.out
 have hms19_0:=NB591_580.out
 have hms19_1:=NB591_581.out
 refine skip_ (w1:=?_) (by rfl) rfl ?_ ?_
 rotate_left
 ·go_simp
  rfl
 refine hK.out _ _ ?_
 clear hK K
 refine done_ (done_of HT_.out (by kernel_rfl)) ?_
 have hcz20_0:w16.cell? ⟨gb591,0,none⟩=some (.string t582):=(blk_cell BK591.out 0).trans rfl
 have hcz20_1:w16.cell? ⟨gb591,1,none⟩=some (.string t583):=(blk_cell BK591.out 1).trans rfl
 have hcz20_2:w16.cell? ⟨gb591,2,none⟩=some (.string t584):=(blk_cell BK591.out 2).trans rfl
 have hcz20_3:w16.cell? ⟨gb591,3,none⟩=some (.bool t585):=(blk_cell BK591.out 3).trans rfl
 have hcz20_4:w16.cell? ⟨gb591,4,none⟩=some (.string t586):=(blk_cell BK591.out 4).trans rfl
 have hcz20_5:w16.cell? ⟨gb591,5,none⟩=some (.string t587):=(blk_cell BK591.out 5).trans rfl
 have hcz20_6:w16.cell? ⟨gb591,6,none⟩=some (.string t588):=(blk_cell BK591.out 6).trans rfl
 have hcz20_7:w16.cell? ⟨gb591,7,none⟩=some (.string t589):=(blk_cell BK591.out 7).trans rfl
 have hcz20_8:w16.cell? ⟨gb591,8,none⟩=some (.bool t590):=(blk_cell BK591.out 8).trans rfl
 have hfz20_0:=blk_frozen BK591.out 0
 have hfz20_1:=blk_frozen BK591.out 1
 have hfz20_2:=blk_frozen BK591.out 2
 have hfz20_3:=blk_frozen BK591.out 3
 have hfz20_4:=blk_frozen BK591.out 4
 have hfz20_5:=blk_frozen BK591.out 5
 have hfz20_6:=blk_frozen BK591.out 6
 have hfz20_7:=blk_frozen BK591.out 7
 have hfz20_8:=blk_frozen BK591.out 8
 have hcz21_0:w16.cell? ⟨gb580,0,none⟩=some (.int .i64 a0_0):=(blk_cell BK580.out 0).trans rfl
 have hcz21_1:w16.cell? ⟨gb580,1,none⟩=some (.int .i64 a0_1):=(blk_cell BK580.out 1).trans rfl
 have hcz21_2:w16.cell? ⟨gb580,2,none⟩=some (.int .i64 a0_2):=(blk_cell BK580.out 2).trans rfl
 have hcz21_3:w16.cell? ⟨gb580,3,none⟩=some (.string a0_3):=(blk_cell BK580.out 3).trans rfl
 have hcz21_4:w16.cell? ⟨gb580,4,none⟩=some (.string a0_4):=(blk_cell BK580.out 4).trans rfl
 have hcz21_5:w16.cell? ⟨gb580,5,none⟩=some (.string a0_5):=(blk_cell BK580.out 5).trans rfl
 have hfz21_0:=blk_frozen BK580.out 0
 have hfz21_1:=blk_frozen BK580.out 1
 have hfz21_2:=blk_frozen BK580.out 2
 have hfz21_3:=blk_frozen BK580.out 3
 have hfz21_4:=blk_frozen BK580.out 4
 have hfz21_5:=blk_frozen BK580.out 5
 have hcz22_0:w16.cell? ⟨gb581,0,none⟩=some (.string (⟨#[]⟩:ByteArray)):=(blk_cell BK581.out 0).trans rfl
 have hcz22_1:w16.cell? ⟨gb581,1,none⟩=some (.string (⟨#[]⟩:ByteArray)):=(blk_cell BK581.out 1).trans rfl
 have hcz22_2:w16.cell? ⟨gb581,2,none⟩=some (.string (⟨#[]⟩:ByteArray)):=(blk_cell BK581.out 2).trans rfl
 have hcz22_3:w16.cell? ⟨gb581,3,none⟩=some (.int .i64 0):=(blk_cell BK581.out 3).trans rfl
 have hcz22_4:w16.cell? ⟨gb581,4,none⟩=some (.int .i64 0):=(blk_cell BK581.out 4).trans rfl
 have hcz22_5:w16.cell? ⟨gb581,5,none⟩=some (.int .i64 0):=(blk_cell BK581.out 5).trans rfl
 have hfz22_0:=blk_frozen BK581.out 0
 have hfz22_1:=blk_frozen BK581.out 1
 have hfz22_2:=blk_frozen BK581.out 2
 have hfz22_3:=blk_frozen BK581.out 3
 have hfz22_4:=blk_frozen BK581.out 4
 have hfz22_5:=blk_frozen BK581.out 5
 try go_wp2
 refine bodyPost_ret (results_cell_row rfl _ _ gb581 86 #[.string t592,.string t593,.string t594,.int .i64 (wrap64 (Int.tmod (IntKind.u64.wrap (a0_0)) 3)),.int .i64 (wrap64 (7+(wrap64 (Int.tmod (IntKind.u64.wrap (a0_1)) 58)))),.int .i64 0] (0,0) _ rfl (by (with_reducible repeat (first|refine blk_drewN ?_ _|refine blk_drew ?_|refine blk_alloc ?_ _));refine blk_put (cs:=#[.string t592,.string t593,.string t594,.int .i64 (wrap64 (Int.tmod (IntKind.u64.wrap (a0_0)) 3)),.int .i64 (wrap64 (7+(wrap64 (Int.tmod (IntKind.u64.wrap (a0_1)) 58)))),.int .i64 0]) ?_ 5 _ rfl;(with_reducible repeat (first|refine blk_drewN ?_ _|refine blk_drew ?_|refine blk_alloc ?_ _));refine blk_put (cs:=#[.string t592,.string t593,.string t594,.int .i64 (wrap64 (Int.tmod (IntKind.u64.wrap (a0_0)) 3)),.int .i64 0,.int .i64 0]) ?_ 4 _ rfl;(with_reducible repeat (first|refine blk_drewN ?_ _|refine blk_drew ?_|refine blk_alloc ?_ _));refine blk_put (cs:=#[.string t592,.string t593,.string t594,.int .i64 0,.int .i64 0,.int .i64 0]) ?_ 3 _ rfl;(with_reducible repeat (first|refine blk_drewN ?_ _|refine blk_drew ?_|refine blk_alloc ?_ _));refine blk_put (cs:=#[.string t592,.string t593,.string (⟨#[]⟩:ByteArray),.int .i64 0,.int .i64 0,.int .i64 0]) ?_ 2 _ rfl;(with_reducible repeat (first|refine blk_drewN ?_ _|refine blk_drew ?_|refine blk_alloc ?_ _));refine blk_put (cs:=#[.string t592,.string (⟨#[]⟩:ByteArray),.string (⟨#[]⟩:ByteArray),.int .i64 0,.int .i64 0,.int .i64 0]) ?_ 1 _ rfl;(with_reducible repeat (first|refine blk_drewN ?_ _|refine blk_drew ?_|refine blk_alloc ?_ _));refine blk_put (cs:=#[.string (⟨#[]⟩:ByteArray),.string (⟨#[]⟩:ByteArray),.string (⟨#[]⟩:ByteArray),.int .i64 0,.int .i64 0,.int .i64 0]) ?_ 0 _ rfl;(with_reducible repeat (first|refine blk_drewN ?_ _|refine blk_drew ?_|refine blk_alloc ?_ _));refine blk_far ?_ NB581_591.out _;(with_reducible repeat (first|refine blk_drewN ?_ _|refine blk_drew ?_|refine blk_alloc ?_ _));refine blk_far ?_ NB581_591.out _;(with_reducible repeat (first|refine blk_drewN ?_ _|refine blk_drew ?_|refine blk_alloc ?_ _));refine blk_far ?_ NB581_591.out _;(with_reducible repeat (first|refine blk_drewN ?_ _|refine blk_drew ?_|refine blk_alloc ?_ _));exact BK581.out) Try.underlying86 rfl (by kernel_rfl)) rfl ?_
 exact⟨by first|rfl|(simp [errW_none,errW_some]<;>rfl)|(simp [*,errW_none,errW_some]<;>rfl),by repeat (first|(with_reducible first|exact HB.out|apply below_alloc|apply pw_below_drewN|apply below_drew1|refine below_set ?_ GE580.out|refine below_set ?_ GE581.out|refine below_set ?_ GE591.out)|exact HB.out)⟩
end Go.Proofs.Ytfiamddinkokbaa.F
