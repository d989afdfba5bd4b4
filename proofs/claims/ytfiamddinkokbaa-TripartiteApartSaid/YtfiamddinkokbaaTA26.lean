/- Texts joined into one file (wip/tools/pack.py): Fn137 -/
import Derived.Test.YtfiamddinkokbaaTA3
import Derived.Test.YtfiamddinkokbaaTA24
import Derived.Test.YtfiamddinkokbaaTA25
set_option linter.unusedVariables false
set_option linter.unusedSimpArgs false
namespace Go.Proofs.Ytfiamddinkokbaa.F
open Go.RowKit Go.Proofs.YtfiamddinkokbaaW.PrintWords Go.Proofs.YtfiamddinkokbaaW.PrintLast Go.Proofs.YtfiamddinkokbaaW.PrintMore
attribute [local go_sem] max2_int min2_int max_two min_two max_three min_three max_four min_four
def build_Files_cut.f (k : Nat) (l0_0 : List ByteArray) (l0_1 : List ByteArray) (l0_2 : List ByteArray) (a1_0 : Bool) (a1_1 : Int) (a1_2 : Int) (a1_3 : Int) (a1_4 : Int) (a1_5 : Int) (a1_6 : Int) : Option (Bool×Int×Int×Int×Int×Int×Int×List ByteArray×List ByteArray×List ByteArray×Int) := (chunk_Span_Cut.f a1_1 a1_2 l0_0).bind fun t502=>((chunk_Span_Cut.f a1_3 a1_4 l0_1).bind fun t505=>((chunk_Span_Cut.f a1_5 a1_6 l0_2).bind fun t508=>((chunk_Chunk_Class.f k a1_0 a1_1 a1_2 a1_3 a1_4 a1_5 a1_6 l0_0 l0_1 l0_2).bind fun t511=>(some (a1_0,a1_1,a1_2,a1_3,a1_4,a1_5,a1_6,t502,t505,t508,t511)))))
theorem build_Files_cut.mono : ∀ a0 a1 a2 a3 a4 a5 a6 a7 a8 a9 k,LeO (build_Files_cut.f k a0 a1 a2 a3 a4 a5 a6 a7 a8 a9) (build_Files_cut.f (k+1) a0 a1 a2 a3 a4 a5 a6 a7 a8 a9) := by
 intro a0 a1 a2 a3 a4 a5 a6 a7 a8 a9 k
 unfold build_Files_cut.f
 repeat' first
   | (with_reducible exact chunk_Chunk_Class.mono _ _ _ _ _ _ _ _ _ _ _)
   | (with_reducible exact LeO.refl _)
   | (with_reducible exact LeO.none _)
   | (with_reducible refine LeO.ite ?_ ?_)
   | (with_reducible refine LeO.bind ?_ (fun _=>?_))
   | exact chunk_Chunk_Class.mono _ _ _ _ _ _ _ _ _ _ _
   | exact LeO.none _
   | refine LeO.ite ?_ ?_
   | refine LeO.bind ?_ (fun _=>?_)
def build_Files_cut.T1 : Bool×List (List Nat×List Nat) := (true,[([],[]),([],[]),([1],[1]),([],[]),([3],[3]),([2,4],[2,4]),([],[]),([6],[6]),([],[]),([8],[8]),([7,9,5],[7,9]),([],[]),([11],[11]),([],[]),([13],[13]),([12,14,10],[12,14]),([],[]),([],[]),([17],[17]),([],[]),([19],[19]),([],[]),([21],[21]),([16,18,20,22,15],[16,18,20,22]),([0,5,10,15,23],[0,5,10,15,23]),([24,23,0,1,2,3,4,5,6,7,8,9,10,11,12,13,14,15,16,17,18,19,20,21,22,23,24],[24])])
def build_Files_cut.B1 : List Nat := [0,0,2,0,8,30,0,64,0,256,1022,0,2048,0,8192,32766,0,0,131072,0,524288,0,2097152,8388606,16777215,33554431]
theorem build_Files_cut.tab1 : rtab .any (opsOf Try.f137 1)=build_Files_cut.T1 := by kernel_rfl
theorem build_Files_cut.bits1 : waitsOk build_Files_cut.T1.2 build_Files_cut.B1=true := by kernel_rfl
set_option maxHeartbeats 8000000 in
set_option maxRecDepth 100000 in
theorem build_Files_cut.calls (k : Nat) (A0_0 : Option Addr) (c0_0 : Nat) (l0_0 : List ByteArray) (A0_1 : Option Addr) (c0_1 : Nat) (l0_1 : List ByteArray) (A0_2 : Option Addr) (c0_2 : Nat) (l0_2 : List ByteArray) (a1_0 : Bool) (a1_1 : Int) (a1_2 : Int) (a1_3 : Int) (a1_4 : Int) (a1_5 : Int) (a1_6 : Int) (r1 : Bool) (r2 : Int) (r3 : Int) (r4 : Int) (r5 : Int) (r6 : Int) (r7 : Int) (r8 : List ByteArray) (r9 : List ByteArray) (r10 : List ByteArray) (r11 : Int) (w : World) (hr0_0 : Kd.C Kd.string w A0_0 l0_0.length l0_0) (hc0_0 : l0_0.length≤c0_0) (hr0_1 : Kd.C Kd.string w A0_1 l0_1.length l0_1) (hc0_1 : l0_1.length≤c0_1) (hr0_2 : Kd.C Kd.string w A0_2 l0_2.length l0_2) (hc0_2 : l0_2.length≤c0_2) (h : build_Files_cut.f k l0_0 l0_1 l0_2 a1_0 a1_1 a1_2 a1_3 a1_4 a1_5 a1_6=some (r1,r2,r3,r4,r5,r6,r7,r8,r9,r10,r11)) :
  Calls Try.prog 137 #[.agg #[.slice A0_0 l0_0.length c0_0,.slice A0_1 l0_1.length c0_1,.slice A0_2 l0_2.length c0_2],.agg #[.bool a1_0,.int .i64 a1_1,.int .i64 a1_2,.int .i64 a1_3,.int .i64 a1_4,.int .i64 a1_5,.int .i64 a1_6]] w fun e w'=>∃ v7_ v8_ v9_:Value,e = .returned (.agg #[.bool r1,.int .i64 r2,.int .i64 r3,.int .i64 r4,.int .i64 r5,.int .i64 r6,.int .i64 r7,v7_,v8_,v9_,.int .i64 r11])∧Kd.R Kd.string 9 w' w.heap.size (fun k_=>some k_≠(v8_:Value).ownBlock∧some k_≠(v9_:Value).ownBlock) v7_ r8∧Kd.R Kd.string 9 w' w.heap.size (fun k_=>some k_≠(v7_:Value).ownBlock∧some k_≠(v9_:Value).ownBlock) v8_ r9∧Kd.R Kd.string 9 w' w.heap.size (fun k_=>some k_≠(v7_:Value).ownBlock∧some k_≠(v8_:Value).ownBlock) v9_ r10∧Below w.heap.size w w':=by
 have hu144:=Try.underlying144
 have hu91:=Try.underlying91
 have hu179:=Try.underlying179
 have hu89:=Try.underlying89
 have HR0_0:=Aside0.mk hr0_0
 have HC0_0:=Aside0.mk hc0_0
 clear hr0_0 hc0_0
 have HR0_1:=Aside0.mk hr0_1
 have HC0_1:=Aside0.mk hc0_1
 clear hr0_1 hc0_1
 have HR0_2:=Aside0.mk hr0_2
 have HC0_2:=Aside0.mk hc0_2
 clear hr0_2 hc0_2
 have HB:=Aside0.mk (Below.refl w.heap.size w)
 have H:((chunk_Span_Cut.f a1_1 a1_2 l0_0).bind fun t502=>((chunk_Span_Cut.f a1_3 a1_4 l0_1).bind fun t505=>((chunk_Span_Cut.f a1_5 a1_6 l0_2).bind fun t508=>((chunk_Chunk_Class.f k a1_0 a1_1 a1_2 a1_3 a1_4 a1_5 a1_6 l0_0 l0_1 l0_2).bind fun t511=>(some (a1_0,a1_1,a1_2,a1_3,a1_4,a1_5,a1_6,t502,t505,t508,t511))))))=some (r1,r2,r3,r4,r5,r6,r7,r8,r9,r10,r11):=h
 clear h
 replace H:=Option.bind_eq_some_iff.mp H
 obtain⟨t502,A30,H⟩:=H
 replace H:((chunk_Span_Cut.f a1_3 a1_4 l0_1).bind fun t505=>((chunk_Span_Cut.f a1_5 a1_6 l0_2).bind fun t508=>((chunk_Chunk_Class.f k a1_0 a1_1 a1_2 a1_3 a1_4 a1_5 a1_6 l0_0 l0_1 l0_2).bind fun t511=>(some (a1_0,a1_1,a1_2,a1_3,a1_4,a1_5,a1_6,t502,t505,t508,t511)))))=some (r1,r2,r3,r4,r5,r6,r7,r8,r9,r10,r11):=H
 have A3:=Aside0.mk A30
 clear A30
 replace H:=Option.bind_eq_some_iff.mp H
 obtain⟨t505,A40,H⟩:=H
 replace H:((chunk_Span_Cut.f a1_5 a1_6 l0_2).bind fun t508=>((chunk_Chunk_Class.f k a1_0 a1_1 a1_2 a1_3 a1_4 a1_5 a1_6 l0_0 l0_1 l0_2).bind fun t511=>(some (a1_0,a1_1,a1_2,a1_3,a1_4,a1_5,a1_6,t502,t505,t508,t511))))=some (r1,r2,r3,r4,r5,r6,r7,r8,r9,r10,r11):=H
 have A4:=Aside0.mk A40
 clear A40
 replace H:=Option.bind_eq_some_iff.mp H
 obtain⟨t508,A50,H⟩:=H
 replace H:((chunk_Chunk_Class.f k a1_0 a1_1 a1_2 a1_3 a1_4 a1_5 a1_6 l0_0 l0_1 l0_2).bind fun t511=>(some (a1_0,a1_1,a1_2,a1_3,a1_4,a1_5,a1_6,t502,t505,t508,t511)))=some (r1,r2,r3,r4,r5,r6,r7,r8,r9,r10,r11):=H
 have A5:=Aside0.mk A50
 clear A50
 replace H:=Option.bind_eq_some_iff.mp H
 obtain⟨t511,A60,H⟩:=H
 replace H:(some (a1_0,a1_1,a1_2,a1_3,a1_4,a1_5,a1_6,t502,t505,t508,t511))=some (r1,r2,r3,r4,r5,r6,r7,r8,r9,r10,r11):=H
 have A6:=Aside0.mk A60
 clear A60
 simp only [Option.some.injEq,Prod.mk.injEq] at H
 obtain⟨rfl,rfl,rfl,rfl,rfl,rfl,rfl,rfl,rfl,rfl,rfl⟩:=H
 go_enter Try.func137,Try.ntmps137
 try go_wp2_with (first|((with_reducible refine gate_dst (N:=2) rfl ?_);refine box_event ?hg (N:=2) ?hd (cs:=#[.slice A0_0 l0_0.length c0_0,.slice A0_1 l0_1.length c0_1,.slice A0_2 l0_2.length c0_2]) (t:=144) ?hr ?_;(case hd=>rfl);(case hg=>rfl);(case hr=>first|(go_simp;done)|(go_simp;rfl));intro gb499 hg w7 hbox hb;have n0_:=Aside0.mk (below_step (by repeat (first|(with_reducible first|exact HB.out|apply below_alloc|apply pw_below_drewN|apply below_drew1)|exact HB.out)) hb);have n1_:=Aside0.mk (hbox);have n2_:=Aside0.mk ((by rw [hg];exact (below_size (by repeat (first|(with_reducible first|exact HB.out|apply below_alloc|apply pw_below_drewN|apply below_drew1)|exact HB.out))):w.heap.size≤gb499));have n3_:=Aside0.mk ((by rw [hg];exact (below_size (by repeat (first|(with_reducible first|exact HB.out|apply below_alloc|apply pw_below_drewN|apply below_drew1)|exact HB.out))):w.heap.size≤gb499));clear HB;have HB:=n0_;have BK499:=n1_;have GW499:=n2_;have GE499:=n3_;clear n0_ n1_ n2_ n3_;clear hb hbox hg)|((with_reducible refine gate_dst (N:=3) rfl ?_);refine box_event ?hg (N:=3) ?hd (cs:=#[.bool a1_0,.int .i64 a1_1,.int .i64 a1_2,.int .i64 a1_3,.int .i64 a1_4,.int .i64 a1_5,.int .i64 a1_6]) (t:=91) ?hr ?_;(case hd=>rfl);(case hg=>rfl);(case hr=>first|(go_simp;done)|(go_simp;rfl));intro gb500 hg w8 hbox hb;have n0_:=Aside0.mk (blk_below (g:=gb499) (o := .cells #[.slice A0_0 l0_0.length c0_0,.slice A0_1 l0_1.length c0_1,.slice A0_2 l0_2.length c0_2] 144 (0,0)) (by (with_reducible repeat (first|refine blk_drewN ?_ _|refine blk_drew ?_|refine blk_alloc ?_ _));exact BK499.out) hb);have n1_:=Aside0.mk (below_step (by repeat (first|(with_reducible first|exact HB.out|apply below_alloc|apply pw_below_drewN|apply below_drew1|refine below_set ?_ GE499.out)|exact HB.out)) hb);have n2_:=Aside0.mk (hbox);have n3_:=Aside0.mk ((by rw [hg];exact (below_size (by repeat (first|(with_reducible first|exact HB.out|apply below_alloc|apply pw_below_drewN|apply below_drew1|refine below_set ?_ GE499.out)|exact HB.out))):w.heap.size≤gb500));have n4_:=Aside0.mk ((by rw [hg];exact (below_size (by repeat (first|(with_reducible first|exact HB.out|apply below_alloc|apply pw_below_drewN|apply below_drew1|refine below_set ?_ GE499.out)|exact HB.out))):w.heap.size≤gb500));have n5_:=Aside0.mk ((by rw [hg];exact Nat.ne_of_lt (blk_lt (g:=gb499) (o := .cells #[.slice A0_0 l0_0.length c0_0,.slice A0_1 l0_1.length c0_1,.slice A0_2 l0_2.length c0_2] 144 (0,0)) (by (with_reducible repeat (first|refine blk_drewN ?_ _|refine blk_drew ?_|refine blk_alloc ?_ _));exact BK499.out)):gb499≠gb500));have n6_:=Aside0.mk ((by rw [hg];exact Nat.ne_of_gt (blk_lt (g:=gb499) (o := .cells #[.slice A0_0 l0_0.length c0_0,.slice A0_1 l0_1.length c0_1,.slice A0_2 l0_2.length c0_2] 144 (0,0)) (by (with_reducible repeat (first|refine blk_drewN ?_ _|refine blk_drew ?_|refine blk_alloc ?_ _));exact BK499.out)):gb500≠gb499));clear BK499;clear HB;have BK499:=n0_;have HB:=n1_;have BK500:=n2_;have GW500:=n3_;have GE500:=n4_;have NB499_500:=n5_;have NB500_499:=n6_;clear n0_ n1_ n2_ n3_ n4_ n5_ n6_;clear hb hbox hg)|((with_reducible refine gate_dst (N:=4) rfl ?_);refine box_event ?hg (N:=4) ?hd (cs:=#[.bool false,.int .i64 0,.int .i64 0,.int .i64 0,.int .i64 0,.int .i64 0,.int .i64 0,.slice none 0 0,.slice none 0 0,.slice none 0 0,.int .i64 0]) (t:=179) ?hr ?_;(case hd=>rfl);(case hg=>rfl);(case hr=>first|(go_simp;done)|(go_simp;rfl));intro gb501 hg w9 hbox hb;have n0_:=Aside0.mk (blk_below (g:=gb499) (o := .cells #[.slice A0_0 l0_0.length c0_0,.slice A0_1 l0_1.length c0_1,.slice A0_2 l0_2.length c0_2] 144 (0,0)) (by (with_reducible repeat (first|refine blk_drewN ?_ _|refine blk_drew ?_|refine blk_alloc ?_ _));exact BK499.out) hb);have n1_:=Aside0.mk (blk_below (g:=gb500) (o := .cells #[.bool a1_0,.int .i64 a1_1,.int .i64 a1_2,.int .i64 a1_3,.int .i64 a1_4,.int .i64 a1_5,.int .i64 a1_6] 91 (0,0)) (by (with_reducible repeat (first|refine blk_drewN ?_ _|refine blk_drew ?_|refine blk_alloc ?_ _));exact BK500.out) hb);have n2_:=Aside0.mk (below_step (by repeat (first|(with_reducible first|exact HB.out|apply below_alloc|apply pw_below_drewN|apply below_drew1|refine below_set ?_ GE499.out|refine below_set ?_ GE500.out)|exact HB.out)) hb);have n3_:=Aside0.mk (hbox);have n4_:=Aside0.mk ((by rw [hg];exact (below_size (by repeat (first|(with_reducible first|exact HB.out|apply below_alloc|apply pw_below_drewN|apply below_drew1|refine below_set ?_ GE499.out|refine below_set ?_ GE500.out)|exact HB.out))):w.heap.size≤gb501));have n5_:=Aside0.mk ((by rw [hg];exact (below_size (by repeat (first|(with_reducible first|exact HB.out|apply below_alloc|apply pw_below_drewN|apply below_drew1|refine below_set ?_ GE499.out|refine below_set ?_ GE500.out)|exact HB.out))):w.heap.size≤gb501));have n6_:=Aside0.mk ((by rw [hg];exact Nat.ne_of_lt (blk_lt (g:=gb499) (o := .cells #[.slice A0_0 l0_0.length c0_0,.slice A0_1 l0_1.length c0_1,.slice A0_2 l0_2.length c0_2] 144 (0,0)) (by (with_reducible repeat (first|refine blk_drewN ?_ _|refine blk_drew ?_|refine blk_alloc ?_ _));exact BK499.out)):gb499≠gb501));have n7_:=Aside0.mk ((by rw [hg];exact Nat.ne_of_gt (blk_lt (g:=gb499) (o := .cells #[.slice A0_0 l0_0.length c0_0,.slice A0_1 l0_1.length c0_1,.slice A0_2 l0_2.length c0_2] 144 (0,0)) (by (with_reducible repeat (first|refine blk_drewN ?_ _|refine blk_drew ?_|refine blk_alloc ?_ _));exact BK499.out)):gb501≠gb499));have n8_:=Aside0.mk ((by rw [hg];exact Nat.ne_of_lt (blk_lt (g:=gb500) (o := .cells #[.bool a1_0,.int .i64 a1_1,.int .i64 a1_2,.int .i64 a1_3,.int .i64 a1_4,.int .i64 a1_5,.int .i64 a1_6] 91 (0,0)) (by (with_reducible repeat (first|refine blk_drewN ?_ _|refine blk_drew ?_|refine blk_alloc ?_ _));exact BK500.out)):gb500≠gb501));have n9_:=Aside0.mk ((by rw [hg];exact Nat.ne_of_gt (blk_lt (g:=gb500) (o := .cells #[.bool a1_0,.int .i64 a1_1,.int .i64 a1_2,.int .i64 a1_3,.int .i64 a1_4,.int .i64 a1_5,.int .i64 a1_6] 91 (0,0)) (by (with_reducible repeat (first|refine blk_drewN ?_ _|refine blk_drew ?_|refine blk_alloc ?_ _));exact BK500.out)):gb501≠gb500));clear BK499;clear BK500;clear HB;have BK499:=n0_;have BK500:=n1_;have HB:=n2_;have BK501:=n3_;have GW501:=n4_;have GE501:=n5_;have NB499_501:=n6_;have NB501_499:=n7_;have NB500_501:=n8_;have NB501_500:=n9_;clear n0_ n1_ n2_ n3_ n4_ n5_ n6_ n7_ n8_ n9_;clear hb hbox hg))
 have n0_:=Aside0.mk (blk_drew BK499.out)
 have n1_:=Aside0.mk (blk_drew BK500.out)
 have n2_:=Aside0.mk (blk_drew BK501.out)
 have n3_:=Aside0.mk (below_drew1 HB.out)
 clear BK499
 clear BK500
 clear BK501
 clear HB
 have BK499:=n0_
 have BK500:=n1_
 have BK501:=n2_
 have HB:=n3_
 clear n0_ n1_ n2_ n3_
 refine start_ (n:=26) (S:=fun w'=>w'.cell? ⟨gb500,0,none⟩=some (.bool a1_0)∧w'.cell? ⟨gb500,1,none⟩=some (.int .i64 a1_1)∧w'.cell? ⟨gb500,2,none⟩=some (.int .i64 a1_2)∧w'.cell? ⟨gb500,3,none⟩=some (.int .i64 a1_3)∧w'.cell? ⟨gb500,4,none⟩=some (.int .i64 a1_4)∧w'.cell? ⟨gb500,5,none⟩=some (.int .i64 a1_5)∧w'.cell? ⟨gb500,6,none⟩=some (.int .i64 a1_6)∧w'.cell? ⟨gb499,0,none⟩=some (.slice A0_0 l0_0.length c0_0)∧w'.cell? ⟨gb499,1,none⟩=some (.slice A0_1 l0_1.length c0_1)∧w'.cell? ⟨gb499,2,none⟩=some (.slice A0_2 l0_2.length c0_2)) (ds:=[]) #[false,false,false,false,false,false,false,false,false,false,false,false,false,false,false,false,false,false,false,false,false,false,false,false,false,false] (by kernel_rfl) rfl rfl ⟨(blk_cell BK500.out 0).trans rfl,(blk_cell BK500.out 1).trans rfl,(blk_cell BK500.out 2).trans rfl,(blk_cell BK500.out 3).trans rfl,(blk_cell BK500.out 4).trans rfl,(blk_cell BK500.out 5).trans rfl,(blk_cell BK500.out 6).trans rfl,(blk_cell BK499.out 0).trans rfl,(blk_cell BK499.out 1).trans rfl,(blk_cell BK499.out 2).trans rfl⟩ (fun hHeld=>?_);refine with_tabW build_Files_cut.tab1 build_Files_cut.bits1 (fun HT_ HW_=>?_)
 generalize w9.drew=w10 at BK499 BK500 BK501 HB hHeld ⊢
 refine pure_ (i:=1) (N:=some 6) (v:=?_) (a':=?_) #[false,true,false,false,false,false,false,false,false,false,false,false,false,false,false,false,false,false,false,false,false,false,false,false,false,false] rfl rfl (any_of HT_.out (by kernel_rfl)) (fun _ _ _ h=>h) (Or.inl ⟨by rfl,?_⟩) ?_ ?_
 rotate_left
 ·intro w'
  go_simp
  with_reducible rfl
 rotate_left
 ·simp only [Act.put,List.setIfInBounds_toArray,List.set_cons_zero,List.set_cons_succ,i64_w,i32_w]
  rfl
 refine pure_ (i:=3) (N:=some 8) (v:=?_) (a':=?_) #[false,true,false,true,false,false,false,false,false,false,false,false,false,false,false,false,false,false,false,false,false,false,false,false,false,false] rfl rfl (any_of HT_.out (by kernel_rfl)) (fun _ _ _ h=>h) (Or.inl ⟨by rfl,?_⟩) ?_ ?_
 rotate_left
 ·intro w'
  go_simp
  with_reducible rfl
 rotate_left
 ·simp only [Act.put,List.setIfInBounds_toArray,List.set_cons_zero,List.set_cons_succ,i64_w,i32_w]
  rfl
 refine pure_ (i:=6) (N:=some 11) (v:=?_) (a':=?_) #[false,true,false,true,false,false,true,false,false,false,false,false,false,false,false,false,false,false,false,false,false,false,false,false,false,false] rfl rfl (any_of HT_.out (by kernel_rfl)) (fun _ _ _ h=>h) (Or.inl ⟨by rfl,?_⟩) ?_ ?_
 rotate_left
 ·intro w'
  go_simp
  with_reducible rfl
 rotate_left
 ·simp only [Act.put,List.setIfInBounds_toArray,List.set_cons_zero,List.set_cons_succ,i64_w,i32_w]
  rfl
 refine pure_ (i:=8) (N:=some 13) (v:=?_) (a':=?_) #[false,true,false,true,false,false,true,false,true,false,false,false,false,false,false,false,false,false,false,false,false,false,false,false,false,false] rfl rfl (any_of HT_.out (by kernel_rfl)) (fun _ _ _ h=>h) (Or.inl ⟨by rfl,?_⟩) ?_ ?_
 rotate_left
 ·intro w'
  go_simp
  with_reducible rfl
 rotate_left
 ·simp only [Act.put,List.setIfInBounds_toArray,List.set_cons_zero,List.set_cons_succ,i64_w,i32_w]
  rfl
 refine pure_ (i:=11) (N:=some 16) (v:=?_) (a':=?_) #[false,true,false,true,false,false,true,false,true,false,false,true,false,false,false,false,false,false,false,false,false,false,false,false,false,false] rfl rfl (any_of HT_.out (by kernel_rfl)) (fun _ _ _ h=>h) (Or.inl ⟨by rfl,?_⟩) ?_ ?_
 rotate_left
 ·intro w'
  go_simp
  with_reducible rfl
 rotate_left
 ·simp only [Act.put,List.setIfInBounds_toArray,List.set_cons_zero,List.set_cons_succ,i64_w,i32_w]
  rfl
 refine pure_ (i:=13) (N:=some 18) (v:=?_) (a':=?_) #[false,true,false,true,false,false,true,false,true,false,false,true,false,true,false,false,false,false,false,false,false,false,false,false,false,false] rfl rfl (any_of HT_.out (by kernel_rfl)) (fun _ _ _ h=>h) (Or.inl ⟨by rfl,?_⟩) ?_ ?_
 rotate_left
 ·intro w'
  go_simp
  with_reducible rfl
 rotate_left
 ·simp only [Act.put,List.setIfInBounds_toArray,List.set_cons_zero,List.set_cons_succ,i64_w,i32_w]
  rfl
 refine pure_ (i:=17) (N:=some 22) (v:=?_) (a':=?_) #[false,true,false,true,false,false,true,false,true,false,false,true,false,true,false,false,false,true,false,false,false,false,false,false,false,false] rfl rfl (any_of HT_.out (by kernel_rfl)) (fun _ _ _ h=>h) (Or.inl ⟨by rfl,?_⟩) ?_ ?_
 rotate_left
 ·intro w'
  go_simp
  with_reducible rfl
 rotate_left
 ·simp only [Act.put,List.setIfInBounds_toArray,List.set_cons_zero,List.set_cons_succ,i64_w,i32_w]
  rfl
 refine pure_ (i:=19) (N:=some 24) (v:=?_) (a':=?_) #[false,true,false,true,false,false,true,false,true,false,false,true,false,true,false,false,false,true,false,true,false,false,false,false,false,false] rfl rfl (any_of HT_.out (by kernel_rfl)) (fun _ _ _ h=>h) (Or.inl ⟨by rfl,?_⟩) ?_ ?_
 rotate_left
 ·intro w'
  go_simp
  with_reducible rfl
 rotate_left
 ·simp only [Act.put,List.setIfInBounds_toArray,List.set_cons_zero,List.set_cons_succ,i64_w,i32_w]
  rfl
 refine pure_ (i:=21) (N:=some 26) (v:=?_) (a':=?_) #[false,true,false,true,false,false,true,false,true,false,false,true,false,true,false,false,false,true,false,true,false,true,false,false,false,false] rfl rfl (any_of HT_.out (by kernel_rfl)) (fun _ _ _ h=>h) (Or.inl ⟨by rfl,?_⟩) ?_ ?_
 rotate_left
 ·intro w'
  go_simp
  with_reducible rfl
 rotate_left
 ·simp only [Act.put,List.setIfInBounds_toArray,List.set_cons_zero,List.set_cons_succ,i64_w,i32_w]
  rfl
 refine take_ (i:=0) (N:=some 5) (v:=?_) (a':=?_) #[true,true,false,true,false,false,true,false,true,false,false,true,false,true,false,false,false,true,false,true,false,true,false,false,false,false] rfl rfl (take_ofW HT_.out HW_.out (by kernel_rfl)) (fun _ _ _ h=>h) (Or.inl ⟨by rfl,?_⟩) hHeld ?_ ?_
 rotate_left
 ·rintro w' ⟨s0,s1,s2,s3,s4,s5,s6,s7,s8,s9⟩
  go_simp
  with_reducible rfl
 rotate_left
 ·simp only [Act.put,List.setIfInBounds_toArray,List.set_cons_zero,List.set_cons_succ,i64_w,i32_w]
  rfl
 refine take_ (i:=2) (N:=some 7) (v:=?_) (a':=?_) #[true,true,true,true,false,false,true,false,true,false,false,true,false,true,false,false,false,true,false,true,false,true,false,false,false,false] rfl rfl (take_ofW HT_.out HW_.out (by kernel_rfl)) (fun _ _ _ h=>h) (Or.inl ⟨by rfl,?_⟩) hHeld ?_ ?_
 rotate_left
 ·rintro w' ⟨s0,s1,s2,s3,s4,s5,s6,s7,s8,s9⟩
  go_simp
  with_reducible rfl
 rotate_left
 ·simp only [Act.put,List.setIfInBounds_toArray,List.set_cons_zero,List.set_cons_succ,i64_w,i32_w]
  rfl
 refine take_ (i:=4) (N:=some 9) (v:=?_) (a':=?_) #[true,true,true,true,true,false,true,false,true,false,false,true,false,true,false,false,false,true,false,true,false,true,false,false,false,false] rfl rfl (take_ofW HT_.out HW_.out (by kernel_rfl)) (fun _ _ _ h=>h) (Or.inl ⟨by rfl,?_⟩) hHeld ?_ ?_
 rotate_left
 ·rintro w' ⟨s0,s1,s2,s3,s4,s5,s6,s7,s8,s9⟩
  go_simp
  with_reducible rfl
 rotate_left
 ·simp only [Act.put,List.setIfInBounds_toArray,List.set_cons_zero,List.set_cons_succ,i64_w,i32_w]
  rfl
 refine take_ (i:=7) (N:=some 12) (v:=?_) (a':=?_) #[true,true,true,true,true,false,true,true,true,false,false,true,false,true,false,false,false,true,false,true,false,true,false,false,false,false] rfl rfl (take_ofW HT_.out HW_.out (by kernel_rfl)) (fun _ _ _ h=>h) (Or.inl ⟨by rfl,?_⟩) hHeld ?_ ?_
 rotate_left
 ·rintro w' ⟨s0,s1,s2,s3,s4,s5,s6,s7,s8,s9⟩
  go_simp
  with_reducible rfl
 rotate_left
 ·simp only [Act.put,List.setIfInBounds_toArray,List.set_cons_zero,List.set_cons_succ,i64_w,i32_w]
  rfl
 refine take_ (i:=9) (N:=some 14) (v:=?_) (a':=?_) #[true,true,true,true,true,false,true,true,true,true,false,true,false,true,false,false,false,true,false,true,false,true,false,false,false,false] rfl rfl (take_ofW HT_.out HW_.out (by kernel_rfl)) (fun _ _ _ h=>h) (Or.inl ⟨by rfl,?_⟩) hHeld ?_ ?_
 rotate_left
 ·rintro w' ⟨s0,s1,s2,s3,s4,s5,s6,s7,s8,s9⟩
  go_simp
  with_reducible rfl
 rotate_left
 ·simp only [Act.put,List.setIfInBounds_toArray,List.set_cons_zero,List.set_cons_succ,i64_w,i32_w]
  rfl
 refine take_ (i:=12) (N:=some 17) (v:=?_) (a':=?_) #[true,true,true,true,true,false,true,true,true,true,false,true,true,true,false,false,false,true,false,true,false,true,false,false,false,false] rfl rfl (take_ofW HT_.out HW_.out (by kernel_rfl)) (fun _ _ _ h=>h) (Or.inl ⟨by rfl,?_⟩) hHeld ?_ ?_
 rotate_left
 ·rintro w' ⟨s0,s1,s2,s3,s4,s5,s6,s7,s8,s9⟩
  go_simp
  with_reducible rfl
 rotate_left
 ·simp only [Act.put,List.setIfInBounds_toArray,List.set_cons_zero,List.set_cons_succ,i64_w,i32_w]
  rfl
 refine take_ (i:=14) (N:=some 19) (v:=?_) (a':=?_) #[true,true,true,true,true,false,true,true,true,true,false,true,true,true,true,false,false,true,false,true,false,true,false,false,false,false] rfl rfl (take_ofW HT_.out HW_.out (by kernel_rfl)) (fun _ _ _ h=>h) (Or.inl ⟨by rfl,?_⟩) hHeld ?_ ?_
 rotate_left
 ·rintro w' ⟨s0,s1,s2,s3,s4,s5,s6,s7,s8,s9⟩
  go_simp
  with_reducible rfl
 rotate_left
 ·simp only [Act.put,List.setIfInBounds_toArray,List.set_cons_zero,List.set_cons_succ,i64_w,i32_w]
  rfl
 refine take_ (i:=16) (N:=some 21) (v:=?_) (a':=?_) #[true,true,true,true,true,false,true,true,true,true,false,true,true,true,true,false,true,true,false,true,false,true,false,false,false,false] rfl rfl (take_ofW HT_.out HW_.out (by kernel_rfl)) (fun _ _ _ h=>h) (Or.inl ⟨by rfl,?_⟩) hHeld ?_ ?_
 rotate_left
 ·rintro w' ⟨s0,s1,s2,s3,s4,s5,s6,s7,s8,s9⟩
  go_simp
  with_reducible rfl
 rotate_left
 ·simp only [Act.put,List.setIfInBounds_toArray,List.set_cons_zero,List.set_cons_succ,i64_w,i32_w]
  rfl
 refine take_ (i:=18) (N:=some 23) (v:=?_) (a':=?_) #[true,true,true,true,true,false,true,true,true,true,false,true,true,true,true,false,true,true,true,true,false,true,false,false,false,false] rfl rfl (take_ofW HT_.out HW_.out (by kernel_rfl)) (fun _ _ _ h=>h) (Or.inl ⟨by rfl,?_⟩) hHeld ?_ ?_
 rotate_left
 ·rintro w' ⟨s0,s1,s2,s3,s4,s5,s6,s7,s8,s9⟩
  go_simp
  with_reducible rfl
 rotate_left
 ·simp only [Act.put,List.setIfInBounds_toArray,List.set_cons_zero,List.set_cons_succ,i64_w,i32_w]
  rfl
 refine take_ (i:=20) (N:=some 25) (v:=?_) (a':=?_) #[true,true,true,true,true,false,true,true,true,true,false,true,true,true,true,false,true,true,true,true,true,true,false,false,false,false] rfl rfl (take_ofW HT_.out HW_.out (by kernel_rfl)) (fun _ _ _ h=>h) (Or.inl ⟨by rfl,?_⟩) hHeld ?_ ?_
 rotate_left
 ·rintro w' ⟨s0,s1,s2,s3,s4,s5,s6,s7,s8,s9⟩
  go_simp
  with_reducible rfl
 rotate_left
 ·simp only [Act.put,List.setIfInBounds_toArray,List.set_cons_zero,List.set_cons_succ,i64_w,i32_w]
  rfl
 refine take_ (i:=22) (N:=some 27) (v:=?_) (a':=?_) #[true,true,true,true,true,false,true,true,true,true,false,true,true,true,true,false,true,true,true,true,true,true,true,false,false,false] rfl rfl (take_ofW HT_.out HW_.out (by kernel_rfl)) (fun _ _ _ h=>h) (Or.inl ⟨by rfl,?_⟩) hHeld ?_ ?_
 rotate_left
 ·rintro w' ⟨s0,s1,s2,s3,s4,s5,s6,s7,s8,s9⟩
  go_simp
  with_reducible rfl
 rotate_left
 ·simp only [Act.put,List.setIfInBounds_toArray,List.set_cons_zero,List.set_cons_succ,i64_w,i32_w]
  rfl
 refine one_ (i:=5) (N:=some 10) #[true,true,true,true,true,true,true,true,true,true,false,true,true,true,true,false,true,true,true,true,true,true,true,false,false,false] rfl rfl (one_of HT_.out (by kernel_rfl)) (by decide) (fun K hK=>?_)
 refine goes_ Try.func60 (by kernel_rfl) rfl #[.agg #[.int .i64 a1_1,.int .i64 a1_2],.slice A0_0 l0_0.length c0_0] (by rfl) rfl rfl (by (try simp only [List.map_toArray,List.map_cons,List.map_nil]);first|done|rfl|(simp only [List.length_drop,List.length_take];rfl)) ?_
 with_reducible refine (chunk_Span_Cut.calls a1_1 a1_2 _ _ l0_0 t502 _ ?side1 ?side2 A3.out).mono ?_
 (case side1=>repeat (first|exact (Kd.C_below HR0_0.out HB.out)|(with_reducible refine Kd.C_alloc ?_ _)|(with_reducible refine Kd.C_drewN ?_ _)|(with_reducible refine Kd.C_drew ?_)))
 (case side2=>exact HC0_0.out)
 rintro e w11 ⟨v503,rfl,ho0,hb⟩
 refine⟨_,rfl,?_⟩
 have n0_:=Aside0.mk (Kd.R_lower ho0 (below_size (by repeat (first|(with_reducible first|exact HB.out|apply below_alloc|apply pw_below_drewN|apply below_drew1|refine below_set ?_ GE499.out|refine below_set ?_ GE500.out|refine below_set ?_ GE501.out)|exact HB.out))))
 have n1_:=Aside0.mk (blk_below (g:=gb499) (o := .cells #[.slice A0_0 l0_0.length c0_0,.slice A0_1 l0_1.length c0_1,.slice A0_2 l0_2.length c0_2] 144 (0,0)) (by (with_reducible repeat (first|refine blk_drewN ?_ _|refine blk_drew ?_|refine blk_alloc ?_ _));exact BK499.out) hb)
 have n2_:=Aside0.mk (blk_below (g:=gb500) (o := .cells #[.bool a1_0,.int .i64 a1_1,.int .i64 a1_2,.int .i64 a1_3,.int .i64 a1_4,.int .i64 a1_5,.int .i64 a1_6] 91 (0,0)) (by (with_reducible repeat (first|refine blk_drewN ?_ _|refine blk_drew ?_|refine blk_alloc ?_ _));exact BK500.out) hb)
 have n3_:=Aside0.mk (blk_below (g:=gb501) (o := .cells #[.bool false,.int .i64 0,.int .i64 0,.int .i64 0,.int .i64 0,.int .i64 0,.int .i64 0,.slice none 0 0,.slice none 0 0,.slice none 0 0,.int .i64 0] 179 (0,0)) (by (with_reducible repeat (first|refine blk_drewN ?_ _|refine blk_drew ?_|refine blk_alloc ?_ _));exact BK501.out) hb)
 have n4_:=Aside0.mk (below_step (by repeat (first|(with_reducible first|exact HB.out|apply below_alloc|apply pw_below_drewN|apply below_drew1|refine below_set ?_ GE499.out|refine below_set ?_ GE500.out|refine below_set ?_ GE501.out)|exact HB.out)) hb)
 clear BK499
 clear BK500
 clear BK501
 clear HB
 have HO504:=n0_
 have BK499:=n1_
 have BK500:=n2_
 have BK501:=n3_
 have HB:=n4_
 clear n0_ n1_ n2_ n3_ n4_
 (try clear hb)
 (try clear hb2)
 (try clear hk)
 (try clear hi)
 (try clear ho0)
 refine hK.out _ _ ⟨(blk_cell BK500.out 0).trans rfl,(blk_cell BK500.out 1).trans rfl,(blk_cell BK500.out 2).trans rfl,(blk_cell BK500.out 3).trans rfl,(blk_cell BK500.out 4).trans rfl,(blk_cell BK500.out 5).trans rfl,(blk_cell BK500.out 6).trans rfl,(blk_cell BK499.out 0).trans rfl,(blk_cell BK499.out 1).trans rfl,(blk_cell BK499.out 2).trans rfl⟩ (fun hHeld=>?_)
 clear hK K
 refine norm_ (a':=?_) ?_ ?_
 rotate_left
 ·show Act.put _ (some 10) _=_
  simp only [Act.put,List.setIfInBounds_toArray,List.set_cons_zero,List.set_cons_succ,i64_w,i32_w]
  rfl
 refine one_ (i:=10) (N:=some 15) #[true,true,true,true,true,true,true,true,true,true,true,true,true,true,true,false,true,true,true,true,true,true,true,false,false,false] rfl rfl (one_of HT_.out (by kernel_rfl)) (by decide) (fun K hK=>?_)
 refine goes_ Try.func60 (by kernel_rfl) rfl #[.agg #[.int .i64 a1_3,.int .i64 a1_4],.slice A0_1 l0_1.length c0_1] (by rfl) rfl rfl (by (try simp only [List.map_toArray,List.map_cons,List.map_nil]);first|done|rfl|(simp only [List.length_drop,List.length_take];rfl)) ?_
 with_reducible refine (chunk_Span_Cut.calls a1_3 a1_4 _ _ l0_1 t505 _ ?side1 ?side2 A4.out).mono ?_
 (case side1=>repeat (first|exact (Kd.C_below HR0_1.out HB.out)|(with_reducible refine Kd.C_alloc ?_ _)|(with_reducible refine Kd.C_drewN ?_ _)|(with_reducible refine Kd.C_drew ?_)))
 (case side2=>exact HC0_1.out)
 rintro e w12 ⟨v506,rfl,ho0,hb⟩
 refine⟨_,rfl,?_⟩
 have n0_:=Aside0.mk (Kd.R_elder' (by (with_reducible repeat (first|apply Kd.R_alloc|apply Kd.R_drewN|apply Kd.R_drew));exact HO504.out) (Kd.R_base ho0) hb)
 have n1_:=Aside0.mk (Kd.R_lower (Kd.R_new' ho0 (Kd.R_lt (by (with_reducible repeat (first|apply Kd.R_alloc|apply Kd.R_drewN|apply Kd.R_drew));exact HO504.out))) (below_size (by repeat (first|(with_reducible first|exact HB.out|apply below_alloc|apply pw_below_drewN|apply below_drew1|refine below_set ?_ GE499.out|refine below_set ?_ GE500.out|refine below_set ?_ GE501.out)|exact HB.out))))
 have n2_:=Aside0.mk (blk_below (g:=gb499) (o := .cells #[.slice A0_0 l0_0.length c0_0,.slice A0_1 l0_1.length c0_1,.slice A0_2 l0_2.length c0_2] 144 (0,0)) (by (with_reducible repeat (first|refine blk_drewN ?_ _|refine blk_drew ?_|refine blk_alloc ?_ _));exact BK499.out) hb)
 have n3_:=Aside0.mk (blk_below (g:=gb500) (o := .cells #[.bool a1_0,.int .i64 a1_1,.int .i64 a1_2,.int .i64 a1_3,.int .i64 a1_4,.int .i64 a1_5,.int .i64 a1_6] 91 (0,0)) (by (with_reducible repeat (first|refine blk_drewN ?_ _|refine blk_drew ?_|refine blk_alloc ?_ _));exact BK500.out) hb)
 have n4_:=Aside0.mk (blk_below (g:=gb501) (o := .cells #[.bool false,.int .i64 0,.int .i64 0,.int .i64 0,.int .i64 0,.int .i64 0,.int .i64 0,.slice none 0 0,.slice none 0 0,.slice none 0 0,.int .i64 0] 179 (0,0)) (by (with_reducible repeat (first|refine blk_drewN ?_ _|refine blk_drew ?_|refine blk_alloc ?_ _));exact BK501.out) hb)
 have n5_:=Aside0.mk (below_step (by repeat (first|(with_reducible first|exact HB.out|apply below_alloc|apply pw_below_drewN|apply below_drew1|refine below_set ?_ GE499.out|refine below_set ?_ GE500.out|refine below_set ?_ GE501.out)|exact HB.out)) hb)
 clear HO504
 clear BK499
 clear BK500
 clear BK501
 clear HB
 have HO504:=n0_
 have HO507:=n1_
 have BK499:=n2_
 have BK500:=n3_
 have BK501:=n4_
 have HB:=n5_
 clear n0_ n1_ n2_ n3_ n4_ n5_
 (try clear hb)
 (try clear hb2)
 (try clear hk)
 (try clear hi)
 (try clear ho0)
 refine hK.out _ _ ⟨(blk_cell BK500.out 0).trans rfl,(blk_cell BK500.out 1).trans rfl,(blk_cell BK500.out 2).trans rfl,(blk_cell BK500.out 3).trans rfl,(blk_cell BK500.out 4).trans rfl,(blk_cell BK500.out 5).trans rfl,(blk_cell BK500.out 6).trans rfl,(blk_cell BK499.out 0).trans rfl,(blk_cell BK499.out 1).trans rfl,(blk_cell BK499.out 2).trans rfl⟩ (fun hHeld=>?_)
 clear hK K
 refine norm_ (a':=?_) ?_ ?_
 rotate_left
 ·show Act.put _ (some 15) _=_
  simp only [Act.put,List.setIfInBounds_toArray,List.set_cons_zero,List.set_cons_succ,i64_w,i32_w]
  rfl
 refine one_ (i:=15) (N:=some 20) #[true,true,true,true,true,true,true,true,true,true,true,true,true,true,true,true,true,true,true,true,true,true,true,false,false,false] rfl rfl (one_of HT_.out (by kernel_rfl)) (by decide) (fun K hK=>?_)
 refine goes_ Try.func60 (by kernel_rfl) rfl #[.agg #[.int .i64 a1_5,.int .i64 a1_6],.slice A0_2 l0_2.length c0_2] (by rfl) rfl rfl (by (try simp only [List.map_toArray,List.map_cons,List.map_nil]);first|done|rfl|(simp only [List.length_drop,List.length_take];rfl)) ?_
 with_reducible refine (chunk_Span_Cut.calls a1_5 a1_6 _ _ l0_2 t508 _ ?side1 ?side2 A5.out).mono ?_
 (case side1=>repeat (first|exact (Kd.C_below HR0_2.out HB.out)|(with_reducible refine Kd.C_alloc ?_ _)|(with_reducible refine Kd.C_drewN ?_ _)|(with_reducible refine Kd.C_drew ?_)))
 (case side2=>exact HC0_2.out)
 rintro e w13 ⟨v509,rfl,ho0,hb⟩
 refine⟨_,rfl,?_⟩
 have n0_:=Aside0.mk (Kd.R_elder' (by (with_reducible repeat (first|apply Kd.R_alloc|apply Kd.R_drewN|apply Kd.R_drew));exact HO504.out) (Kd.R_base ho0) hb)
 have n1_:=Aside0.mk (Kd.R_elder' (by (with_reducible repeat (first|apply Kd.R_alloc|apply Kd.R_drewN|apply Kd.R_drew));exact HO507.out) (Kd.R_base ho0) hb)
 have n2_:=Aside0.mk (Kd.R_lower (Kd.R_new' (Kd.R_new' ho0 (Kd.R_lt (by (with_reducible repeat (first|apply Kd.R_alloc|apply Kd.R_drewN|apply Kd.R_drew));exact HO504.out))) (Kd.R_lt (by (with_reducible repeat (first|apply Kd.R_alloc|apply Kd.R_drewN|apply Kd.R_drew));exact HO507.out))) (below_size (by repeat (first|(with_reducible first|exact HB.out|apply below_alloc|apply pw_below_drewN|apply below_drew1|refine below_set ?_ GE499.out|refine below_set ?_ GE500.out|refine below_set ?_ GE501.out)|exact HB.out))))
 have n3_:=Aside0.mk (blk_below (g:=gb499) (o := .cells #[.slice A0_0 l0_0.length c0_0,.slice A0_1 l0_1.length c0_1,.slice A0_2 l0_2.length c0_2] 144 (0,0)) (by (with_reducible repeat (first|refine blk_drewN ?_ _|refine blk_drew ?_|refine blk_alloc ?_ _));exact BK499.out) hb)
 have n4_:=Aside0.mk (blk_below (g:=gb500) (o := .cells #[.bool a1_0,.int .i64 a1_1,.int .i64 a1_2,.int .i64 a1_3,.int .i64 a1_4,.int .i64 a1_5,.int .i64 a1_6] 91 (0,0)) (by (with_reducible repeat (first|refine blk_drewN ?_ _|refine blk_drew ?_|refine blk_alloc ?_ _));exact BK500.out) hb)
 have n5_:=Aside0.mk (blk_below (g:=gb501) (o := .cells #[.bool false,.int .i64 0,.int .i64 0,.int .i64 0,.int .i64 0,.int .i64 0,.int .i64 0,.slice none 0 0,.slice none 0 0,.slice none 0 0,.int .i64 0] 179 (0,0)) (by (with_reducible repeat (first|refine blk_drewN ?_ _|refine blk_drew ?_|refine blk_alloc ?_ _));exact BK501.out) hb)
 have n6_:=Aside0.mk (below_step (by repeat (first|(with_reducible first|exact HB.out|apply below_alloc|apply pw_below_drewN|apply below_drew1|refine below_set ?_ GE499.out|refine below_set ?_ GE500.out|refine below_set ?_ GE501.out)|exact HB.out)) hb)
 clear HO504
 clear HO507
 clear BK499
 clear BK500
 clear BK501
 clear HB
 have HO504:=n0_
 have HO507:=n1_
 have HO510:=n2_
 have BK499:=n3_
 have BK500:=n4_
 have BK501:=n5_
 have HB:=n6_
 clear n0_ n1_ n2_ n3_ n4_ n5_ n6_
 (try clear hb)
 (try clear hb2)
 (try clear hk)
 (try clear hi)
 (try clear ho0)
 refine hK.out _ _ ⟨(blk_cell BK500.out 0).trans rfl,(blk_cell BK500.out 1).trans rfl,(blk_cell BK500.out 2).trans rfl,(blk_cell BK500.out 3).trans rfl,(blk_cell BK500.out 4).trans rfl,(blk_cell BK500.out 5).trans rfl,(blk_cell BK500.out 6).trans rfl,(blk_cell BK499.out 0).trans rfl,(blk_cell BK499.out 1).trans rfl,(blk_cell BK499.out 2).trans rfl⟩ (fun hHeld=>?_)
 clear hK K
 refine norm_ (a':=?_) ?_ ?_
 rotate_left
 ·show Act.put _ (some 20) _=_
  simp only [Act.put,List.setIfInBounds_toArray,List.set_cons_zero,List.set_cons_succ,i64_w,i32_w]
  rfl
 refine one_ (i:=23) (N:=some 28) #[true,true,true,true,true,true,true,true,true,true,true,true,true,true,true,true,true,true,true,true,true,true,true,true,false,false] rfl rfl (one_of HT_.out (by kernel_rfl)) (by decide) (fun K hK=>?_)
 refine goes_ Try.func61 (by kernel_rfl) rfl #[.agg #[.bool a1_0,.int .i64 a1_1,.int .i64 a1_2,.int .i64 a1_3,.int .i64 a1_4,.int .i64 a1_5,.int .i64 a1_6],.slice A0_0 l0_0.length c0_0,.slice A0_1 l0_1.length c0_1,.slice A0_2 l0_2.length c0_2] (by rfl) rfl rfl (by (try simp only [List.map_toArray,List.map_cons,List.map_nil]);first|done|rfl|(simp only [List.length_drop,List.length_take];rfl)) ?_
 with_reducible refine (chunk_Chunk_Class.calls k a1_0 a1_1 a1_2 a1_3 a1_4 a1_5 a1_6 _ _ l0_0 _ _ l0_1 _ _ l0_2 t511 _ ?side1 ?side2 ?side3 ?side4 ?side5 ?side6 A6.out).mono ?_
 (case side1=>repeat (first|exact (Kd.C_below HR0_0.out HB.out)|(with_reducible refine Kd.C_alloc ?_ _)|(with_reducible refine Kd.C_drewN ?_ _)|(with_reducible refine Kd.C_drew ?_)))
 (case side2=>exact HC0_0.out)
 (case side3=>repeat (first|exact (Kd.C_below HR0_1.out HB.out)|(with_reducible refine Kd.C_alloc ?_ _)|(with_reducible refine Kd.C_drewN ?_ _)|(with_reducible refine Kd.C_drew ?_)))
 (case side4=>exact HC0_1.out)
 (case side5=>repeat (first|exact (Kd.C_below HR0_2.out HB.out)|(with_reducible refine Kd.C_alloc ?_ _)|(with_reducible refine Kd.C_drewN ?_ _)|(with_reducible refine Kd.C_drew ?_)))
 (case side6=>exact HC0_2.out)
 rintro e w14 ⟨rfl,hb⟩
 refine⟨_,rfl,?_⟩
 have n0_:=Aside0.mk (Kd.R_below (by (with_reducible repeat (first|apply Kd.R_alloc|apply Kd.R_drewN|apply Kd.R_drew));exact HO504.out) hb)
 have n1_:=Aside0.mk (Kd.R_below (by (with_reducible repeat (first|apply Kd.R_alloc|apply Kd.R_drewN|apply Kd.R_drew));exact HO507.out) hb)
 have n2_:=Aside0.mk (Kd.R_below (by (with_reducible repeat (first|apply Kd.R_alloc|apply Kd.R_drewN|apply Kd.R_drew));exact HO510.out) hb)
 have n3_:=Aside0.mk (blk_below (g:=gb499) (o := .cells #[.slice A0_0 l0_0.length c0_0,.slice A0_1 l0_1.length c0_1,.slice A0_2 l0_2.length c0_2] 144 (0,0)) (by (with_reducible repeat (first|refine blk_drewN ?_ _|refine blk_drew ?_|refine blk_alloc ?_ _));exact BK499.out) hb)
 have n4_:=Aside0.mk (blk_below (g:=gb500) (o := .cells #[.bool a1_0,.int .i64 a1_1,.int .i64 a1_2,.int .i64 a1_3,.int .i64 a1_4,.int .i64 a1_5,.int .i64 a1_6] 91 (0,0)) (by (with_reducible repeat (first|refine blk_drewN ?_ _|refine blk_drew ?_|refine blk_alloc ?_ _));exact BK500.out) hb)
 have n5_:=Aside0.mk (blk_below (g:=gb501) (o := .cells #[.bool false,.int .i64 0,.int .i64 0,.int .i64 0,.int .i64 0,.int .i64 0,.int .i64 0,.slice none 0 0,.slice none 0 0,.slice none 0 0,.int .i64 0] 179 (0,0)) (by (with_reducible repeat (first|refine blk_drewN ?_ _|refine blk_drew ?_|refine blk_alloc ?_ _));exact BK501.out) hb)
 have n6_:=Aside0.mk (below_step (by repeat (first|(with_reducible first|exact HB.out|apply below_alloc|apply pw_below_drewN|apply below_drew1|refine below_set ?_ GE499.out|refine below_set ?_ GE500.out|refine below_set ?_ GE501.out)|exact HB.out)) hb)
 clear HO504
 clear HO507
 clear HO510
 clear BK499
 clear BK500
 clear BK501
 clear HB
 have HO504:=n0_
 have HO507:=n1_
 have HO510:=n2_
 have BK499:=n3_
 have BK500:=n4_
 have BK501:=n5_
 have HB:=n6_
 clear n0_ n1_ n2_ n3_ n4_ n5_ n6_
 (try clear hb)
 (try clear hb2)
 (try clear hk)
 (try clear hi)
 obtain⟨Ao15,co15,eo15⟩:=Kd.R_slice HO510.out
 (first|subst eo15|(injection eo15 with f1_ f2_ f3_;have f4_:=f1_.symm;have f5_:=f3_.symm;clear f1_ f2_ f3_;subst f4_;subst f5_))
 obtain⟨Ao16,co16,eo16⟩:=Kd.R_slice HO507.out
 (first|subst eo16|(injection eo16 with f1_ f2_ f3_;have f4_:=f1_.symm;have f5_:=f3_.symm;clear f1_ f2_ f3_;subst f4_;subst f5_))
 obtain⟨Ao17,co17,eo17⟩:=Kd.R_slice HO504.out
 (first|subst eo17|(injection eo17 with f1_ f2_ f3_;have f4_:=f1_.symm;have f5_:=f3_.symm;clear f1_ f2_ f3_;subst f4_;subst f5_))
 refine hK.out _ _ ⟨(blk_cell BK500.out 0).trans rfl,(blk_cell BK500.out 1).trans rfl,(blk_cell BK500.out 2).trans rfl,(blk_cell BK500.out 3).trans rfl,(blk_cell BK500.out 4).trans rfl,(blk_cell BK500.out 5).trans rfl,(blk_cell BK500.out 6).trans rfl,(blk_cell BK499.out 0).trans rfl,(blk_cell BK499.out 1).trans rfl,(blk_cell BK499.out 2).trans rfl⟩ (fun hHeld=>?_)
 clear hK K
 refine norm_ (a':=?_) ?_ ?_
 rotate_left
 ·show Act.put _ (some 28) _=_
  simp only [Act.put,List.setIfInBounds_toArray,List.set_cons_zero,List.set_cons_succ,i64_w,i32_w]
  rfl
 refine pure_ (i:=24) (N:=some 29) (v:=?_) (a':=?_) #[true,true,true,true,true,true,true,true,true,true,true,true,true,true,true,true,true,true,true,true,true,true,true,true,true,false] rfl rfl (any_of HT_.out (by kernel_rfl)) (fun _ _ _ h=>h) (Or.inl ⟨by rfl,?_⟩) ?_ ?_
 rotate_left
 ·intro w'
  go_simp
  with_reducible rfl
 rotate_left
 ·simp only [Act.put,List.setIfInBounds_toArray,List.set_cons_zero,List.set_cons_succ,i64_w,i32_w]
  rfl
 refine one_ (i:=25) (N:=none) #[true,true,true,true,true,true,true,true,true,true,true,true,true,true,true,true,true,true,true,true,true,true,true,true,true,true] rfl rfl (one_of HT_.out (by kernel_rfl)) (by decide) (fun K hK=>?_)
 have hs18:w14.cell? ⟨gb501,0,none⟩=some (.bool false):=(blk_cell BK501.out 0).trans rfl
 have hfs18:=blk_frozen BK501.out 0
 have hns18_0:=NB499_501.out
 have hns18_1:=NB500_501.out
 have hms18_0:=NB501_499.out
 have hms18_1:=NB501_500.out
 have hs19:w14.cell? ⟨gb501,1,none⟩=some (.int .i64 0):=(blk_cell BK501.out 1).trans rfl
 have hfs19:=blk_frozen BK501.out 1
 have hns19_0:=NB499_501.out
 have hns19_1:=NB500_501.out
 have hms19_0:=NB501_499.out
 have hms19_1:=NB501_500.out
 have hs20:w14.cell? ⟨gb501,2,none⟩=some (.int .i64 0):=(blk_cell BK501.out 2).trans rfl
 have hfs20:=blk_frozen BK501.out 2
 have hns20_0:=NB499_501.out
 have hns20_1:=NB500_501.out
 have hms20_0:=NB501_499.out
 have hms20_1:=NB501_500.out
 have hs21:w14.cell? ⟨gb501,3,none⟩=some (.int .i64 0):=(blk_cell BK501.out 3).trans rfl
 have hfs21:=blk_frozen BK501.out 3
 have hns21_0:=NB499_501.out
 have hns21_1:=NB500_501.out
 have hms21_0:=NB501_499.out
 have hms21_1:=NB501_500.out
 have hs22:w14.cell? ⟨gb501,4,none⟩=some (.int .i64 0):=(blk_cell BK501.out 4).trans rfl
 have hfs22:=blk_frozen BK501.out 4
 have hns22_0:=NB499_501.out
 have hns22_1:=NB500_501.out
 have hms22_0:=NB501_499.out
 have hms22_1:=NB501_500.out
 have hs23:w14.cell? ⟨gb501,5,none⟩=some (.int .i64 0):=(blk_cell BK501.out 5).trans rfl
 have hfs23:=blk_frozen BK501.out 5
 have hns23_0:=NB499_501.out
 have hns23_1:=NB500_501.out
 have hms23_0:=NB501_499.out
 have hms23_1:=NB501_500.out
 have hs24:w14.cell? ⟨gb501,6,none⟩=some (.int .i64 0):=(blk_cell BK501.out 6).trans rfl
 have hfs24:=blk_frozen BK501.out 6
 have hns24_0:=NB499_501.out
 have hns24_1:=NB500_501.out
 have hms24_0:=NB501_499.out
 have hms24_1:=NB501_500.out
 have hs25:w14.cell? ⟨gb501,7,none⟩=some (.slice none 0 0):=(blk_cell BK501.out 7).trans rfl
 have hfs25:=blk_frozen BK501.out 7
 have hns25_0:=NB499_501.out
 have hns25_1:=NB500_501.out
 have hms25_0:=NB501_499.out
 have hms25_1:=NB501_500.out
 have hs26:w14.cell? ⟨gb501,8,none⟩=some (.slice none 0 0):=(blk_cell BK501.out 8).trans rfl
 have hfs26:=blk_frozen BK501.out 8
 have hns26_0:=NB499_501.out
 have hns26_1:=NB500_501.out
 have hms26_0:=NB501_499.out
 have hms26_1:=NB501_500.out
 have hs27:w14.cell? ⟨gb501,9,none⟩=some (.slice none 0 0):=(blk_cell BK501.out 9).trans rfl
 have hfs27:=blk_frozen BK501.out 9
 have hns27_0:=NB499_501.out
 have hns27_1:=NB500_501.out
 have hms27_0:=NB501_499.out
 have hms27_1:=NB501_500.out
 have hs28:w14.cell? ⟨gb501,10,none⟩=some (.int .i64 0):=(blk_cell BK501.out 10).trans rfl
 have hfs28:=blk_frozen BK501.out 10
 have hns28_0:=NB499_501.out
 have hns28_1:=NB500_501.out
 have hms28_0:=NB501_499.out
 have hms28_1:=NB501_500.out
 refine skip_ (w1:=?_) (by rfl) rfl ?_ ?_
 rotate_left
 ·go_simp
  rfl
 refine hK.out _ _ ⟨((cell_far (p:=⟨gb501,_,none⟩) NB500_501.out _).trans (((cell_far (p:=⟨gb501,_,none⟩) NB500_501.out _).trans (((cell_far (p:=⟨gb501,_,none⟩) NB500_501.out _).trans (((cell_far (p:=⟨gb501,_,none⟩) NB500_501.out _).trans (((cell_far (p:=⟨gb501,_,none⟩) NB500_501.out _).trans (((cell_far (p:=⟨gb501,_,none⟩) NB500_501.out _).trans (((cell_far (p:=⟨gb501,_,none⟩) NB500_501.out _).trans (((cell_far (p:=⟨gb501,_,none⟩) NB500_501.out _).trans (((cell_far (p:=⟨gb501,_,none⟩) NB500_501.out _).trans (((cell_far (p:=⟨gb501,_,none⟩) NB500_501.out _).trans (((cell_far (p:=⟨gb501,_,none⟩) NB500_501.out _).trans (hHeld.1)))))))))))))))))))))),((cell_far (p:=⟨gb501,_,none⟩) NB500_501.out _).trans (((cell_far (p:=⟨gb501,_,none⟩) NB500_501.out _).trans (((cell_far (p:=⟨gb501,_,none⟩) NB500_501.out _).trans (((cell_far (p:=⟨gb501,_,none⟩) NB500_501.out _).trans (((cell_far (p:=⟨gb501,_,none⟩) NB500_501.out _).trans (((cell_far (p:=⟨gb501,_,none⟩) NB500_501.out _).trans (((cell_far (p:=⟨gb501,_,none⟩) NB500_501.out _).trans (((cell_far (p:=⟨gb501,_,none⟩) NB500_501.out _).trans (((cell_far (p:=⟨gb501,_,none⟩) NB500_501.out _).trans (((cell_far (p:=⟨gb501,_,none⟩) NB500_501.out _).trans (((cell_far (p:=⟨gb501,_,none⟩) NB500_501.out _).trans (hHeld.2.1)))))))))))))))))))))),((cell_far (p:=⟨gb501,_,none⟩) NB500_501.out _).trans (((cell_far (p:=⟨gb501,_,none⟩) NB500_501.out _).trans (((cell_far (p:=⟨gb501,_,none⟩) NB500_501.out _).trans (((cell_far (p:=⟨gb501,_,none⟩) NB500_501.out _).trans (((cell_far (p:=⟨gb501,_,none⟩) NB500_501.out _).trans (((cell_far (p:=⟨gb501,_,none⟩) NB500_501.out _).trans (((cell_far (p:=⟨gb501,_,none⟩) NB500_501.out _).trans (((cell_far (p:=⟨gb501,_,none⟩) NB500_501.out _).trans (((cell_far (p:=⟨gb501,_,none⟩) NB500_501.out _).trans (((cell_far (p:=⟨gb501,_,none⟩) NB500_501.out _).trans (((cell_far (p:=⟨gb501,_,none⟩) NB500_501.out _).trans (hHeld.2.2.1)))))))))))))))))))))),((cell_far (p:=⟨gb501,_,none⟩) NB500_501.out _).trans (((cell_far (p:=⟨gb501,_,none⟩) NB500_501.out _).trans (((cell_far (p:=⟨gb501,_,none⟩) NB500_501.out _).trans (((cell_far (p:=⟨gb501,_,none⟩) NB500_501.out _).trans (((cell_far (p:=⟨gb501,_,none⟩) NB500_501.out _).trans (((cell_far (p:=⟨gb501,_,none⟩) NB500_501.out _).trans (((cell_far (p:=⟨gb501,_,none⟩) NB500_501.out _).trans (((cell_far (p:=⟨gb501,_,none⟩) NB500_501.out _).trans (((cell_far (p:=⟨gb501,_,none⟩) NB500_501.out _).trans (((cell_far (p:=⟨gb501,_,none⟩) NB500_501.out _).trans (((cell_far (p:=⟨gb501,_,none⟩) NB500_501.out _).trans (hHeld.2.2.2.1)))))))))))))))))))))),((cell_far (p:=⟨gb501,_,none⟩) NB500_501.out _).trans (((cell_far (p:=⟨gb501,_,none⟩) NB500_501.out _).trans (((cell_far (p:=⟨gb501,_,none⟩) NB500_501.out _).trans (((cell_far (p:=⟨gb501,_,none⟩) NB500_501.out _).trans (((cell_far (p:=⟨gb501,_,none⟩) NB500_501.out _).trans (((cell_far (p:=⟨gb501,_,none⟩) NB500_501.out _).trans (((cell_far (p:=⟨gb501,_,none⟩) NB500_501.out _).trans (((cell_far (p:=⟨gb501,_,none⟩) NB500_501.out _).trans (((cell_far (p:=⟨gb501,_,none⟩) NB500_501.out _).trans (((cell_far (p:=⟨gb501,_,none⟩) NB500_501.out _).trans (((cell_far (p:=⟨gb501,_,none⟩) NB500_501.out _).trans (hHeld.2.2.2.2.1)))))))))))))))))))))),((cell_far (p:=⟨gb501,_,none⟩) NB500_501.out _).trans (((cell_far (p:=⟨gb501,_,none⟩) NB500_501.out _).trans (((cell_far (p:=⟨gb501,_,none⟩) NB500_501.out _).trans (((cell_far (p:=⟨gb501,_,none⟩) NB500_501.out _).trans (((cell_far (p:=⟨gb501,_,none⟩) NB500_501.out _).trans (((cell_far (p:=⟨gb501,_,none⟩) NB500_501.out _).trans (((cell_far (p:=⟨gb501,_,none⟩) NB500_501.out _).trans (((cell_far (p:=⟨gb501,_,none⟩) NB500_501.out _).trans (((cell_far (p:=⟨gb501,_,none⟩) NB500_501.out _).trans (((cell_far (p:=⟨gb501,_,none⟩) NB500_501.out _).trans (((cell_far (p:=⟨gb501,_,none⟩) NB500_501.out _).trans (hHeld.2.2.2.2.2.1)))))))))))))))))))))),((cell_far (p:=⟨gb501,_,none⟩) NB500_501.out _).trans (((cell_far (p:=⟨gb501,_,none⟩) NB500_501.out _).trans (((cell_far (p:=⟨gb501,_,none⟩) NB500_501.out _).trans (((cell_far (p:=⟨gb501,_,none⟩) NB500_501.out _).trans (((cell_far (p:=⟨gb501,_,none⟩) NB500_501.out _).trans (((cell_far (p:=⟨gb501,_,none⟩) NB500_501.out _).trans (((cell_far (p:=⟨gb501,_,none⟩) NB500_501.out _).trans (((cell_far (p:=⟨gb501,_,none⟩) NB500_501.out _).trans (((cell_far (p:=⟨gb501,_,none⟩) NB500_501.out _).trans (((cell_far (p:=⟨gb501,_,none⟩) NB500_501.out _).trans (((cell_far (p:=⟨gb501,_,none⟩) NB500_501.out _).trans (hHeld.2.2.2.2.2.2.1)))))))))))))))))))))),((cell_far (p:=⟨gb501,_,none⟩) NB499_501.out _).trans (((cell_far (p:=⟨gb501,_,none⟩) NB499_501.out _).trans (((cell_far (p:=⟨gb501,_,none⟩) NB499_501.out _).trans (((cell_far (p:=⟨gb501,_,none⟩) NB499_501.out _).trans (((cell_far (p:=⟨gb501,_,none⟩) NB499_501.out _).trans (((cell_far (p:=⟨gb501,_,none⟩) NB499_501.out _).trans (((cell_far (p:=⟨gb501,_,none⟩) NB499_501.out _).trans (((cell_far (p:=⟨gb501,_,none⟩) NB499_501.out _).trans (((cell_far (p:=⟨gb501,_,none⟩) NB499_501.out _).trans (((cell_far (p:=⟨gb501,_,none⟩) NB499_501.out _).trans (((cell_far (p:=⟨gb501,_,none⟩) NB499_501.out _).trans (hHeld.2.2.2.2.2.2.2.1)))))))))))))))))))))),((cell_far (p:=⟨gb501,_,none⟩) NB499_501.out _).trans (((cell_far (p:=⟨gb501,_,none⟩) NB499_501.out _).trans (((cell_far (p:=⟨gb501,_,none⟩) NB499_501.out _).trans (((cell_far (p:=⟨gb501,_,none⟩) NB499_501.out _).trans (((cell_far (p:=⟨gb501,_,none⟩) NB499_501.out _).trans (((cell_far (p:=⟨gb501,_,none⟩) NB499_501.out _).trans (((cell_far (p:=⟨gb501,_,none⟩) NB499_501.out _).trans (((cell_far (p:=⟨gb501,_,none⟩) NB499_501.out _).trans (((cell_far (p:=⟨gb501,_,none⟩) NB499_501.out _).trans (((cell_far (p:=⟨gb501,_,none⟩) NB499_501.out _).trans (((cell_far (p:=⟨gb501,_,none⟩) NB499_501.out _).trans (hHeld.2.2.2.2.2.2.2.2.1)))))))))))))))))))))),((cell_far (p:=⟨gb501,_,none⟩) NB499_501.out _).trans (((cell_far (p:=⟨gb501,_,none⟩) NB499_501.out _).trans (((cell_far (p:=⟨gb501,_,none⟩) NB499_501.out _).trans (((cell_far (p:=⟨gb501,_,none⟩) NB499_501.out _).trans (((cell_far (p:=⟨gb501,_,none⟩) NB499_501.out _).trans (((cell_far (p:=⟨gb501,_,none⟩) NB499_501.out _).trans (((cell_far (p:=⟨gb501,_,none⟩) NB499_501.out _).trans (((cell_far (p:=⟨gb501,_,none⟩) NB499_501.out _).trans (((cell_far (p:=⟨gb501,_,none⟩) NB499_501.out _).trans (((cell_far (p:=⟨gb501,_,none⟩) NB499_501.out _).trans (((cell_far (p:=⟨gb501,_,none⟩) NB499_501.out _).trans (hHeld.2.2.2.2.2.2.2.2.2))))))))))))))))))))))⟩ (fun hHeld=>?_)
 clear hK K
 refine done_ (done_of HT_.out (by kernel_rfl)) ?_
 try go_wp2
 refine bodyPost_ret (results_cell_row rfl _ _ gb501 179 #[.bool a1_0,.int .i64 a1_1,.int .i64 a1_2,.int .i64 a1_3,.int .i64 a1_4,.int .i64 a1_5,.int .i64 a1_6,.slice Ao17 t502.length co17,.slice Ao16 t505.length co16,.slice Ao15 t508.length co15,.int .i64 t511] (0,0) _ rfl (by (with_reducible repeat (first|refine blk_drewN ?_ _|refine blk_drew ?_|refine blk_alloc ?_ _));refine blk_put (cs:=#[.bool a1_0,.int .i64 a1_1,.int .i64 a1_2,.int .i64 a1_3,.int .i64 a1_4,.int .i64 a1_5,.int .i64 a1_6,.slice Ao17 t502.length co17,.slice Ao16 t505.length co16,.slice Ao15 t508.length co15,.int .i64 0]) ?_ 10 _ rfl;(with_reducible repeat (first|refine blk_drewN ?_ _|refine blk_drew ?_|refine blk_alloc ?_ _));refine blk_put (cs:=#[.bool a1_0,.int .i64 a1_1,.int .i64 a1_2,.int .i64 a1_3,.int .i64 a1_4,.int .i64 a1_5,.int .i64 a1_6,.slice Ao17 t502.length co17,.slice Ao16 t505.length co16,.slice none 0 0,.int .i64 0]) ?_ 9 _ rfl;(with_reducible repeat (first|refine blk_drewN ?_ _|refine blk_drew ?_|refine blk_alloc ?_ _));refine blk_put (cs:=#[.bool a1_0,.int .i64 a1_1,.int .i64 a1_2,.int .i64 a1_3,.int .i64 a1_4,.int .i64 a1_5,.int .i64 a1_6,.slice Ao17 t502.length co17,.slice none 0 0,.slice none 0 0,.int .i64 0]) ?_ 8 _ rfl;(with_reducible repeat (first|refine blk_drewN ?_ _|refine blk_drew ?_|refine blk_alloc ?_ _));refine blk_put (cs:=#[.bool a1_0,.int .i64 a1_1,.int .i64 a1_2,.int .i64 a1_3,.int .i64 a1_4,.int .i64 a1_5,.int .i64 a1_6,.slice none 0 0,.slice none 0 0,.slice none 0 0,.int .i64 0]) ?_ 7 _ rfl;(with_reducible repeat (first|refine blk_drewN ?_ _|refine blk_drew ?_|refine blk_alloc ?_ _));refine blk_put (cs:=#[.bool a1_0,.int .i64 a1_1,.int .i64 a1_2,.int .i64 a1_3,.int .i64 a1_4,.int .i64 a1_5,.int .i64 0,.slice none 0 0,.slice none 0 0,.slice none 0 0,.int .i64 0]) ?_ 6 _ rfl;(with_reducible repeat (first|refine blk_drewN ?_ _|refine blk_drew ?_|refine blk_alloc ?_ _));refine blk_put (cs:=#[.bool a1_0,.int .i64 a1_1,.int .i64 a1_2,.int .i64 a1_3,.int .i64 a1_4,.int .i64 0,.int .i64 0,.slice none 0 0,.slice none 0 0,.slice none 0 0,.int .i64 0]) ?_ 5 _ rfl;(with_reducible repeat (first|refine blk_drewN ?_ _|refine blk_drew ?_|refine blk_alloc ?_ _));refine blk_put (cs:=#[.bool a1_0,.int .i64 a1_1,.int .i64 a1_2,.int .i64 a1_3,.int .i64 0,.int .i64 0,.int .i64 0,.slice none 0 0,.slice none 0 0,.slice none 0 0,.int .i64 0]) ?_ 4 _ rfl;(with_reducible repeat (first|refine blk_drewN ?_ _|refine blk_drew ?_|refine blk_alloc ?_ _));refine blk_put (cs:=#[.bool a1_0,.int .i64 a1_1,.int .i64 a1_2,.int .i64 0,.int .i64 0,.int .i64 0,.int .i64 0,.slice none 0 0,.slice none 0 0,.slice none 0 0,.int .i64 0]) ?_ 3 _ rfl;(with_reducible repeat (first|refine blk_drewN ?_ _|refine blk_drew ?_|refine blk_alloc ?_ _));refine blk_put (cs:=#[.bool a1_0,.int .i64 a1_1,.int .i64 0,.int .i64 0,.int .i64 0,.int .i64 0,.int .i64 0,.slice none 0 0,.slice none 0 0,.slice none 0 0,.int .i64 0]) ?_ 2 _ rfl;(with_reducible repeat (first|refine blk_drewN ?_ _|refine blk_drew ?_|refine blk_alloc ?_ _));refine blk_put (cs:=#[.bool a1_0,.int .i64 0,.int .i64 0,.int .i64 0,.int .i64 0,.int .i64 0,.int .i64 0,.slice none 0 0,.slice none 0 0,.slice none 0 0,.int .i64 0]) ?_ 1 _ rfl;(with_reducible repeat (first|refine blk_drewN ?_ _|refine blk_drew ?_|refine blk_alloc ?_ _));refine blk_put (cs:=#[.bool false,.int .i64 0,.int .i64 0,.int .i64 0,.int .i64 0,.int .i64 0,.int .i64 0,.slice none 0 0,.slice none 0 0,.slice none 0 0,.int .i64 0]) ?_ 0 _ rfl;(with_reducible repeat (first|refine blk_drewN ?_ _|refine blk_drew ?_|refine blk_alloc ?_ _));exact BK501.out) Try.underlying179 rfl (by kernel_rfl)) rfl ?_
 exact⟨_,_,_,by first|rfl|(simp [errW_none,errW_some]<;>rfl)|(simp [*,errW_none,errW_some]<;>rfl),by (with_reducible repeat (first|apply Kd.R_alloc|apply Kd.R_drewN|apply Kd.R_drew));exact Kd.R_mono (Kd.R_far (p:=⟨gb501,10,none⟩) (Kd.R_far (p:=⟨gb501,9,none⟩) (Kd.R_far (p:=⟨gb501,8,none⟩) (Kd.R_far (p:=⟨gb501,7,none⟩) (Kd.R_far (p:=⟨gb501,6,none⟩) (Kd.R_far (p:=⟨gb501,5,none⟩) (Kd.R_far (p:=⟨gb501,4,none⟩) (Kd.R_far (p:=⟨gb501,3,none⟩) (Kd.R_far (p:=⟨gb501,2,none⟩) (Kd.R_far (p:=⟨gb501,1,none⟩) (Kd.R_far (p:=⟨gb501,0,none⟩) (Kd.R_types HO504.out BK501.out (by decide)) (fun _ hk=>hk.2) (.bool a1_0)) (fun _ hk=>hk.2) (.int .i64 a1_1)) (fun _ hk=>hk.2) (.int .i64 a1_2)) (fun _ hk=>hk.2) (.int .i64 a1_3)) (fun _ hk=>hk.2) (.int .i64 a1_4)) (fun _ hk=>hk.2) (.int .i64 a1_5)) (fun _ hk=>hk.2) (.int .i64 a1_6)) (fun _ hk=>hk.2) (.slice Ao17 t502.length co17)) (fun _ hk=>hk.2) (.slice Ao16 t505.length co16)) (fun _ hk=>hk.2) (.slice Ao15 t508.length co15)) (fun _ hk=>hk.2) (.int .i64 t511)) (fun _ hk=>⟨hk.1.1.2,hk.1.2⟩),by (with_reducible repeat (first|apply Kd.R_alloc|apply Kd.R_drewN|apply Kd.R_drew));exact Kd.R_mono (Kd.R_far (p:=⟨gb501,10,none⟩) (Kd.R_far (p:=⟨gb501,9,none⟩) (Kd.R_far (p:=⟨gb501,8,none⟩) (Kd.R_far (p:=⟨gb501,7,none⟩) (Kd.R_far (p:=⟨gb501,6,none⟩) (Kd.R_far (p:=⟨gb501,5,none⟩) (Kd.R_far (p:=⟨gb501,4,none⟩) (Kd.R_far (p:=⟨gb501,3,none⟩) (Kd.R_far (p:=⟨gb501,2,none⟩) (Kd.R_far (p:=⟨gb501,1,none⟩) (Kd.R_far (p:=⟨gb501,0,none⟩) (Kd.R_types HO507.out BK501.out (by decide)) (fun _ hk=>hk.2) (.bool a1_0)) (fun _ hk=>hk.2) (.int .i64 a1_1)) (fun _ hk=>hk.2) (.int .i64 a1_2)) (fun _ hk=>hk.2) (.int .i64 a1_3)) (fun _ hk=>hk.2) (.int .i64 a1_4)) (fun _ hk=>hk.2) (.int .i64 a1_5)) (fun _ hk=>hk.2) (.int .i64 a1_6)) (fun _ hk=>hk.2) (.slice Ao17 t502.length co17)) (fun _ hk=>hk.2) (.slice Ao16 t505.length co16)) (fun _ hk=>hk.2) (.slice Ao15 t508.length co15)) (fun _ hk=>hk.2) (.int .i64 t511)) (fun _ hk=>⟨hk.1.1.2,hk.1.2⟩),by (with_reducible repeat (first|apply Kd.R_alloc|apply Kd.R_drewN|apply Kd.R_drew));exact Kd.R_mono (Kd.R_far (p:=⟨gb501,10,none⟩) (Kd.R_far (p:=⟨gb501,9,none⟩) (Kd.R_far (p:=⟨gb501,8,none⟩) (Kd.R_far (p:=⟨gb501,7,none⟩) (Kd.R_far (p:=⟨gb501,6,none⟩) (Kd.R_far (p:=⟨gb501,5,none⟩) (Kd.R_far (p:=⟨gb501,4,none⟩) (Kd.R_far (p:=⟨gb501,3,none⟩) (Kd.R_far (p:=⟨gb501,2,none⟩) (Kd.R_far (p:=⟨gb501,1,none⟩) (Kd.R_far (p:=⟨gb501,0,none⟩) (Kd.R_types HO510.out BK501.out (by decide)) (fun _ hk=>hk.2) (.bool a1_0)) (fun _ hk=>hk.2) (.int .i64 a1_1)) (fun _ hk=>hk.2) (.int .i64 a1_2)) (fun _ hk=>hk.2) (.int .i64 a1_3)) (fun _ hk=>hk.2) (.int .i64 a1_4)) (fun _ hk=>hk.2) (.int .i64 a1_5)) (fun _ hk=>hk.2) (.int .i64 a1_6)) (fun _ hk=>hk.2) (.slice Ao17 t502.length co17)) (fun _ hk=>hk.2) (.slice Ao16 t505.length co16)) (fun _ hk=>hk.2) (.slice Ao15 t508.length co15)) (fun _ hk=>hk.2) (.int .i64 t511)) (fun _ hk=>⟨hk.1.1.2,hk.1.2⟩),by repeat (first|(with_reducible first|exact HB.out|apply below_alloc|apply pw_below_drewN|apply below_drew1|refine below_set ?_ GE499.out|refine below_set ?_ GE500.out|refine below_set ?_ GE501.out)|exact HB.out)⟩
end Go.Proofs.Ytfiamddinkokbaa.F
