/- Texts joined into one file (wip/tools/pack.py): Fn133 -/
import Derived.Test.YtfiamddinkokbaaTA3
import Derived.Test.YtfiamddinkokbaaTA6
set_option linter.unusedVariables false
set_option linter.unusedSimpArgs false
namespace Go.Proofs.Ytfiamddinkokbaa.F
open Go.RowKit Go.Proofs.YtfiamddinkokbaaW.PrintWords Go.Proofs.YtfiamddinkokbaaW.PrintLast Go.Proofs.YtfiamddinkokbaaW.PrintMore
attribute [local go_sem] max2_int min2_int max_two min_two max_three min_three max_four min_four
mutual
def chunk_table.j0 : Nat→Int→Int→List (S196)→Bool→Option (List Int×Bool)
 | 0,_,_,_,_=>none
 | k+1,x0,x1,x2,x17=>if x17=true then (some (([]:List Int),false)) else ((slices_Repeat_int_int.f (([(-1)]:List Int)) x0).bind fun t539=>(chunk_table.l0 k x0 x1 t539 x2 (x2.length:Int) 0 (-1) (-1)))
def chunk_table.l0 : Nat→Int→Int→List Int→List (S196)→Int→Int→Int→Int→Option (List Int×Bool)
 | 0,_,_,_,_,_,_,_,_=>none
 | k+1,x0,x1,x8,x22,x23,x24,x543000,x543001=>if x24<x23 then (if 0≤x24 then (if x24<(x22.length:Int) then (if ((rd_T196 x22 x24).f0)≤x543000 then (some (([]:List Int),false)) else (if ((rd_T196 x22 x24).f1)≤x543001 then (some (([]:List Int),false)) else (if ((rd_T196 x22 x24).f0)≥x0 then (some (([]:List Int),false)) else (if ((rd_T196 x22 x24).f1)≥x1 then (some (([]:List Int),false)) else (if 0≤((rd_T196 x22 x24).f0) then (if ((rd_T196 x22 x24).f0)<(x8.length:Int) then (chunk_table.l0 k x0 x1 (x8.set (((rd_T196 x22 x24).f0):Int).toNat ((rd_T196 x22 x24).f1)) x22 x23 (wrap64 (x24+1)) ((rd_T196 x22 x24).f0) ((rd_T196 x22 x24).f1)) else (none)) else (none)))))) else (none)) else (none)) else (some (x8,true))
end
def chunk_table.f (k : Nat) (a0 : Int) (a1 : Int) (l2 : List (S196)) : Option (List Int×Bool) := if a0<0 then (chunk_table.j0 k a0 a1 l2 true) else (chunk_table.j0 k a0 a1 l2 (decide (a1<0)))
theorem chunk_table.mono_l : ∀ k,(∀ y0 y1 y2 y3,LeO (chunk_table.j0 k y0 y1 y2 y3) (chunk_table.j0 (k+1) y0 y1 y2 y3))∧(∀ y0 y1 y2 y3 y4 y5 y6 y7,LeO (chunk_table.l0 k y0 y1 y2 y3 y4 y5 y6 y7) (chunk_table.l0 (k+1) y0 y1 y2 y3 y4 y5 y6 y7))
 | 0=>⟨fun _ _ _ _ r h=>by simp [chunk_table.j0] at h,fun _ _ _ _ _ _ _ _ r h=>by simp [chunk_table.l0] at h⟩
 | k+1=>by
  obtain⟨ih0,ih1⟩:=chunk_table.mono_l k
  refine⟨?_,?_⟩
  ·intro y0 y1 y2 y3
   unfold chunk_table.j0
   repeat' first
   | (with_reducible exact ih0 _ _ _ _)
   | (with_reducible exact ih1 _ _ _ _ _ _ _ _)
   | (with_reducible exact LeO.refl _)
   | (with_reducible exact LeO.none _)
   | (with_reducible refine LeO.ite ?_ ?_)
   | (with_reducible refine LeO.bind ?_ (fun _=>?_))
   | exact ih0 _ _ _ _
   | exact ih1 _ _ _ _ _ _ _ _
   | exact LeO.none _
   | refine LeO.ite ?_ ?_
   | refine LeO.bind ?_ (fun _=>?_)
  ·intro y0 y1 y2 y3 y4 y5 y6 y7
   unfold chunk_table.l0
   repeat' first
   | (with_reducible exact ih0 _ _ _ _)
   | (with_reducible exact ih1 _ _ _ _ _ _ _ _)
   | (with_reducible exact LeO.refl _)
   | (with_reducible exact LeO.none _)
   | (with_reducible refine LeO.ite ?_ ?_)
   | (with_reducible refine LeO.bind ?_ (fun _=>?_))
   | exact ih0 _ _ _ _
   | exact ih1 _ _ _ _ _ _ _ _
   | exact LeO.none _
   | refine LeO.ite ?_ ?_
   | refine LeO.bind ?_ (fun _=>?_)
theorem chunk_table.mono : ∀ a0 a1 a2 k,LeO (chunk_table.f k a0 a1 a2) (chunk_table.f (k+1) a0 a1 a2) := by
 intro a0 a1 a2 k
 obtain⟨ih0,ih1⟩:=chunk_table.mono_l k
 unfold chunk_table.f
 repeat' first
   | (with_reducible exact ih0 _ _ _ _)
   | (with_reducible exact ih1 _ _ _ _ _ _ _ _)
   | (with_reducible exact LeO.refl _)
   | (with_reducible exact LeO.none _)
   | (with_reducible refine LeO.ite ?_ ?_)
   | (with_reducible refine LeO.bind ?_ (fun _=>?_))
   | exact ih0 _ _ _ _
   | exact ih1 _ _ _ _ _ _ _ _
   | exact LeO.none _
   | refine LeO.ite ?_ ?_
   | refine LeO.bind ?_ (fun _=>?_)
set_option maxHeartbeats 8000000 in
set_option maxRecDepth 100000 in
theorem chunk_table.calls (k : Nat) (a0 : Int) (a1 : Int) (A2 : Option Addr) (c2 : Nat) (l2 : List (S196)) (r1 : List Int) (r2 : Bool) (w : World) (hr2 : Kd.C k196 w A2 l2.length l2) (hc2 : l2.length≤c2) (h : chunk_table.f k a0 a1 l2=some (r1,r2)) :
  Calls Try.prog 133 #[.int .i64 a0,.int .i64 a1,.slice A2 l2.length c2] w fun e w'=>∃ v0_:Value,e = .returned (.tuple #[v0_,.bool r2])∧Kd.R (Kd.int .i64) 3 w' w.heap.size (fun _=>True) v0_ r1∧Below w.heap.size w w':=by
 have hu196:=Try.underlying196
 have HR2:=Aside0.mk hr2
 have HC2:=Aside0.mk hc2
 clear hr2 hc2
 have HB:=Aside0.mk (Below.refl w.heap.size w)
 have H:(if a0<0 then (chunk_table.j0 k a0 a1 l2 true) else (chunk_table.j0 k a0 a1 l2 (decide (a1<0))))=some (r1,r2):=h
 clear h
 have HC4:=Aside0.mk H
 clear H
 go_enter Try.func133,Try.ntmps133
 go_upto_region 1 with (fail)
 go_cut [17] (fun v17 wc=>∃ (kq:Nat) (x17_3:Bool),v17 = .bool x17_3∧Aside0 (chunk_table.j0 kq a0 a1 l2 x17_3=some (r1,r2))∧Aside0 (kq≤k)∧Aside0 (Below w.heap.size w wc))
 case first =>
  have H:=HC4.out
  clear HC4
  by_cases c5:a0<0
  ·rw [if_pos c5] at H
   have c5b0:decide (a0<0)=true:=decide_eq_true c5
   clear c5
   (first|rw [c5b0]|(simp only [i64_w,i32_w];rw [c5b0])|skip)
   have H':=Aside0.mk H
   clear H
   go_wp2
   go_meet
   case rel=>exact⟨_,(true),(by first|rfl|(simp;done)|(simp [*];done)),H',⟨by first|omega|exact Nat.le_refl _⟩,⟨by repeat (first|(with_reducible first|exact HB.out|apply below_alloc|apply pw_below_drewN|apply below_drew1)|exact HB.out)⟩⟩
  ·rw [if_neg c5] at H
   have c5b0:decide (a0<0)=false:=decide_eq_false c5
   clear c5
   (first|rw [c5b0]|(simp only [i64_w,i32_w];rw [c5b0])|skip)
   have H':=Aside0.mk H
   clear H
   go_wp2
   go_meet
   case rel=>exact⟨_,(decide (a1<0)),(by first|rfl|(simp;done)|(simp [*];done)),H',⟨by first|omega|exact Nat.le_refl _⟩,⟨by repeat (first|(with_reducible first|exact HB.out|apply below_alloc|apply pw_below_drewN|apply below_drew1)|exact HB.out)⟩⟩
 case rest =>
  clear HC4
  try clear c1
  try clear c2
  try clear p2
  try clear c5
  try clear c5b0
  obtain⟨kq,x17_3,rfl,HA,HJ3,HB⟩:=hcut
  cases kq with
  | zero=>exact absurd HA.out (by simp [chunk_table.j0])
  | succ kj3 =>
   have H:=HA.out
   clear HA
   simp only [chunk_table.j0] at H
   by_cases c6:x17_3=true
   ·subst c6
    have H1:(some (([]:List Int),false))=some (r1,r2):=by rw [if_pos rfl] at H;exact H
    clear H
    have H:=H1
    clear H1
    simp only [Option.some.injEq,Prod.mk.injEq] at H
    obtain⟨rfl,rfl⟩:=H
    go_wp2
    go_ret2
    exact⟨_,by first|rfl|(simp [errW_none,errW_some]<;>rfl)|(simp [*,errW_none,errW_some]<;>rfl),by first|exact Kd.R_nil _ _ _ _ _|exact Kd.N_nil _ _ _ _ _|exact Kd.V_nil _ _ _ _ _|exact Kd.Q_nil _ _ _ _ _|exact Kd.S_nil _ _ _ _ _,by repeat (first|(with_reducible first|exact HB.out|apply below_alloc|apply pw_below_drewN|apply below_drew1)|exact HB.out)⟩
   ·replace c6:=Bool.eq_false_iff.mpr c6
    subst c6
    have H1:((slices_Repeat_int_int.f (([(-1)]:List Int)) a0).bind fun t539=>(chunk_table.l0 kj3 a0 a1 t539 l2 (l2.length:Int) 0 (-1) (-1)))=some (r1,r2):=by rw [if_neg (show ¬ (false=true) by decide)] at H;exact H
    clear H
    have H:=H1
    clear H1
    obtain⟨y536,hy536⟩:∃ y_:List Int,y_=(([(-1)]:List Int)):=⟨_,rfl⟩
    replace H:((slices_Repeat_int_int.f y536 a0).bind fun t539=>(chunk_table.l0 kj3 a0 a1 t539 l2 (l2.length:Int) 0 (-1) (-1)))=some (r1,r2):=by first|(rw [hy536];with_reducible exact H)|(have H2_:=(Option.bind_some _ _).symm.trans H;rw [hy536];with_reducible exact H2_)|(have H2_:=(Option.bind_some _ _).symm.trans H;with_reducible exact H2_)|with_reducible exact H|(rw [hy536];exact H)|exact H
    have Ny536:=Aside0.mk hy536
    clear hy536
    replace H:=Option.bind_eq_some_iff.mp H
    obtain⟨t539,A70,H⟩:=H
    replace H:(chunk_table.l0 kj3 a0 a1 t539 l2 (l2.length:Int) 0 (-1) (-1))=some (r1,r2):=H
    have A7:=Aside0.mk A70
    clear A70
    have H':=Aside0.mk H
    clear H
    go_wp2_with (first|((with_reducible refine gate_dst (N:=18) rfl ?_);refine Kd.R_lit (Kd.int .i64) _ 3 ?hg (N:=18) ?hd (xs:=([(-1)]:List Int)) (inner:=[.int .i64 (-1)]) (ok:=fun _=>True) (okp:=fun _=>True) ?hr ?hp (fun _ hk=>hk) trivial (Below.refl _ _) (Nat.le_refl _) (by simp) ?_;(case hd=>rfl);(case hg=>rfl);(case hr=>first|(go_simp;done)|(go_simp;rfl));(case hp=>exact (Reps.one (show Kd.M (Kd.int .i64) _ _ _ (-1) [.int .i64 (-1)] from rfl) (Reps.none _ _)));intro v537 w8 ho9 hb hg_ hnew_;clear hg_ hnew_;(first|rw [←Ny536.out] at ho9|(simp only [Int.reduceToNat] at ho9;rw [←Ny536.out] at ho9));have n0_:=Aside0.mk (Kd.R_lower ho9 (below_size (by repeat (first|(with_reducible first|exact HB.out|apply below_alloc|apply pw_below_drewN|apply below_drew1)|exact HB.out))));have n1_:=Aside0.mk (below_step (by repeat (first|(with_reducible first|exact HB.out|apply below_alloc|apply pw_below_drewN|apply below_drew1)|exact HB.out)) hb);clear HB;have HO538:=n0_;have HB:=n1_;clear n0_ n1_;clear hb ho9;obtain⟨Ao10,co10,eo10⟩:=Kd.R_slice HO538.out;subst eo10)|((with_reducible refine gate_callee (f:=156) rfl ?_);refine goesL_ (some 20) rfl rfl Try.func156 (by kernel_rfl) rfl #[.slice Ao10 y536.length co10,.int .i64 a0] rfl (by (try simp only [List.map_toArray,List.map_cons,List.map_nil]);first|done|rfl|(simp only [List.length_drop,List.length_take];rfl)) ?_;(with_reducible refine (slices_Repeat_int_int.calls _ _ y536 a0 t539 _ ?side1 ?side2 A7.out).mono ?_);(case side1=>repeat (first|exact (Kd.R_reads' HO538.out).2.2|(with_reducible refine Kd.C_alloc ?_ _)|(with_reducible refine Kd.C_drewN ?_ _)|(with_reducible refine Kd.C_drew ?_)));(case side2=>exact (Kd.R_reads' HO538.out).2.1);rintro e w11 ⟨v540,rfl,ho0,hb⟩;refine⟨_,rfl,?_⟩;have n0_:=Aside0.mk (Kd.R_elder' (by (with_reducible repeat (first|apply Kd.R_alloc|apply Kd.R_drewN|apply Kd.R_drew));exact HO538.out) (Kd.R_base ho0) hb);have n1_:=Aside0.mk (Kd.R_lower (Kd.R_new' ho0 (Kd.R_lt (by (with_reducible repeat (first|apply Kd.R_alloc|apply Kd.R_drewN|apply Kd.R_drew));exact HO538.out))) (below_size (by repeat (first|(with_reducible first|exact HB.out|apply below_alloc|apply pw_below_drewN|apply below_drew1)|exact HB.out))));have n2_:=Aside0.mk (below_step (by repeat (first|(with_reducible first|exact HB.out|apply below_alloc|apply pw_below_drewN|apply below_drew1)|exact HB.out)) hb);clear HO538;clear HB;have HO538:=n0_;have HO541:=n1_;have HB:=n2_;clear n0_ n1_ n2_;(try clear hb);(try clear hb2);(try clear hk);(try clear hi);(try clear ho0))|((with_reducible refine gate_dst (N:=9) rfl ?_);refine box_event ?hg (N:=9) ?hd (cs:=#[.int .i64 0,.int .i64 0]) (t:=196) ?hr ?_;(case hd=>rfl);(case hg=>rfl);(case hr=>first|(go_simp;done)|(go_simp;rfl));intro gb542 hg w12 hbox hb;have n0_:=Aside0.mk (Kd.R_below (by (with_reducible repeat (first|apply Kd.R_alloc|apply Kd.R_drewN|apply Kd.R_drew));exact HO538.out) hb);have n1_:=Aside0.mk (Kd.R_below (by (with_reducible repeat (first|apply Kd.R_alloc|apply Kd.R_drewN|apply Kd.R_drew));exact HO541.out) hb);have n2_:=Aside0.mk (below_step (by repeat (first|(with_reducible first|exact HB.out|apply below_alloc|apply pw_below_drewN|apply below_drew1)|exact HB.out)) hb);have n3_:=Aside0.mk (hbox);have n4_:=Aside0.mk ((by rw [hg];exact (below_size (by repeat (first|(with_reducible first|exact HB.out|apply below_alloc|apply pw_below_drewN|apply below_drew1)|exact HB.out))):w.heap.size≤gb542));have n5_:=Aside0.mk ((by rw [hg];exact (below_size (by repeat (first|(with_reducible first|exact HB.out|apply below_alloc|apply pw_below_drewN|apply below_drew1)|exact HB.out))):w.heap.size≤gb542));clear HO538;clear HO541;clear HB;have HO538:=n0_;have HO541:=n1_;have HB:=n2_;have BK542:=n3_;have GW542:=n4_;have GE542:=n5_;clear n0_ n1_ n2_ n3_ n4_ n5_;clear hb hbox hg;have hcz13_0:w12.cell? ⟨gb542,0,none⟩=some (.int .i64 0):=(blk_cell BK542.out 0).trans rfl;have hcz13_1:w12.cell? ⟨gb542,1,none⟩=some (.int .i64 0):=(blk_cell BK542.out 1).trans rfl;have hfz13_0:=blk_frozen BK542.out 0;have hfz13_1:=blk_frozen BK542.out 1))
    go_loopg [24] kj3 (fun kq v24 w'=>∃ (x8_2:List Int) (x24_2:Int) (x543000_2:Int) (x543001_2:Int),v24 = .int .i64 x24_2∧Aside0 (chunk_table.l0 kq a0 a1 x8_2 l2 (l2.length:Int) x24_2 x543000_2 x543001_2=some (r1,r2))∧Aside0 (kq≤kj3)∧Aside0 (Kd.R (Kd.int .i64) 3 w' w.heap.size (fun _=>True) v540 x8_2)∧Aside0 (w'.heap[gb542]? = some (.cells #[.int .i64 x543000_2,.int .i64 x543001_2] 196 (0,0)))∧Aside0 (Below w.heap.size w w'))
    case atStart=>exact⟨(t539),(0),((-1)),((-1)),(by first|rfl|(simp;done)|(simp [*];done)),H',⟨Nat.le_refl _⟩,⟨by (with_reducible repeat (first|apply Kd.R_alloc|apply Kd.R_drewN|apply Kd.R_drew));exact Kd.R_mono (Kd.R_far (p:=⟨gb542,1,none⟩) (Kd.R_far (p:=⟨gb542,0,none⟩) (Kd.R_types HO541.out BK542.out (by decide)) (fun _ hk=>hk.2) (.int .i64 (-1))) (fun _ hk=>hk.2) (.int .i64 (-1))) (fun _ hk=>trivial)⟩,⟨by (with_reducible repeat (first|refine blk_drewN ?_ _|refine blk_drew ?_|refine blk_alloc ?_ _));refine blk_put (cs:=#[.int .i64 (-1),.int .i64 0]) ?_ 1 _ rfl;(with_reducible repeat (first|refine blk_drewN ?_ _|refine blk_drew ?_|refine blk_alloc ?_ _));refine blk_put (cs:=#[.int .i64 0,.int .i64 0]) ?_ 0 _ rfl;(with_reducible repeat (first|refine blk_drewN ?_ _|refine blk_drew ?_|refine blk_alloc ?_ _));exact BK542.out⟩,⟨by repeat (first|(with_reducible first|exact HB.out|apply below_alloc|apply pw_below_drewN|apply below_drew1|refine below_set ?_ GE542.out)|exact HB.out)⟩⟩
    case round =>
     clear H'
     try clear c1
     try clear c2
     try clear p2
     try clear c5
     try clear c5b0
     try clear c6
     try clear c13
     try clear hcz13_0
     try clear hcz13_1
     try clear hfz13_0
     try clear hfz13_1
     try clear p2
     obtain⟨x8_2,x24_2,x543000_2,x543001_2,rfl,HA,HK2,HO_8,BK542,HB⟩:=hrel
     cases gk with
     | zero=>exact absurd HA.out (by simp [chunk_table.l0])
     | succ k2 =>
      have H:=HA.out
      clear HA
      simp only [chunk_table.l0] at H
      by_cases c14:x24_2<(l2.length:Int)
      ·rw [if_pos c14] at H
       have c14b0:decide (x24_2<(l2.length:Int))=true:=decide_eq_true c14
       clear c14
       by_cases c15:0≤x24_2
       ·rw [if_pos c15] at H
        have c15b0:decide (0≤x24_2)=true:=decide_eq_true c15
        clear c15
        by_cases c16:x24_2<(l2.length:Int)
        ·rw [if_pos c16] at H
         have c16b0:decide (x24_2<(l2.length:Int))=true:=decide_eq_true c16
         clear c16
         by_cases c17:((rd_T196 l2 x24_2).f0)≤x543000_2
         ·rw [if_pos c17] at H
          have c17b0:decide (((rd_T196 l2 x24_2).f0)≤x543000_2)=true:=decide_eq_true c17
          clear c17
          simp only [Option.some.injEq,Prod.mk.injEq] at H
          obtain⟨rfl,rfl⟩:=H
          have p543:0≤(x24_2:Int):=of_decide_eq_true (by first|(with_reducible assumption)|assumption)
          have q543:x24_2<(l2.length:Int):=of_decide_eq_true (by first|(with_reducible assumption)|assumption)
          obtain⟨ad543,e543,hx543_0,hx543_1⟩:=at_T196 HR2.out x24_2 p543 q543
          cases e543
          replace hx543_0:=(HB.out.cell (World.block_lt_of_cell? w _ hx543_0)).trans hx543_0
          replace hx543_1:=(HB.out.cell (World.block_lt_of_cell? w _ hx543_1)).trans hx543_1
          replace p543:=eq_true p543
          replace q543:=eq_true q543
          go_wp2_with (first|((with_reducible refine gate_dst (N:=11) rfl ?_);refine box_event ?hg (N:=11) ?hd (cs:=#[.int .i64 0,.int .i64 0]) (t:=196) ?hr ?_;(case hd=>rfl);(case hg=>rfl);(case hr=>first|(go_simp;done)|(go_simp;rfl));intro gb544 hg w18 hbox hb;have n0_:=Aside0.mk (Kd.R_below (by (with_reducible repeat (first|apply Kd.R_alloc|apply Kd.R_drewN|apply Kd.R_drew));exact HO_8.out) hb);have n1_:=Aside0.mk (blk_below (g:=gb542) (o := .cells #[.int .i64 x543000_2,.int .i64 x543001_2] 196 (0,0)) (by (with_reducible repeat (first|refine blk_drewN ?_ _|refine blk_drew ?_|refine blk_alloc ?_ _));exact BK542.out) hb);have n2_:=Aside0.mk (below_step (by repeat (first|(with_reducible first|exact HB.out|apply below_alloc|apply pw_below_drewN|apply below_drew1|refine below_set ?_ GE542.out)|exact HB.out)) hb);have n3_:=Aside0.mk (hbox);have n4_:=Aside0.mk ((by rw [hg];exact (below_size (by repeat (first|(with_reducible first|exact HB.out|apply below_alloc|apply pw_below_drewN|apply below_drew1|refine below_set ?_ GE542.out)|exact HB.out))):w.heap.size≤gb544));have n5_:=Aside0.mk ((by rw [hg];exact (below_size (by repeat (first|(with_reducible first|exact HB.out|apply below_alloc|apply pw_below_drewN|apply below_drew1|refine below_set ?_ GE542.out)|exact HB.out))):w.heap.size≤gb544));have n6_:=Aside0.mk ((by rw [hg];exact Nat.ne_of_lt (blk_lt (g:=gb542) (o := .cells #[.int .i64 x543000_2,.int .i64 x543001_2] 196 (0,0)) (by (with_reducible repeat (first|refine blk_drewN ?_ _|refine blk_drew ?_|refine blk_alloc ?_ _));exact BK542.out)):gb542≠gb544));have n7_:=Aside0.mk ((by rw [hg];exact Nat.ne_of_gt (blk_lt (g:=gb542) (o := .cells #[.int .i64 x543000_2,.int .i64 x543001_2] 196 (0,0)) (by (with_reducible repeat (first|refine blk_drewN ?_ _|refine blk_drew ?_|refine blk_alloc ?_ _));exact BK542.out)):gb544≠gb542));clear HO_8;clear BK542;clear HB;have HO_8:=n0_;have BK542:=n1_;have HB:=n2_;have BK544:=n3_;have GW544:=n4_;have GE544:=n5_;have NB542_544:=n6_;have NB544_542:=n7_;clear n0_ n1_ n2_ n3_ n4_ n5_ n6_ n7_;clear hb hbox hg;have hnb19:=NB544_542.out;have hnc19:=NB542_544.out;have hcz20_0:w18.cell? ⟨gb544,0,none⟩=some (.int .i64 0):=(blk_cell BK544.out 0).trans rfl;have hcz20_1:w18.cell? ⟨gb544,1,none⟩=some (.int .i64 0):=(blk_cell BK544.out 1).trans rfl;have hfz20_0:=blk_frozen BK544.out 0;have hfz20_1:=blk_frozen BK544.out 1;have hcz21_0:w18.cell? ⟨gb542,0,none⟩=some (.int .i64 x543000_2):=(blk_cell BK542.out 0).trans rfl;have hcz21_1:w18.cell? ⟨gb542,1,none⟩=some (.int .i64 x543001_2):=(blk_cell BK542.out 1).trans rfl;have hfz21_0:=blk_frozen BK542.out 0;have hfz21_1:=blk_frozen BK542.out 1))
          go_ret2
          exact⟨_,by first|rfl|(simp [errW_none,errW_some]<;>rfl)|(simp [*,errW_none,errW_some]<;>rfl),by first|exact Kd.R_nil _ _ _ _ _|exact Kd.N_nil _ _ _ _ _|exact Kd.V_nil _ _ _ _ _|exact Kd.Q_nil _ _ _ _ _|exact Kd.S_nil _ _ _ _ _,by repeat (first|(with_reducible first|exact HB.out|apply below_alloc|apply pw_below_drewN|apply below_drew1|refine below_set ?_ GE542.out|refine below_set ?_ GE544.out)|exact HB.out)⟩
         ·rw [if_neg c17] at H
          have c17b0:decide (((rd_T196 l2 x24_2).f0)≤x543000_2)=false:=decide_eq_false c17
          clear c17
          by_cases c22:((rd_T196 l2 x24_2).f1)≤x543001_2
          ·rw [if_pos c22] at H
           have c22b0:decide (((rd_T196 l2 x24_2).f1)≤x543001_2)=true:=decide_eq_true c22
           clear c22
           simp only [Option.some.injEq,Prod.mk.injEq] at H
           obtain⟨rfl,rfl⟩:=H
           have p543:0≤(x24_2:Int):=of_decide_eq_true (by first|(with_reducible assumption)|assumption)
           have q543:x24_2<(l2.length:Int):=of_decide_eq_true (by first|(with_reducible assumption)|assumption)
           obtain⟨ad543,e543,hx543_0,hx543_1⟩:=at_T196 HR2.out x24_2 p543 q543
           cases e543
           replace hx543_0:=(HB.out.cell (World.block_lt_of_cell? w _ hx543_0)).trans hx543_0
           replace hx543_1:=(HB.out.cell (World.block_lt_of_cell? w _ hx543_1)).trans hx543_1
           replace p543:=eq_true p543
           replace q543:=eq_true q543
           go_wp2_with (first|((with_reducible refine gate_dst (N:=11) rfl ?_);refine box_event ?hg (N:=11) ?hd (cs:=#[.int .i64 0,.int .i64 0]) (t:=196) ?hr ?_;(case hd=>rfl);(case hg=>rfl);(case hr=>first|(go_simp;done)|(go_simp;rfl));intro gb544 hg w23 hbox hb;have n0_:=Aside0.mk (Kd.R_below (by (with_reducible repeat (first|apply Kd.R_alloc|apply Kd.R_drewN|apply Kd.R_drew));exact HO_8.out) hb);have n1_:=Aside0.mk (blk_below (g:=gb542) (o := .cells #[.int .i64 x543000_2,.int .i64 x543001_2] 196 (0,0)) (by (with_reducible repeat (first|refine blk_drewN ?_ _|refine blk_drew ?_|refine blk_alloc ?_ _));exact BK542.out) hb);have n2_:=Aside0.mk (below_step (by repeat (first|(with_reducible first|exact HB.out|apply below_alloc|apply pw_below_drewN|apply below_drew1|refine below_set ?_ GE542.out)|exact HB.out)) hb);have n3_:=Aside0.mk (hbox);have n4_:=Aside0.mk ((by rw [hg];exact (below_size (by repeat (first|(with_reducible first|exact HB.out|apply below_alloc|apply pw_below_drewN|apply below_drew1|refine below_set ?_ GE542.out)|exact HB.out))):w.heap.size≤gb544));have n5_:=Aside0.mk ((by rw [hg];exact (below_size (by repeat (first|(with_reducible first|exact HB.out|apply below_alloc|apply pw_below_drewN|apply below_drew1|refine below_set ?_ GE542.out)|exact HB.out))):w.heap.size≤gb544));have n6_:=Aside0.mk ((by rw [hg];exact Nat.ne_of_lt (blk_lt (g:=gb542) (o := .cells #[.int .i64 x543000_2,.int .i64 x543001_2] 196 (0,0)) (by (with_reducible repeat (first|refine blk_drewN ?_ _|refine blk_drew ?_|refine blk_alloc ?_ _));exact BK542.out)):gb542≠gb544));have n7_:=Aside0.mk ((by rw [hg];exact Nat.ne_of_gt (blk_lt (g:=gb542) (o := .cells #[.int .i64 x543000_2,.int .i64 x543001_2] 196 (0,0)) (by (with_reducible repeat (first|refine blk_drewN ?_ _|refine blk_drew ?_|refine blk_alloc ?_ _));exact BK542.out)):gb544≠gb542));clear HO_8;clear BK542;clear HB;have HO_8:=n0_;have BK542:=n1_;have HB:=n2_;have BK544:=n3_;have GW544:=n4_;have GE544:=n5_;have NB542_544:=n6_;have NB544_542:=n7_;clear n0_ n1_ n2_ n3_ n4_ n5_ n6_ n7_;clear hb hbox hg;have hnb24:=NB544_542.out;have hnc24:=NB542_544.out;have hcz25_0:w23.cell? ⟨gb544,0,none⟩=some (.int .i64 0):=(blk_cell BK544.out 0).trans rfl;have hcz25_1:w23.cell? ⟨gb544,1,none⟩=some (.int .i64 0):=(blk_cell BK544.out 1).trans rfl;have hfz25_0:=blk_frozen BK544.out 0;have hfz25_1:=blk_frozen BK544.out 1;have hcz26_0:w23.cell? ⟨gb542,0,none⟩=some (.int .i64 x543000_2):=(blk_cell BK542.out 0).trans rfl;have hcz26_1:w23.cell? ⟨gb542,1,none⟩=some (.int .i64 x543001_2):=(blk_cell BK542.out 1).trans rfl;have hfz26_0:=blk_frozen BK542.out 0;have hfz26_1:=blk_frozen BK542.out 1))
           go_ret2
           exact⟨_,by first|rfl|(simp [errW_none,errW_some]<;>rfl)|(simp [*,errW_none,errW_some]<;>rfl),by first|exact Kd.R_nil _ _ _ _ _|exact Kd.N_nil _ _ _ _ _|exact Kd.V_nil _ _ _ _ _|exact Kd.Q_nil _ _ _ _ _|exact Kd.S_nil _ _ _ _ _,by repeat (first|(with_reducible first|exact HB.out|apply below_alloc|apply pw_below_drewN|apply below_drew1|refine below_set ?_ GE542.out|refine below_set ?_ GE544.out)|exact HB.out)⟩
          ·rw [if_neg c22] at H
           have c22b0:decide (((rd_T196 l2 x24_2).f1)≤x543001_2)=false:=decide_eq_false c22
           clear c22
           by_cases c27:((rd_T196 l2 x24_2).f0)≥a0
           ·rw [if_pos c27] at H
            have c27b0:decide (a0≤((rd_T196 l2 x24_2).f0))=true:=decide_eq_true c27
            clear c27
            simp only [Option.some.injEq,Prod.mk.injEq] at H
            obtain⟨rfl,rfl⟩:=H
            have p543:0≤(x24_2:Int):=of_decide_eq_true (by first|(with_reducible assumption)|assumption)
            have q543:x24_2<(l2.length:Int):=of_decide_eq_true (by first|(with_reducible assumption)|assumption)
            obtain⟨ad543,e543,hx543_0,hx543_1⟩:=at_T196 HR2.out x24_2 p543 q543
            cases e543
            replace hx543_0:=(HB.out.cell (World.block_lt_of_cell? w _ hx543_0)).trans hx543_0
            replace hx543_1:=(HB.out.cell (World.block_lt_of_cell? w _ hx543_1)).trans hx543_1
            replace p543:=eq_true p543
            replace q543:=eq_true q543
            go_wp2_with (first|((with_reducible refine gate_dst (N:=11) rfl ?_);refine box_event ?hg (N:=11) ?hd (cs:=#[.int .i64 0,.int .i64 0]) (t:=196) ?hr ?_;(case hd=>rfl);(case hg=>rfl);(case hr=>first|(go_simp;done)|(go_simp;rfl));intro gb544 hg w28 hbox hb;have n0_:=Aside0.mk (Kd.R_below (by (with_reducible repeat (first|apply Kd.R_alloc|apply Kd.R_drewN|apply Kd.R_drew));exact HO_8.out) hb);have n1_:=Aside0.mk (blk_below (g:=gb542) (o := .cells #[.int .i64 x543000_2,.int .i64 x543001_2] 196 (0,0)) (by (with_reducible repeat (first|refine blk_drewN ?_ _|refine blk_drew ?_|refine blk_alloc ?_ _));exact BK542.out) hb);have n2_:=Aside0.mk (below_step (by repeat (first|(with_reducible first|exact HB.out|apply below_alloc|apply pw_below_drewN|apply below_drew1|refine below_set ?_ GE542.out)|exact HB.out)) hb);have n3_:=Aside0.mk (hbox);have n4_:=Aside0.mk ((by rw [hg];exact (below_size (by repeat (first|(with_reducible first|exact HB.out|apply below_alloc|apply pw_below_drewN|apply below_drew1|refine below_set ?_ GE542.out)|exact HB.out))):w.heap.size≤gb544));have n5_:=Aside0.mk ((by rw [hg];exact (below_size (by repeat (first|(with_reducible first|exact HB.out|apply below_alloc|apply pw_below_drewN|apply below_drew1|refine below_set ?_ GE542.out)|exact HB.out))):w.heap.size≤gb544));have n6_:=Aside0.mk ((by rw [hg];exact Nat.ne_of_lt (blk_lt (g:=gb542) (o := .cells #[.int .i64 x543000_2,.int .i64 x543001_2] 196 (0,0)) (by (with_reducible repeat (first|refine blk_drewN ?_ _|refine blk_drew ?_|refine blk_alloc ?_ _));exact BK542.out)):gb542≠gb544));have n7_:=Aside0.mk ((by rw [hg];exact Nat.ne_of_gt (blk_lt (g:=gb542) (o := .cells #[.int .i64 x543000_2,.int .i64 x543001_2] 196 (0,0)) (by (with_reducible repeat (first|refine blk_drewN ?_ _|refine blk_drew ?_|refine blk_alloc ?_ _));exact BK542.out)):gb544≠gb542));clear HO_8;clear BK542;clear HB;have HO_8:=n0_;have BK542:=n1_;have HB:=n2_;have BK544:=n3_;have GW544:=n4_;have GE544:=n5_;have NB542_544:=n6_;have NB544_542:=n7_;clear n0_ n1_ n2_ n3_ n4_ n5_ n6_ n7_;clear hb hbox hg;have hnb29:=NB544_542.out;have hnc29:=NB542_544.out;have hcz30_0:w28.cell? ⟨gb544,0,none⟩=some (.int .i64 0):=(blk_cell BK544.out 0).trans rfl;have hcz30_1:w28.cell? ⟨gb544,1,none⟩=some (.int .i64 0):=(blk_cell BK544.out 1).trans rfl;have hfz30_0:=blk_frozen BK544.out 0;have hfz30_1:=blk_frozen BK544.out 1;have hcz31_0:w28.cell? ⟨gb542,0,none⟩=some (.int .i64 x543000_2):=(blk_cell BK542.out 0).trans rfl;have hcz31_1:w28.cell? ⟨gb542,1,none⟩=some (.int .i64 x543001_2):=(blk_cell BK542.out 1).trans rfl;have hfz31_0:=blk_frozen BK542.out 0;have hfz31_1:=blk_frozen BK542.out 1))
            go_ret2
            exact⟨_,by first|rfl|(simp [errW_none,errW_some]<;>rfl)|(simp [*,errW_none,errW_some]<;>rfl),by first|exact Kd.R_nil _ _ _ _ _|exact Kd.N_nil _ _ _ _ _|exact Kd.V_nil _ _ _ _ _|exact Kd.Q_nil _ _ _ _ _|exact Kd.S_nil _ _ _ _ _,by repeat (first|(with_reducible first|exact HB.out|apply below_alloc|apply pw_below_drewN|apply below_drew1|refine below_set ?_ GE542.out|refine below_set ?_ GE544.out)|exact HB.out)⟩
           ·rw [if_neg c27] at H
            have c27b0:decide (a0≤((rd_T196 l2 x24_2).f0))=false:=decide_eq_false c27
            clear c27
            by_cases c32:((rd_T196 l2 x24_2).f1)≥a1
            ·rw [if_pos c32] at H
             have c32b0:decide (a1≤((rd_T196 l2 x24_2).f1))=true:=decide_eq_true c32
             clear c32
             simp only [Option.some.injEq,Prod.mk.injEq] at H
             obtain⟨rfl,rfl⟩:=H
             have p543:0≤(x24_2:Int):=of_decide_eq_true (by first|(with_reducible assumption)|assumption)
             have q543:x24_2<(l2.length:Int):=of_decide_eq_true (by first|(with_reducible assumption)|assumption)
             obtain⟨ad543,e543,hx543_0,hx543_1⟩:=at_T196 HR2.out x24_2 p543 q543
             cases e543
             replace hx543_0:=(HB.out.cell (World.block_lt_of_cell? w _ hx543_0)).trans hx543_0
             replace hx543_1:=(HB.out.cell (World.block_lt_of_cell? w _ hx543_1)).trans hx543_1
             replace p543:=eq_true p543
             replace q543:=eq_true q543
             go_wp2_with (first|((with_reducible refine gate_dst (N:=11) rfl ?_);refine box_event ?hg (N:=11) ?hd (cs:=#[.int .i64 0,.int .i64 0]) (t:=196) ?hr ?_;(case hd=>rfl);(case hg=>rfl);(case hr=>first|(go_simp;done)|(go_simp;rfl));intro gb544 hg w33 hbox hb;have n0_:=Aside0.mk (Kd.R_below (by (with_reducible repeat (first|apply Kd.R_alloc|apply Kd.R_drewN|apply Kd.R_drew));exact HO_8.out) hb);have n1_:=Aside0.mk (blk_below (g:=gb542) (o := .cells #[.int .i64 x543000_2,.int .i64 x543001_2] 196 (0,0)) (by (with_reducible repeat (first|refine blk_drewN ?_ _|refine blk_drew ?_|refine blk_alloc ?_ _));exact BK542.out) hb);have n2_:=Aside0.mk (below_step (by repeat (first|(with_reducible first|exact HB.out|apply below_alloc|apply pw_below_drewN|apply below_drew1|refine below_set ?_ GE542.out)|exact HB.out)) hb);have n3_:=Aside0.mk (hbox);have n4_:=Aside0.mk ((by rw [hg];exact (below_size (by repeat (first|(with_reducible first|exact HB.out|apply below_alloc|apply pw_below_drewN|apply below_drew1|refine below_set ?_ GE542.out)|exact HB.out))):w.heap.size≤gb544));have n5_:=Aside0.mk ((by rw [hg];exact (below_size (by repeat (first|(with_reducible first|exact HB.out|apply below_alloc|apply pw_below_drewN|apply below_drew1|refine below_set ?_ GE542.out)|exact HB.out))):w.heap.size≤gb544));have n6_:=Aside0.mk ((by rw [hg];exact Nat.ne_of_lt (blk_lt (g:=gb542) (o := .cells #[.int .i64 x543000_2,.int .i64 x543001_2] 196 (0,0)) (by (with_reducible repeat (first|refine blk_drewN ?_ _|refine blk_drew ?_|refine blk_alloc ?_ _));exact BK542.out)):gb542≠gb544));have n7_:=Aside0.mk ((by rw [hg];exact Nat.ne_of_gt (blk_lt (g:=gb542) (o := .cells #[.int .i64 x543000_2,.int .i64 x543001_2] 196 (0,0)) (by (with_reducible repeat (first|refine blk_drewN ?_ _|refine blk_drew ?_|refine blk_alloc ?_ _));exact BK542.out)):gb544≠gb542));clear HO_8;clear BK542;clear HB;have HO_8:=n0_;have BK542:=n1_;have HB:=n2_;have BK544:=n3_;have GW544:=n4_;have GE544:=n5_;have NB542_544:=n6_;have NB544_542:=n7_;clear n0_ n1_ n2_ n3_ n4_ n5_ n6_ n7_;clear hb hbox hg;have hnb34:=NB544_542.out;have hnc34:=NB542_544.out;have hcz35_0:w33.cell? ⟨gb544,0,none⟩=some (.int .i64 0):=(blk_cell BK544.out 0).trans rfl;have hcz35_1:w33.cell? ⟨gb544,1,none⟩=some (.int .i64 0):=(blk_cell BK544.out 1).trans rfl;have hfz35_0:=blk_frozen BK544.out 0;have hfz35_1:=blk_frozen BK544.out 1;have hcz36_0:w33.cell? ⟨gb542,0,none⟩=some (.int .i64 x543000_2):=(blk_cell BK542.out 0).trans rfl;have hcz36_1:w33.cell? ⟨gb542,1,none⟩=some (.int .i64 x543001_2):=(blk_cell BK542.out 1).trans rfl;have hfz36_0:=blk_frozen BK542.out 0;have hfz36_1:=blk_frozen BK542.out 1))
             go_ret2
             exact⟨_,by first|rfl|(simp [errW_none,errW_some]<;>rfl)|(simp [*,errW_none,errW_some]<;>rfl),by first|exact Kd.R_nil _ _ _ _ _|exact Kd.N_nil _ _ _ _ _|exact Kd.V_nil _ _ _ _ _|exact Kd.Q_nil _ _ _ _ _|exact Kd.S_nil _ _ _ _ _,by repeat (first|(with_reducible first|exact HB.out|apply below_alloc|apply pw_below_drewN|apply below_drew1|refine below_set ?_ GE542.out|refine below_set ?_ GE544.out)|exact HB.out)⟩
            ·rw [if_neg c32] at H
             have c32b0:decide (a1≤((rd_T196 l2 x24_2).f1))=false:=decide_eq_false c32
             clear c32
             by_cases c37:0≤((rd_T196 l2 x24_2).f0)
             ·rw [if_pos c37] at H
              have c37b0:decide (0≤((rd_T196 l2 x24_2).f0))=true:=decide_eq_true c37
              clear c37
              by_cases c38:((rd_T196 l2 x24_2).f0)<(x8_2.length:Int)
              ·rw [if_pos c38] at H
               have c38b0:decide (((rd_T196 l2 x24_2).f0)<(x8_2.length:Int))=true:=decide_eq_true c38
               clear c38
               obtain⟨y545,hy545⟩:∃ y_:List Int,y_=(x8_2.set (((rd_T196 l2 x24_2).f0):Int).toNat ((rd_T196 l2 x24_2).f1)):=⟨_,rfl⟩
               replace H:(chunk_table.l0 k2 a0 a1 y545 l2 (l2.length:Int) (wrap64 (x24_2+1)) ((rd_T196 l2 x24_2).f0) ((rd_T196 l2 x24_2).f1))=some (r1,r2):=by first|(rw [hy545];with_reducible exact H)|(have H2_:=(Option.bind_some _ _).symm.trans H;rw [hy545];with_reducible exact H2_)|(have H2_:=(Option.bind_some _ _).symm.trans H;with_reducible exact H2_)|with_reducible exact H|(rw [hy545];exact H)|exact H
               have Ny545:=Aside0.mk hy545
               clear hy545
               have H':=Aside0.mk H
               clear H
               have p543:0≤(x24_2:Int):=of_decide_eq_true (by first|(with_reducible assumption)|assumption)
               have q543:x24_2<(l2.length:Int):=of_decide_eq_true (by first|(with_reducible assumption)|assumption)
               obtain⟨ad543,e543,hx543_0,hx543_1⟩:=at_T196 HR2.out x24_2 p543 q543
               cases e543
               replace hx543_0:=(HB.out.cell (World.block_lt_of_cell? w _ hx543_0)).trans hx543_0
               replace hx543_1:=(HB.out.cell (World.block_lt_of_cell? w _ hx543_1)).trans hx543_1
               replace p543:=eq_true p543
               replace q543:=eq_true q543
               go_wp2_with (first|((with_reducible refine gate_dst (N:=11) rfl ?_);refine box_event ?hg (N:=11) ?hd (cs:=#[.int .i64 0,.int .i64 0]) (t:=196) ?hr ?_;(case hd=>rfl);(case hg=>rfl);(case hr=>first|(go_simp;done)|(go_simp;rfl));intro gb544 hg w40 hbox hb;have n0_:=Aside0.mk (Kd.R_below (by (with_reducible repeat (first|apply Kd.R_alloc|apply Kd.R_drewN|apply Kd.R_drew));exact HO_8.out) hb);have n1_:=Aside0.mk (blk_below (g:=gb542) (o := .cells #[.int .i64 x543000_2,.int .i64 x543001_2] 196 (0,0)) (by (with_reducible repeat (first|refine blk_drewN ?_ _|refine blk_drew ?_|refine blk_alloc ?_ _));exact BK542.out) hb);have n2_:=Aside0.mk (below_step (by repeat (first|(with_reducible first|exact HB.out|apply below_alloc|apply pw_below_drewN|apply below_drew1|refine below_set ?_ GE542.out)|exact HB.out)) hb);have n3_:=Aside0.mk (hbox);have n4_:=Aside0.mk ((by rw [hg];exact (below_size (by repeat (first|(with_reducible first|exact HB.out|apply below_alloc|apply pw_below_drewN|apply below_drew1|refine below_set ?_ GE542.out)|exact HB.out))):w.heap.size≤gb544));have n5_:=Aside0.mk ((by rw [hg];exact (below_size (by repeat (first|(with_reducible first|exact HB.out|apply below_alloc|apply pw_below_drewN|apply below_drew1|refine below_set ?_ GE542.out)|exact HB.out))):w.heap.size≤gb544));have n6_:=Aside0.mk ((by rw [hg];exact Nat.ne_of_lt (blk_lt (g:=gb542) (o := .cells #[.int .i64 x543000_2,.int .i64 x543001_2] 196 (0,0)) (by (with_reducible repeat (first|refine blk_drewN ?_ _|refine blk_drew ?_|refine blk_alloc ?_ _));exact BK542.out)):gb542≠gb544));have n7_:=Aside0.mk ((by rw [hg];exact Nat.ne_of_gt (blk_lt (g:=gb542) (o := .cells #[.int .i64 x543000_2,.int .i64 x543001_2] 196 (0,0)) (by (with_reducible repeat (first|refine blk_drewN ?_ _|refine blk_drew ?_|refine blk_alloc ?_ _));exact BK542.out)):gb544≠gb542));clear HO_8;clear BK542;clear HB;have HO_8:=n0_;have BK542:=n1_;have HB:=n2_;have BK544:=n3_;have GW544:=n4_;have GE544:=n5_;have NB542_544:=n6_;have NB544_542:=n7_;clear n0_ n1_ n2_ n3_ n4_ n5_ n6_ n7_;clear hb hbox hg;have hnb41:=NB544_542.out;have hnc41:=NB542_544.out;have hcz42_0:w40.cell? ⟨gb544,0,none⟩=some (.int .i64 0):=(blk_cell BK544.out 0).trans rfl;have hcz42_1:w40.cell? ⟨gb544,1,none⟩=some (.int .i64 0):=(blk_cell BK544.out 1).trans rfl;have hfz42_0:=blk_frozen BK544.out 0;have hfz42_1:=blk_frozen BK544.out 1)|((with_reducible refine gate_store (t:=196) (p:=11) rfl ?_);refine store_event (t:=196) (p:=11) (v:=?vo_w43) (w1:=((w40.setCell ⟨gb544,0,none⟩ (.int .i64 ((rd_T196 l2 x24_2).f0))).setCell ⟨gb544,1,none⟩ (.int .i64 ((rd_T196 l2 x24_2).f1)))) ?hg ?ho ?hn ?hr ?_;(case ho=>rfl);(case hg=>rfl);(case hn=>rfl);(case hr=>first|(go_simp;done)|(go_simp;rfl));intro w43 hw;have n0_:Aside0 (Kd.R (Kd.int .i64) 3 w43 w.heap.size (fun _=>True) v540 x8_2):=⟨(by rw [hw];exact (by (with_reducible repeat (first|apply Kd.R_alloc|apply Kd.R_drewN|apply Kd.R_drew));exact Kd.R_mono (Kd.R_far (p:=⟨gb544,1,none⟩) (Kd.R_far (p:=⟨gb544,0,none⟩) (Kd.R_types HO_8.out BK544.out (by decide)) (fun _ hk=>hk.2) (.int .i64 ((rd_T196 l2 x24_2).f0))) (fun _ hk=>hk.2) (.int .i64 ((rd_T196 l2 x24_2).f1))) (fun _ hk=>trivial)))⟩;have n1_:Aside0 (w43.heap[gb542]? = some (.cells #[.int .i64 x543000_2,.int .i64 x543001_2] 196 (0,0))):=⟨(by rw [hw];exact (by (with_reducible repeat (first|refine blk_drewN ?_ _|refine blk_drew ?_|refine blk_alloc ?_ _));refine blk_far ?_ NB542_544.out _;(with_reducible repeat (first|refine blk_drewN ?_ _|refine blk_drew ?_|refine blk_alloc ?_ _));refine blk_far ?_ NB542_544.out _;(with_reducible repeat (first|refine blk_drewN ?_ _|refine blk_drew ?_|refine blk_alloc ?_ _));exact BK542.out))⟩;have n2_:Aside0 (w43.heap[gb544]? = some (.cells #[.int .i64 ((rd_T196 l2 x24_2).f0),.int .i64 ((rd_T196 l2 x24_2).f1)] 196 (0,0))):=⟨(by rw [hw];exact (by (with_reducible repeat (first|refine blk_drewN ?_ _|refine blk_drew ?_|refine blk_alloc ?_ _));refine blk_put (cs:=#[.int .i64 ((rd_T196 l2 x24_2).f0),.int .i64 0]) ?_ 1 _ rfl;(with_reducible repeat (first|refine blk_drewN ?_ _|refine blk_drew ?_|refine blk_alloc ?_ _));refine blk_put (cs:=#[.int .i64 0,.int .i64 0]) ?_ 0 _ rfl;(with_reducible repeat (first|refine blk_drewN ?_ _|refine blk_drew ?_|refine blk_alloc ?_ _));exact BK544.out))⟩;have n3_:Aside0 (Below w.heap.size w w43):=⟨(by rw [hw];exact (by repeat (first|(with_reducible first|exact HB.out|apply below_alloc|apply pw_below_drewN|apply below_drew1|refine below_set ?_ GE542.out|refine below_set ?_ GE544.out)|exact HB.out)))⟩;clear hw;clear HO_8;clear BK542;clear BK544;clear HB;have HO_8:=n0_;have BK542:=n1_;have BK544:=n2_;have HB:=n3_;clear n0_ n1_ n2_ n3_;have hcz44_0:w43.cell? ⟨gb544,0,none⟩=some (.int .i64 ((rd_T196 l2 x24_2).f0)):=(blk_cell BK544.out 0).trans rfl;have hcz44_1:w43.cell? ⟨gb544,1,none⟩=some (.int .i64 ((rd_T196 l2 x24_2).f1)):=(blk_cell BK544.out 1).trans rfl;have hfz44_0:=blk_frozen BK544.out 0;have hfz44_1:=blk_frozen BK544.out 1;have hcz45_0:w43.cell? ⟨gb542,0,none⟩=some (.int .i64 x543000_2):=(blk_cell BK542.out 0).trans rfl;have hcz45_1:w43.cell? ⟨gb542,1,none⟩=some (.int .i64 x543001_2):=(blk_cell BK542.out 1).trans rfl;have hfz45_0:=blk_frozen BK542.out 0;have hfz45_1:=blk_frozen BK542.out 1;have p39:0≤(((rd_T196 l2 x24_2).f0):Int):=of_decide_eq_true (by first|(with_reducible assumption)|assumption);have q39:(((rd_T196 l2 x24_2).f0):Int)<((x8_2.length:Int):Int):=of_decide_eq_true (by first|(with_reducible assumption)|assumption);obtain⟨go39,co39,eo39,gb39,gl39,cl39,HG39⟩:=Kd.R_form HO_8.out (by omega);(first|cases eo39|(injection eo39 with ea_ en_ ec_;(first|subst ea_|(injection ea_ with ea_;subst ea_));subst ec_;clear en_));have GB39:=Aside0.mk gb39;have GG39:=Aside0.mk HG39;clear gb39 gl39 HG39;obtain⟨hx39_0,hf39_0⟩:=Kd.R_celln 0 HO_8.out (((rd_T196 l2 x24_2).f0):Int) p39 q39;replace p39:=eq_true p39;replace q39:=eq_true q39;obtain⟨hy46_,hz46_⟩:=Kd.R_celln 0 HO_8.out (((rd_T196 l2 x24_2).f0):Int) (of_decide_eq_true (by first|(with_reducible assumption)|assumption)) (of_decide_eq_true (by first|(with_reducible assumption)|assumption));have HP46:=Kd.R_putg HO_8.out (((rd_T196 l2 x24_2).f0):Int) ((rd_T196 l2 x24_2).f1))|((with_reducible refine gate_store (t:=3) (p:=57) rfl ?_);refine store_event (t:=3) (p:=57) (v:=?vo_w47) (w1:=(w43.setCell ⟨go39,(((rd_T196 l2 x24_2).f0):Int).toNat,none⟩ (.int .i64 ((rd_T196 l2 x24_2).f1)))) ?hg ?ho ?hn ?hr ?_;(case ho=>rfl);(case hg=>rfl);(case hn=>rfl);(case hr=>first|(go_simp;done)|(go_simp;rfl));intro w47 hw;have hg:w43.grownBy w47 (some go39):=(by rw [hw];exact HP46.2);have hp_:Kd.R (Kd.int .i64) 3 w47 w.heap.size (fun _=>True) (.slice (some ⟨go39,0,none⟩) x8_2.length co39) y545:=(by rw [hw,Ny545.out];exact HP46.1);clear HP46;have n0_:=Aside0.mk (hp_);have n1_:=Aside0.mk (blk_grown (g:=gb542) (o := .cells #[.int .i64 x543000_2,.int .i64 x543001_2] 196 (0,0)) (by (with_reducible repeat (first|refine blk_drewN ?_ _|refine blk_drew ?_|refine blk_alloc ?_ _));exact BK542.out) hg (Kd.R_ne HO_8.out BK542.out (by decide)));have n2_:=Aside0.mk (blk_grown (g:=gb544) (o := .cells #[.int .i64 ((rd_T196 l2 x24_2).f0),.int .i64 ((rd_T196 l2 x24_2).f1)] 196 (0,0)) (by (with_reducible repeat (first|refine blk_drewN ?_ _|refine blk_drew ?_|refine blk_alloc ?_ _));exact BK544.out) hg (Kd.R_ne HO_8.out BK544.out (by decide)));have n3_:=Aside0.mk ((by rw [hw];exact below_set (HB.out) GB39.out:Below w.heap.size w w47));clear HO_8;clear BK542;clear BK544;clear HB;have HO_8:=n0_;have BK542:=n1_;have BK544:=n2_;have HB:=n3_;clear n0_ n1_ n2_ n3_;clear hg hw hp_;have hcz48_0:w47.cell? ⟨gb544,0,none⟩=some (.int .i64 ((rd_T196 l2 x24_2).f0)):=(blk_cell BK544.out 0).trans rfl;have hcz48_1:w47.cell? ⟨gb544,1,none⟩=some (.int .i64 ((rd_T196 l2 x24_2).f1)):=(blk_cell BK544.out 1).trans rfl;have hfz48_0:=blk_frozen BK544.out 0;have hfz48_1:=blk_frozen BK544.out 1;have hcz49_0:w47.cell? ⟨gb542,0,none⟩=some (.int .i64 x543000_2):=(blk_cell BK542.out 0).trans rfl;have hcz49_1:w47.cell? ⟨gb542,1,none⟩=some (.int .i64 x543001_2):=(blk_cell BK542.out 1).trans rfl;have hfz49_0:=blk_frozen BK542.out 0;have hfz49_1:=blk_frozen BK542.out 1))
               go_roundg k2
               case measure=>have:=HJ3.out;have:=HK2.out;omega
               case rel=>exact⟨(y545),(wrap64 (x24_2+1)),((rd_T196 l2 x24_2).f0),((rd_T196 l2 x24_2).f1),(by first|rfl|(simp;done)|(simp [*];done)),H',⟨by have:=HJ3.out;have:=HK2.out;omega⟩,⟨by (with_reducible repeat (first|apply Kd.R_alloc|apply Kd.R_drewN|apply Kd.R_drew));exact Kd.R_mono (Kd.R_far (p:=⟨gb542,1,none⟩) (Kd.R_far (p:=⟨gb542,0,none⟩) (Kd.R_types HO_8.out BK542.out (by decide)) (fun _ hk=>hk.2) (.int .i64 ((rd_T196 l2 x24_2).f0))) (fun _ hk=>hk.2) (.int .i64 ((rd_T196 l2 x24_2).f1))) (fun _ hk=>trivial)⟩,⟨by (with_reducible repeat (first|refine blk_drewN ?_ _|refine blk_drew ?_|refine blk_alloc ?_ _));refine blk_put (cs:=#[.int .i64 ((rd_T196 l2 x24_2).f0),.int .i64 x543001_2]) ?_ 1 _ rfl;(with_reducible repeat (first|refine blk_drewN ?_ _|refine blk_drew ?_|refine blk_alloc ?_ _));refine blk_put (cs:=#[.int .i64 x543000_2,.int .i64 x543001_2]) ?_ 0 _ rfl;(with_reducible repeat (first|refine blk_drewN ?_ _|refine blk_drew ?_|refine blk_alloc ?_ _));exact BK542.out⟩,⟨by repeat (first|(with_reducible first|exact HB.out|apply below_alloc|apply pw_below_drewN|apply below_drew1|refine below_set ?_ GE542.out|refine below_set ?_ GE544.out)|exact HB.out)⟩⟩
              ·rw [if_neg c38] at H
               exact absurd H (by simp)
             ·rw [if_neg c37] at H
              exact absurd H (by simp)
        ·rw [if_neg c16] at H
         exact absurd H (by simp)
       ·rw [if_neg c15] at H
        exact absurd H (by simp)
      ·rw [if_neg c14] at H
       have c14b0:decide (x24_2<(l2.length:Int))=false:=decide_eq_false c14
       clear c14
       simp only [Option.some.injEq,Prod.mk.injEq] at H
       obtain⟨rfl,rfl⟩:=H
       go_wp2
       go_ret2
       exact⟨_,by first|rfl|(simp [errW_none,errW_some]<;>rfl)|(simp [*,errW_none,errW_some]<;>rfl),by (with_reducible repeat (first|apply Kd.R_alloc|apply Kd.R_drewN|apply Kd.R_drew));exact HO_8.out,by repeat (first|(with_reducible first|exact HB.out|apply below_alloc|apply pw_below_drewN|apply below_drew1|refine below_set ?_ GE542.out)|exact HB.out)⟩
end Go.Proofs.Ytfiamddinkokbaa.F
