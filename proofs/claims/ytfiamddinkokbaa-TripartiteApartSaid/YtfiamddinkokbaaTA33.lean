/- Texts joined into one file (wip/tools/pack.py): Fn69, Fn106, Fn107 -/
import Derived.Test.YtfiamddinkokbaaTA3
import Derived.Test.YtfiamddinkokbaaTA32
set_option linter.unusedVariables false
set_option linter.unusedSimpArgs false
section
namespace Go.Proofs.Ytfiamddinkokbaa.F
open Go.RowKit Go.Proofs.YtfiamddinkokbaaW.PrintWords Go.Proofs.YtfiamddinkokbaaW.PrintLast Go.Proofs.YtfiamddinkokbaaW.PrintMore
attribute [local go_sem] max2_int min2_int max_two min_two max_three min_three max_four min_four

def tripartitelaw12_labels.f (a0_0 : Int) (a0_1 : Int) (a0_2 : Int) (a0_3 : ByteArray) (a0_4 : ByteArray) (a0_5 : ByteArray) : Option (ByteArray×ByteArray×ByteArray×Bool×ByteArray×ByteArray×ByteArray×ByteArray×Bool) := some (a0_3,a0_4,a0_5,false,(⟨#[]⟩ : ByteArray),(⟨#[]⟩ : ByteArray),(⟨#[]⟩ : ByteArray),(⟨#[]⟩ : ByteArray),false)
set_option maxHeartbeats 8000000 in
set_option maxRecDepth 100000 in
theorem tripartitelaw12_labels.calls (a0_0 : Int) (a0_1 : Int) (a0_2 : Int) (a0_3 : ByteArray) (a0_4 : ByteArray) (a0_5 : ByteArray) (r1 : ByteArray) (r2 : ByteArray) (r3 : ByteArray) (r4 : Bool) (r5 : ByteArray) (r6 : ByteArray) (r7 : ByteArray) (r8 : ByteArray) (r9 : Bool) (w : World) (h : tripartitelaw12_labels.f a0_0 a0_1 a0_2 a0_3 a0_4 a0_5=some (r1,r2,r3,r4,r5,r6,r7,r8,r9)) :
  Calls Try.prog 106 #[.agg #[.int .i64 a0_0,.int .i64 a0_1,.int .i64 a0_2,.string a0_3,.string a0_4,.string a0_5]] w fun e w'=>e = .returned (.agg #[.string r1,.string r2,.string r3,.bool r4,.string r5,.string r6,.string r7,.string r8,.bool r9])∧Below w.heap.size w w':=by
 have hu74:=Try.underlying74
 have hu109:=Try.underlying109
 have HB:=Aside0.mk (Below.refl w.heap.size w)
 have H:(some (a0_3,a0_4,a0_5,false,(⟨#[]⟩:ByteArray),(⟨#[]⟩:ByteArray),(⟨#[]⟩:ByteArray),(⟨#[]⟩:ByteArray),false))=some (r1,r2,r3,r4,r5,r6,r7,r8,r9):=h
 clear h
 simp only [Option.some.injEq,Prod.mk.injEq] at H
 obtain⟨rfl,rfl,rfl,rfl,rfl,rfl,rfl,rfl,rfl⟩:=H
 go_enter Try.func106,Try.ntmps106
 go_wp2_with (first|((with_reducible refine gate_dst (N:=1) rfl ?_);refine box_event ?hg (N:=1) ?hd (cs:=#[.int .i64 a0_0,.int .i64 a0_1,.int .i64 a0_2,.string a0_3,.string a0_4,.string a0_5]) (t:=74) ?hr ?_;(case hd=>rfl);(case hg=>rfl);(case hr=>first|(go_simp;done)|(go_simp;rfl));intro gb578 hg w2 hbox hb;have n0_:=Aside0.mk (below_step (by repeat (first|(with_reducible first|exact HB.out|apply below_alloc|apply pw_below_drewN|apply below_drew1)|exact HB.out)) hb);have n1_:=Aside0.mk (hbox);have n2_:=Aside0.mk ((by rw [hg];exact (below_size (by repeat (first|(with_reducible first|exact HB.out|apply below_alloc|apply pw_below_drewN|apply below_drew1)|exact HB.out))):w.heap.size≤gb578));have n3_:=Aside0.mk ((by rw [hg];exact (below_size (by repeat (first|(with_reducible first|exact HB.out|apply below_alloc|apply pw_below_drewN|apply below_drew1)|exact HB.out))):w.heap.size≤gb578));clear HB;have HB:=n0_;have BK578:=n1_;have GW578:=n2_;have GE578:=n3_;clear n0_ n1_ n2_ n3_;clear hb hbox hg)|((with_reducible refine gate_dst (N:=2) rfl ?_);refine box_event ?hg (N:=2) ?hd (cs:=#[.string (⟨#[]⟩:ByteArray),.string (⟨#[]⟩:ByteArray),.string (⟨#[]⟩:ByteArray),.bool false,.string (⟨#[]⟩:ByteArray),.string (⟨#[]⟩:ByteArray),.string (⟨#[]⟩:ByteArray),.string (⟨#[]⟩:ByteArray),.bool false]) (t:=109) ?hr ?_;(case hd=>rfl);(case hg=>rfl);(case hr=>first|(go_simp;done)|(go_simp;rfl));intro gb579 hg w3 hbox hb;have n0_:=Aside0.mk (blk_below (g:=gb578) (o := .cells #[.int .i64 a0_0,.int .i64 a0_1,.int .i64 a0_2,.string a0_3,.string a0_4,.string a0_5] 74 (0,0)) (by (with_reducible repeat (first|refine blk_drewN ?_ _|refine blk_drew ?_|refine blk_alloc ?_ _));exact BK578.out) hb);have n1_:=Aside0.mk (below_step (by repeat (first|(with_reducible first|exact HB.out|apply below_alloc|apply pw_below_drewN|apply below_drew1|refine below_set ?_ GE578.out)|exact HB.out)) hb);have n2_:=Aside0.mk (hbox);have n3_:=Aside0.mk ((by rw [hg];exact (below_size (by repeat (first|(with_reducible first|exact HB.out|apply below_alloc|apply pw_below_drewN|apply below_drew1|refine below_set ?_ GE578.out)|exact HB.out))):w.heap.size≤gb579));have n4_:=Aside0.mk ((by rw [hg];exact (below_size (by repeat (first|(with_reducible first|exact HB.out|apply below_alloc|apply pw_below_drewN|apply below_drew1|refine below_set ?_ GE578.out)|exact HB.out))):w.heap.size≤gb579));have n5_:=Aside0.mk ((by rw [hg];exact Nat.ne_of_lt (blk_lt (g:=gb578) (o := .cells #[.int .i64 a0_0,.int .i64 a0_1,.int .i64 a0_2,.string a0_3,.string a0_4,.string a0_5] 74 (0,0)) (by (with_reducible repeat (first|refine blk_drewN ?_ _|refine blk_drew ?_|refine blk_alloc ?_ _));exact BK578.out)):gb578≠gb579));have n6_:=Aside0.mk ((by rw [hg];exact Nat.ne_of_gt (blk_lt (g:=gb578) (o := .cells #[.int .i64 a0_0,.int .i64 a0_1,.int .i64 a0_2,.string a0_3,.string a0_4,.string a0_5] 74 (0,0)) (by (with_reducible repeat (first|refine blk_drewN ?_ _|refine blk_drew ?_|refine blk_alloc ?_ _));exact BK578.out)):gb579≠gb578));clear BK578;clear HB;have BK578:=n0_;have HB:=n1_;have BK579:=n2_;have GW579:=n3_;have GE579:=n4_;have NB578_579:=n5_;have NB579_578:=n6_;clear n0_ n1_ n2_ n3_ n4_ n5_ n6_;clear hb hbox hg;have hnb4:=NB578_579.out;have hnc4:=NB579_578.out;have hcz5_0:w3.cell? ⟨gb578,0,none⟩=some (.int .i64 a0_0):=(blk_cell BK578.out 0).trans rfl;have hcz5_1:w3.cell? ⟨gb578,1,none⟩=some (.int .i64 a0_1):=(blk_cell BK578.out 1).trans rfl;have hcz5_2:w3.cell? ⟨gb578,2,none⟩=some (.int .i64 a0_2):=(blk_cell BK578.out 2).trans rfl;have hcz5_3:w3.cell? ⟨gb578,3,none⟩=some (.string a0_3):=(blk_cell BK578.out 3).trans rfl;have hcz5_4:w3.cell? ⟨gb578,4,none⟩=some (.string a0_4):=(blk_cell BK578.out 4).trans rfl;have hcz5_5:w3.cell? ⟨gb578,5,none⟩=some (.string a0_5):=(blk_cell BK578.out 5).trans rfl;have hfz5_0:=blk_frozen BK578.out 0;have hfz5_1:=blk_frozen BK578.out 1;have hfz5_2:=blk_frozen BK578.out 2;have hfz5_3:=blk_frozen BK578.out 3;have hfz5_4:=blk_frozen BK578.out 4;have hfz5_5:=blk_frozen BK578.out 5;have hcz6_0:w3.cell? ⟨gb579,0,none⟩=some (.string (⟨#[]⟩:ByteArray)):=(blk_cell BK579.out 0).trans rfl;have hcz6_1:w3.cell? ⟨gb579,1,none⟩=some (.string (⟨#[]⟩:ByteArray)):=(blk_cell BK579.out 1).trans rfl;have hcz6_2:w3.cell? ⟨gb579,2,none⟩=some (.string (⟨#[]⟩:ByteArray)):=(blk_cell BK579.out 2).trans rfl;have hcz6_3:w3.cell? ⟨gb579,3,none⟩=some (.bool false):=(blk_cell BK579.out 3).trans rfl;have hcz6_4:w3.cell? ⟨gb579,4,none⟩=some (.string (⟨#[]⟩:ByteArray)):=(blk_cell BK579.out 4).trans rfl;have hcz6_5:w3.cell? ⟨gb579,5,none⟩=some (.string (⟨#[]⟩:ByteArray)):=(blk_cell BK579.out 5).trans rfl;have hcz6_6:w3.cell? ⟨gb579,6,none⟩=some (.string (⟨#[]⟩:ByteArray)):=(blk_cell BK579.out 6).trans rfl;have hcz6_7:w3.cell? ⟨gb579,7,none⟩=some (.string (⟨#[]⟩:ByteArray)):=(blk_cell BK579.out 7).trans rfl;have hcz6_8:w3.cell? ⟨gb579,8,none⟩=some (.bool false):=(blk_cell BK579.out 8).trans rfl;have hfz6_0:=blk_frozen BK579.out 0;have hfz6_1:=blk_frozen BK579.out 1;have hfz6_2:=blk_frozen BK579.out 2;have hfz6_3:=blk_frozen BK579.out 3;have hfz6_4:=blk_frozen BK579.out 4;have hfz6_5:=blk_frozen BK579.out 5;have hfz6_6:=blk_frozen BK579.out 6;have hfz6_7:=blk_frozen BK579.out 7;have hfz6_8:=blk_frozen BK579.out 8))
 refine bodyPost_ret (results_cell_row rfl _ _ gb579 109 #[.string a0_3,.string a0_4,.string a0_5,.bool false,.string (⟨#[]⟩:ByteArray),.string (⟨#[]⟩:ByteArray),.string (⟨#[]⟩:ByteArray),.string (⟨#[]⟩:ByteArray),.bool false] (0,0) _ rfl (by (with_reducible repeat (first|refine blk_drewN ?_ _|refine blk_drew ?_|refine blk_alloc ?_ _));refine blk_put (cs:=#[.string a0_3,.string a0_4,.string a0_5,.bool false,.string (⟨#[]⟩:ByteArray),.string (⟨#[]⟩:ByteArray),.string (⟨#[]⟩:ByteArray),.string (⟨#[]⟩:ByteArray),.bool false]) ?_ 8 _ rfl;(with_reducible repeat (first|refine blk_drewN ?_ _|refine blk_drew ?_|refine blk_alloc ?_ _));refine blk_put (cs:=#[.string a0_3,.string a0_4,.string a0_5,.bool false,.string (⟨#[]⟩:ByteArray),.string (⟨#[]⟩:ByteArray),.string (⟨#[]⟩:ByteArray),.string (⟨#[]⟩:ByteArray),.bool false]) ?_ 7 _ rfl;(with_reducible repeat (first|refine blk_drewN ?_ _|refine blk_drew ?_|refine blk_alloc ?_ _));refine blk_put (cs:=#[.string a0_3,.string a0_4,.string a0_5,.bool false,.string (⟨#[]⟩:ByteArray),.string (⟨#[]⟩:ByteArray),.string (⟨#[]⟩:ByteArray),.string (⟨#[]⟩:ByteArray),.bool false]) ?_ 6 _ rfl;(with_reducible repeat (first|refine blk_drewN ?_ _|refine blk_drew ?_|refine blk_alloc ?_ _));refine blk_put (cs:=#[.string a0_3,.string a0_4,.string a0_5,.bool false,.string (⟨#[]⟩:ByteArray),.string (⟨#[]⟩:ByteArray),.string (⟨#[]⟩:ByteArray),.string (⟨#[]⟩:ByteArray),.bool false]) ?_ 5 _ rfl;(with_reducible repeat (first|refine blk_drewN ?_ _|refine blk_drew ?_|refine blk_alloc ?_ _));refine blk_put (cs:=#[.string a0_3,.string a0_4,.string a0_5,.bool false,.string (⟨#[]⟩:ByteArray),.string (⟨#[]⟩:ByteArray),.string (⟨#[]⟩:ByteArray),.string (⟨#[]⟩:ByteArray),.bool false]) ?_ 4 _ rfl;(with_reducible repeat (first|refine blk_drewN ?_ _|refine blk_drew ?_|refine blk_alloc ?_ _));refine blk_put (cs:=#[.string a0_3,.string a0_4,.string a0_5,.bool false,.string (⟨#[]⟩:ByteArray),.string (⟨#[]⟩:ByteArray),.string (⟨#[]⟩:ByteArray),.string (⟨#[]⟩:ByteArray),.bool false]) ?_ 3 _ rfl;(with_reducible repeat (first|refine blk_drewN ?_ _|refine blk_drew ?_|refine blk_alloc ?_ _));refine blk_put (cs:=#[.string a0_3,.string a0_4,.string (⟨#[]⟩:ByteArray),.bool false,.string (⟨#[]⟩:ByteArray),.string (⟨#[]⟩:ByteArray),.string (⟨#[]⟩:ByteArray),.string (⟨#[]⟩:ByteArray),.bool false]) ?_ 2 _ rfl;(with_reducible repeat (first|refine blk_drewN ?_ _|refine blk_drew ?_|refine blk_alloc ?_ _));refine blk_put (cs:=#[.string a0_3,.string (⟨#[]⟩:ByteArray),.string (⟨#[]⟩:ByteArray),.bool false,.string (⟨#[]⟩:ByteArray),.string (⟨#[]⟩:ByteArray),.string (⟨#[]⟩:ByteArray),.string (⟨#[]⟩:ByteArray),.bool false]) ?_ 1 _ rfl;(with_reducible repeat (first|refine blk_drewN ?_ _|refine blk_drew ?_|refine blk_alloc ?_ _));refine blk_put (cs:=#[.string (⟨#[]⟩:ByteArray),.string (⟨#[]⟩:ByteArray),.string (⟨#[]⟩:ByteArray),.bool false,.string (⟨#[]⟩:ByteArray),.string (⟨#[]⟩:ByteArray),.string (⟨#[]⟩:ByteArray),.string (⟨#[]⟩:ByteArray),.bool false]) ?_ 0 _ rfl;(with_reducible repeat (first|refine blk_drewN ?_ _|refine blk_drew ?_|refine blk_alloc ?_ _));exact BK579.out) Try.underlying109 rfl (by kernel_rfl)) rfl ?_
 exact⟨by first|rfl|(simp [errW_none,errW_some]<;>rfl)|(simp [*,errW_none,errW_some]<;>rfl),by repeat (first|(with_reducible first|exact HB.out|apply below_alloc|apply pw_below_drewN|apply below_drew1|refine below_set ?_ GE578.out|refine below_set ?_ GE579.out)|exact HB.out)⟩
def tripartitelaw12_bare.l0 : Nat→ByteArray→Int→Option (ByteArray)
 | 0,_,_=>none
 | k+1,x0,x3=>if x3<(x0.size:Int) then (if 0≤x3 then (if (bt x0 x3)=10 then (if x3≤(x0.size:Int) then (some (x0.extract 0 (x3:Int).toNat)) else (none)) else (tripartitelaw12_bare.l0 k x0 (wrap64 (x3+1)))) else (none)) else (some x0)
def tripartitelaw12_bare.f (k : Nat) (a0 : ByteArray) : Option (ByteArray) := tripartitelaw12_bare.l0 k a0 0
theorem tripartitelaw12_bare.mono_l : ∀ k,(∀ y0 y1,LeO (tripartitelaw12_bare.l0 k y0 y1) (tripartitelaw12_bare.l0 (k+1) y0 y1))
 | 0=>fun _ _ r h=>by simp [tripartitelaw12_bare.l0] at h
 | k+1=>by
  have ih0:=tripartitelaw12_bare.mono_l k
  ·intro y0 y1
   unfold tripartitelaw12_bare.l0
   repeat' first
   | (with_reducible exact ih0 _ _)
   | (with_reducible exact LeO.refl _)
   | (with_reducible exact LeO.none _)
   | (with_reducible refine LeO.ite ?_ ?_)
   | (with_reducible refine LeO.bind ?_ (fun _=>?_))
   | exact ih0 _ _
   | exact LeO.none _
   | refine LeO.ite ?_ ?_
   | refine LeO.bind ?_ (fun _=>?_)
theorem tripartitelaw12_bare.mono : ∀ a0 k,LeO (tripartitelaw12_bare.f k a0) (tripartitelaw12_bare.f (k+1) a0) := by
 intro a0 k
 have ih0:=tripartitelaw12_bare.mono_l k
 unfold tripartitelaw12_bare.f
 repeat' first
   | (with_reducible exact ih0 _ _)
   | (with_reducible exact LeO.refl _)
   | (with_reducible exact LeO.none _)
   | (with_reducible refine LeO.ite ?_ ?_)
   | (with_reducible refine LeO.bind ?_ (fun _=>?_))
   | exact ih0 _ _
   | exact LeO.none _
   | refine LeO.ite ?_ ?_
   | refine LeO.bind ?_ (fun _=>?_)
set_option maxHeartbeats 8000000 in
set_option maxRecDepth 100000 in
theorem tripartitelaw12_bare.calls (k : Nat) (a0 : ByteArray) (r : ByteArray) (w : World) (h : tripartitelaw12_bare.f k a0=some r) :
  Calls Try.prog 107 #[.string a0] w fun e w'=>e = .returned (.string r)∧Drawn0 w w':=by
 have H:(tripartitelaw12_bare.l0 k a0 0)=some r:=h
 clear h
 have H':=Aside0.mk H
 clear H
 go_enter Try.func107,Try.ntmps107
 go_wp2
 go_loopg [3] k (fun kq v3 w'=>∃ (x3_1:Int),v3 = .int .i64 x3_1∧Aside0 (tripartitelaw12_bare.l0 kq a0 x3_1=some r)∧Aside0 (kq≤k)∧Drawn0 w w')
 case atStart=>exact⟨(0),(by first|rfl|(simp;done)|(simp [*];done)),H',⟨Nat.le_refl _⟩,by repeat (first|exact Drawn0.refl _|apply Drawn0.step)⟩
 case round =>
  clear H'
  try clear c1
  obtain⟨x3_1,rfl,HA,HK1,⟨m1,rfl⟩⟩:=hrel
  cases gk with
  | zero=>exact absurd HA.out (by simp [tripartitelaw12_bare.l0])
  | succ k1 =>
   have H:=HA.out
   clear HA
   simp only [tripartitelaw12_bare.l0] at H
   by_cases c2:x3_1<(a0.size:Int)
   ·rw [if_pos c2] at H
    have c2b0:decide (x3_1<(a0.size:Int))=true:=decide_eq_true c2
    clear c2
    by_cases c3:0≤x3_1
    ·rw [if_pos c3] at H
     have c3b0:decide (0≤x3_1)=true:=decide_eq_true c3
     clear c3
     by_cases c5:(bt a0 x3_1)=10
     ·rw [if_pos c5] at H
      have c5b0:((bt a0 x3_1)==10)=true:=beq_iff_eq.mpr c5
      have c5b1:((bt a0 x3_1) != 10)=false:=bne_eq_false_iff_eq.mpr c5
      clear c5
      have c6b0:=eq_true (of_decide_eq_true (by first|(with_reducible assumption)|assumption):0≤x3_1)
      by_cases c7:x3_1≤(a0.size:Int)
      ·rw [if_pos c7] at H
       have c7b0:=eq_true c7
       have c7b1:decide (x3_1≤(a0.size:Int))=true:=decide_eq_true c7
       clear c7
       obtain rfl:=Option.some.inj H
       have p4:0≤(x3_1:Int):=of_decide_eq_true (by first|(with_reducible assumption)|assumption)
       have q4:x3_1<(a0.size:Int):=of_decide_eq_true (by first|(with_reducible assumption)|assumption)
       have hx4:=bt_at a0 x3_1
       replace p4:=eq_true p4
       replace q4:=eq_true q4
       go_wp2
       go_ret
       exact⟨by first|rfl|(simp;done)|(simp [*];done),by repeat (first|exact Drawn0.refl _|apply Drawn0.step)⟩
      ·rw [if_neg c7] at H
       exact absurd H (by simp)
     ·rw [if_neg c5] at H
      have c5b0:((bt a0 x3_1)==10)=false:=beq_eq_false_iff_ne.mpr c5
      have c5b1:((bt a0 x3_1) != 10)=true:=bne_iff_ne.mpr c5
      have H':=Aside0.mk H
      clear H
      have p4:0≤(x3_1:Int):=of_decide_eq_true (by first|(with_reducible assumption)|assumption)
      have q4:x3_1<(a0.size:Int):=of_decide_eq_true (by first|(with_reducible assumption)|assumption)
      have hx4:=bt_at a0 x3_1
      replace p4:=eq_true p4
      replace q4:=eq_true q4
      go_wp2
      go_roundg k1
      case measure=>have:=HK1.out;omega
      case rel=>exact⟨(wrap64 (x3_1+1)),(by first|rfl|(simp;done)|(simp [*];done)),H',⟨by have:=HK1.out;omega⟩,by repeat (first|exact Drawn0.refl _|apply Drawn0.step)⟩
    ·rw [if_neg c3] at H
     exact absurd H (by simp)
   ·rw [if_neg c2] at H
    have c2b0:decide (x3_1<(a0.size:Int))=false:=decide_eq_false c2
    clear c2
    obtain rfl:=Option.some.inj H
    go_wp2
    go_ret
    exact⟨by first|rfl|(simp;done)|(simp [*];done),by repeat (first|exact Drawn0.refl _|apply Drawn0.step)⟩
end Go.Proofs.Ytfiamddinkokbaa.F
end
