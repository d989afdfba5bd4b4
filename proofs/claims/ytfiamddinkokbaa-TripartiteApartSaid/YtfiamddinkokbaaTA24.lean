/- Texts joined into one file (wip/tools/pack.py): Fn60, Fn138, Fn109 -/
import Derived.Test.YtfiamddinkokbaaTA3
import Derived.Test.YtfiamddinkokbaaTA23
set_option linter.unusedVariables false
set_option linter.unusedSimpArgs false
section
namespace Go.Proofs.Ytfiamddinkokbaa.F
open Go.RowKit Go.Proofs.YtfiamddinkokbaaW.PrintWords Go.Proofs.YtfiamddinkokbaaW.PrintLast Go.Proofs.YtfiamddinkokbaaW.PrintMore
attribute [local go_sem] max2_int min2_int max_two min_two max_three min_three max_four min_four
def chunk_Span_Cut.f (a0_0 : Int) (a0_1 : Int) (l1 : List ByteArray) : Option (List ByteArray) := if a0_0<0 then (some ([] : List ByteArray)) else (if a0_1>(l1.length : Int) then (some ([] : List ByteArray)) else (if a0_1<a0_0 then (some ([] : List ByteArray)) else (if 0≤a0_0 then (if a0_0≤a0_1 then (if a0_1≤(l1.length : Int) then ((slices_Clone_string_string.f ((l1.take (a0_1 : Int).toNat).drop (a0_0 : Int).toNat)).bind fun t493=>(some t493)) else (none)) else (none)) else (none))))
set_option maxHeartbeats 8000000 in
set_option maxRecDepth 100000 in
theorem chunk_Span_Cut.calls (a0_0 : Int) (a0_1 : Int) (A1 : Option Addr) (c1 : Nat) (l1 : List ByteArray) (r : List ByteArray) (w : World) (hr1 : Kd.C Kd.string w A1 l1.length l1) (hc1 : l1.length≤c1) (h : chunk_Span_Cut.f a0_0 a0_1 l1=some r) :
  Calls Try.prog 60 #[.agg #[.int .i64 a0_0,.int .i64 a0_1],.slice A1 l1.length c1] w fun e w'=>∃ v0_:Value,e = .returned (v0_)∧Kd.R Kd.string 9 w' w.heap.size (fun _=>True) v0_ r∧Below w.heap.size w w':=by
 have hu89:=Try.underlying89
 have HR1:=Aside0.mk hr1
 have HC1:=Aside0.mk hc1
 clear hr1 hc1
 have HB:=Aside0.mk (Below.refl w.heap.size w)
 have H:(if a0_0<0 then (some ([]:List ByteArray)) else (if a0_1>(l1.length:Int) then (some ([]:List ByteArray)) else (if a0_1<a0_0 then (some ([]:List ByteArray)) else (if 0≤a0_0 then (if a0_0≤a0_1 then (if a0_1≤(l1.length:Int) then ((slices_Clone_string_string.f ((l1.take (a0_1:Int).toNat).drop (a0_0:Int).toNat)).bind fun t493=>(some t493)) else (none)) else (none)) else (none)))))=some r:=h
 clear h
 by_cases c3:a0_0<0
 ·rw [if_pos c3] at H
  have c3b0:decide (a0_0<0)=true:=decide_eq_true c3
  clear c3
  obtain rfl:=Option.some.inj H
  go_enter Try.func60,Try.ntmps60
  go_wp2_with (first|((with_reducible refine gate_dst (N:=2) rfl ?_);(try (refine gate_guard (by rfl) ?_;dsimp only));refine box_event ?hg (N:=2) ?hd (cs:=#[.int .i64 a0_0,.int .i64 a0_1]) (t:=89) ?hr ?_;(case hd=>rfl);(case hg=>rfl);(case hr=>first|(go_simp;done)|(go_simp;rfl));intro gb491 hg w4 hbox hb;have n0_:=Aside0.mk (below_step (by repeat (first|(with_reducible first|exact HB.out|apply below_alloc|apply pw_below_drewN|apply below_drew1)|exact HB.out)) hb);have n1_:=Aside0.mk (hbox);have n2_:=Aside0.mk ((by rw [hg];exact (below_size (by repeat (first|(with_reducible first|exact HB.out|apply below_alloc|apply pw_below_drewN|apply below_drew1)|exact HB.out))):w.heap.size≤gb491));have n3_:=Aside0.mk ((by rw [hg];exact (below_size (by repeat (first|(with_reducible first|exact HB.out|apply below_alloc|apply pw_below_drewN|apply below_drew1)|exact HB.out))):w.heap.size≤gb491));clear HB;have HB:=n0_;have BK491:=n1_;have GW491:=n2_;have GE491:=n3_;clear n0_ n1_ n2_ n3_;clear hb hbox hg;have hcz5_0:w4.cell? ⟨gb491,0,none⟩=some (.int .i64 a0_0):=(blk_cell BK491.out 0).trans rfl;have hcz5_1:w4.cell? ⟨gb491,1,none⟩=some (.int .i64 a0_1):=(blk_cell BK491.out 1).trans rfl;have hfz5_0:=blk_frozen BK491.out 0;have hfz5_1:=blk_frozen BK491.out 1))
  go_ret
  exact⟨_,by first|rfl|(simp [errW_none,errW_some]<;>rfl)|(simp [*,errW_none,errW_some]<;>rfl),by first|exact Kd.R_nil _ _ _ _ _|exact Kd.N_nil _ _ _ _ _|exact Kd.V_nil _ _ _ _ _|exact Kd.Q_nil _ _ _ _ _|exact Kd.S_nil _ _ _ _ _,by repeat (first|(with_reducible first|exact HB.out|apply below_alloc|apply pw_below_drewN|apply below_drew1|refine below_set ?_ GE491.out)|exact HB.out)⟩
 ·rw [if_neg c3] at H
  have c3b0:decide (a0_0<0)=false:=decide_eq_false c3
  clear c3
  by_cases c6:a0_1>(l1.length:Int)
  ·rw [if_pos c6] at H
   have c6b0:decide ((l1.length:Int)<a0_1)=true:=decide_eq_true c6
   clear c6
   obtain rfl:=Option.some.inj H
   go_enter Try.func60,Try.ntmps60
   go_wp2_with (first|((with_reducible refine gate_dst (N:=2) rfl ?_);(try (refine gate_guard (by rfl) ?_;dsimp only));refine box_event ?hg (N:=2) ?hd (cs:=#[.int .i64 a0_0,.int .i64 a0_1]) (t:=89) ?hr ?_;(case hd=>rfl);(case hg=>rfl);(case hr=>first|(go_simp;done)|(go_simp;rfl));intro gb491 hg w7 hbox hb;have n0_:=Aside0.mk (below_step (by repeat (first|(with_reducible first|exact HB.out|apply below_alloc|apply pw_below_drewN|apply below_drew1)|exact HB.out)) hb);have n1_:=Aside0.mk (hbox);have n2_:=Aside0.mk ((by rw [hg];exact (below_size (by repeat (first|(with_reducible first|exact HB.out|apply below_alloc|apply pw_below_drewN|apply below_drew1)|exact HB.out))):w.heap.size≤gb491));have n3_:=Aside0.mk ((by rw [hg];exact (below_size (by repeat (first|(with_reducible first|exact HB.out|apply below_alloc|apply pw_below_drewN|apply below_drew1)|exact HB.out))):w.heap.size≤gb491));clear HB;have HB:=n0_;have BK491:=n1_;have GW491:=n2_;have GE491:=n3_;clear n0_ n1_ n2_ n3_;clear hb hbox hg;have hcz8_0:w7.cell? ⟨gb491,0,none⟩=some (.int .i64 a0_0):=(blk_cell BK491.out 0).trans rfl;have hcz8_1:w7.cell? ⟨gb491,1,none⟩=some (.int .i64 a0_1):=(blk_cell BK491.out 1).trans rfl;have hfz8_0:=blk_frozen BK491.out 0;have hfz8_1:=blk_frozen BK491.out 1))
   go_ret
   exact⟨_,by first|rfl|(simp [errW_none,errW_some]<;>rfl)|(simp [*,errW_none,errW_some]<;>rfl),by first|exact Kd.R_nil _ _ _ _ _|exact Kd.N_nil _ _ _ _ _|exact Kd.V_nil _ _ _ _ _|exact Kd.Q_nil _ _ _ _ _|exact Kd.S_nil _ _ _ _ _,by repeat (first|(with_reducible first|exact HB.out|apply below_alloc|apply pw_below_drewN|apply below_drew1|refine below_set ?_ GE491.out)|exact HB.out)⟩
  ·rw [if_neg c6] at H
   have c6b0:decide ((l1.length:Int)<a0_1)=false:=decide_eq_false c6
   clear c6
   by_cases c9:a0_1<a0_0
   ·rw [if_pos c9] at H
    have c9b0:decide (a0_1<a0_0)=true:=decide_eq_true c9
    clear c9
    obtain rfl:=Option.some.inj H
    go_enter Try.func60,Try.ntmps60
    go_wp2_with (first|((with_reducible refine gate_dst (N:=2) rfl ?_);(try (refine gate_guard (by rfl) ?_;dsimp only));refine box_event ?hg (N:=2) ?hd (cs:=#[.int .i64 a0_0,.int .i64 a0_1]) (t:=89) ?hr ?_;(case hd=>rfl);(case hg=>rfl);(case hr=>first|(go_simp;done)|(go_simp;rfl));intro gb491 hg w10 hbox hb;have n0_:=Aside0.mk (below_step (by repeat (first|(with_reducible first|exact HB.out|apply below_alloc|apply pw_below_drewN|apply below_drew1)|exact HB.out)) hb);have n1_:=Aside0.mk (hbox);have n2_:=Aside0.mk ((by rw [hg];exact (below_size (by repeat (first|(with_reducible first|exact HB.out|apply below_alloc|apply pw_below_drewN|apply below_drew1)|exact HB.out))):w.heap.size≤gb491));have n3_:=Aside0.mk ((by rw [hg];exact (below_size (by repeat (first|(with_reducible first|exact HB.out|apply below_alloc|apply pw_below_drewN|apply below_drew1)|exact HB.out))):w.heap.size≤gb491));clear HB;have HB:=n0_;have BK491:=n1_;have GW491:=n2_;have GE491:=n3_;clear n0_ n1_ n2_ n3_;clear hb hbox hg;have hcz11_0:w10.cell? ⟨gb491,0,none⟩=some (.int .i64 a0_0):=(blk_cell BK491.out 0).trans rfl;have hcz11_1:w10.cell? ⟨gb491,1,none⟩=some (.int .i64 a0_1):=(blk_cell BK491.out 1).trans rfl;have hfz11_0:=blk_frozen BK491.out 0;have hfz11_1:=blk_frozen BK491.out 1))
    go_ret
    exact⟨_,by first|rfl|(simp [errW_none,errW_some]<;>rfl)|(simp [*,errW_none,errW_some]<;>rfl),by first|exact Kd.R_nil _ _ _ _ _|exact Kd.N_nil _ _ _ _ _|exact Kd.V_nil _ _ _ _ _|exact Kd.Q_nil _ _ _ _ _|exact Kd.S_nil _ _ _ _ _,by repeat (first|(with_reducible first|exact HB.out|apply below_alloc|apply pw_below_drewN|apply below_drew1|refine below_set ?_ GE491.out)|exact HB.out)⟩
   ·rw [if_neg c9] at H
    have c9b0:decide (a0_1<a0_0)=false:=decide_eq_false c9
    clear c9
    by_cases c12:0≤a0_0
    ·rw [if_pos c12] at H
     have c12b0:=eq_true c12
     have c12b1:decide (0≤a0_0)=true:=decide_eq_true c12
     clear c12
     by_cases c13:a0_0≤a0_1
     ·rw [if_pos c13] at H
      have c13b0:=eq_true c13
      have c13b1:decide (a0_0≤a0_1)=true:=decide_eq_true c13
      clear c13
      by_cases c14:a0_1≤(l1.length:Int)
      ·rw [if_pos c14] at H
       have c14b0:=eq_true c14
       have c14b1:decide (a0_1≤(l1.length:Int))=true:=decide_eq_true c14
       clear c14
       replace H:=Option.bind_eq_some_iff.mp H
       obtain⟨t493,A150,H⟩:=H
       replace H:(some t493)=some r:=H
       have A15:=Aside0.mk A150
       clear A150
       obtain rfl:=Option.some.inj H
       go_enter Try.func60,Try.ntmps60
       go_wp2_with (first|((with_reducible refine gate_dst (N:=2) rfl ?_);(try (refine gate_guard (by rfl) ?_;dsimp only));refine box_event ?hg (N:=2) ?hd (cs:=#[.int .i64 a0_0,.int .i64 a0_1]) (t:=89) ?hr ?_;(case hd=>rfl);(case hg=>rfl);(case hr=>first|(go_simp;done)|(go_simp;rfl));intro gb491 hg w16 hbox hb;have n0_:=Aside0.mk (below_step (by repeat (first|(with_reducible first|exact HB.out|apply below_alloc|apply pw_below_drewN|apply below_drew1)|exact HB.out)) hb);have n1_:=Aside0.mk (hbox);have n2_:=Aside0.mk ((by rw [hg];exact (below_size (by repeat (first|(with_reducible first|exact HB.out|apply below_alloc|apply pw_below_drewN|apply below_drew1)|exact HB.out))):w.heap.size≤gb491));have n3_:=Aside0.mk ((by rw [hg];exact (below_size (by repeat (first|(with_reducible first|exact HB.out|apply below_alloc|apply pw_below_drewN|apply below_drew1)|exact HB.out))):w.heap.size≤gb491));clear HB;have HB:=n0_;have BK491:=n1_;have GW491:=n2_;have GE491:=n3_;clear n0_ n1_ n2_ n3_;clear hb hbox hg;have hcz17_0:w16.cell? ⟨gb491,0,none⟩=some (.int .i64 a0_0):=(blk_cell BK491.out 0).trans rfl;have hcz17_1:w16.cell? ⟨gb491,1,none⟩=some (.int .i64 a0_1):=(blk_cell BK491.out 1).trans rfl;have hfz17_0:=blk_frozen BK491.out 0;have hfz17_1:=blk_frozen BK491.out 1;obtain⟨i018,hi018,_,hsz18,_⟩:=info_parts info9;obtain⟨A18,hcut18,hA18,hC18⟩:=print_mid_of (P:=Try.prog) Value.string (⟨#[]⟩:ByteArray) 36 9 .i64 .i64 Try.underlying36 hi018 hsz18 A1 c1 l1 a0_0 a0_1 (of_decide_eq_true (by first|(with_reducible assumption)|assumption)) (by first|omega|exact of_decide_eq_true (by first|(with_reducible assumption)|assumption)) (of_decide_eq_true (by first|(with_reducible assumption)|assumption)) HC1.out;have HR492:=Aside0.mk (Kd.C_of_reads (h1:=fun _=>rfl) (hA18 _ (Kd.reads_of_C HR1.out)));have HC492:=Aside0.mk hC18;clear hA18 hC18 hi018 hsz18)|((with_reducible refine gate_callee (f:=108) rfl ?_);refine goesL_ (some 28) rfl rfl Try.func108 (by kernel_rfl) rfl #[.slice A18 ((l1.take (a0_1:Int).toNat).drop (a0_0:Int).toNat).length (c1-a0_0.toNat)] rfl (by (try simp only [List.map_toArray,List.map_cons,List.map_nil]);first|done|(rw [show ((l1.take (a0_1:Int).toNat).drop (a0_0:Int).toNat).length=(a0_1.toNat-a0_0.toNat) from (by rw [List.length_drop,List.length_take];have h_:(a0_1:Int)≤(l1.length:Int):=of_decide_eq_true (by first|(with_reducible assumption)|assumption);omega)]<;>rfl)|rfl|(simp only [List.length_drop,List.length_take];rfl)) ?_;(with_reducible refine (slices_Clone_string_string.calls _ _ ((l1.take (a0_1:Int).toNat).drop (a0_0:Int).toNat) t493 _ ?side1 ?side2 A15.out).mono ?_);(case side1=>repeat (first|exact (Kd.C_below HR492.out HB.out)|(with_reducible refine Kd.C_alloc ?_ _)|(with_reducible refine Kd.C_drewN ?_ _)|(with_reducible refine Kd.C_drew ?_)));(case side2=>exact HC492.out);rintro e w19 ⟨v494,rfl,ho0,hb⟩;refine⟨_,rfl,?_⟩;have n0_:=Aside0.mk (Kd.R_lower ho0 (below_size (by repeat (first|(with_reducible first|exact HB.out|apply below_alloc|apply pw_below_drewN|apply below_drew1|refine below_set ?_ GE491.out)|exact HB.out))));have n1_:=Aside0.mk (blk_below (g:=gb491) (o := .cells #[.int .i64 a0_0,.int .i64 a0_1] 89 (0,0)) (by (with_reducible repeat (first|refine blk_drewN ?_ _|refine blk_drew ?_|refine blk_alloc ?_ _));exact BK491.out) hb);have n2_:=Aside0.mk (below_step (by repeat (first|(with_reducible first|exact HB.out|apply below_alloc|apply pw_below_drewN|apply below_drew1|refine below_set ?_ GE491.out)|exact HB.out)) hb);clear BK491;clear HB;have HO495:=n0_;have BK491:=n1_;have HB:=n2_;clear n0_ n1_ n2_;(try clear hb);(try clear hb2);(try clear hk);(try clear hi);(try clear ho0)))
       go_ret
       exact⟨_,by first|rfl|(simp [errW_none,errW_some]<;>rfl)|(simp [*,errW_none,errW_some]<;>rfl),by (with_reducible repeat (first|apply Kd.R_alloc|apply Kd.R_drewN|apply Kd.R_drew));exact HO495.out,by repeat (first|(with_reducible first|exact HB.out|apply below_alloc|apply pw_below_drewN|apply below_drew1|refine below_set ?_ GE491.out)|exact HB.out)⟩
      ·rw [if_neg c14] at H
       exact absurd H (by simp)
     ·rw [if_neg c13] at H
      exact absurd H (by simp)
    ·rw [if_neg c12] at H
     exact absurd H (by simp)
def slices_Equal_string_string.l0 : Nat→List ByteArray→List ByteArray→Int→Int→Option (Bool)
 | 0,_,_,_,_=>none
 | k+1,x0,x1,x12,x13=>if x13<x12 then (if 0≤x13 then (if x13<(x0.length:Int) then (if x13<(x1.length:Int) then (if (rdOf ByteArray.empty x0 x13).toList=(rdOf ByteArray.empty x1 x13).toList then (slices_Equal_string_string.l0 k x0 x1 x12 (wrap64 (x13+1))) else (some false)) else (none)) else (none)) else (none)) else (some true)
def slices_Equal_string_string.f (k : Nat) (l0 : List ByteArray) (l1 : List ByteArray) : Option (Bool) := if (l0.length : Int)=(l1.length : Int) then (slices_Equal_string_string.l0 k l0 l1 (l0.length : Int) 0) else (some false)
theorem slices_Equal_string_string.mono_l : ∀ k,(∀ y0 y1 y2 y3,LeO (slices_Equal_string_string.l0 k y0 y1 y2 y3) (slices_Equal_string_string.l0 (k+1) y0 y1 y2 y3))
 | 0=>fun _ _ _ _ r h=>by simp [slices_Equal_string_string.l0] at h
 | k+1=>by
  have ih0:=slices_Equal_string_string.mono_l k
  ·intro y0 y1 y2 y3
   unfold slices_Equal_string_string.l0
   repeat' first
   | (with_reducible exact ih0 _ _ _ _)
   | (with_reducible exact LeO.refl _)
   | (with_reducible exact LeO.none _)
   | (with_reducible refine LeO.ite ?_ ?_)
   | (with_reducible refine LeO.bind ?_ (fun _=>?_))
   | exact ih0 _ _ _ _
   | exact LeO.none _
   | refine LeO.ite ?_ ?_
   | refine LeO.bind ?_ (fun _=>?_)
theorem slices_Equal_string_string.mono : ∀ a0 a1 k,LeO (slices_Equal_string_string.f k a0 a1) (slices_Equal_string_string.f (k+1) a0 a1) := by
 intro a0 a1 k
 have ih0:=slices_Equal_string_string.mono_l k
 unfold slices_Equal_string_string.f
 repeat' first
   | (with_reducible exact ih0 _ _ _ _)
   | (with_reducible exact LeO.refl _)
   | (with_reducible exact LeO.none _)
   | (with_reducible refine LeO.ite ?_ ?_)
   | (with_reducible refine LeO.bind ?_ (fun _=>?_))
   | exact ih0 _ _ _ _
   | exact LeO.none _
   | refine LeO.ite ?_ ?_
   | refine LeO.bind ?_ (fun _=>?_)
set_option maxHeartbeats 8000000 in
set_option maxRecDepth 100000 in
theorem slices_Equal_string_string.calls (k : Nat) (A0 : Option Addr) (c0 : Nat) (l0 : List ByteArray) (A1 : Option Addr) (c1 : Nat) (l1 : List ByteArray) (r : Bool) (w : World) (hr0 : Kd.C Kd.string w A0 l0.length l0) (hc0 : l0.length≤c0) (hr1 : Kd.C Kd.string w A1 l1.length l1) (hc1 : l1.length≤c1) (h : slices_Equal_string_string.f k l0 l1=some r) :
  Calls Try.prog 138 #[.slice A0 l0.length c0,.slice A1 l1.length c1] w fun e w'=>e = .returned (.bool r)∧Drawn0 w w':=by
 have HR0:=Aside0.mk hr0
 have HC0:=Aside0.mk hc0
 clear hr0 hc0
 have HR1:=Aside0.mk hr1
 have HC1:=Aside0.mk hc1
 clear hr1 hc1
 have H:(if (l0.length:Int)=(l1.length:Int) then (slices_Equal_string_string.l0 k l0 l1 (l0.length:Int) 0) else (some false))=some r:=h
 clear h
 by_cases c3:(l0.length:Int)=(l1.length:Int)
 ·rw [if_pos c3] at H
  have c3b0:((l0.length:Int)==(l1.length:Int))=true:=beq_iff_eq.mpr c3
  have c3b1:((l0.length:Int) != (l1.length:Int))=false:=bne_eq_false_iff_eq.mpr c3
  have c3b2:(l0.length==l1.length)=true:=by first|simpa using c3|(simp at c3 ⊢;omega)
  clear c3
  have H':=Aside0.mk H
  clear H
  go_enter Try.func138,Try.ntmps138
  go_wp2
  repeat (go_quiet (fail);try go_wp2)
  go_loopg [13] k (fun kq v13 w'=>∃ (x13_1:Int),v13 = .int .i64 x13_1∧Aside0 (slices_Equal_string_string.l0 kq l0 l1 (l0.length:Int) x13_1=some r)∧Aside0 (kq≤k)∧Drawn0 w w')
  case atStart=>exact⟨(0),(by first|rfl|(simp;done)|(simp [*];done)),H',⟨Nat.le_refl _⟩,by repeat (first|exact Drawn0.refl _|apply Drawn0.step)⟩
  case round =>
   clear H'
   try clear c1
   try clear p2
   try clear c3
   try clear c3b0
   try clear c3b1
   try clear c3b2
   obtain⟨x13_1,rfl,HA,HK1,⟨m1,rfl⟩⟩:=hrel
   cases gk with
   | zero=>exact absurd HA.out (by simp [slices_Equal_string_string.l0])
   | succ k1 =>
    have H:=HA.out
    clear HA
    simp only [slices_Equal_string_string.l0] at H
    by_cases c4:x13_1<(l0.length:Int)
    ·rw [if_pos c4] at H
     have c4b0:decide (x13_1<(l0.length:Int))=true:=decide_eq_true c4
     clear c4
     by_cases c5:0≤x13_1
     ·rw [if_pos c5] at H
      have c5b0:decide (0≤x13_1)=true:=decide_eq_true c5
      clear c5
      by_cases c6:x13_1<(l0.length:Int)
      ·rw [if_pos c6] at H
       have c6b0:decide (x13_1<(l0.length:Int))=true:=decide_eq_true c6
       clear c6
       by_cases c7:x13_1<(l1.length:Int)
       ·rw [if_pos c7] at H
        have c7b0:decide (x13_1<(l1.length:Int))=true:=decide_eq_true c7
        clear c7
        by_cases c8:(rdOf ByteArray.empty l0 x13_1).toList=(rdOf ByteArray.empty l1 x13_1).toList
        ·rw [if_pos c8] at H
         have c8b0:((rdOf ByteArray.empty l0 x13_1).toList==(rdOf ByteArray.empty l1 x13_1).toList)=true:=beq_iff_eq.mpr c8
         have c8b1:((rdOf ByteArray.empty l0 x13_1).toList != (rdOf ByteArray.empty l1 x13_1).toList)=false:=bne_eq_false_iff_eq.mpr c8
         clear c8
         have H':=Aside0.mk H
         clear H
         have p496:0≤(x13_1:Int):=of_decide_eq_true (by first|(with_reducible assumption)|assumption)
         have q496:x13_1<(l0.length:Int):=of_decide_eq_true (by first|(with_reducible assumption)|assumption)
         obtain⟨ad496,e496,hx496_0⟩:=Kd.at_string HR0.out x13_1 p496 q496
         cases e496
         replace p496:=eq_true p496
         replace q496:=eq_true q496
         have p497:0≤(x13_1:Int):=of_decide_eq_true (by first|(with_reducible assumption)|assumption)
         have q497:x13_1<(l1.length:Int):=of_decide_eq_true (by first|(with_reducible assumption)|assumption)
         obtain⟨ad497,e497,hx497_0⟩:=Kd.at_string HR1.out x13_1 p497 q497
         cases e497
         replace p497:=eq_true p497
         replace q497:=eq_true q497
         go_wp2
         repeat (go_quiet (fail);try go_wp2)
         go_roundg k1
         case measure=>have:=HK1.out;omega
         case rel=>exact⟨(wrap64 (x13_1+1)),(by first|rfl|(simp;done)|(simp [*];done)),H',⟨by have:=HK1.out;omega⟩,by repeat (first|exact Drawn0.refl _|apply Drawn0.step)⟩
        ·rw [if_neg c8] at H
         have c8b0:((rdOf ByteArray.empty l0 x13_1).toList==(rdOf ByteArray.empty l1 x13_1).toList)=false:=beq_eq_false_iff_ne.mpr c8
         have c8b1:((rdOf ByteArray.empty l0 x13_1).toList != (rdOf ByteArray.empty l1 x13_1).toList)=true:=bne_iff_ne.mpr c8
         obtain rfl:=Option.some.inj H
         have p496:0≤(x13_1:Int):=of_decide_eq_true (by first|(with_reducible assumption)|assumption)
         have q496:x13_1<(l0.length:Int):=of_decide_eq_true (by first|(with_reducible assumption)|assumption)
         obtain⟨ad496,e496,hx496_0⟩:=Kd.at_string HR0.out x13_1 p496 q496
         cases e496
         replace p496:=eq_true p496
         replace q496:=eq_true q496
         have p497:0≤(x13_1:Int):=of_decide_eq_true (by first|(with_reducible assumption)|assumption)
         have q497:x13_1<(l1.length:Int):=of_decide_eq_true (by first|(with_reducible assumption)|assumption)
         obtain⟨ad497,e497,hx497_0⟩:=Kd.at_string HR1.out x13_1 p497 q497
         cases e497
         replace p497:=eq_true p497
         replace q497:=eq_true q497
         go_wp2
         repeat (go_quiet (fail);try go_wp2)
         go_ret
         exact⟨by first|rfl|(simp;done)|(simp [*];done),by repeat (first|exact Drawn0.refl _|apply Drawn0.step)⟩
       ·rw [if_neg c7] at H
        exact absurd H (by simp)
      ·rw [if_neg c6] at H
       exact absurd H (by simp)
     ·rw [if_neg c5] at H
      exact absurd H (by simp)
    ·rw [if_neg c4] at H
     have c4b0:decide (x13_1<(l0.length:Int))=false:=decide_eq_false c4
     clear c4
     obtain rfl:=Option.some.inj H
     go_wp2
     repeat (go_quiet (fail);try go_wp2)
     go_ret
     exact⟨by first|rfl|(simp;done)|(simp [*];done),by repeat (first|exact Drawn0.refl _|apply Drawn0.step)⟩
 ·rw [if_neg c3] at H
  have c3b0:((l0.length:Int)==(l1.length:Int))=false:=beq_eq_false_iff_ne.mpr c3
  have c3b1:((l0.length:Int) != (l1.length:Int))=true:=bne_iff_ne.mpr c3
  have c3b2:(l0.length==l1.length)=false:=by first|simpa using c3|(simp at c3 ⊢;omega)
  obtain rfl:=Option.some.inj H
  go_enter Try.func138,Try.ntmps138
  go_wp2
  repeat (go_quiet (fail);try go_wp2)
  go_ret
  exact⟨by first|rfl|(simp;done)|(simp [*];done),by repeat (first|exact Drawn0.refl _|apply Drawn0.step)⟩
def trim_Same_string.f (k : Nat) (l0 : List ByteArray) (l1 : List ByteArray) : Option (Bool) := (slices_Equal_string_string.f k l0 l1).bind fun t498=>(some t498)
theorem trim_Same_string.mono : ∀ a0 a1 k,LeO (trim_Same_string.f k a0 a1) (trim_Same_string.f (k+1) a0 a1) := by
 intro a0 a1 k
 unfold trim_Same_string.f
 repeat' first
   | (with_reducible exact slices_Equal_string_string.mono _ _ _)
   | (with_reducible exact LeO.refl _)
   | (with_reducible exact LeO.none _)
   | (with_reducible refine LeO.ite ?_ ?_)
   | (with_reducible refine LeO.bind ?_ (fun _=>?_))
   | exact slices_Equal_string_string.mono _ _ _
   | exact LeO.none _
   | refine LeO.ite ?_ ?_
   | refine LeO.bind ?_ (fun _=>?_)
set_option maxHeartbeats 8000000 in
set_option maxRecDepth 100000 in
theorem trim_Same_string.calls (k : Nat) (A0 : Option Addr) (c0 : Nat) (l0 : List ByteArray) (A1 : Option Addr) (c1 : Nat) (l1 : List ByteArray) (r : Bool) (w : World) (hr0 : Kd.C Kd.string w A0 l0.length l0) (hc0 : l0.length≤c0) (hr1 : Kd.C Kd.string w A1 l1.length l1) (hc1 : l1.length≤c1) (h : trim_Same_string.f k l0 l1=some r) :
  Calls Try.prog 109 #[.slice A0 l0.length c0,.slice A1 l1.length c1] w fun e w'=>e = .returned (.bool r)∧Drawn0 w w':=by
 have HR0:=Aside0.mk hr0
 have HC0:=Aside0.mk hc0
 clear hr0 hc0
 have HR1:=Aside0.mk hr1
 have HC1:=Aside0.mk hc1
 clear hr1 hc1
 have H:((slices_Equal_string_string.f k l0 l1).bind fun t498=>(some t498))=some r:=h
 clear h
 replace H:=Option.bind_eq_some_iff.mp H
 obtain⟨t498,A30,H⟩:=H
 replace H:(some t498)=some r:=H
 have A3:=Aside0.mk A30
 clear A30
 obtain rfl:=Option.some.inj H
 go_enter Try.func109,Try.ntmps109
 go_wp2_with (first|((with_reducible refine gate_callee (f:=138) rfl ?_);refine goesL_ (some 7) rfl rfl Try.func138 (by kernel_rfl) rfl #[.slice A0 l0.length c0,.slice A1 l1.length c1] rfl (by (try simp only [List.map_toArray,List.map_cons,List.map_nil]);first|done|rfl|(simp only [List.length_drop,List.length_take];rfl)) ?_;(with_reducible refine (slices_Equal_string_string.calls k _ _ l0 _ _ l1 t498 _ ?side1 ?side2 ?side3 ?side4 A3.out).mono ?_);(case side1=>repeat (first|exact HR0.out|(with_reducible refine Kd.C_alloc ?_ _)|(with_reducible refine Kd.C_drewN ?_ _)|(with_reducible refine Kd.C_drew ?_)));(case side2=>exact HC0.out);(case side3=>repeat (first|exact HR1.out|(with_reducible refine Kd.C_alloc ?_ _)|(with_reducible refine Kd.C_drewN ?_ _)|(with_reducible refine Kd.C_drew ?_)));(case side4=>exact HC1.out);rintro e w' ⟨rfl,⟨nd,rfl⟩⟩;refine⟨_,rfl,?_⟩))
 go_ret
 exact⟨by first|rfl|(simp;done)|(simp [*];done),by repeat (first|exact Drawn0.refl _|apply Drawn0.step)⟩
end Go.Proofs.Ytfiamddinkokbaa.F
end
