/- Texts joined into one file (wip/tools/pack.py): Fn65, Fn113, Fn84, Fn114, Fn142, Fn115, Fn81, Fn33 -/
import Derived.Test.YtfiamddinkokbaaTA3
set_option linter.unusedVariables false
set_option linter.unusedSimpArgs false
section
namespace Go.Proofs.Ytfiamddinkokbaa.F
open Go.RowKit Go.Proofs.YtfiamddinkokbaaW.PrintWords Go.Proofs.YtfiamddinkokbaaW.PrintLast Go.Proofs.YtfiamddinkokbaaW.PrintMore
attribute [local go_sem] max2_int min2_int max_two min_two max_three min_three max_four min_four

def doc_Part_isConflict.f (a0_0 : ByteArray) (a0_1 : ByteArray) (a0_2 : ByteArray) (a0_3 : Bool) (a0_4 : ByteArray) (a0_5 : ByteArray) (a0_6 : ByteArray) (a0_7 : ByteArray) (a0_8 : Bool) : Option (Bool) := if a0_3=true then (if a0_4.toList=([] : List UInt8) then (if a0_8=true then (some true) else (if a0_6.size+a0_1.size≤9223372036854775807 then (some ((a0_6++a0_1).toList==([] : List UInt8))) else (none))) else (some false)) else (some false)
set_option maxHeartbeats 8000000 in
set_option maxRecDepth 100000 in
theorem doc_Part_isConflict.calls (a0_0 : ByteArray) (a0_1 : ByteArray) (a0_2 : ByteArray) (a0_3 : Bool) (a0_4 : ByteArray) (a0_5 : ByteArray) (a0_6 : ByteArray) (a0_7 : ByteArray) (a0_8 : Bool) (r : Bool) (w : World) (h : doc_Part_isConflict.f a0_0 a0_1 a0_2 a0_3 a0_4 a0_5 a0_6 a0_7 a0_8=some r) :
  Calls Try.prog 113 #[.agg #[.string a0_0,.string a0_1,.string a0_2,.bool a0_3,.string a0_4,.string a0_5,.string a0_6,.string a0_7,.bool a0_8]] w fun e w'=>e = .returned (.bool r)∧Below w.heap.size w w':=by
 have hu106:=Try.underlying106
 have HB:=Aside0.mk (Below.refl w.heap.size w)
 have H:(if a0_3=true then (if a0_4.toList=([]:List UInt8) then (if a0_8=true then (some true) else (if a0_6.size+a0_1.size≤9223372036854775807 then (some ((a0_6++a0_1).toList==([]:List UInt8))) else (none))) else (some false)) else (some false))=some r:=h
 clear h
 by_cases c2:a0_3=true
 ·subst c2
  have H1:(if a0_4.toList=([]:List UInt8) then (if a0_8=true then (some true) else (if a0_6.size+a0_1.size≤9223372036854775807 then (some ((a0_6++a0_1).toList==([]:List UInt8))) else (none))) else (some false))=some r:=by rw [if_pos rfl] at H;exact H
  clear H
  have H:=H1
  clear H1
  by_cases c3:a0_4.toList=([]:List UInt8)
  ·rw [if_pos c3] at H
   have c3b0:(a0_4.toList==([]:List UInt8))=true:=beq_iff_eq.mpr c3
   have c3b1:(a0_4.toList != ([]:List UInt8))=false:=bne_eq_false_iff_eq.mpr c3
   clear c3
   by_cases c4:a0_8=true
   ·subst c4
    have H1:(some true)=some r:=by rw [if_pos rfl] at H;exact H
    clear H
    have H:=H1
    clear H1
    obtain rfl:=Option.some.inj H
    go_enter Try.func113,Try.ntmps113
    go_wp2_with (first|((with_reducible refine gate_dst (N:=1) rfl ?_);refine box_event ?hg (N:=1) ?hd (cs:=#[.string a0_0,.string a0_1,.string a0_2,.bool true,.string a0_4,.string a0_5,.string a0_6,.string a0_7,.bool true]) (t:=106) ?hr ?_;(case hd=>rfl);(case hg=>rfl);(case hr=>first|(go_simp;done)|(go_simp;rfl));intro gb132 hg w5 hbox hb;have n0_:=Aside0.mk (below_step (by repeat (first|(with_reducible first|exact HB.out|apply below_alloc|apply pw_below_drewN|apply below_drew1)|exact HB.out)) hb);have n1_:=Aside0.mk (hbox);have n2_:=Aside0.mk ((by rw [hg];exact (below_size (by repeat (first|(with_reducible first|exact HB.out|apply below_alloc|apply pw_below_drewN|apply below_drew1)|exact HB.out))):w.heap.size≤gb132));have n3_:=Aside0.mk ((by rw [hg];exact (below_size (by repeat (first|(with_reducible first|exact HB.out|apply below_alloc|apply pw_below_drewN|apply below_drew1)|exact HB.out))):w.heap.size≤gb132));clear HB;have HB:=n0_;have BK132:=n1_;have GW132:=n2_;have GE132:=n3_;clear n0_ n1_ n2_ n3_;clear hb hbox hg;have hcz6_0:w5.cell? ⟨gb132,0,none⟩=some (.string a0_0):=(blk_cell BK132.out 0).trans rfl;have hcz6_1:w5.cell? ⟨gb132,1,none⟩=some (.string a0_1):=(blk_cell BK132.out 1).trans rfl;have hcz6_2:w5.cell? ⟨gb132,2,none⟩=some (.string a0_2):=(blk_cell BK132.out 2).trans rfl;have hcz6_3:w5.cell? ⟨gb132,3,none⟩=some (.bool true):=(blk_cell BK132.out 3).trans rfl;have hcz6_4:w5.cell? ⟨gb132,4,none⟩=some (.string a0_4):=(blk_cell BK132.out 4).trans rfl;have hcz6_5:w5.cell? ⟨gb132,5,none⟩=some (.string a0_5):=(blk_cell BK132.out 5).trans rfl;have hcz6_6:w5.cell? ⟨gb132,6,none⟩=some (.string a0_6):=(blk_cell BK132.out 6).trans rfl;have hcz6_7:w5.cell? ⟨gb132,7,none⟩=some (.string a0_7):=(blk_cell BK132.out 7).trans rfl;have hcz6_8:w5.cell? ⟨gb132,8,none⟩=some (.bool true):=(blk_cell BK132.out 8).trans rfl;have hfz6_0:=blk_frozen BK132.out 0;have hfz6_1:=blk_frozen BK132.out 1;have hfz6_2:=blk_frozen BK132.out 2;have hfz6_3:=blk_frozen BK132.out 3;have hfz6_4:=blk_frozen BK132.out 4;have hfz6_5:=blk_frozen BK132.out 5;have hfz6_6:=blk_frozen BK132.out 6;have hfz6_7:=blk_frozen BK132.out 7;have hfz6_8:=blk_frozen BK132.out 8))
    go_ret
    exact⟨by first|rfl|(simp [errW_none,errW_some]<;>rfl)|(simp [*,errW_none,errW_some]<;>rfl),by repeat (first|(with_reducible first|exact HB.out|apply below_alloc|apply pw_below_drewN|apply below_drew1|refine below_set ?_ GE132.out)|exact HB.out)⟩
   ·replace c4:=Bool.eq_false_iff.mpr c4
    subst c4
    have H1:(if a0_6.size+a0_1.size≤9223372036854775807 then (some ((a0_6++a0_1).toList==([]:List UInt8))) else (none))=some r:=by rw [if_neg (show ¬ (false=true) by decide)] at H;exact H
    clear H
    have H:=H1
    clear H1
    by_cases c7:a0_6.size+a0_1.size≤9223372036854775807
    ·rw [if_pos c7] at H
     have c7b0:=eq_true c7
     have c7b1:decide (a0_6.size+a0_1.size≤9223372036854775807)=true:=decide_eq_true c7
     try have c7b2:(9223372036854775807<a0_6.size+a0_1.size)=False:=eq_false (Nat.not_lt.2 c7)
     obtain rfl:=Option.some.inj H
     go_enter Try.func113,Try.ntmps113
     go_wp2_with (first|((with_reducible refine gate_dst (N:=1) rfl ?_);refine box_event ?hg (N:=1) ?hd (cs:=#[.string a0_0,.string a0_1,.string a0_2,.bool true,.string a0_4,.string a0_5,.string a0_6,.string a0_7,.bool false]) (t:=106) ?hr ?_;(case hd=>rfl);(case hg=>rfl);(case hr=>first|(go_simp;done)|(go_simp;rfl));intro gb132 hg w8 hbox hb;have n0_:=Aside0.mk (below_step (by repeat (first|(with_reducible first|exact HB.out|apply below_alloc|apply pw_below_drewN|apply below_drew1)|exact HB.out)) hb);have n1_:=Aside0.mk (hbox);have n2_:=Aside0.mk ((by rw [hg];exact (below_size (by repeat (first|(with_reducible first|exact HB.out|apply below_alloc|apply pw_below_drewN|apply below_drew1)|exact HB.out))):w.heap.size≤gb132));have n3_:=Aside0.mk ((by rw [hg];exact (below_size (by repeat (first|(with_reducible first|exact HB.out|apply below_alloc|apply pw_below_drewN|apply below_drew1)|exact HB.out))):w.heap.size≤gb132));clear HB;have HB:=n0_;have BK132:=n1_;have GW132:=n2_;have GE132:=n3_;clear n0_ n1_ n2_ n3_;clear hb hbox hg;have hcz9_0:w8.cell? ⟨gb132,0,none⟩=some (.string a0_0):=(blk_cell BK132.out 0).trans rfl;have hcz9_1:w8.cell? ⟨gb132,1,none⟩=some (.string a0_1):=(blk_cell BK132.out 1).trans rfl;have hcz9_2:w8.cell? ⟨gb132,2,none⟩=some (.string a0_2):=(blk_cell BK132.out 2).trans rfl;have hcz9_3:w8.cell? ⟨gb132,3,none⟩=some (.bool true):=(blk_cell BK132.out 3).trans rfl;have hcz9_4:w8.cell? ⟨gb132,4,none⟩=some (.string a0_4):=(blk_cell BK132.out 4).trans rfl;have hcz9_5:w8.cell? ⟨gb132,5,none⟩=some (.string a0_5):=(blk_cell BK132.out 5).trans rfl;have hcz9_6:w8.cell? ⟨gb132,6,none⟩=some (.string a0_6):=(blk_cell BK132.out 6).trans rfl;have hcz9_7:w8.cell? ⟨gb132,7,none⟩=some (.string a0_7):=(blk_cell BK132.out 7).trans rfl;have hcz9_8:w8.cell? ⟨gb132,8,none⟩=some (.bool false):=(blk_cell BK132.out 8).trans rfl;have hfz9_0:=blk_frozen BK132.out 0;have hfz9_1:=blk_frozen BK132.out 1;have hfz9_2:=blk_frozen BK132.out 2;have hfz9_3:=blk_frozen BK132.out 3;have hfz9_4:=blk_frozen BK132.out 4;have hfz9_5:=blk_frozen BK132.out 5;have hfz9_6:=blk_frozen BK132.out 6;have hfz9_7:=blk_frozen BK132.out 7;have hfz9_8:=blk_frozen BK132.out 8))
     go_ret
     exact⟨by first|rfl|(simp [errW_none,errW_some]<;>rfl)|(simp [*,errW_none,errW_some]<;>rfl),by repeat (first|(with_reducible first|exact HB.out|apply below_alloc|apply pw_below_drewN|apply below_drew1|refine below_set ?_ GE132.out)|exact HB.out)⟩
    ·rw [if_neg c7] at H
     exact absurd H (by simp)
  ·rw [if_neg c3] at H
   have c3b0:(a0_4.toList==([]:List UInt8))=false:=beq_eq_false_iff_ne.mpr c3
   have c3b1:(a0_4.toList != ([]:List UInt8))=true:=bne_iff_ne.mpr c3
   obtain rfl:=Option.some.inj H
   go_enter Try.func113,Try.ntmps113
   go_wp2_with (first|((with_reducible refine gate_dst (N:=1) rfl ?_);refine box_event ?hg (N:=1) ?hd (cs:=#[.string a0_0,.string a0_1,.string a0_2,.bool true,.string a0_4,.string a0_5,.string a0_6,.string a0_7,.bool a0_8]) (t:=106) ?hr ?_;(case hd=>rfl);(case hg=>rfl);(case hr=>first|(go_simp;done)|(go_simp;rfl));intro gb132 hg w10 hbox hb;have n0_:=Aside0.mk (below_step (by repeat (first|(with_reducible first|exact HB.out|apply below_alloc|apply pw_below_drewN|apply below_drew1)|exact HB.out)) hb);have n1_:=Aside0.mk (hbox);have n2_:=Aside0.mk ((by rw [hg];exact (below_size (by repeat (first|(with_reducible first|exact HB.out|apply below_alloc|apply pw_below_drewN|apply below_drew1)|exact HB.out))):w.heap.size≤gb132));have n3_:=Aside0.mk ((by rw [hg];exact (below_size (by repeat (first|(with_reducible first|exact HB.out|apply below_alloc|apply pw_below_drewN|apply below_drew1)|exact HB.out))):w.heap.size≤gb132));clear HB;have HB:=n0_;have BK132:=n1_;have GW132:=n2_;have GE132:=n3_;clear n0_ n1_ n2_ n3_;clear hb hbox hg;have hcz11_0:w10.cell? ⟨gb132,0,none⟩=some (.string a0_0):=(blk_cell BK132.out 0).trans rfl;have hcz11_1:w10.cell? ⟨gb132,1,none⟩=some (.string a0_1):=(blk_cell BK132.out 1).trans rfl;have hcz11_2:w10.cell? ⟨gb132,2,none⟩=some (.string a0_2):=(blk_cell BK132.out 2).trans rfl;have hcz11_3:w10.cell? ⟨gb132,3,none⟩=some (.bool true):=(blk_cell BK132.out 3).trans rfl;have hcz11_4:w10.cell? ⟨gb132,4,none⟩=some (.string a0_4):=(blk_cell BK132.out 4).trans rfl;have hcz11_5:w10.cell? ⟨gb132,5,none⟩=some (.string a0_5):=(blk_cell BK132.out 5).trans rfl;have hcz11_6:w10.cell? ⟨gb132,6,none⟩=some (.string a0_6):=(blk_cell BK132.out 6).trans rfl;have hcz11_7:w10.cell? ⟨gb132,7,none⟩=some (.string a0_7):=(blk_cell BK132.out 7).trans rfl;have hcz11_8:w10.cell? ⟨gb132,8,none⟩=some (.bool a0_8):=(blk_cell BK132.out 8).trans rfl;have hfz11_0:=blk_frozen BK132.out 0;have hfz11_1:=blk_frozen BK132.out 1;have hfz11_2:=blk_frozen BK132.out 2;have hfz11_3:=blk_frozen BK132.out 3;have hfz11_4:=blk_frozen BK132.out 4;have hfz11_5:=blk_frozen BK132.out 5;have hfz11_6:=blk_frozen BK132.out 6;have hfz11_7:=blk_frozen BK132.out 7;have hfz11_8:=blk_frozen BK132.out 8))
   go_ret
   exact⟨by first|rfl|(simp [errW_none,errW_some]<;>rfl)|(simp [*,errW_none,errW_some]<;>rfl),by repeat (first|(with_reducible first|exact HB.out|apply below_alloc|apply pw_below_drewN|apply below_drew1|refine below_set ?_ GE132.out)|exact HB.out)⟩
 ·replace c2:=Bool.eq_false_iff.mpr c2
  subst c2
  have H1:(some false)=some r:=by rw [if_neg (show ¬ (false=true) by decide)] at H;exact H
  clear H
  have H:=H1
  clear H1
  obtain rfl:=Option.some.inj H
  go_enter Try.func113,Try.ntmps113
  go_wp2_with (first|((with_reducible refine gate_dst (N:=1) rfl ?_);refine box_event ?hg (N:=1) ?hd (cs:=#[.string a0_0,.string a0_1,.string a0_2,.bool false,.string a0_4,.string a0_5,.string a0_6,.string a0_7,.bool a0_8]) (t:=106) ?hr ?_;(case hd=>rfl);(case hg=>rfl);(case hr=>first|(go_simp;done)|(go_simp;rfl));intro gb132 hg w12 hbox hb;have n0_:=Aside0.mk (below_step (by repeat (first|(with_reducible first|exact HB.out|apply below_alloc|apply pw_below_drewN|apply below_drew1)|exact HB.out)) hb);have n1_:=Aside0.mk (hbox);have n2_:=Aside0.mk ((by rw [hg];exact (below_size (by repeat (first|(with_reducible first|exact HB.out|apply below_alloc|apply pw_below_drewN|apply below_drew1)|exact HB.out))):w.heap.size≤gb132));have n3_:=Aside0.mk ((by rw [hg];exact (below_size (by repeat (first|(with_reducible first|exact HB.out|apply below_alloc|apply pw_below_drewN|apply below_drew1)|exact HB.out))):w.heap.size≤gb132));clear HB;have HB:=n0_;have BK132:=n1_;have GW132:=n2_;have GE132:=n3_;clear n0_ n1_ n2_ n3_;clear hb hbox hg;have hcz13_0:w12.cell? ⟨gb132,0,none⟩=some (.string a0_0):=(blk_cell BK132.out 0).trans rfl;have hcz13_1:w12.cell? ⟨gb132,1,none⟩=some (.string a0_1):=(blk_cell BK132.out 1).trans rfl;have hcz13_2:w12.cell? ⟨gb132,2,none⟩=some (.string a0_2):=(blk_cell BK132.out 2).trans rfl;have hcz13_3:w12.cell? ⟨gb132,3,none⟩=some (.bool false):=(blk_cell BK132.out 3).trans rfl;have hcz13_4:w12.cell? ⟨gb132,4,none⟩=some (.string a0_4):=(blk_cell BK132.out 4).trans rfl;have hcz13_5:w12.cell? ⟨gb132,5,none⟩=some (.string a0_5):=(blk_cell BK132.out 5).trans rfl;have hcz13_6:w12.cell? ⟨gb132,6,none⟩=some (.string a0_6):=(blk_cell BK132.out 6).trans rfl;have hcz13_7:w12.cell? ⟨gb132,7,none⟩=some (.string a0_7):=(blk_cell BK132.out 7).trans rfl;have hcz13_8:w12.cell? ⟨gb132,8,none⟩=some (.bool a0_8):=(blk_cell BK132.out 8).trans rfl;have hfz13_0:=blk_frozen BK132.out 0;have hfz13_1:=blk_frozen BK132.out 1;have hfz13_2:=blk_frozen BK132.out 2;have hfz13_3:=blk_frozen BK132.out 3;have hfz13_4:=blk_frozen BK132.out 4;have hfz13_5:=blk_frozen BK132.out 5;have hfz13_6:=blk_frozen BK132.out 6;have hfz13_7:=blk_frozen BK132.out 7;have hfz13_8:=blk_frozen BK132.out 8))
  go_ret
  exact⟨by first|rfl|(simp [errW_none,errW_some]<;>rfl)|(simp [*,errW_none,errW_some]<;>rfl),by repeat (first|(with_reducible first|exact HB.out|apply below_alloc|apply pw_below_drewN|apply below_drew1|refine below_set ?_ GE132.out)|exact HB.out)⟩
def strings_Contains.f (a0 a1 : ByteArray) : Option Bool := if a1.size=1 then some (decide (0≤Lib.indexByte a0.data.toList (a1.data.toList.headD 0))) else none
theorem strings_Contains.calls (a0 : ByteArray) (a1 : ByteArray) (r : Bool) (w : World) (h : strings_Contains.f a0 a1=some r) :
  Calls Try.prog 84 #[.string a0,.string a1] w fun e w'=>e = .returned (.bool r)∧Drawn0 w w':=by
 exact ext_contains a0 a1 r w h
def doc_Labels_Plain.f (a0_0 : ByteArray) (a0_1 : ByteArray) (a0_2 : ByteArray) : Option (Bool) := if a0_0.size+a0_1.size≤9223372036854775807 then (if (a0_0++a0_1).size+a0_2.size≤9223372036854775807 then ((strings_Contains.f ((a0_0++a0_1)++a0_2) (⟨#[10]⟩ : ByteArray)).bind fun t134=>(some (!t134))) else (none)) else (none)
set_option maxHeartbeats 8000000 in
set_option maxRecDepth 100000 in
theorem doc_Labels_Plain.calls (a0_0 : ByteArray) (a0_1 : ByteArray) (a0_2 : ByteArray) (r : Bool) (w : World) (h : doc_Labels_Plain.f a0_0 a0_1 a0_2=some r) :
  Calls Try.prog 114 #[.agg #[.string a0_0,.string a0_1,.string a0_2]] w fun e w'=>e = .returned (.bool r)∧Below w.heap.size w w':=by
 have hu84:=Try.underlying84
 have HB:=Aside0.mk (Below.refl w.heap.size w)
 have H:(if a0_0.size+a0_1.size≤9223372036854775807 then (if (a0_0++a0_1).size+a0_2.size≤9223372036854775807 then ((strings_Contains.f ((a0_0++a0_1)++a0_2) (⟨#[10]⟩:ByteArray)).bind fun t134=>(some (!t134))) else (none)) else (none))=some r:=h
 clear h
 by_cases c2:a0_0.size+a0_1.size≤9223372036854775807
 ·rw [if_pos c2] at H
  have c2b0:=eq_true c2
  have c2b1:decide (a0_0.size+a0_1.size≤9223372036854775807)=true:=decide_eq_true c2
  try have c2b2:(9223372036854775807<a0_0.size+a0_1.size)=False:=eq_false (Nat.not_lt.2 c2)
  by_cases c3:(a0_0++a0_1).size+a0_2.size≤9223372036854775807
  ·rw [if_pos c3] at H
   have c3b0:=eq_true c3
   have c3b1:decide ((a0_0++a0_1).size+a0_2.size≤9223372036854775807)=true:=decide_eq_true c3
   try have c3b2:(9223372036854775807<(a0_0++a0_1).size+a0_2.size)=False:=eq_false (Nat.not_lt.2 c3)
   try have c3b3:(9223372036854775807<a0_0.size+a0_1.size+a0_2.size)=False:=eq_false (Nat.not_lt.2 (Nat.le_trans (Nat.le_of_eq (by first|rfl|(simp only [ByteArray.size_append];done)|(simp only [ByteArray.size_append];rfl))) c3))
   replace H:=Option.bind_eq_some_iff.mp H
   obtain⟨t134,A40,H⟩:=H
   replace H:(some (!t134))=some r:=H
   have A4:=Aside0.mk A40
   clear A40
   obtain rfl:=Option.some.inj H
   go_enter Try.func114,Try.ntmps114
   go_wp2_with (first|((with_reducible refine gate_dst (N:=1) rfl ?_);refine box_event ?hg (N:=1) ?hd (cs:=#[.string a0_0,.string a0_1,.string a0_2]) (t:=84) ?hr ?_;(case hd=>rfl);(case hg=>rfl);(case hr=>first|(go_simp;done)|(go_simp;rfl));intro gb133 hg w5 hbox hb;have n0_:=Aside0.mk (below_step (by repeat (first|(with_reducible first|exact HB.out|apply below_alloc|apply pw_below_drewN|apply below_drew1)|exact HB.out)) hb);have n1_:=Aside0.mk (hbox);have n2_:=Aside0.mk ((by rw [hg];exact (below_size (by repeat (first|(with_reducible first|exact HB.out|apply below_alloc|apply pw_below_drewN|apply below_drew1)|exact HB.out))):w.heap.size≤gb133));have n3_:=Aside0.mk ((by rw [hg];exact (below_size (by repeat (first|(with_reducible first|exact HB.out|apply below_alloc|apply pw_below_drewN|apply below_drew1)|exact HB.out))):w.heap.size≤gb133));clear HB;have HB:=n0_;have BK133:=n1_;have GW133:=n2_;have GE133:=n3_;clear n0_ n1_ n2_ n3_;clear hb hbox hg;have hcz6_0:w5.cell? ⟨gb133,0,none⟩=some (.string a0_0):=(blk_cell BK133.out 0).trans rfl;have hcz6_1:w5.cell? ⟨gb133,1,none⟩=some (.string a0_1):=(blk_cell BK133.out 1).trans rfl;have hcz6_2:w5.cell? ⟨gb133,2,none⟩=some (.string a0_2):=(blk_cell BK133.out 2).trans rfl;have hfz6_0:=blk_frozen BK133.out 0;have hfz6_1:=blk_frozen BK133.out 1;have hfz6_2:=blk_frozen BK133.out 2)|((with_reducible refine gate_callee (f:=84) rfl ?_);refine goesL_ (some 11) rfl rfl Try.func84 (by kernel_rfl) rfl #[.string ((a0_0++a0_1)++a0_2),.string (⟨#[10]⟩:ByteArray)] rfl (by (try simp only [List.map_toArray,List.map_cons,List.map_nil]);first|done|rfl|(simp only [List.length_drop,List.length_take];rfl)) ?_;(with_reducible refine (strings_Contains.calls ((a0_0++a0_1)++a0_2) (⟨#[10]⟩:ByteArray) t134 _ A4.out).mono ?_);rintro e w' ⟨rfl,⟨nd,rfl⟩⟩;refine⟨_,rfl,?_⟩))
   go_ret
   exact⟨by first|rfl|(simp [errW_none,errW_some]<;>rfl)|(simp [*,errW_none,errW_some]<;>rfl),by repeat (first|(with_reducible first|exact HB.out|apply below_alloc|apply pw_below_drewN|apply below_drew1|refine below_set ?_ GE133.out)|exact HB.out)⟩
  ·rw [if_neg c3] at H
   exact absurd H (by simp)
 ·rw [if_neg c2] at H
  exact absurd H (by simp)
def stringslite_HasSuffix.f (a0 : ByteArray) (a1 : ByteArray) : Option (Bool) := if (a0.size : Int)≥(a1.size : Int) then (if 0≤(wrap64 ((a0.size : Int)-(a1.size : Int))) then (if (wrap64 ((a0.size : Int)-(a1.size : Int)))≤(a0.size : Int) then (some ((a0.extract ((wrap64 ((a0.size : Int)-(a1.size : Int))) : Int).toNat a0.size).toList==a1.toList)) else (none)) else (none)) else (some false)
set_option maxHeartbeats 8000000 in
set_option maxRecDepth 100000 in
theorem stringslite_HasSuffix.calls (a0 : ByteArray) (a1 : ByteArray) (r : Bool) (w : World) (h : stringslite_HasSuffix.f a0 a1=some r) :
  Calls Try.prog 142 #[.string a0,.string a1] w fun e w'=>e = .returned (.bool r)∧Drawn0 w w':=by
 have H:(if (a0.size:Int)≥(a1.size:Int) then (if 0≤(wrap64 ((a0.size:Int)-(a1.size:Int))) then (if (wrap64 ((a0.size:Int)-(a1.size:Int)))≤(a0.size:Int) then (some ((a0.extract ((wrap64 ((a0.size:Int)-(a1.size:Int))):Int).toNat a0.size).toList==a1.toList)) else (none)) else (none)) else (some false))=some r:=h
 clear h
 by_cases c3:(a0.size:Int)≥(a1.size:Int)
 ·rw [if_pos c3] at H
  have c3b0:decide ((a1.size:Int)≤(a0.size:Int))=true:=decide_eq_true c3
  have c3b1:decide (a1.size≤a0.size)=true:=decide_eq_true (Int.ofNat_le.mp c3)
  clear c3
  obtain⟨ji4,hji4⟩:∃ j_:Int,(wrap64 ((a0.size:Int)-(a1.size:Int)))=j_:=⟨_,rfl⟩
  replace H:(if 0≤(ji4) then (if (ji4)≤(a0.size:Int) then (some ((a0.extract ((ji4):Int).toNat a0.size).toList==a1.toList)) else (none)) else (none))=some r:=by first|(rw [hji4] at H;exact H)|(simp only [hji4] at H ⊢;exact H)
  have hji4w:(IntKind.i64.wrap ((a0.size:Int)-(a1.size:Int)))=ji4:=(i64_w _).trans hji4
  by_cases c5:0≤(ji4)
  ·rw [if_pos c5] at H
   have c5b0:=eq_true c5
   have c5b1:decide (0≤(ji4))=true:=decide_eq_true c5
   clear c5
   by_cases c6:(ji4)≤(a0.size:Int)
   ·rw [if_pos c6] at H
    have c6b0:=eq_true c6
    have c6b1:decide ((ji4)≤(a0.size:Int))=true:=decide_eq_true c6
    clear c6
    obtain rfl:=Option.some.inj H
    go_enter Try.func142,Try.ntmps142
    go_wp2
    go_ret
    exact⟨by first|rfl|(simp;done)|(simp only [←hji4]<;>(first|rfl|simp))|(simp [*];done),by repeat (first|exact Drawn0.refl _|apply Drawn0.step)⟩
   ·rw [if_neg c6] at H
    exact absurd H (by simp)
  ·rw [if_neg c5] at H
   exact absurd H (by simp)
 ·rw [if_neg c3] at H
  have c3b0:decide ((a1.size:Int)≤(a0.size:Int))=false:=decide_eq_false c3
  have c3b1:decide (a1.size≤a0.size)=false:=decide_eq_false (fun h=>c3 (Int.ofNat_le.mpr h))
  clear c3
  obtain rfl:=Option.some.inj H
  go_enter Try.func142,Try.ntmps142
  go_wp2
  go_ret
  exact⟨by first|rfl|(simp;done)|(simp [*];done),by repeat (first|exact Drawn0.refl _|apply Drawn0.step)⟩
def strings_HasSuffix.f (a0 : ByteArray) (a1 : ByteArray) : Option (Bool) := (stringslite_HasSuffix.f a0 a1).bind fun t135=>(some t135)
set_option maxHeartbeats 8000000 in
set_option maxRecDepth 100000 in
theorem strings_HasSuffix.calls (a0 : ByteArray) (a1 : ByteArray) (r : Bool) (w : World) (h : strings_HasSuffix.f a0 a1=some r) :
  Calls Try.prog 115 #[.string a0,.string a1] w fun e w'=>e = .returned (.bool r)∧Drawn0 w w':=by
 have H:((stringslite_HasSuffix.f a0 a1).bind fun t135=>(some t135))=some r:=h
 clear h
 replace H:=Option.bind_eq_some_iff.mp H
 obtain⟨t135,A30,H⟩:=H
 replace H:(some t135)=some r:=H
 have A3:=Aside0.mk A30
 clear A30
 obtain rfl:=Option.some.inj H
 go_enter Try.func115,Try.ntmps115
 go_wp2_with (first|((with_reducible refine gate_callee (f:=142) rfl ?_);refine goesL_ (some 7) rfl rfl Try.func142 (by kernel_rfl) rfl #[.string a0,.string a1] rfl (by (try simp only [List.map_toArray,List.map_cons,List.map_nil]);first|done|rfl|(simp only [List.length_drop,List.length_take];rfl)) ?_;(with_reducible refine (stringslite_HasSuffix.calls a0 a1 t135 _ A3.out).mono ?_);rintro e w' ⟨rfl,⟨nd,rfl⟩⟩;refine⟨_,rfl,?_⟩))
 go_ret
 exact⟨by first|rfl|(simp;done)|(simp [*];done),by repeat (first|exact Drawn0.refl _|apply Drawn0.step)⟩
def strings_Join.f (l0 : List ByteArray) (a1 : ByteArray) : Option ByteArray := if l0.length≤140737488355328∧(joinB l0 a1).size≤140737488355328 then some (joinB l0 a1) else none
theorem strings_Join.calls (A0 : Option Addr) (c0 : Nat) (l0 : List ByteArray) (a1 : ByteArray) (r : ByteArray) (w : World) (hr0 : Kd.C Kd.string w A0 l0.length l0) (hc0 : l0.length≤c0) (h : strings_Join.f l0 a1=some r) :
  Calls Try.prog 81 #[.slice A0 l0.length c0,.string a1] w fun e w'=>e = .returned (.string r)∧Below w.heap.size w w':=by
 exact ext_join A0 c0 l0 a1 r w hr0 hc0 h
def lines_Join.f (l0 : List ByteArray) : Option (ByteArray) := (strings_Join.f l0 (⟨#[]⟩ : ByteArray)).bind fun t270=>(some t270)
set_option maxHeartbeats 8000000 in
set_option maxRecDepth 100000 in
theorem lines_Join.calls (A0 : Option Addr) (c0 : Nat) (l0 : List ByteArray) (r : ByteArray) (w : World) (hr0 : Kd.C Kd.string w A0 l0.length l0) (hc0 : l0.length≤c0) (h : lines_Join.f l0=some r) :
  Calls Try.prog 33 #[.slice A0 l0.length c0] w fun e w'=>e = .returned (.string r)∧Below w.heap.size w w':=by
 have HR0:=Aside0.mk hr0
 have HC0:=Aside0.mk hc0
 clear hr0 hc0
 have HB:=Aside0.mk (Below.refl w.heap.size w)
 have H:((strings_Join.f l0 (⟨#[]⟩:ByteArray)).bind fun t270=>(some t270))=some r:=h
 clear h
 replace H:=Option.bind_eq_some_iff.mp H
 obtain⟨t270,A20,H⟩:=H
 replace H:(some t270)=some r:=H
 have A2:=Aside0.mk A20
 clear A20
 obtain rfl:=Option.some.inj H
 go_enter Try.func33,Try.ntmps33
 go_wp2_with (first|((with_reducible refine gate_callee (f:=81) rfl ?_);refine goesL_ (some 4) rfl rfl Try.func81 (by kernel_rfl) rfl #[.slice A0 l0.length c0,.string (⟨#[]⟩:ByteArray)] rfl (by (try simp only [List.map_toArray,List.map_cons,List.map_nil]);first|done|rfl|(simp only [List.length_drop,List.length_take];rfl)) ?_;(with_reducible refine (strings_Join.calls _ _ l0 (⟨#[]⟩:ByteArray) t270 _ ?side1 ?side2 A2.out).mono ?_);(case side1=>repeat (first|exact HR0.out|(with_reducible refine Kd.C_alloc ?_ _)|(with_reducible refine Kd.C_drewN ?_ _)|(with_reducible refine Kd.C_drew ?_)));(case side2=>exact HC0.out);rintro e w3 ⟨rfl,hb⟩;refine⟨_,rfl,?_⟩;have n0_:=Aside0.mk (below_step (by repeat (first|(with_reducible first|exact HB.out|apply below_alloc|apply pw_below_drewN|apply below_drew1)|exact HB.out)) hb);clear HB;have HB:=n0_;clear n0_;(try clear hb);(try clear hb2);(try clear hk);(try clear hi)))
 go_ret
 exact⟨by first|rfl|(simp [errW_none,errW_some]<;>rfl)|(simp [*,errW_none,errW_some]<;>rfl),by repeat (first|(with_reducible first|exact HB.out|apply below_alloc|apply pw_below_drewN|apply below_drew1)|exact HB.out)⟩
end Go.Proofs.Ytfiamddinkokbaa.F
end
