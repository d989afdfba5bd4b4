/- Texts joined into one file (wip/tools/pack.py): Fn39, Texts0, Texts, Fn11, Fn37, Fn31, Fn36, Told12, Fn26 -/
import Derived.Test.YtfiamddinkokbaaGreatTB2
import Derived.Test.YtfiamddinkokbaaGreatTB1
import Derived.Test.YtfiamddinkokbaaGreatTB10
import Derived.Test.YtfiamddinkokbaaGreatTB13
import Derived.Test.YtfiamddinkokbaaGreatTB11
import Derived.Test.YtfiamddinkokbaaGreatTB6
import Derived.Test.YtfiamddinkokbaaGreatTB5
import Derived.Deep.DrawnRows
import Derived.BigQuiet
set_option linter.unusedVariables false
set_option linter.unusedSimpArgs false
section
namespace Go.Proofs.YtfiamddinkokbaaGreat.F
open Go.RowKit Go.Proofs.YtfiamddinkokbaaGreatW.PrintWords Go.Proofs.YtfiamddinkokbaaGreatW.PrintLast Go.Proofs.YtfiamddinkokbaaGreatW.PrintMore
attribute [local go_sem] max2_int min2_int max_two min_two max_three min_three max_four min_four
def merge_Options_wrong.f (k : Nat) (a0_0 : ByteArray) (a0_1 : ByteArray) (a0_2 : ByteArray) (a0_3 : Int) (a0_4 : Int) (a0_5 : Int) (a1 : Int) : Option (Int) := if a1>1073741824 then (some 2) else ((doc_Labels_Plain.f a0_0 a0_1 a0_2).bind fun t164=>(if t164=true then (if a0_4<7 then (some 4) else (if a0_4>64 then (some 4) else ((build_Doc.f k ([] : List ByteArray) ([] : List ByteArray) ([] : List ByteArray) ([] : List (S121)) a0_3 a0_0 a0_1 a0_2 a0_5).bind fun bt165=>(some bt165.2)))) else (some 3)))
theorem merge_Options_wrong.mono : ∀ a0 a1 a2 a3 a4 a5 a6 k,LeO (merge_Options_wrong.f k a0 a1 a2 a3 a4 a5 a6) (merge_Options_wrong.f (k+1) a0 a1 a2 a3 a4 a5 a6) := by
 intro a0 a1 a2 a3 a4 a5 a6 k
 unfold merge_Options_wrong.f
 repeat' first
   | (with_reducible exact build_Doc.mono _ _ _ _ _ _ _ _ _ _)
   | (with_reducible exact LeO.refl _)
   | (with_reducible exact LeO.none _)
   | (with_reducible refine LeO.ite ?_ ?_)
   | (with_reducible refine LeO.bind ?_ (fun _=>?_))
   | exact build_Doc.mono _ _ _ _ _ _ _ _ _ _
   | exact LeO.none _
   | refine LeO.ite ?_ ?_
   | refine LeO.bind ?_ (fun _=>?_)
set_option maxHeartbeats 8000000 in
set_option maxRecDepth 100000 in
theorem merge_Options_wrong.calls (k : Nat) (a0_0 : ByteArray) (a0_1 : ByteArray) (a0_2 : ByteArray) (a0_3 : Int) (a0_4 : Int) (a0_5 : Int) (a1 : Int) (r : Int) (w : World) (h : merge_Options_wrong.f k a0_0 a0_1 a0_2 a0_3 a0_4 a0_5 a1=some r) :
  Calls Tryz.prog 39 #[.agg #[.string a0_0,.string a0_1,.string a0_2,.int .i64 a0_3,.int .i64 a0_4,.int .i64 a0_5],.int .i64 a1] w fun e w'=>e = .returned (.int .i64 r)∧Below w.heap.size w w':=by
 have hu31:=Tryz.underlying31
 have hu29:=Tryz.underlying29
 have hu84:=Tryz.underlying84
 have HB:=Zd (Below.refl w.heap.size w)
 have H:(if a1>1073741824 then (some 2) else ((doc_Labels_Plain.f a0_0 a0_1 a0_2).bind fun t164=>(if t164=true then (if a0_4<7 then (some 4) else (if a0_4>64 then (some 4) else ((build_Doc.f k ([]:List ByteArray) ([]:List ByteArray) ([]:List ByteArray) ([]:List (S121)) a0_3 a0_0 a0_1 a0_2 a0_5).bind fun bt165=>(some bt165.2)))) else (some 3))))=some r:=h
 clear h
 by_cases c3:a1>1073741824
 ·rw [if_pos c3] at H
  have c3b0:decide (1073741824<a1)=true:=decide_eq_true c3
  clear c3
  obtain rfl:=Option.some.inj H
  go_enter Tryz.func39,Tryz.ntmps39
  go_wp2_with (first|((with_reducible refine gate_dst (N:=2) rfl ?_);refine box_event ?hg (N:=2) ?hd (cs:=#[.string a0_0,.string a0_1,.string a0_2,.int .i64 a0_3,.int .i64 a0_4,.int .i64 a0_5]) (t:=31) ?hr ?_;(case hd=>rfl);(case hg=>rfl);(case hr=>first|(go_simp;done)|(go_simp;rfl));intro gb163 hg w4 hbox hb;have n0_:=Zd (below_step Zb hb);have n1_:=Zd (hbox);have n2_:=Zd ((Zg hg:w.heap.size≤gb163));have n3_:=Zd ((Zg hg:w.heap.size≤gb163));clear HB;have HB:=n0_;have BK163:=n1_;have GW163:=n2_;have GE163:=n3_;clear n0_ n1_ n2_ n3_;clear hb hbox hg))
  go_ret
  exact⟨by first|rfl|(simp [errW_none,errW_some]<;>rfl)|(simp [*,errW_none,errW_some]<;>rfl),by repeat (first|(with_reducible first|exact HB.out|apply below_alloc|apply pw_below_drewN|apply below_drew1|refine below_set ?_ GE163.out)|exact HB.out)⟩
 ·rw [if_neg c3] at H
  have c3b0:decide (1073741824<a1)=false:=decide_eq_false c3
  clear c3
  replace H:=Option.bind_eq_some_iff.mp H
  obtain⟨t164,A50,H⟩:=H
  replace H:(if t164=true then (if a0_4<7 then (some 4) else (if a0_4>64 then (some 4) else ((build_Doc.f k ([]:List ByteArray) ([]:List ByteArray) ([]:List ByteArray) ([]:List (S121)) a0_3 a0_0 a0_1 a0_2 a0_5).bind fun bt165=>(some bt165.2)))) else (some 3))=some r:=H
  have A5:=Zd A50
  clear A50
  by_cases c6:t164=true
  ·subst c6
   have H1:(if a0_4<7 then (some 4) else (if a0_4>64 then (some 4) else ((build_Doc.f k ([]:List ByteArray) ([]:List ByteArray) ([]:List ByteArray) ([]:List (S121)) a0_3 a0_0 a0_1 a0_2 a0_5).bind fun bt165=>(some bt165.2))))=some r:=by rw [if_pos rfl] at H;exact H
   clear H
   have H:=H1
   clear H1
   by_cases c7:a0_4<7
   ·rw [if_pos c7] at H
    have c7b0:decide (a0_4<7)=true:=decide_eq_true c7
    clear c7
    obtain rfl:=Option.some.inj H
    go_enter Tryz.func39,Tryz.ntmps39
    go_wp2_with (first|((with_reducible refine gate_dst (N:=2) rfl ?_);refine box_event ?hg (N:=2) ?hd (cs:=#[.string a0_0,.string a0_1,.string a0_2,.int .i64 a0_3,.int .i64 a0_4,.int .i64 a0_5]) (t:=31) ?hr ?_;(case hd=>rfl);(case hg=>rfl);(case hr=>first|(go_simp;done)|(go_simp;rfl));intro gb163 hg w8 hbox hb;have n0_:=Zd (below_step Zb hb);have n1_:=Zd (hbox);have n2_:=Zd ((Zg hg:w.heap.size≤gb163));have n3_:=Zd ((Zg hg:w.heap.size≤gb163));clear HB;have HB:=n0_;have BK163:=n1_;have GW163:=n2_;have GE163:=n3_;clear n0_ n1_ n2_ n3_;clear hb hbox hg;obtain⟨hcz9_0,hcz9_1,hcz9_2,hcz9_3,hcz9_4,hcz9_5,hfz9_0,hfz9_1,hfz9_2,hfz9_3,hfz9_4,hfz9_5⟩:=Zc6 BK163.out)|((with_reducible refine gate_callee (f:=79) rfl ?_);refine goesL_ (some 13) rfl rfl Tryz.func79 (by kernel_rfl) rfl #[.agg #[.string a0_0,.string a0_1,.string a0_2]] rfl Zl ?_;(with_reducible refine (doc_Labels_Plain.calls a0_0 a0_1 a0_2 true _ A5.out).mono ?_);rintro e w10 ⟨rfl,hb⟩;refine⟨_,rfl,?_⟩;have n0_:=Zd (blk_below (g:=gb163) (o := .cells #[.string a0_0,.string a0_1,.string a0_2,.int .i64 a0_3,.int .i64 a0_4,.int .i64 a0_5] 31 (0,0)) (Zk BK163.out) hb);have n1_:=Zd (below_step Zb hb);clear BK163;clear HB;have BK163:=n0_;have HB:=n1_;clear n0_ n1_;(try clear hb);(try clear hb2);(try clear hk);(try clear hi);obtain⟨hcz11_0,hcz11_1,hcz11_2,hcz11_3,hcz11_4,hcz11_5,hfz11_0,hfz11_1,hfz11_2,hfz11_3,hfz11_4,hfz11_5⟩:=Zc6 BK163.out))
    go_ret
    exact⟨by first|rfl|(simp [errW_none,errW_some]<;>rfl)|(simp [*,errW_none,errW_some]<;>rfl),by repeat (first|(with_reducible first|exact HB.out|apply below_alloc|apply pw_below_drewN|apply below_drew1|refine below_set ?_ GE163.out)|exact HB.out)⟩
   ·rw [if_neg c7] at H
    have c7b0:decide (a0_4<7)=false:=decide_eq_false c7
    clear c7
    by_cases c12:a0_4>64
    ·rw [if_pos c12] at H
     have c12b0:decide (64<a0_4)=true:=decide_eq_true c12
     clear c12
     obtain rfl:=Option.some.inj H
     go_enter Tryz.func39,Tryz.ntmps39
     go_wp2_with (first|((with_reducible refine gate_dst (N:=2) rfl ?_);refine box_event ?hg (N:=2) ?hd (cs:=#[.string a0_0,.string a0_1,.string a0_2,.int .i64 a0_3,.int .i64 a0_4,.int .i64 a0_5]) (t:=31) ?hr ?_;(case hd=>rfl);(case hg=>rfl);(case hr=>first|(go_simp;done)|(go_simp;rfl));intro gb163 hg w13 hbox hb;have n0_:=Zd (below_step Zb hb);have n1_:=Zd (hbox);have n2_:=Zd ((Zg hg:w.heap.size≤gb163));have n3_:=Zd ((Zg hg:w.heap.size≤gb163));clear HB;have HB:=n0_;have BK163:=n1_;have GW163:=n2_;have GE163:=n3_;clear n0_ n1_ n2_ n3_;clear hb hbox hg;obtain⟨hcz14_0,hcz14_1,hcz14_2,hcz14_3,hcz14_4,hcz14_5,hfz14_0,hfz14_1,hfz14_2,hfz14_3,hfz14_4,hfz14_5⟩:=Zc6 BK163.out)|((with_reducible refine gate_callee (f:=79) rfl ?_);refine goesL_ (some 13) rfl rfl Tryz.func79 (by kernel_rfl) rfl #[.agg #[.string a0_0,.string a0_1,.string a0_2]] rfl Zl ?_;(with_reducible refine (doc_Labels_Plain.calls a0_0 a0_1 a0_2 true _ A5.out).mono ?_);rintro e w15 ⟨rfl,hb⟩;refine⟨_,rfl,?_⟩;have n0_:=Zd (blk_below (g:=gb163) (o := .cells #[.string a0_0,.string a0_1,.string a0_2,.int .i64 a0_3,.int .i64 a0_4,.int .i64 a0_5] 31 (0,0)) (Zk BK163.out) hb);have n1_:=Zd (below_step Zb hb);clear BK163;clear HB;have BK163:=n0_;have HB:=n1_;clear n0_ n1_;(try clear hb);(try clear hb2);(try clear hk);(try clear hi);obtain⟨hcz16_0,hcz16_1,hcz16_2,hcz16_3,hcz16_4,hcz16_5,hfz16_0,hfz16_1,hfz16_2,hfz16_3,hfz16_4,hfz16_5⟩:=Zc6 BK163.out))
     go_ret
     exact⟨by first|rfl|(simp [errW_none,errW_some]<;>rfl)|(simp [*,errW_none,errW_some]<;>rfl),by repeat (first|(with_reducible first|exact HB.out|apply below_alloc|apply pw_below_drewN|apply below_drew1|refine below_set ?_ GE163.out)|exact HB.out)⟩
    ·rw [if_neg c12] at H
     have c12b0:decide (64<a0_4)=false:=decide_eq_false c12
     clear c12
     replace H:=Option.bind_eq_some_iff.mp H
     obtain⟨⟨t165,t168⟩,A170,H⟩:=H
     replace H:(some t168)=some r:=H
     have A17:=Zd A170
     clear A170
     obtain rfl:=Option.some.inj H
     go_enter Tryz.func39,Tryz.ntmps39
     go_wp2_with (first|((with_reducible refine gate_dst (N:=2) rfl ?_);refine box_event ?hg (N:=2) ?hd (cs:=#[.string a0_0,.string a0_1,.string a0_2,.int .i64 a0_3,.int .i64 a0_4,.int .i64 a0_5]) (t:=31) ?hr ?_;(case hd=>rfl);(case hg=>rfl);(case hr=>first|(go_simp;done)|(go_simp;rfl));intro gb163 hg w18 hbox hb;have n0_:=Zd (below_step Zb hb);have n1_:=Zd (hbox);have n2_:=Zd ((Zg hg:w.heap.size≤gb163));have n3_:=Zd ((Zg hg:w.heap.size≤gb163));clear HB;have HB:=n0_;have BK163:=n1_;have GW163:=n2_;have GE163:=n3_;clear n0_ n1_ n2_ n3_;clear hb hbox hg;obtain⟨hcz19_0,hcz19_1,hcz19_2,hcz19_3,hcz19_4,hcz19_5,hfz19_0,hfz19_1,hfz19_2,hfz19_3,hfz19_4,hfz19_5⟩:=Zc6 BK163.out)|((with_reducible refine gate_callee (f:=79) rfl ?_);refine goesL_ (some 13) rfl rfl Tryz.func79 (by kernel_rfl) rfl #[.agg #[.string a0_0,.string a0_1,.string a0_2]] rfl Zl ?_;(with_reducible refine (doc_Labels_Plain.calls a0_0 a0_1 a0_2 true _ A5.out).mono ?_);rintro e w20 ⟨rfl,hb⟩;refine⟨_,rfl,?_⟩;have n0_:=Zd (blk_below (g:=gb163) (o := .cells #[.string a0_0,.string a0_1,.string a0_2,.int .i64 a0_3,.int .i64 a0_4,.int .i64 a0_5] 31 (0,0)) (Zk BK163.out) hb);have n1_:=Zd (below_step Zb hb);clear BK163;clear HB;have BK163:=n0_;have HB:=n1_;clear n0_ n1_;(try clear hb);(try clear hb2);(try clear hk);(try clear hi);obtain⟨hcz21_0,hcz21_1,hcz21_2,hcz21_3,hcz21_4,hcz21_5,hfz21_0,hfz21_1,hfz21_2,hfz21_3,hfz21_4,hfz21_5⟩:=Zc6 BK163.out)|((with_reducible refine gate_callee (f:=44) rfl ?_);refine goesL_ (some 32) rfl rfl Tryz.func44 (by kernel_rfl) rfl #[.agg #[.slice none 0 0,.slice none 0 0,.slice none 0 0],.slice none 0 0,.int .i64 a0_3,.agg #[.string a0_0,.string a0_1,.string a0_2],.int .i64 a0_5] rfl Zl ?_;(refine (build_Doc.calls k _ _ ([]:List ByteArray) _ _ ([]:List ByteArray) _ _ ([]:List ByteArray) _ _ ([]:List (S121)) a0_3 a0_0 a0_1 a0_2 a0_5 t165 t168 _ ?side1 ?side2 ?side3 ?side4 ?side5 ?side6 ?side7 ?side8 A17.out).mono ?_);(case side1=>exact Kd.C_nil _ _);(case side2=>exact Nat.le_refl _);(case side3=>exact Kd.C_nil _ _);(case side4=>exact Nat.le_refl _);(case side5=>exact Kd.C_nil _ _);(case side6=>exact Nat.le_refl _);(case side7=>exact Kd.C_nil _ _);(case side8=>exact Nat.le_refl _);rintro e w22 ⟨v166,rfl,ho0,hb⟩;refine⟨_,rfl,?_⟩;have n0_:=Zd (Kd.R_lower ho0 (below_size Zb));have n1_:=Zd (blk_below (g:=gb163) (o := .cells #[.string a0_0,.string a0_1,.string a0_2,.int .i64 a0_3,.int .i64 a0_4,.int .i64 a0_5] 31 (0,0)) (Zk BK163.out) hb);have n2_:=Zd (below_step Zb hb);clear BK163;clear HB;have HO167:=n0_;have BK163:=n1_;have HB:=n2_;clear n0_ n1_ n2_;(try clear hb);(try clear hb2);(try clear hk);(try clear hi);(try clear ho0)))
     go_ret
     exact⟨by first|rfl|(simp [errW_none,errW_some]<;>rfl)|(simp [*,errW_none,errW_some]<;>rfl),by repeat (first|(with_reducible first|exact HB.out|apply below_alloc|apply pw_below_drewN|apply below_drew1|refine below_set ?_ GE163.out)|exact HB.out)⟩
  ·replace c6:=Bool.eq_false_iff.mpr c6
   subst c6
   have H1:(some 3)=some r:=by rw [if_neg (show ¬ (false=true) by decide)] at H;exact H
   clear H
   have H:=H1
   clear H1
   obtain rfl:=Option.some.inj H
   go_enter Tryz.func39,Tryz.ntmps39
   go_wp2_with (first|((with_reducible refine gate_dst (N:=2) rfl ?_);refine box_event ?hg (N:=2) ?hd (cs:=#[.string a0_0,.string a0_1,.string a0_2,.int .i64 a0_3,.int .i64 a0_4,.int .i64 a0_5]) (t:=31) ?hr ?_;(case hd=>rfl);(case hg=>rfl);(case hr=>first|(go_simp;done)|(go_simp;rfl));intro gb163 hg w23 hbox hb;have n0_:=Zd (below_step Zb hb);have n1_:=Zd (hbox);have n2_:=Zd ((Zg hg:w.heap.size≤gb163));have n3_:=Zd ((Zg hg:w.heap.size≤gb163));clear HB;have HB:=n0_;have BK163:=n1_;have GW163:=n2_;have GE163:=n3_;clear n0_ n1_ n2_ n3_;clear hb hbox hg;obtain⟨hcz24_0,hcz24_1,hcz24_2,hcz24_3,hcz24_4,hcz24_5,hfz24_0,hfz24_1,hfz24_2,hfz24_3,hfz24_4,hfz24_5⟩:=Zc6 BK163.out)|((with_reducible refine gate_callee (f:=79) rfl ?_);refine goesL_ (some 13) rfl rfl Tryz.func79 (by kernel_rfl) rfl #[.agg #[.string a0_0,.string a0_1,.string a0_2]] rfl Zl ?_;(with_reducible refine (doc_Labels_Plain.calls a0_0 a0_1 a0_2 false _ A5.out).mono ?_);rintro e w25 ⟨rfl,hb⟩;refine⟨_,rfl,?_⟩;have n0_:=Zd (blk_below (g:=gb163) (o := .cells #[.string a0_0,.string a0_1,.string a0_2,.int .i64 a0_3,.int .i64 a0_4,.int .i64 a0_5] 31 (0,0)) (Zk BK163.out) hb);have n1_:=Zd (below_step Zb hb);clear BK163;clear HB;have BK163:=n0_;have HB:=n1_;clear n0_ n1_;(try clear hb);(try clear hb2);(try clear hk);(try clear hi)))
   go_ret
   exact⟨by first|rfl|(simp [errW_none,errW_some]<;>rfl)|(simp [*,errW_none,errW_some]<;>rfl),by repeat (first|(with_reducible first|exact HB.out|apply below_alloc|apply pw_below_drewN|apply below_drew1|refine below_set ?_ GE163.out)|exact HB.out)⟩
end Go.Proofs.YtfiamddinkokbaaGreat.F
end

section
namespace Go.Proofs.YtfiamddinkokbaaGreat.F
open Go.RowKit Go.Shelf Go.Proofs.YtfiamddinkokbaaGreatW.PrintWords
theorem keep4 {W0 w' : World} {a b c d : Addr} {va vb vc vd : Value} (hb : Below W0.heap.size W0 w') (h : W0.cell? a=some va∧W0.cell? b=some vb∧W0.cell? c=some vc∧W0.cell? d=some vd) :
  w'.cell? a=some va∧w'.cell? b=some vb∧w'.cell? c=some vc∧w'.cell? d=some vd:=by
 obtain⟨h1,h2,h3,h4⟩:=h
 exact⟨(hb.cell (World.block_lt_of_cell? W0 _ h1)).trans h1,(hb.cell (World.block_lt_of_cell? W0 _ h2)).trans h2,(hb.cell (World.block_lt_of_cell? W0 _ h3)).trans h3,(hb.cell (World.block_lt_of_cell? W0 _ h4)).trans h4⟩
section
variable {W w1 : World} {cs : Array Value} {t : TypeId} {o : Obj}
theorem af1 (hb : Below (W.alloc (.cells cs t)).heap.size (W.alloc (.cells cs t)) w1) : w1.heap[W.heap.size]? = some (.cells cs t (0,0)) := after_alloc hb
theorem af1d (hb : Below (W.alloc (.cells cs t)).drew.heap.size (W.alloc (.cells cs t)).drew w1) : w1.heap[W.heap.size]? = some (.cells cs t (0,0)) := after_alloc_drew hb
theorem af2 (hb : Below ((W.alloc (.cells cs t)).alloc o).heap.size ((W.alloc (.cells cs t)).alloc o) w1) : w1.heap[W.heap.size]? = some (.cells cs t (0,0)) := after_call hb (blk_alloc (World.alloc_heap_new W _) o)
theorem af2d (hb : Below ((W.alloc (.cells cs t)).alloc o).drew.heap.size ((W.alloc (.cells cs t)).alloc o).drew w1) : w1.heap[W.heap.size]? = some (.cells cs t (0,0)) := after_call hb (blk_drew (blk_alloc (World.alloc_heap_new W _) o))
theorem af4 {cs' : Array Value} {t' : TypeId} (hb : Below ((W.alloc (.cells cs' t')).alloc (.cells cs t)).heap.size ((W.alloc (.cells cs' t')).alloc (.cells cs t)) w1) : w1.heap[W.heap.size+1]? = some (.cells cs t (0,0)) := by
 have:=after_alloc hb
 rwa [World.size_alloc] at this
theorem af4d {cs' : Array Value} {t' : TypeId} (hb : Below ((W.alloc (.cells cs' t')).alloc (.cells cs t)).drew.heap.size ((W.alloc (.cells cs' t')).alloc (.cells cs t)).drew w1) : w1.heap[W.heap.size+1]? = some (.cells cs t (0,0)) := by
 have:=after_alloc_drew hb
 rwa [World.size_alloc] at this
end
theorem C3 {W : World} {g : Nat} {a b c : ByteArray} (h : W.heap[g]? = some (.cells #[.string a,.string b,.string c] 9 (0,0))) : Kd.C Kd.string W (some ⟨g,0,none⟩) 3 [a,b,c] := by
 refine⟨rfl,by simp,fun _=>⟨⟨g,0,none⟩,rfl,fun j x hj=>?_⟩⟩
 have hc:∀ i,W.cell? ⟨g,i,none⟩=(#[Value.string a,.string b,.string c])[i]?:=fun i=>blk_cell h i
 refine⟨[.string x],rfl,rfl,fun i u hu=>?_⟩
 cases i with
 | succ i=>simp at hu
 | zero =>
  have hu':u = .string x:=by simpa using hu.symm
  subst hu'
  show W.cell? ((⟨g,0,none⟩:Addr).add (j*1+0))=_
  rw [show (⟨g,0,none⟩:Addr).add (j*1+0)=⟨g,j,none⟩ by unfold Addr.add;split<;>simp_all]
  rw [hc]
  match j,hj with
  | 0,hj=>simp at hj;subst hj;rfl
  | 1,hj=>simp at hj;subst hj;rfl
  | 2,hj=>simp at hj;subst hj;rfl
  | j+3,hj=>simp at hj
theorem R_to {α : Type} {d : Kd α} {e base : Nat} {ok ok' : Nat→Prop} {W W1 : World} {v : Value} {xs : List α} (hE : d.E=[]) (h : d.R e W base ok v xs) (hb : Below W.heap.size W W1) (hok : ∀ k,v.ownBlock=some k→ok' k) : d.R e W1 base ok' v xs := Kd.R_reok hE (Kd.R_below h hb) hok
theorem zero7 {w : World} {k : Nat} (h : w.heap[k]? = some (.cells #[.slice none 0 0,.slice none 0 0,.slice none 0 0,.slice none 0 0,.string ⟨#[]⟩,.int .i64 0,.int .i64 0] 38 (0,0))) : w.cell? ⟨k,0,none⟩=some (.slice none 0 0)∧w.cell? ⟨k,1,none⟩=some (.slice none 0 0)∧w.cell? ⟨k,2,none⟩=some (.slice none 0 0)∧w.cell? ⟨k,3,none⟩=some (.slice none 0 0)∧w.cell? ⟨k,4,none⟩=some (.string ⟨#[]⟩)∧w.cell? ⟨k,5,none⟩=some (.int .i64 0)∧w.cell? ⟨k,6,none⟩=some (.int .i64 0)∧w.frozen? ⟨k,0,none⟩=false∧w.frozen? ⟨k,1,none⟩=false∧w.frozen? ⟨k,2,none⟩=false∧w.frozen? ⟨k,3,none⟩=false∧w.frozen? ⟨k,4,none⟩=false∧w.frozen? ⟨k,5,none⟩=false∧w.frozen? ⟨k,6,none⟩=false :=
 ⟨(blk_cell h 0).trans rfl,(blk_cell h 1).trans rfl,(blk_cell h 2).trans rfl,(blk_cell h 3).trans rfl,(blk_cell h 4).trans rfl,(blk_cell h 5).trans rfl,(blk_cell h 6).trans rfl,Lib.frozen_of_heap h 0,Lib.frozen_of_heap h 1,Lib.frozen_of_heap h 2,Lib.frozen_of_heap h 3,Lib.frozen_of_heap h 4,Lib.frozen_of_heap h 5,Lib.frozen_of_heap h 6⟩
theorem below_set7 {B k : Nat} {W0 W : World} (hb : Below B W0 W) (hk : B≤k) (v0 v1 v2 v3 v4 v5 v6 : Value) : Below B W0 (((((((W.setCell ⟨k,0,none⟩ v0).setCell ⟨k,1,none⟩ v1).setCell ⟨k,2,none⟩ v2).setCell ⟨k,3,none⟩ v3).setCell ⟨k,4,none⟩ v4).setCell ⟨k,5,none⟩ v5).setCell ⟨k,6,none⟩ v6) := (((((((hb.setCell (p := ⟨k,0,none⟩) hk v0).setCell (p := ⟨k,1,none⟩) hk v1).setCell (p := ⟨k,2,none⟩) hk v2).setCell (p := ⟨k,3,none⟩) hk v3).setCell (p := ⟨k,4,none⟩) hk v4).setCell (p := ⟨k,5,none⟩) hk v5).setCell (p := ⟨k,6,none⟩) hk v6)
theorem block_set7 {k : Nat} {T : TypeId} {W : World} {u0 u1 u2 u3 u4 u5 u6 : Value} (h : W.heap[k]? = some (.cells #[u0,u1,u2,u3,u4,u5,u6] T (0,0))) (v0 v1 v2 v3 v4 v5 v6 : Value) : (((((((W.setCell ⟨k,0,none⟩ v0).setCell ⟨k,1,none⟩ v1).setCell ⟨k,2,none⟩ v2).setCell ⟨k,3,none⟩ v3).setCell ⟨k,4,none⟩ v4).setCell ⟨k,5,none⟩ v5).setCell ⟨k,6,none⟩ v6).heap[k]? = some (.cells #[v0,v1,v2,v3,v4,v5,v6] T (0,0)) := by
 simp [World.setCell,Array.getElem?_modify,h]
theorem R_set7 {α : Type} {d : Kd α} {e base k T : Nat} {ok : Nat→Prop} {W : World} {v : Value} {xs : List α} {u0 u1 u2 u3 u4 u5 u6 : Value} (h : d.R e W base ok v xs) (hk : W.heap[k]? = some (.cells #[u0,u1,u2,u3,u4,u5,u6] T (0,0))) (hT : ∀ q,q∈e::d.E→q≠T) (v0 v1 v2 v3 v4 v5 v6 : Value) : d.R e (((((((W.setCell ⟨k,0,none⟩ v0).setCell ⟨k,1,none⟩ v1).setCell ⟨k,2,none⟩ v2).setCell ⟨k,3,none⟩ v3).setCell ⟨k,4,none⟩ v4).setCell ⟨k,5,none⟩ v5).setCell ⟨k,6,none⟩ v6) base ok v xs := by
 refine Kd.R_mono (Kd.R_step (Kd.R_types h hk hT) (fun j hj _=>?_)) (fun _ hj=>hj.1)
 have hne:j≠k:=hj.2
 exact ((Below.heap_setCell _ _ _ _ hne).trans ((Below.heap_setCell _ _ _ _ hne).trans ((Below.heap_setCell _ _ _ _ hne).trans ((Below.heap_setCell _ _ _ _ hne).trans ((Below.heap_setCell _ _ _ _ hne).trans ((Below.heap_setCell _ _ _ _ hne).trans (Below.heap_setCell _ _ _ _ hne)))))))
theorem new1 (W : World) (o : Obj) (cs : Array Value) (t : TypeId) : ((W.alloc o).alloc (.cells cs t)).heap[W.heap.size+1]? = some (.cells cs t (0,0)) := by
 have:=World.alloc_heap_new (W.alloc o) (.cells cs t)
 rwa [World.size_alloc] at this
def Post1 (W0 W : World) (lp : List S94) (e : Ending) (w' : World) : Prop := ∃ A c,e = .returned (.slice A lp.length c)∧Kd.R k94 94 w' W0.heap.size (fun _=>True) (.slice A lp.length c) lp∧Below W.heap.size W w'∧Below W0.heap.size W0 w'
theorem tx1 {W0 : World} {b0 b1 : Nat} {ok0 ok1 : Nat→Prop} {A0 A1 : Option Addr} {c0 c1 : Nat} {B L : List ByteArray} {lp : List S94} (h0 : Kd.R Kd.string 9 W0 b0 ok0 (.slice A0 B.length c0) B) (h1 : Kd.R Kd.string 9 W0 b1 ok1 (.slice A1 L.length c1) L) (hm : merge_match.f B L=some lp) (W : World) (hb : Below W0.heap.size W0 W) :
  Calls Tryz.prog 41 #[.slice A0 B.length c0,.slice A1 L.length c1] W (Post1 W0 W lp):=by
 refine (merge_match.calls (fun _=>True) A0 c0 B (fun _=>True) A1 c1 L lp W (Kd.R_V (Kd.R_mono (Kd.R_below h0 hb) (fun _ _=>trivial))) (Kd.R_V (Kd.R_mono (Kd.R_below h1 hb) (fun _ _=>trivial))) hm).mono ?_
 rintro e w' ⟨v,rfl,hr,hb'⟩
 obtain⟨A,c,rfl⟩:=Kd.R_slice hr
 exact⟨A,c,rfl,Kd.R_mono (Kd.R_lower hr hb.size) (fun _ _=>trivial),hb',below_step hb hb'⟩
def Post2 (W0 w5 W : World) (A3 : Option Addr) (c3 : Nat) (lp rp : List S94) (e : Ending) (w' : World) : Prop := ∃ A c,e = .returned (.slice A rp.length c)∧Kd.R k94 94 w' W0.heap.size (fun k_=>some k_≠(Value.slice A rp.length c).ownBlock) (.slice A3 lp.length c3) lp ∧
 Kd.R k94 94 w' W0.heap.size (fun k_=>some k_≠(Value.slice A3 lp.length c3).ownBlock) (.slice A rp.length c) rp∧Below W.heap.size W w'∧Below W0.heap.size W0 w'∧Below w5.heap.size w5 w'
theorem tx2 {W0 w5 : World} {b0 b1 : Nat} {ok0 ok1 : Nat→Prop} {A0 A1 A3 : Option Addr} {c0 c1 c3 : Nat} {B L : List ByteArray} {lp rp : List S94} (h0 : Kd.R Kd.string 9 W0 b0 ok0 (.slice A0 B.length c0) B) (h1 : Kd.R Kd.string 9 W0 b1 ok1 (.slice A1 L.length c1) L) (hm : merge_match.f B L=some rp)
  (hr:Kd.R k94 94 w5 W0.heap.size (fun _=>True) (.slice A3 lp.length c3) lp) (hq:Below W0.heap.size W0 w5) (W:World) (hb:Below w5.heap.size w5 W) :
  Calls Tryz.prog 41 #[.slice A0 B.length c0,.slice A1 L.length c1] W (Post2 W0 w5 W A3 c3 lp rp):=by
 have hbW:=below_step hq hb
 refine (merge_match.calls (fun _=>True) A0 c0 B (fun _=>True) A1 c1 L rp W (Kd.R_V (Kd.R_mono (Kd.R_below h0 hbW) (fun _ _=>trivial))) (Kd.R_V (Kd.R_mono (Kd.R_below h1 hbW) (fun _ _=>trivial))) hm).mono ?_
 rintro e w' ⟨v,rfl,hr2,hb'⟩
 obtain⟨A,c,rfl⟩:=Kd.R_slice hr2
 have hlt:=Kd.R_lt hr
 have hge:=Kd.R_base hr2
 refine⟨A,c,rfl,R_to rfl hr (below_step hb hb') (fun k hk e=>?_),Kd.R_reok rfl (Kd.R_lower hr2 hbW.size) (fun k hk e=>?_),hb',below_step hbW hb',below_step hb hb'⟩
 ·have h1:=hlt k hk
  have h2:=hge k e.symm
  have:=hb.size
  omega
 ·have h1:=hlt k e.symm
  have h2:=hge k hk
  have:=hb.size
  omega
def Post3 (W0 W : World) (W6 : Int) (A3 A4 : Option Addr) (c3 c4 : Nat) (lp rp : List S94) (e : Ending) (w' : World) : Prop := e = .returned (.int .i64 W6)∧Kd.R k94 94 w' W0.heap.size (fun k_=>some k_≠(Value.slice A4 rp.length c4).ownBlock) (.slice A3 lp.length c3) lp ∧
 Kd.R k94 94 w' W0.heap.size (fun k_=>some k_≠(Value.slice A3 lp.length c3).ownBlock) (.slice A4 rp.length c4) rp∧Below W.heap.size W w'∧Below W0.heap.size W0 w'
theorem tx3 {k : Nat} {W0 w6 : World} {A3 A4 : Option Addr} {c3 c4 : Nat} {lp rp : List S94} {wd W6 : Int} {a0 a1 a2 : ByteArray} (hw : doc_Width.f k wd [a0,a1,a2]=some W6)
  (hr:Kd.R k94 94 w6 W0.heap.size (fun k_=>some k_≠(Value.slice A4 rp.length c4).ownBlock) (.slice A3 lp.length c3) lp) (hr2:Kd.R k94 94 w6 W0.heap.size (fun k_=>some k_≠(Value.slice A3 lp.length c3).ownBlock) (.slice A4 rp.length c4) rp) (hq:Below W0.heap.size W0 w6) (W:World) (g:Nat) (hb:Below w6.heap.size w6 W)
  (hg:W.heap[g]? = some (.cells #[.string a0,.string a1,.string a2] 9 (0,0))) :
  Calls Tryz.prog 42 #[.int .i64 wd,.slice (some ⟨g,0,none⟩) 3 3] W (Post3 W0 W W6 A3 A4 c3 c4 lp rp):=by
 refine (doc_Width.calls k wd (some ⟨g,0,none⟩) 3 [a0,a1,a2] W6 W (C3 hg) (by simp) hw).mono ?_
 rintro e w' ⟨rfl,hb'⟩
 have h:=below_step hb hb'
 exact⟨rfl,Kd.R_below hr h,Kd.R_below hr2 h,hb',below_step hq h⟩
structure TSt (w W : World) (b11 b12 : Nat) (g0 g1 g2 : ByteArray) (st wd fv : Int) (A0 A1 A2 : Option Addr) (c0 c1 c2 : Nat) (B L R : List ByteArray) (cs : Array Value) : Prop where
 bel:Below w.heap.size w W
 lo:w.heap.size+1<b11
 ne:b11<b12
 x7:W.heap[w.heap.size]? = some (.cells #[.string g0,.string g1,.string g2,.int .i64 st,.int .i64 wd,.int .i64 fv] 31 (0,0))
 x8:W.heap[w.heap.size+1]? = some (.cells #[.slice none 0 0,.slice none 0 0,.slice none 0 0,.slice none 0 0,.string (⟨#[]⟩:ByteArray),.int .i64 0,.int .i64 0] 38 (0,0))
 x11:W.heap[b11]? = some (.cells #[.slice A0 B.length c0,.slice A1 L.length c1,.slice A2 R.length c2] 84 (0,0))
 x12:W.heap[b12]? = some (.cells cs 38 (0,0))
 r0:Kd.R Kd.string 9 W w.heap.size (fun _=>True) (.slice A0 B.length c0) B
 r1:Kd.R Kd.string 9 W w.heap.size (fun _=>True) (.slice A1 L.length c1) L
 r2:Kd.R Kd.string 9 W w.heap.size (fun _=>True) (.slice A2 R.length c2) R
section
variable {w W W1 : World} {b11 b12 : Nat} {g0 g1 g2 : ByteArray} {st wd fv : Int} {A0 A1 A2 : Option Addr} {c0 c1 c2 : Nat} {B L R : List ByteArray} {cs : Array Value}
theorem TSt.call (h : TSt w W b11 b12 g0 g1 g2 st wd fv A0 A1 A2 c0 c1 c2 B L R cs) (hb : Below W.heap.size W W1) : TSt w W1 b11 b12 g0 g1 g2 st wd fv A0 A1 A2 c0 c1 c2 B L R cs :=
 ⟨below_step h.bel hb,h.lo,h.ne,after_call hb h.x7,after_call hb h.x8,after_call hb h.x11,after_call hb h.x12,Kd.R_below h.r0 hb,Kd.R_below h.r1 hb,Kd.R_below h.r2 hb⟩
theorem TSt.set (h : TSt w W b11 b12 g0 g1 g2 st wd fv A0 A1 A2 c0 c1 c2 B L R cs) (j : Nat) (v : Value) (cs' : Array Value) (hcs : cs.setIfInBounds j v=cs') : TSt w (W.setCell ⟨b12,j,none⟩ v) b11 b12 g0 g1 g2 st wd fv A0 A1 A2 c0 c1 c2 B L R cs' := by
 have l1:=h.lo
 have l2:=h.ne
 refine⟨h.bel.setCell (p:=⟨b12,j,none⟩) (show w.heap.size≤b12 by omega) v,l1,l2,?_,?_,?_,?_,Kd.R_set h.r0 h.x12 (by decide) j v,Kd.R_set h.r1 h.x12 (by decide) j v,Kd.R_set h.r2 h.x12 (by decide) j v⟩
 ·exact (Below.heap_setCell _ _ _ _ (by show w.heap.size≠b12;omega)).trans h.x7
 ·exact (Below.heap_setCell _ _ _ _ (by show w.heap.size+1≠b12;omega)).trans h.x8
 ·exact (Below.heap_setCell _ _ _ _ (by show b11≠b12;omega)).trans h.x11
 ·subst hcs
  simp [World.setCell,Array.getElem?_modify,h.x12]
end
def Texted (w : World) (r1 : List PP) (r2 r3 : List SP) (r4 : List SC) (r5 : ByteArray) (r6 r7 r8 : Int) (e : Ending) (w' : World) : Prop :=
 ∃ v0_ v1_ v2_ v3_:Value,e = .returned (.tuple #[.agg #[v0_,v1_,v2_,v3_,.string r5,.int .i64 r6,.int .i64 r7],.int .i64 r8])∧Kd.R k124 124 w' w.heap.size (fun _=>True) v0_ r1∧Kd.R k94 94 w' w.heap.size (fun k_=>some k_≠(v2_:Value).ownBlock) v1_ r2∧Kd.R k94 94 w' w.heap.size (fun k_=>some k_≠(v1_:Value).ownBlock) v2_ r3∧Kd.R k121 121 w' w.heap.size (fun _=>True) v3_ r4∧Below w.heap.size w w'
set_option maxHeartbeats 8000000 in
set_option maxRecDepth 100000 in
theorem texts_bad (k : Nat) (a0 a1 a2 g0 g1 g2 : ByteArray) (st wd fv ec : Int) (w : World) (hs : a0.size≤1000000000000∧a1.size≤1000000000000∧a2.size≤1000000000000) (h : merge_Options_wrong.f k g0 g1 g2 st wd fv ((a0.size : Int)+a1.size+a2.size)=some ec) (hne : ec≠0) :
  Calls Tryz.prog 11 #[.string a0,.string a1,.string a2,.agg #[.string g0,.string g1,.string g2,.int .i64 st,.int .i64 wd,.int .i64 fv]] w (Texted w [] [] [] [] ⟨#[]⟩ 0 0 ec):=by
 have HW:=Zd (fun W=>merge_Options_wrong.calls k g0 g1 g2 st wd fv _ ec W h)
 have q1:(ec != (0:Int))=true:=bne_iff_ne.2 hne
 obtain⟨s0,s1,s2⟩:=hs
 clear h hne
 go_enter Tryz.func11,Tryz.ntmps11
 go_wp2_with (first|(go_at_call 39;(with_reducible refine (HW.out _).mono ?_);rintro e w1 ⟨rfl,hb⟩;obtain⟨hb1,hx7,hx8⟩:=two_boxes hb;have HB:=Zd hb1;obtain⟨e0,e1,e2,e3,e4,e5,e6,f0,f1,f2,f3,f4,f5,f6⟩:=zero7 hx8;have HZ:=Zd hx8;clear hb hb1 hx7 hx8))
 refine bodyPost_ret (results_ct rfl _ _ (w.heap.size+1) 38 #[.slice none 0 0,.slice none 0 0,.slice none 0 0,.slice none 0 0,.string (⟨#[]⟩:ByteArray),.int .i64 0,.int .i64 0] (0,0) _ rfl (block_set7 HZ.out _ _ _ _ _ _ _) Tryz.underlying38 rfl (by kernel_rfl)) rfl ?_
 exact⟨_,_,_,_,rfl,Kd.R_nil _ _ _ _ _,Kd.R_nil _ _ _ _ _,Kd.R_nil _ _ _ _ _,Kd.R_nil _ _ _ _ _,below_set7 HB.out (by omega) _ _ _ _ _ _ _⟩
set_option maxHeartbeats 16000000 in
set_option maxRecDepth 100000 in
theorem texts_good (k : Nat) (a0 a1 a2 g0 g1 g2 : ByteArray) (st wd fv W6 e1 e2 e3 n : Int) (B L R : List ByteArray) (lp rp : List SP) (cs : List SC) (d : List PP) (t : ByteArray) (w : World) (hs : a0.size≤1000000000000∧a1.size≤1000000000000∧a2.size≤1000000000000)
  (h:merge_Options_wrong.f k g0 g1 g2 st wd fv ((a0.size:Int)+a1.size+a2.size)=some 0) (h0:lines_Split.f a0=some B) (h1:lines_Split.f a1=some L) (h2:lines_Split.f a2=some R) (hm1:merge_match.f B L=some lp) (hm2:merge_match.f B R=some rp)
  (hwd:doc_Width.f k wd [a0,a1,a2]=some W6) (hof:chunk_Of.f k (B.length:Int) (L.length:Int) (R.length:Int) lp rp=some (cs,e1)) (hd:build_Doc.f k B L R cs st g0 g1 g2 fv=some (d,e2)) (hp:mark_Print.f k d W6=some (t,e3)) (hn:build_Count.f k B L R cs=some n) :
  Calls Tryz.prog 11 #[.string a0,.string a1,.string a2,.agg #[.string g0,.string g1,.string g2,.int .i64 st,.int .i64 wd,.int .i64 fv]] w (Texted w d lp rp cs t W6 n 0):=by
 have HW:=Zd (fun W=>merge_Options_wrong.calls k g0 g1 g2 st wd fv _ 0 W h)
 have HS0:=Zd (fun W=>lines_Split.calls a0 B W h0)
 have HS1:=Zd (fun W=>lines_Split.calls a1 L W h1)
 have HS2:=Zd (fun W=>lines_Split.calls a2 R W h2)
 have HM1:=Zd hm1
 have HM2:=Zd hm2
 have HWD:=Zd hwd
 have HOF:=Zd hof
 have HD:=Zd hd
 have HP:=Zd hp
 have HN:=Zd hn
 obtain⟨s0,s1,s2⟩:=hs
 clear h h0 h1 h2 hm1 hm2 hwd hof hd hp hn
 go_enter Tryz.func11,Tryz.ntmps11
 go_wp2_with (first
  | (go_at_call 39;(with_reducible refine (HW.out _).mono ?_);rintro e w1 ⟨rfl,hb⟩;obtain⟨hb1,hx7,hx8⟩:=two_boxes hb;have HB1:=Zd hb1;have HX7:=Zd hx7;have HX8:=Zd hx8;clear hb hb1 hx7 hx8)
  | (go_at_call 40;(with_reducible refine (HS0.out _).mono ?_);rintro e w2 ⟨v0,rfl,hr,hb⟩;obtain⟨A0,c0,rfl⟩:=Kd.R_slice hr;have HR0:=Zd (Kd.R_lower hr HB1.out.size);have HB2:=Zd (below_step HB1.out hb);have HX72:=Zd (after_call hb HX7.out);have HX82:=Zd (after_call hb HX8.out);clear hr hb)
  | (go_at_call 40;(with_reducible refine (HS1.out _).mono ?_);rintro e w3 ⟨v1,rfl,hr,hb⟩;obtain⟨A1,c1,rfl⟩:=Kd.R_slice hr;have HR1:=Zd (Kd.R_lower hr HB2.out.size);have HR03:=Zd (Kd.R_below HR0.out hb);have HB3:=Zd (below_step HB2.out hb);have HX73:=Zd (after_call hb HX72.out);have HX83:=Zd (after_call hb HX82.out);clear hr hb)
  | (go_at_call 40;(with_reducible refine (HS2.out _).mono ?_);rintro e w4 ⟨v2,rfl,hr,hb⟩;obtain⟨A2,c2,rfl⟩:=Kd.R_slice hr;have HR2:=Zd (Kd.R_lower hr HB3.out.size);have HR04:=Zd (Kd.R_below HR03.out hb);have HR14:=Zd (Kd.R_below HR1.out hb);have HB4:=Zd (below_step HB3.out hb);have HX74:=Zd (after_call hb HX73.out);have HX84:=Zd (after_call hb HX83.out);clear hr hb HX7 HX8 HX72 HX82 HX73 HX83 HB1 HB2 HB3 HR0 HR03 HR1))
 clear HW HS0 HS1 HS2
 have hbel:=below_alloc (Below.refl w4.heap.size w4) (.cells #[.slice A0 B.length c0,.slice A1 L.length c1,.slice A2 R.length c2] 84)
 have HX11:=Zd (World.alloc_heap_new w4 (.cells #[.slice A0 B.length c0,.slice A1 L.length c1,.slice A2 R.length c2] 84))
 have HX7:=Zd (after_call hbel HX74.out)
 have HX8:=Zd (after_call hbel HX84.out)
 have HR0:=Zd (Kd.R_below HR04.out hbel)
 have HR1:=Zd (Kd.R_below HR14.out hbel)
 have HR2':=Zd (Kd.R_below HR2.out hbel)
 have HB:=Zd (below_step HB4.out hbel)
 have HZ4:=Zd HB4.out.size
 have HLO:Aside0 (w.heap.size+1<w4.heap.size):=⟨(Array.getElem?_eq_some_iff.1 HX84.out).1⟩
 generalize (w4.alloc (.cells #[.slice A0 B.length c0,.slice A1 L.length c1,.slice A2 R.length c2] 84))=W0 at *
 clear hbel HX74 HX84 HR04 HR14 HR2 HB4
 obtain⟨b11,hb11⟩:∃ b11,b11=w4.heap.size:=⟨_,rfl⟩
 rw [←hb11] at HX11 HZ4 HLO ⊢
 clear hb11
 have p0:=(blk_cell HX11.out 0).trans (rfl:_=some (Value.slice A0 B.length c0))
 have p1:=(blk_cell HX11.out 1).trans (rfl:_=some (Value.slice A1 L.length c1))
 have p2:=(blk_cell HX11.out 2).trans (rfl:_=some (Value.slice A2 R.length c2))
 have p4:=(blk_cell HX7.out 4).trans (rfl:_=some (Value.int .i64 wd))
 have hS4:W0.cell? ⟨b11,0,none⟩=some (.slice A0 B.length c0)∧W0.cell? ⟨b11,1,none⟩=some (.slice A1 L.length c1)∧W0.cell? ⟨b11,2,none⟩=some (.slice A2 R.length c2)∧W0.cell? ⟨w.heap.size,4,none⟩=some (.int .i64 wd):=⟨p0,p1,p2,p4⟩
 have HC1:=Zd (tx1 HR0.out HR1.out HM1.out)
 go_upto_region 6 with (fail)
 go_cut [12] (fun v12 wc=>∃ b12 A3 c3 A4 c4,v12 = .pointer (some ⟨b12,0,none⟩)∧Aside0 (W0.heap.size≤b12)∧Aside0 (wc.heap[b12]? = some (.cells #[.slice none 0 0,.slice A3 lp.length c3,.slice A4 rp.length c4,.slice none 0 0,.string (⟨#[]⟩:ByteArray),.int .i64 W6,.int .i64 0] 38 (0,0)))∧Aside0 (Below W0.heap.size W0 wc)∧Aside0 (Kd.R k94 94 wc W0.heap.size (fun k_=>some k_≠(Value.slice A4 rp.length c4).ownBlock) (.slice A3 lp.length c3) lp)∧Aside0 (Kd.R k94 94 wc W0.heap.size (fun k_=>some k_≠(Value.slice A3 lp.length c3).ownBlock) (.slice A4 rp.length c4) rp))
 case first =>
  have HQ:Aside0 (Below W0.heap.size W0 W0.drew):=⟨below_drew (Below.refl _ _)⟩
  have tk1:True:=trivial
  have tk2:True:=trivial
  have tk3:True:=trivial
  go_wp2
  go_region_held3 (fun w'=>w'.cell? ⟨b11,0,none⟩=some (.slice A0 B.length c0)∧w'.cell? ⟨b11,1,none⟩=some (.slice A1 L.length c1)∧w'.cell? ⟨b11,2,none⟩=some (.slice A2 R.length c2)∧w'.cell? ⟨w.heap.size,4,none⟩=some (.int .i64 wd))
   (((with_reducible refine keep4 (W0:=W0) ?_ hS4);(first|(with_reducible exact HQ.out)|(with_reducible exact below_alloc HQ.out _)|(with_reducible exact below_alloc (below_alloc HQ.out _) _)|(with_reducible exact below_drew (below_alloc (Below.refl _ _) _))|(with_reducible exact below_drew (below_alloc (below_alloc (Below.refl _ _) _) _))|(refine below_set7 HQ.out ?_ _ _ _ _ _ _ _;have n5:=HN5.out;have n6:=HN6.out;omega))))
   (first
    | ((refine Go.Proofs.YtfiamddinkokbaaGreatW.PrintLast.goes_ Tryz.func41 (by kernel_rfl) rfl #[.slice A0 B.length c0,.slice A1 L.length c1] (by rfl) rfl rfl (by (try simp only [List.map_toArray,List.map_cons,List.map_nil]);rfl) ?_;have _t:=tk1;refine (HC1.out _ ?rel).mono ?_;(case rel=>(first|(with_reducible exact below_drew (Below.refl _ _))|(with_reducible exact below_drew (below_alloc (Below.refl _ _) _))|(with_reducible exact below_drew (below_alloc (below_alloc (Below.refl _ _) _) _))));rintro e w5 ⟨A3,c3,rfl,hr,hb,hq⟩;clear tk1 HQ;have HQ:=Zd hq;have HN5:=Zd hq.size;have HC2:=Zd (tx2 HR0.out HR2'.out HM2.out hr hq);(try (have hz:w5.heap[_]? = some (Obj.cells #[.string a0,.string a1,.string a2] 9 (0,0)):=(by first|(with_reducible exact af4 hb)|(with_reducible exact af4d hb)|(with_reducible exact af2 hb)|(with_reducible exact af2d hb)|(with_reducible exact af1 hb)|(with_reducible exact af1d hb));have HS:=Zd hz;clear hz));(try (have hz:w5.heap[_]? = some (Obj.cells #[.slice none 0 0,.slice none 0 0,.slice none 0 0,.slice none 0 0,.string (⟨#[]⟩:ByteArray),.int .i64 0,.int .i64 0] 38 (0,0)):=(by first|(with_reducible exact af4 hb)|(with_reducible exact af4d hb)|(with_reducible exact af2 hb)|(with_reducible exact af2d hb)|(with_reducible exact af1 hb)|(with_reducible exact af1d hb));have HA:=Zd hz;clear hz));clear hr hb hq;refine⟨_,rfl,?_⟩))
    | ((refine Go.Proofs.YtfiamddinkokbaaGreatW.PrintLast.goes_ Tryz.func41 (by kernel_rfl) rfl #[.slice A0 B.length c0,.slice A2 R.length c2] (by rfl) rfl rfl (by (try simp only [List.map_toArray,List.map_cons,List.map_nil]);rfl) ?_;have _t:=tk2;refine (HC2.out _ ?rel).mono ?_;(case rel=>(first|(with_reducible exact Below.refl _ _)|(with_reducible exact below_alloc (Below.refl _ _) _)|(with_reducible exact below_alloc (below_alloc (Below.refl _ _) _) _)));rintro e w6 ⟨A4,c4,rfl,hr,hr2,hb,hq,h5⟩;clear tk2 HQ HC2;have HQ:=Zd hq;have HN6:=Zd hq.size;have HC3:=Zd (tx3 HWD.out hr hr2 hq);(try (have hz:=after_call h5 HS.out;clear HS;have HS:=Zd hz;clear hz));(try (have hz:=after_call h5 HA.out;clear HA;have HA:=Zd hz;clear hz));(try (have hz:w6.heap[_]? = some (Obj.cells #[.string a0,.string a1,.string a2] 9 (0,0)):=(by first|(with_reducible exact af4 hb)|(with_reducible exact af4d hb)|(with_reducible exact af2 hb)|(with_reducible exact af2d hb)|(with_reducible exact af1 hb)|(with_reducible exact af1d hb));have HS:=Zd hz;clear hz));(try (have hz:w6.heap[_]? = some (Obj.cells #[.slice none 0 0,.slice none 0 0,.slice none 0 0,.slice none 0 0,.string (⟨#[]⟩:ByteArray),.int .i64 0,.int .i64 0] 38 (0,0)):=(by first|(with_reducible exact af4 hb)|(with_reducible exact af4d hb)|(with_reducible exact af2 hb)|(with_reducible exact af2d hb)|(with_reducible exact af1 hb)|(with_reducible exact af1d hb));have HA:=Zd hz;clear hz));clear hr hr2 hb hq h5;refine⟨_,rfl,?_⟩))
    | ((refine Go.Proofs.YtfiamddinkokbaaGreatW.PrintLast.goes_ Tryz.func42 (by kernel_rfl) rfl #[.int .i64 wd,.slice (some ⟨_,0,none⟩) 3 3] (by rfl) rfl rfl (by (try simp only [List.map_toArray,List.map_cons,List.map_nil]);rfl) ?_;have _t:=tk3;refine (HC3.out _ _ ?rel ?hg).mono ?_;(case rel=>(first|(with_reducible exact Below.refl _ _)|(with_reducible exact below_alloc (Below.refl _ _) _)|(with_reducible exact below_alloc (below_alloc (Below.refl _ _) _) _)));(case hg=>(first|(with_reducible exact HS.out)|(with_reducible exact blk_alloc HS.out _)|(with_reducible exact World.alloc_heap_new _ _)|(with_reducible exact blk_alloc (World.alloc_heap_new _ _) _)|(with_reducible exact new1 _ _ _ _)));rintro e w7 ⟨rfl,hr,hr2,hb,hq⟩;clear tk3 HQ HC3;have HQ:=Zd hq;have HRL:=Zd hr;have HRR:=Zd hr2;(first|(have hz:=after_call hb HA.out;clear HA;have HA:=Zd hz;clear hz)|(have hz:=after_call hb (blk_alloc HA.out _);clear HA;have HA:=Zd hz;clear hz)|skip);(try (have hz:w7.heap[_]? = some (Obj.cells #[.slice none 0 0,.slice none 0 0,.slice none 0 0,.slice none 0 0,.string (⟨#[]⟩:ByteArray),.int .i64 0,.int .i64 0] 38 (0,0)):=(by first|(with_reducible exact af4 hb)|(with_reducible exact af4d hb)|(with_reducible exact af2 hb)|(with_reducible exact af2d hb)|(with_reducible exact af1 hb)|(with_reducible exact af1d hb));have HA:=Zd hz;clear hz));clear hr hr2 hb hq;(try (have hz7:=zero7 HA.out;obtain⟨e0,e1,e2,e3,e4,e5,e6,f0,f1,f2,f3,f4,f5,f6⟩:=hz7));refine⟨_,rfl,?_⟩)))
  all_goals go_wp2
  all_goals go_meet
  all_goals first
   | exact⟨_,A3,c3,A4,c4,rfl,⟨HQ.out.size⟩,⟨World.alloc_heap_new _ _⟩,⟨below_alloc HQ.out _⟩,⟨Kd.R_below HRL.out (below_alloc (Below.refl _ _) _)⟩,⟨Kd.R_below HRR.out (below_alloc (Below.refl _ _) _)⟩⟩
   | exact⟨_,A3,c3,A4,c4,rfl,⟨by have n5:=HN5.out;have n6:=HN6.out;omega⟩,⟨block_set7 HA.out _ _ _ _ _ _ _⟩,⟨below_set7 HQ.out (by have n5:=HN5.out;have n6:=HN6.out;omega) _ _ _ _ _ _ _⟩,⟨R_set7 HRL.out HA.out (by decide) _ _ _ _ _ _ _⟩,⟨R_set7 HRR.out HA.out (by decide) _ _ _ _ _ _ _⟩⟩
 case rest =>
  obtain⟨b12,A3,c3,A4,c4,rfl,HH,HZ,HW,HRL,HRR⟩:=hcut
  have hlo:w.heap.size+1<b11:=by have:=(Array.getElem?_eq_some_iff.1 HX8.out).1;have:=HZ4.out;have:=HLO.out;omega
  have hne:b11<b12:=by have:=(Array.getElem?_eq_some_iff.1 HX11.out).1;have:=HH.out;omega
  have HT:=Zd (TSt.mk (w:=w) (below_step HB.out HW.out) hlo hne (after_call HW.out HX7.out) (after_call HW.out HX8.out) (after_call HW.out HX11.out) HZ.out (Kd.R_below HR0.out HW.out) (Kd.R_below HR1.out HW.out) (Kd.R_below HR2'.out HW.out))
  have HRL':=Zd (Kd.R_lower HRL.out HB.out.size)
  have HRR':=Zd (Kd.R_lower HRR.out HB.out.size)
  have HKL:=Zd (Kd.R_reads' HRL.out)
  have HKR:=Zd (Kd.R_reads' HRR.out)
  clear hlo hne HH HZ HW HRL HRR HX11 HX7 HX8 HR0 HR1 HR2' HB HZ4 HLO HC1 hS4 p0 p1 p2 p4
  have p0:=(blk_cell HT.out.x11 0).trans (rfl:_=some (Value.slice A0 B.length c0))
  have p1:=(blk_cell HT.out.x11 1).trans (rfl:_=some (Value.slice A1 L.length c1))
  have p2:=(blk_cell HT.out.x11 2).trans (rfl:_=some (Value.slice A2 R.length c2))
  have e1':=(blk_cell HT.out.x12 1).trans (rfl:_=some (Value.slice A3 lp.length c3))
  have e2':=(blk_cell HT.out.x12 2).trans (rfl:_=some (Value.slice A4 rp.length c4))
  go_upto_region 7 with (first|(go_at_call 43;(with_reducible refine (chunk_Of.calls k _ _ _ A3 c3 lp A4 c4 rp cs e1 _ HKL.out.2.2 HKL.out.2.1 HKR.out.2.2 HKR.out.2.1 HOF.out).mono ?_);rintro e w8 ⟨v,rfl,hr,hb⟩;obtain⟨A5,c5,rfl⟩:=Kd.R_slice hr;have HT8:=Zd (HT.out.call hb);have HRL8:=Zd (Kd.R_below HRL'.out hb);have HRR8:=Zd (Kd.R_below HRR'.out hb);have HRC8:=Zd (Kd.R_lower hr HT.out.bel.size);clear hr hb HT HRL' HRR' HKL HKR p0 p1 p2 e1' e2';have e3:=(blk_cell HT8.out.x12 3).trans (rfl:_=some (Value.slice none 0 0));have f3:=Lib.frozen_of_heap HT8.out.x12 3))
  have HT9:=Zd (HT8.out.set 3 (.slice A5 cs.length c5) _ rfl)
  have HRL9:=Zd (Kd.R_set HRL8.out HT8.out.x12 (by decide) 3 (.slice A5 cs.length c5))
  have HRR9:=Zd (Kd.R_set HRR8.out HT8.out.x12 (by decide) 3 (.slice A5 cs.length c5))
  have HRC9:=Zd (Kd.R_set HRC8.out HT8.out.x12 (by decide) 3 (.slice A5 cs.length c5))
  clear HT8 HRL8 HRR8 HRC8 e3 f3
  generalize (w8.setCell ⟨b12,3,none⟩ (.slice A5 cs.length c5))=w9 at *
  have p0:=(blk_cell HT9.out.x11 0).trans (rfl:_=some (Value.slice A0 B.length c0))
  have p1:=(blk_cell HT9.out.x11 1).trans (rfl:_=some (Value.slice A1 L.length c1))
  have p2:=(blk_cell HT9.out.x11 2).trans (rfl:_=some (Value.slice A2 R.length c2))
  have m0:=(blk_cell HT9.out.x7 0).trans (rfl:_=some (Value.string g0))
  have m1:=(blk_cell HT9.out.x7 1).trans (rfl:_=some (Value.string g1))
  have m2:=(blk_cell HT9.out.x7 2).trans (rfl:_=some (Value.string g2))
  have m3:=(blk_cell HT9.out.x7 3).trans (rfl:_=some (Value.int .i64 st))
  have m5:=(blk_cell HT9.out.x7 5).trans (rfl:_=some (Value.int .i64 fv))
  have e3:=(blk_cell HT9.out.x12 3).trans (rfl:_=some (Value.slice A5 cs.length c5))
  go_upto_region 8 with (first|(go_at_call 44;(with_reducible refine (build_Doc.calls k A0 c0 B A1 c1 L A2 c2 R A5 c5 cs st g0 g1 g2 fv d e2 _ (Kd.R_reads' HT9.out.r0).2.2 (Kd.R_reads' HT9.out.r0).2.1 (Kd.R_reads' HT9.out.r1).2.2 (Kd.R_reads' HT9.out.r1).2.1 (Kd.R_reads' HT9.out.r2).2.2 (Kd.R_reads' HT9.out.r2).2.1 (Kd.R_reads' HRC9.out).2.2 (Kd.R_reads' HRC9.out).2.1 HD.out).mono ?_);rintro e w10 ⟨v,rfl,hr,hb⟩;obtain⟨A6,c6,rfl⟩:=Kd.R_slice hr;have HT10:=Zd (HT9.out.call hb);have HRL10:=Zd (Kd.R_below HRL9.out hb);have HRR10:=Zd (Kd.R_below HRR9.out hb);have HRC10:=Zd (Kd.R_below HRC9.out hb);have HRD10:=Zd (Kd.R_lower hr HT9.out.bel.size);clear hr hb HT9 HRL9 HRR9 HRC9 p0 p1 p2 m0 m1 m2 m3 m5 e3;have e0:=(blk_cell HT10.out.x12 0).trans (rfl:_=some (Value.slice none 0 0));have f0:=Lib.frozen_of_heap HT10.out.x12 0))
  have HT11:=Zd (HT10.out.set 0 (.slice A6 d.length c6) _ rfl)
  have HRL11:=Zd (Kd.R_set HRL10.out HT10.out.x12 (by decide) 0 (.slice A6 d.length c6))
  have HRR11:=Zd (Kd.R_set HRR10.out HT10.out.x12 (by decide) 0 (.slice A6 d.length c6))
  have HRC11:=Zd (Kd.R_set HRC10.out HT10.out.x12 (by decide) 0 (.slice A6 d.length c6))
  have HRD11:=Zd (Kd.R_set HRD10.out HT10.out.x12 (by decide) 0 (.slice A6 d.length c6))
  clear HT10 HRL10 HRR10 HRC10 HRD10 e0 f0
  generalize (w10.setCell ⟨b12,0,none⟩ (.slice A6 d.length c6))=w11 at *
  have e0:=(blk_cell HT11.out.x12 0).trans (rfl:_=some (Value.slice A6 d.length c6))
  have e5:=(blk_cell HT11.out.x12 5).trans (rfl:_=some (Value.int .i64 W6))
  go_upto_region 9 with (first|(go_at_call 34;(with_reducible refine (mark_Print.calls k A6 c6 d W6 t e3 _ (Kd.R_reads' HRD11.out).2.2 (Kd.R_reads' HRD11.out).2.1 HP.out).mono ?_);rintro e w12 ⟨rfl,hb⟩;have HT12:=Zd (HT11.out.call hb);have HRL12:=Zd (Kd.R_below HRL11.out hb);have HRR12:=Zd (Kd.R_below HRR11.out hb);have HRC12:=Zd (Kd.R_below HRC11.out hb);have HRD12:=Zd (Kd.R_below HRD11.out hb);clear hb HT11 HRL11 HRR11 HRC11 HRD11 e0 e5;have e4:=(blk_cell HT12.out.x12 4).trans (rfl:_=some (Value.string (⟨#[]⟩:ByteArray)));have f4:=Lib.frozen_of_heap HT12.out.x12 4))
  have HT13:=Zd (HT12.out.set 4 (.string t) _ rfl)
  have HRL13:=Zd (Kd.R_set HRL12.out HT12.out.x12 (by decide) 4 (.string t))
  have HRR13:=Zd (Kd.R_set HRR12.out HT12.out.x12 (by decide) 4 (.string t))
  have HRC13:=Zd (Kd.R_set HRC12.out HT12.out.x12 (by decide) 4 (.string t))
  have HRD13:=Zd (Kd.R_set HRD12.out HT12.out.x12 (by decide) 4 (.string t))
  clear HT12 HRL12 HRR12 HRC12 HRD12 e4 f4
  generalize (w12.setCell ⟨b12,4,none⟩ (.string t))=w13 at *
  have p0:=(blk_cell HT13.out.x11 0).trans (rfl:_=some (Value.slice A0 B.length c0))
  have p1:=(blk_cell HT13.out.x11 1).trans (rfl:_=some (Value.slice A1 L.length c1))
  have p2:=(blk_cell HT13.out.x11 2).trans (rfl:_=some (Value.slice A2 R.length c2))
  have e3:=(blk_cell HT13.out.x12 3).trans (rfl:_=some (Value.slice A5 cs.length c5))
  go_upto_region 10 with (first|(go_at_call 45;(with_reducible refine (build_Count.calls k A0 c0 B A1 c1 L A2 c2 R A5 c5 cs n _ (Kd.R_reads' HT13.out.r0).2.2 (Kd.R_reads' HT13.out.r0).2.1 (Kd.R_reads' HT13.out.r1).2.2 (Kd.R_reads' HT13.out.r1).2.1 (Kd.R_reads' HT13.out.r2).2.2 (Kd.R_reads' HT13.out.r2).2.1 (Kd.R_reads' HRC13.out).2.2 (Kd.R_reads' HRC13.out).2.1 HN.out).mono ?_);rintro e w14 ⟨rfl,hb⟩;have HT14:=Zd (HT13.out.call hb);have HRL14:=Zd (Kd.R_below HRL13.out hb);have HRR14:=Zd (Kd.R_below HRR13.out hb);have HRC14:=Zd (Kd.R_below HRC13.out hb);have HRD14:=Zd (Kd.R_below HRD13.out hb);clear hb HT13 HRL13 HRR13 HRC13 HRD13 p0 p1 p2 e3;have e6:=(blk_cell HT14.out.x12 6).trans (rfl:_=some (Value.int .i64 0));have f6:=Lib.frozen_of_heap HT14.out.x12 6))
  have HT15:=Zd (HT14.out.set 6 (.int .i64 n) _ rfl)
  have HRL15:=Zd (Kd.R_set HRL14.out HT14.out.x12 (by decide) 6 (.int .i64 n))
  have HRR15:=Zd (Kd.R_set HRR14.out HT14.out.x12 (by decide) 6 (.int .i64 n))
  have HRC15:=Zd (Kd.R_set HRC14.out HT14.out.x12 (by decide) 6 (.int .i64 n))
  have HRD15:=Zd (Kd.R_set HRD14.out HT14.out.x12 (by decide) 6 (.int .i64 n))
  clear HT14 HRL14 HRR14 HRC14 HRD14 e6 f6
  generalize (w14.setCell ⟨b12,6,none⟩ (.int .i64 n))=w15 at *
  have e0:=(blk_cell HT15.out.x12 0).trans (rfl:_=some (Value.slice A6 d.length c6))
  have e1:=(blk_cell HT15.out.x12 1).trans (rfl:_=some (Value.slice A3 lp.length c3))
  have e2:=(blk_cell HT15.out.x12 2).trans (rfl:_=some (Value.slice A4 rp.length c4))
  have e3:=(blk_cell HT15.out.x12 3).trans (rfl:_=some (Value.slice A5 cs.length c5))
  have e4:=(blk_cell HT15.out.x12 4).trans (rfl:_=some (Value.string t))
  have e5:=(blk_cell HT15.out.x12 5).trans (rfl:_=some (Value.int .i64 W6))
  have e6:=(blk_cell HT15.out.x12 6).trans (rfl:_=some (Value.int .i64 n))
  obtain⟨i0,i1,i2,i3,i4,i5,i6,j0,j1,j2,j3,j4,j5,j6⟩:=zero7 HT15.out.x8
  go_wp2
  refine bodyPost_ret (results_ct rfl _ _ (w.heap.size+1) 38 #[.slice A6 d.length c6,.slice A3 lp.length c3,.slice A4 rp.length c4,.slice A5 cs.length c5,.string t,.int .i64 W6,.int .i64 n] (0,0) _ rfl (block_set7 HT15.out.x8 _ _ _ _ _ _ _) Tryz.underlying38 rfl (by kernel_rfl)) rfl ?_
  exact⟨_,_,_,_,rfl,R_set7 HRD15.out HT15.out.x8 (by decide) _ _ _ _ _ _ _,R_set7 HRL15.out HT15.out.x8 (by decide) _ _ _ _ _ _ _,R_set7 HRR15.out HT15.out.x8 (by decide) _ _ _ _ _ _ _,R_set7 HRC15.out HT15.out.x8 (by decide) _ _ _ _ _ _ _,below_set7 HT15.out.bel (by omega) _ _ _ _ _ _ _⟩
def textsF (k : Nat) (a0 a1 a2 g0 g1 g2 : ByteArray) (st wd fv : Int) : Option (List PP×List SP×List SP×List SC×ByteArray×Int×Int×Int) :=
 if a0.size≤1000000000000∧a1.size≤1000000000000∧a2.size≤1000000000000 then
  (merge_Options_wrong.f k g0 g1 g2 st wd fv ((a0.size:Int)+a1.size+a2.size)).bind fun ec=>if ec=0 then
   (lines_Split.f a0).bind fun B=>(lines_Split.f a1).bind fun L=>(lines_Split.f a2).bind fun R=>(merge_match.f B L).bind fun lp=>(merge_match.f B R).bind fun rp=>(doc_Width.f k wd [a0,a1,a2]).bind fun W6 =>
    (chunk_Of.f k (B.length:Int) (L.length:Int) (R.length:Int) lp rp).bind fun cs=>(build_Doc.f k B L R cs.1 st g0 g1 g2 fv).bind fun d=>(mark_Print.f k d.1 W6).bind fun t=>(build_Count.f k B L R cs.1).bind fun n=>some (d.1,lp,rp,cs.1,t.1,W6,n,0)
  else some ([],[],[],[],⟨#[]⟩,0,0,ec)
 else none
theorem texts_mono : ∀ a0 a1 a2 g0 g1 g2 st wd fv k,LeO (textsF k a0 a1 a2 g0 g1 g2 st wd fv) (textsF (k+1) a0 a1 a2 g0 g1 g2 st wd fv) := fun a0 a1 a2 g0 g1 g2 st wd fv k=>by
 unfold textsF
 exact LeO.ite (LeO.bind (merge_Options_wrong.mono _ _ _ _ _ _ _ k) (fun ec=>LeO.ite (LeO.bind (LeO.refl _) (fun B=>LeO.bind (LeO.refl _) (fun L=>LeO.bind (LeO.refl _) (fun R=>LeO.bind (LeO.refl _) (fun lp=>LeO.bind (LeO.refl _) (fun rp=>LeO.bind (doc_Width.mono _ _ k) (fun W6 =>
  LeO.bind (chunk_Of.mono _ _ _ _ _ k) (fun cs=>LeO.bind (build_Doc.mono _ _ _ _ _ _ _ _ _ k) (fun d=>LeO.bind (mark_Print.mono _ _ k) (fun t=>LeO.bind (build_Count.mono _ _ _ _ k) (fun n=>LeO.refl _))))))))))) (LeO.refl _))) (LeO.refl _)
theorem texts_calls (k : Nat) (a0 a1 a2 g0 g1 g2 : ByteArray) (st wd fv : Int) (r1 : List PP) (r2 r3 : List SP) (r4 : List SC) (r5 : ByteArray) (r6 r7 r8 : Int) (w : World) (h : textsF k a0 a1 a2 g0 g1 g2 st wd fv=some (r1,r2,r3,r4,r5,r6,r7,r8)) :
  Calls Tryz.prog 11 #[.string a0,.string a1,.string a2,.agg #[.string g0,.string g1,.string g2,.int .i64 st,.int .i64 wd,.int .i64 fv]] w (Texted w r1 r2 r3 r4 r5 r6 r7 r8):=by
 unfold textsF at h
 split at h
 case isFalse=>cases h
 case isTrue hs =>
 obtain⟨ec,hec,h⟩:=Option.bind_eq_some_iff.1 h
 split at h
 ·rename_i h0
  subst h0
  obtain⟨B,hB,h⟩:=Option.bind_eq_some_iff.1 h
  obtain⟨L,hL,h⟩:=Option.bind_eq_some_iff.1 h
  obtain⟨R,hR,h⟩:=Option.bind_eq_some_iff.1 h
  obtain⟨lp,hlp,h⟩:=Option.bind_eq_some_iff.1 h
  obtain⟨rp,hrp,h⟩:=Option.bind_eq_some_iff.1 h
  obtain⟨W6,hW6,h⟩:=Option.bind_eq_some_iff.1 h
  obtain⟨⟨cs,e1⟩,hcs,h⟩:=Option.bind_eq_some_iff.1 h
  obtain⟨⟨d,e2⟩,hd,h⟩:=Option.bind_eq_some_iff.1 h
  obtain⟨⟨t,e3⟩,ht,h⟩:=Option.bind_eq_some_iff.1 h
  obtain⟨n,hn,h⟩:=Option.bind_eq_some_iff.1 h
  simp only [Option.some.injEq,Prod.mk.injEq] at h
  obtain⟨rfl,rfl,rfl,rfl,rfl,rfl,rfl,rfl⟩:=h
  exact texts_good k a0 a1 a2 g0 g1 g2 st wd fv W6 e1 e2 e3 n B L R lp rp cs d t w hs hec hB hL hR hlp hrp hW6 hcs hd ht hn
 ·rename_i h0
  simp only [Option.some.injEq,Prod.mk.injEq] at h
  obtain⟨rfl,rfl,rfl,rfl,rfl,rfl,rfl,rfl⟩:=h
  exact texts_bad k a0 a1 a2 g0 g1 g2 st wd fv ec w hs hec h0
end Go.Proofs.YtfiamddinkokbaaGreat.F
end

section
namespace Go.Proofs.YtfiamddinkokbaaGreat.F
open Go.RowKit Go.Proofs.YtfiamddinkokbaaGreatW.PrintWords Go.Proofs.YtfiamddinkokbaaGreatW.PrintLast Go.Proofs.YtfiamddinkokbaaGreatW.PrintMore
attribute [local go_sem] max2_int min2_int max_two min_two max_three min_three max_four min_four
def merge_Texts.f (k : Nat) (a0 : ByteArray) (a1 : ByteArray) (a2 : ByteArray) (a3_0 : ByteArray) (a3_1 : ByteArray) (a3_2 : ByteArray) (a3_3 : Int) (a3_4 : Int) (a3_5 : Int) : Option ((List S124)×(List S94)×(List S94)×(List S121)×ByteArray×Int×Int×Int) := textsF k a0 a1 a2 a3_0 a3_1 a3_2 a3_3 a3_4 a3_5
theorem merge_Texts.mono : ∀ a0 a1 a2 a3 a4 a5 a6 a7 a8 k,LeO (merge_Texts.f k a0 a1 a2 a3 a4 a5 a6 a7 a8) (merge_Texts.f (k+1) a0 a1 a2 a3 a4 a5 a6 a7 a8) := texts_mono
theorem merge_Texts.calls (k : Nat) (a0 : ByteArray) (a1 : ByteArray) (a2 : ByteArray) (a3_0 : ByteArray) (a3_1 : ByteArray) (a3_2 : ByteArray) (a3_3 : Int) (a3_4 : Int) (a3_5 : Int) (r1 : List (S124)) (r2 : List (S94)) (r3 : List (S94)) (r4 : List (S121)) (r5 : ByteArray) (r6 : Int) (r7 : Int) (r8 : Int) (w : World) (h : merge_Texts.f k a0 a1 a2 a3_0 a3_1 a3_2 a3_3 a3_4 a3_5=some (r1,r2,r3,r4,r5,r6,r7,r8)) :
  Calls Tryz.prog 11 #[.string a0,.string a1,.string a2,.agg #[.string a3_0,.string a3_1,.string a3_2,.int .i64 a3_3,.int .i64 a3_4,.int .i64 a3_5]] w fun e w'=>∃ v0_ v1_ v2_ v3_:Value,e = .returned (.tuple #[.agg #[v0_,v1_,v2_,v3_,.string r5,.int .i64 r6,.int .i64 r7],.int .i64 r8])∧Kd.R k124 124 w' w.heap.size (fun _=>True) v0_ r1∧Kd.R k94 94 w' w.heap.size (fun k_=>some k_≠(v2_:Value).ownBlock) v1_ r2∧Kd.R k94 94 w' w.heap.size (fun k_=>some k_≠(v1_:Value).ownBlock) v2_ r3∧Kd.R k121 121 w' w.heap.size (fun _=>True) v3_ r4∧Below w.heap.size w w':=by
 obtain h:=texts_calls k a0 a1 a2 a3_0 a3_1 a3_2 a3_3 a3_4 a3_5 r1 r2 r3 r4 r5 r6 r7 r8 w h
 refine h.mono ?_
 rintro e w' ⟨v0,v1,v2,v3,rfl,h0,h1,h2,h3,hb⟩
 exact⟨v0,v1,v2,v3,rfl,h0,h1,h2,h3,hb⟩
def merge_Default.f  : Option (ByteArray×ByteArray×ByteArray×Int×Int×Int) := some ((⟨#[]⟩ : ByteArray),(⟨#[]⟩ : ByteArray),(⟨#[]⟩ : ByteArray),0,7,0)
set_option maxHeartbeats 8000000 in
set_option maxRecDepth 100000 in
theorem merge_Default.calls  (r1 : ByteArray) (r2 : ByteArray) (r3 : ByteArray) (r4 : Int) (r5 : Int) (r6 : Int) (w : World) (h : merge_Default.f  = some (r1,r2,r3,r4,r5,r6)) :
  Calls Tryz.prog 37 #[] w fun e w'=>e = .returned (.agg #[.string r1,.string r2,.string r3,.int .i64 r4,.int .i64 r5,.int .i64 r6])∧Below w.heap.size w w':=by
 have hu31:=Tryz.underlying31
 have HB:=Zd (Below.refl w.heap.size w)
 have H:(some ((⟨#[]⟩:ByteArray),(⟨#[]⟩:ByteArray),(⟨#[]⟩:ByteArray),0,7,0))=some (r1,r2,r3,r4,r5,r6):=h
 clear h
 simp only [Option.some.injEq,Prod.mk.injEq] at H
 obtain⟨rfl,rfl,rfl,rfl,rfl,rfl⟩:=H
 go_enter Tryz.func37,Tryz.ntmps37
 go_wp2_with (first|((with_reducible refine gate_dst (N:=0) rfl ?_);refine box_event ?hg (N:=0) ?hd (cs:=#[.string (⟨#[]⟩:ByteArray),.string (⟨#[]⟩:ByteArray),.string (⟨#[]⟩:ByteArray),.int .i64 0,.int .i64 0,.int .i64 0]) (t:=31) ?hr ?_;(case hd=>rfl);(case hg=>rfl);(case hr=>first|(go_simp;done)|(go_simp;rfl));intro gb199 hg w1 hbox hb;have n0_:=Zd (below_step Zb hb);have n1_:=Zd (hbox);have n2_:=Zd ((Zg hg:w.heap.size≤gb199));have n3_:=Zd ((Zg hg:w.heap.size≤gb199));clear HB;have HB:=n0_;have BK199:=n1_;have GW199:=n2_;have GE199:=n3_;clear n0_ n1_ n2_ n3_;clear hb hbox hg;obtain⟨hcz2_0,hcz2_1,hcz2_2,hcz2_3,hcz2_4,hcz2_5,hfz2_0,hfz2_1,hfz2_2,hfz2_3,hfz2_4,hfz2_5⟩:=Zc6 BK199.out))
 refine bodyPost_ret (results_cell_row rfl _ _ gb199 31 #[.string (⟨#[]⟩:ByteArray),.string (⟨#[]⟩:ByteArray),.string (⟨#[]⟩:ByteArray),.int .i64 0,.int .i64 7,.int .i64 0] (0,0) _ rfl (by refine Zk ?_;refine blk_put (cs:=#[.string (⟨#[]⟩:ByteArray),.string (⟨#[]⟩:ByteArray),.string (⟨#[]⟩:ByteArray),.int .i64 0,.int .i64 7,.int .i64 0]) ?_ 5 _ rfl;refine Zk ?_;refine blk_put (cs:=#[.string (⟨#[]⟩:ByteArray),.string (⟨#[]⟩:ByteArray),.string (⟨#[]⟩:ByteArray),.int .i64 0,.int .i64 0,.int .i64 0]) ?_ 4 _ rfl;refine Zk ?_;refine blk_put (cs:=#[.string (⟨#[]⟩:ByteArray),.string (⟨#[]⟩:ByteArray),.string (⟨#[]⟩:ByteArray),.int .i64 0,.int .i64 0,.int .i64 0]) ?_ 3 _ rfl;refine Zk ?_;refine blk_put (cs:=#[.string (⟨#[]⟩:ByteArray),.string (⟨#[]⟩:ByteArray),.string (⟨#[]⟩:ByteArray),.int .i64 0,.int .i64 0,.int .i64 0]) ?_ 2 _ rfl;refine Zk ?_;refine blk_put (cs:=#[.string (⟨#[]⟩:ByteArray),.string (⟨#[]⟩:ByteArray),.string (⟨#[]⟩:ByteArray),.int .i64 0,.int .i64 0,.int .i64 0]) ?_ 1 _ rfl;refine Zk ?_;refine blk_put (cs:=#[.string (⟨#[]⟩:ByteArray),.string (⟨#[]⟩:ByteArray),.string (⟨#[]⟩:ByteArray),.int .i64 0,.int .i64 0,.int .i64 0]) ?_ 0 _ rfl;refine Zk ?_;exact BK199.out) Tryz.underlying31 rfl (by kernel_rfl)) rfl ?_
 exact⟨by first|rfl|(simp [errW_none,errW_some]<;>rfl)|(simp [*,errW_none,errW_some]<;>rfl),by repeat (first|(with_reducible first|exact HB.out|apply below_alloc|apply pw_below_drewN|apply below_drew1|refine below_set ?_ GE199.out)|exact HB.out)⟩

def doc_Doc_Conflicts.l0 : Nat→Int→List (S124)→Int→Int→Option (Int)
 | 0,_,_,_,_=>none
 | k+1,x3,x6,x7,x8=>if x8<x7 then (if 0≤x8 then (if x8<(x6.length:Int) then (if (rd_T124 x6 x8).f1=true then (doc_Doc_Conflicts.l0 k (wrap64 (x3+1)) x6 x7 (wrap64 (x8+1))) else (doc_Doc_Conflicts.l0 k x3 x6 x7 (wrap64 (x8+1)))) else (none)) else (none)) else (some x3)
def doc_Doc_Conflicts.f (k : Nat) (l0 : List (S124)) : Option (Int) := doc_Doc_Conflicts.l0 k 0 l0 (l0.length : Int) 0
theorem doc_Doc_Conflicts.mono_l : ∀ k,(∀ y0 y1 y2 y3,LeO (doc_Doc_Conflicts.l0 k y0 y1 y2 y3) (doc_Doc_Conflicts.l0 (k+1) y0 y1 y2 y3))
 | 0=>fun _ _ _ _ r h=>by simp [doc_Doc_Conflicts.l0] at h
 | k+1=>by
  have ih0:=doc_Doc_Conflicts.mono_l k
  ·intro y0 y1 y2 y3
   unfold doc_Doc_Conflicts.l0
   repeat' first
   | (with_reducible exact ih0 _ _ _ _)
   | (with_reducible exact LeO.refl _)
   | (with_reducible exact LeO.none _)
   | (with_reducible refine LeO.ite ?_ ?_)
   | (with_reducible refine LeO.bind ?_ (fun _=>?_))
   | exact ih0 _ _ _ _
   | exact LeO.none _
   | refine LeO.ite ?_ ?_
   | refine LeO.bind ?_ (fun _=>?_)
theorem doc_Doc_Conflicts.mono : ∀ a0 k,LeO (doc_Doc_Conflicts.f k a0) (doc_Doc_Conflicts.f (k+1) a0) := by
 intro a0 k
 have ih0:=doc_Doc_Conflicts.mono_l k
 unfold doc_Doc_Conflicts.f
 repeat' first
   | (with_reducible exact ih0 _ _ _ _)
   | (with_reducible exact LeO.refl _)
   | (with_reducible exact LeO.none _)
   | (with_reducible refine LeO.ite ?_ ?_)
   | (with_reducible refine LeO.bind ?_ (fun _=>?_))
   | exact ih0 _ _ _ _
   | exact LeO.none _
   | refine LeO.ite ?_ ?_
   | refine LeO.bind ?_ (fun _=>?_)
set_option maxHeartbeats 8000000 in
set_option maxRecDepth 100000 in
theorem doc_Doc_Conflicts.calls (k : Nat) (A0 : Option Addr) (c0 : Nat) (l0 : List (S124)) (r : Int) (w : World) (hr0 : Kd.C k124 w A0 l0.length l0) (hc0 : l0.length≤c0) (h : doc_Doc_Conflicts.f k l0=some r) :
  Calls Tryz.prog 36 #[.slice A0 l0.length c0] w fun e w'=>e = .returned (.int .i64 r)∧Below w.heap.size w w':=by
 have hu124:=Tryz.underlying124
 have HR0:=Zd hr0
 have HC0:=Zd hc0
 clear hr0 hc0
 have HB:=Zd (Below.refl w.heap.size w)
 have H:(doc_Doc_Conflicts.l0 k 0 l0 (l0.length:Int) 0)=some r:=h
 clear h
 have H':=Zd H
 clear H
 go_enter Tryz.func36,Tryz.ntmps36
 go_wp2
 go_loopg [3,8] k (fun kq v3 v8 w'=>∃ (x3_1:Int) (x8_1:Int),v3 = .int .i64 x3_1∧v8 = .int .i64 x8_1∧Aside0 (doc_Doc_Conflicts.l0 kq x3_1 l0 (l0.length:Int) x8_1=some r)∧Aside0 (kq≤k)∧Aside0 (Below w.heap.size w w'))
 case atStart=>exact⟨(0),(0),(by first|rfl|(simp;done)|(simp [*];done)),(by first|rfl|(simp;done)|(simp [*];done)),H',⟨Nat.le_refl _⟩,⟨by repeat (first|(with_reducible first|exact HB.out|apply below_alloc|apply pw_below_drewN|apply below_drew1)|exact HB.out)⟩⟩
 case round =>
  clear H'
  obtain⟨x3_1,x8_1,rfl,rfl,HA,HK1,HB⟩:=hrel
  cases gk with
  | zero=>exact absurd HA.out (by simp [doc_Doc_Conflicts.l0])
  | succ k1 =>
   have H:=HA.out
   clear HA
   simp only [doc_Doc_Conflicts.l0] at H
   by_cases c2:x8_1<(l0.length:Int)
   ·rw [if_pos c2] at H
    have c2b0:decide (x8_1<(l0.length:Int))=true:=decide_eq_true c2
    clear c2
    by_cases c3:0≤x8_1
    ·rw [if_pos c3] at H
     have c3b0:decide (0≤x8_1)=true:=decide_eq_true c3
     clear c3
     by_cases c4:x8_1<(l0.length:Int)
     ·rw [if_pos c4] at H
      have c4b0:decide (x8_1<(l0.length:Int))=true:=decide_eq_true c4
      clear c4
      obtain⟨bq5,hbq5⟩:∃ b_:Bool,b_=((rd_T124 l0 x8_1).f1):=⟨_,rfl⟩
      replace H:(if bq5=true then (doc_Doc_Conflicts.l0 k1 (wrap64 (x3_1+1)) l0 (l0.length:Int) (wrap64 (x8_1+1))) else (doc_Doc_Conflicts.l0 k1 x3_1 l0 (l0.length:Int) (wrap64 (x8_1+1))))=some r:=by rw [←hbq5] at H;exact H
      have Nbq5:=Zd hbq5
      clear hbq5
      by_cases c6:bq5=true
      ·subst c6
       have H1:(doc_Doc_Conflicts.l0 k1 (wrap64 (x3_1+1)) l0 (l0.length:Int) (wrap64 (x8_1+1)))=some r:=by rw [if_pos rfl] at H;exact H
       clear H
       have H:=H1
       clear H1
       have H':=Zd H
       clear H
       have p534:0≤(x8_1:Int):=Zo
       have q534:x8_1<(l0.length:Int):=Zo
       obtain⟨ad534,e534,hx534_0,hx534_1,hx534_2,hx534_3,hx534_4,hx534_5,hx534_6,hx534_7,hx534_8⟩:=at_T124 HR0.out x8_1 p534 q534
       (try rw [←Nbq5.out] at hx534_3)
       (try rw [←Nbq5.out] at hx534_8)
       cases e534
       replace hx534_0:=Zx HB rfl hx534_0
       replace hx534_1:=Zx HB rfl hx534_1
       replace hx534_2:=Zx HB rfl hx534_2
       replace hx534_3:=Zx HB rfl hx534_3
       replace hx534_4:=Zx HB rfl hx534_4
       replace hx534_5:=Zx HB rfl hx534_5
       replace hx534_6:=Zx HB rfl hx534_6
       replace hx534_7:=Zx HB rfl hx534_7
       replace hx534_8:=Zx HB rfl hx534_8
       replace p534:=eq_true p534
       replace q534:=eq_true q534
       go_wp2_with (first|((with_reducible refine gate_dst (N:=5) rfl ?_);refine box_event ?hg (N:=5) ?hd (cs:=#[.string (⟨#[]⟩:ByteArray),.string (⟨#[]⟩:ByteArray),.string (⟨#[]⟩:ByteArray),.bool false,.string (⟨#[]⟩:ByteArray),.string (⟨#[]⟩:ByteArray),.string (⟨#[]⟩:ByteArray),.string (⟨#[]⟩:ByteArray),.bool false]) (t:=124) ?hr ?_;(case hd=>rfl);(case hg=>rfl);(case hr=>first|(go_simp;done)|(go_simp;rfl));intro gb535 hg w7 hbox hb;have n0_:=Zd (below_step Zb hb);have n1_:=Zd (hbox);have n2_:=Zd ((Zg hg:w.heap.size≤gb535));have n3_:=Zd ((Zg hg:w.heap.size≤gb535));clear HB;have HB:=n0_;have BK535:=n1_;have GW535:=n2_;have GE535:=n3_;clear n0_ n1_ n2_ n3_;clear hb hbox hg;obtain⟨hcz8_0,hcz8_1,hcz8_2,hcz8_3,hcz8_4,hcz8_5,hcz8_6,hcz8_7,hcz8_8,hfz8_0,hfz8_1,hfz8_2,hfz8_3,hfz8_4,hfz8_5,hfz8_6,hfz8_7,hfz8_8⟩:=Zc9 BK535.out))
       go_roundg k1
       case measure=>have:=HK1.out;omega
       case rel=>exact⟨(wrap64 (x3_1+1)),(wrap64 (x8_1+1)),(by first|rfl|(simp;done)|(simp [*];done)),(by first|rfl|(simp;done)|(simp [*];done)),H',⟨by have:=HK1.out;omega⟩,⟨by repeat (first|(with_reducible first|exact HB.out|apply below_alloc|apply pw_below_drewN|apply below_drew1|refine below_set ?_ GE535.out)|exact HB.out)⟩⟩
      ·replace c6:=Bool.eq_false_iff.mpr c6
       subst c6
       have H1:(doc_Doc_Conflicts.l0 k1 x3_1 l0 (l0.length:Int) (wrap64 (x8_1+1)))=some r:=by rw [if_neg (show ¬ (false=true) by decide)] at H;exact H
       clear H
       have H:=H1
       clear H1
       have H':=Zd H
       clear H
       have p534:0≤(x8_1:Int):=Zo
       have q534:x8_1<(l0.length:Int):=Zo
       obtain⟨ad534,e534,hx534_0,hx534_1,hx534_2,hx534_3,hx534_4,hx534_5,hx534_6,hx534_7,hx534_8⟩:=at_T124 HR0.out x8_1 p534 q534
       (try rw [←Nbq5.out] at hx534_3)
       (try rw [←Nbq5.out] at hx534_8)
       cases e534
       replace hx534_0:=Zx HB rfl hx534_0
       replace hx534_1:=Zx HB rfl hx534_1
       replace hx534_2:=Zx HB rfl hx534_2
       replace hx534_3:=Zx HB rfl hx534_3
       replace hx534_4:=Zx HB rfl hx534_4
       replace hx534_5:=Zx HB rfl hx534_5
       replace hx534_6:=Zx HB rfl hx534_6
       replace hx534_7:=Zx HB rfl hx534_7
       replace hx534_8:=Zx HB rfl hx534_8
       replace p534:=eq_true p534
       replace q534:=eq_true q534
       go_wp2_with (first|((with_reducible refine gate_dst (N:=5) rfl ?_);refine box_event ?hg (N:=5) ?hd (cs:=#[.string (⟨#[]⟩:ByteArray),.string (⟨#[]⟩:ByteArray),.string (⟨#[]⟩:ByteArray),.bool false,.string (⟨#[]⟩:ByteArray),.string (⟨#[]⟩:ByteArray),.string (⟨#[]⟩:ByteArray),.string (⟨#[]⟩:ByteArray),.bool false]) (t:=124) ?hr ?_;(case hd=>rfl);(case hg=>rfl);(case hr=>first|(go_simp;done)|(go_simp;rfl));intro gb535 hg w9 hbox hb;have n0_:=Zd (below_step Zb hb);have n1_:=Zd (hbox);have n2_:=Zd ((Zg hg:w.heap.size≤gb535));have n3_:=Zd ((Zg hg:w.heap.size≤gb535));clear HB;have HB:=n0_;have BK535:=n1_;have GW535:=n2_;have GE535:=n3_;clear n0_ n1_ n2_ n3_;clear hb hbox hg;obtain⟨hcz10_0,hcz10_1,hcz10_2,hcz10_3,hcz10_4,hcz10_5,hcz10_6,hcz10_7,hcz10_8,hfz10_0,hfz10_1,hfz10_2,hfz10_3,hfz10_4,hfz10_5,hfz10_6,hfz10_7,hfz10_8⟩:=Zc9 BK535.out))
       go_roundg k1
       case measure=>have:=HK1.out;omega
       case rel=>exact⟨(x3_1),(wrap64 (x8_1+1)),(by first|rfl|(simp;done)|(simp [*];done)),(by first|rfl|(simp;done)|(simp [*];done)),H',⟨by have:=HK1.out;omega⟩,⟨by repeat (first|(with_reducible first|exact HB.out|apply below_alloc|apply pw_below_drewN|apply below_drew1|refine below_set ?_ GE535.out)|exact HB.out)⟩⟩
     ·rw [if_neg c4] at H
      exact absurd H (by simp)
    ·rw [if_neg c3] at H
     exact absurd H (by simp)
   ·rw [if_neg c2] at H
    have c2b0:decide (x8_1<(l0.length:Int))=false:=decide_eq_false c2
    clear c2
    obtain rfl:=Option.some.inj H
    go_wp2
    go_ret
    exact⟨by first|rfl|(simp [errW_none,errW_some]<;>rfl)|(simp [*,errW_none,errW_some]<;>rfl),by repeat (first|(with_reducible first|exact HB.out|apply below_alloc|apply pw_below_drewN|apply below_drew1)|exact HB.out)⟩
end Go.Proofs.YtfiamddinkokbaaGreat.F
end

section
namespace Go.Proofs.YtfiamddinkokbaaGreat.F
open Go.RowKit Go.Shelf Go.Proofs.YtfiamddinkokbaaGreatW.PrintWords

end Go.Proofs.YtfiamddinkokbaaGreat.F
end

section
namespace Go.Proofs.YtfiamddinkokbaaGreat.F
open Go.RowKit Go.Proofs.YtfiamddinkokbaaGreatW.PrintWords Go.Proofs.YtfiamddinkokbaaGreatW.PrintLast Go.Proofs.YtfiamddinkokbaaGreatW.PrintMore
attribute [local go_sem] max2_int min2_int max_two min_two max_three min_three max_four min_four

end Go.Proofs.YtfiamddinkokbaaGreat.F
end
