/- Texts joined into one file (wip/tools/pack.py): Fn66, PureMark, Fn90, Fn50, Fn95, Fn61, PureMark2, Print -/
import Derived.Test.YtfiamddinkokbaaGreatTB2
import Derived.Test.YtfiamddinkokbaaGreatTB1
import Derived.Test.YtfiamddinkokbaaGreatTB8
import Derived.Test.YtfiamddinkokbaaGreatTB5
import Derived.Deep.RegionHeld3
set_option linter.unusedVariables false
set_option linter.unusedSimpArgs false
section
namespace Go.Proofs.YtfiamddinkokbaaGreat.F
open Go.RowKit Go.Proofs.YtfiamddinkokbaaGreatW.PrintWords Go.Proofs.YtfiamddinkokbaaGreatW.PrintLast Go.Proofs.YtfiamddinkokbaaGreatW.PrintMore
attribute [local go_sem] max2_int min2_int max_two min_two max_three min_three max_four min_four
def mark_Read.j0 : Nat→ByteArray→Int→Int→Bool→ByteArray→Option (Int×Bool×ByteArray×Bool×Int)
 | 0,_,_,_,_,_=>none
 | k+1,x0,x1,x657000,x657001,x657002=>(mark_Marker_may.f x657000 x657001 x657002).bind fun t662=>(if t662=true then ((mark_Marker_line.f x657000 x657001 x657002 x1).bind fun t663=>(if t663.toList=x0.toList then (some (x657000,x657001,x657002,true,0)) else (some (0,false,(⟨#[]⟩:ByteArray),false,6)))) else (some (0,false,(⟨#[]⟩:ByteArray),false,6)))
def mark_Read.f (k : Nat) (a0 : ByteArray) (a1 : Int) : Option (Int×Bool×ByteArray×Bool×Int) := (mark_wide.f a1).bind fun t654=>(if t654=true then ((lines_Run.f a0).bind fun t655=>(if t655<a1 then (some (0,false,(⟨#[]⟩ : ByteArray),false,0)) else (if 0<(a0.size : Int) then (if 0≤a1 then (if a1≤(a0.size : Int) then ((strings_CutPrefix.f (a0.extract (a1 : Int).toNat a0.size) (⟨#[33]⟩ : ByteArray)).bind fun bt657=>((strings_TrimSuffix.f bt657.1 (⟨#[10]⟩ : ByteArray)).bind fun t659=>((strings_CutPrefix.f t659 (⟨#[32]⟩ : ByteArray)).bind fun bt660=>(if bt660.2=true then (mark_Read.j0 k a0 a1 (bt a0 0) bt657.2 bt660.1) else (mark_Read.j0 k a0 a1 (bt a0 0) bt657.2 (⟨#[]⟩ : ByteArray)))))) else (none)) else (none)) else (none)))) else (some (0,false,(⟨#[]⟩ : ByteArray),false,4)))
theorem mark_Read.mono_l : ∀ k,(∀ y0 y1 y2 y3 y4,LeO (mark_Read.j0 k y0 y1 y2 y3 y4) (mark_Read.j0 (k+1) y0 y1 y2 y3 y4))
 | 0=>fun _ _ _ _ _ r h=>by simp [mark_Read.j0] at h
 | k+1=>by
  have ih0:=mark_Read.mono_l k
  ·intro y0 y1 y2 y3 y4
   unfold mark_Read.j0
   repeat' first
   | (with_reducible exact ih0 _ _ _ _ _)
   | (with_reducible exact LeO.refl _)
   | (with_reducible exact LeO.none _)
   | (with_reducible refine LeO.ite ?_ ?_)
   | (with_reducible refine LeO.bind ?_ (fun _=>?_))
   | exact ih0 _ _ _ _ _
   | exact LeO.none _
   | refine LeO.ite ?_ ?_
   | refine LeO.bind ?_ (fun _=>?_)
theorem mark_Read.mono : ∀ a0 a1 k,LeO (mark_Read.f k a0 a1) (mark_Read.f (k+1) a0 a1) := by
 intro a0 a1 k
 have ih0:=mark_Read.mono_l k
 unfold mark_Read.f
 repeat' first
   | (with_reducible exact ih0 _ _ _ _ _)
   | (with_reducible exact LeO.refl _)
   | (with_reducible exact LeO.none _)
   | (with_reducible refine LeO.ite ?_ ?_)
   | (with_reducible refine LeO.bind ?_ (fun _=>?_))
   | exact ih0 _ _ _ _ _
   | exact LeO.none _
   | refine LeO.ite ?_ ?_
   | refine LeO.bind ?_ (fun _=>?_)
set_option maxHeartbeats 8000000 in
set_option maxRecDepth 100000 in
theorem mark_Read.calls (k : Nat) (a0 : ByteArray) (a1 : Int) (r1 : Int) (r2 : Bool) (r3 : ByteArray) (r4 : Bool) (r5 : Int) (w : World) (h : mark_Read.f k a0 a1=some (r1,r2,r3,r4,r5)) :
  Calls Tryz.prog 66 #[.string a0,.int .i64 a1] w fun e w'=>e = .returned (.tuple #[.agg #[.int .u8 r1,.bool r2,.string r3],.bool r4,.int .i64 r5])∧Below w.heap.size w w':=by
 have hu134:=Tryz.underlying134
 have HB:=Zd (Below.refl w.heap.size w)
 have H:((mark_wide.f a1).bind fun t654=>(if t654=true then ((lines_Run.f a0).bind fun t655=>(if t655<a1 then (some (0,false,(⟨#[]⟩:ByteArray),false,0)) else (if 0<(a0.size:Int) then (if 0≤a1 then (if a1≤(a0.size:Int) then ((strings_CutPrefix.f (a0.extract (a1:Int).toNat a0.size) (⟨#[33]⟩:ByteArray)).bind fun bt657=>((strings_TrimSuffix.f bt657.1 (⟨#[10]⟩:ByteArray)).bind fun t659=>((strings_CutPrefix.f t659 (⟨#[32]⟩:ByteArray)).bind fun bt660=>(if bt660.2=true then (mark_Read.j0 k a0 a1 (bt a0 0) bt657.2 bt660.1) else (mark_Read.j0 k a0 a1 (bt a0 0) bt657.2 (⟨#[]⟩:ByteArray)))))) else (none)) else (none)) else (none)))) else (some (0,false,(⟨#[]⟩:ByteArray),false,4))))=some (r1,r2,r3,r4,r5):=h
 clear h
 replace H:=Option.bind_eq_some_iff.mp H
 obtain⟨t654,A30,H⟩:=H
 replace H:(if t654=true then ((lines_Run.f a0).bind fun t655=>(if t655<a1 then (some (0,false,(⟨#[]⟩:ByteArray),false,0)) else (if 0<(a0.size:Int) then (if 0≤a1 then (if a1≤(a0.size:Int) then ((strings_CutPrefix.f (a0.extract (a1:Int).toNat a0.size) (⟨#[33]⟩:ByteArray)).bind fun bt657=>((strings_TrimSuffix.f bt657.1 (⟨#[10]⟩:ByteArray)).bind fun t659=>((strings_CutPrefix.f t659 (⟨#[32]⟩:ByteArray)).bind fun bt660=>(if bt660.2=true then (mark_Read.j0 k a0 a1 (bt a0 0) bt657.2 bt660.1) else (mark_Read.j0 k a0 a1 (bt a0 0) bt657.2 (⟨#[]⟩:ByteArray)))))) else (none)) else (none)) else (none)))) else (some (0,false,(⟨#[]⟩:ByteArray),false,4)))=some (r1,r2,r3,r4,r5):=H
 have A3:=Zd A30
 clear A30
 by_cases c4:t654=true
 ·subst c4
  have H1:((lines_Run.f a0).bind fun t655=>(if t655<a1 then (some (0,false,(⟨#[]⟩:ByteArray),false,0)) else (if 0<(a0.size:Int) then (if 0≤a1 then (if a1≤(a0.size:Int) then ((strings_CutPrefix.f (a0.extract (a1:Int).toNat a0.size) (⟨#[33]⟩:ByteArray)).bind fun bt657=>((strings_TrimSuffix.f bt657.1 (⟨#[10]⟩:ByteArray)).bind fun t659=>((strings_CutPrefix.f t659 (⟨#[32]⟩:ByteArray)).bind fun bt660=>(if bt660.2=true then (mark_Read.j0 k a0 a1 (bt a0 0) bt657.2 bt660.1) else (mark_Read.j0 k a0 a1 (bt a0 0) bt657.2 (⟨#[]⟩:ByteArray)))))) else (none)) else (none)) else (none))))=some (r1,r2,r3,r4,r5):=by rw [if_pos rfl] at H;exact H
  clear H
  have H:=H1
  clear H1
  replace H:=Option.bind_eq_some_iff.mp H
  obtain⟨t655,A50,H⟩:=H
  replace H:(if t655<a1 then (some (0,false,(⟨#[]⟩:ByteArray),false,0)) else (if 0<(a0.size:Int) then (if 0≤a1 then (if a1≤(a0.size:Int) then ((strings_CutPrefix.f (a0.extract (a1:Int).toNat a0.size) (⟨#[33]⟩:ByteArray)).bind fun bt657=>((strings_TrimSuffix.f bt657.1 (⟨#[10]⟩:ByteArray)).bind fun t659=>((strings_CutPrefix.f t659 (⟨#[32]⟩:ByteArray)).bind fun bt660=>(if bt660.2=true then (mark_Read.j0 k a0 a1 (bt a0 0) bt657.2 bt660.1) else (mark_Read.j0 k a0 a1 (bt a0 0) bt657.2 (⟨#[]⟩:ByteArray)))))) else (none)) else (none)) else (none)))=some (r1,r2,r3,r4,r5):=H
  have A5:=Zd A50
  clear A50
  by_cases c6:t655<a1
  ·rw [if_pos c6] at H
   have c6b0:decide (t655<a1)=true:=decide_eq_true c6
   clear c6
   simp only [Option.some.injEq,Prod.mk.injEq] at H
   obtain⟨rfl,rfl,rfl,rfl,rfl⟩:=H
   go_enter Tryz.func66,Tryz.ntmps66
   go_wp2_with (first|((with_reducible refine gate_dst (N:=4) rfl ?_);refine box_event ?hg (N:=4) ?hd (cs:=#[.int .u8 0,.bool false,.string (⟨#[]⟩:ByteArray)]) (t:=134) ?hr ?_;(case hd=>rfl);(case hg=>rfl);(case hr=>first|(go_simp;done)|(go_simp;rfl));intro gb653 hg w7 hbox hb;have n0_:=Zd (below_step Zb hb);have n1_:=Zd (hbox);have n2_:=Zd ((Zg hg:w.heap.size≤gb653));have n3_:=Zd ((Zg hg:w.heap.size≤gb653));clear HB;have HB:=n0_;have BK653:=n1_;have GW653:=n2_;have GE653:=n3_;clear n0_ n1_ n2_ n3_;clear hb hbox hg)|((with_reducible refine gate_callee (f:=74) rfl ?_);refine goesL_ (some 13) rfl rfl Tryz.func74 (by kernel_rfl) rfl #[.int .i64 a1] rfl Zl ?_;(with_reducible refine (mark_wide.calls a1 true _ A3.out).mono ?_);rintro e w' ⟨rfl,⟨nd,rfl⟩⟩;refine⟨_,rfl,?_⟩;(try (rw [drewN_self w7];generalize hq_:World.drewN w7 _=w7;have n0_:Aside0 (w7.heap[gb653]? = some (.cells #[.int .u8 0,.bool false,.string (⟨#[]⟩:ByteArray)] 134 (0,0))):=⟨by rw [←hq_];exact (Zk BK653.out)⟩;have n1_:Aside0 (Below w.heap.size w w7):=⟨by rw [←hq_];exact Zb⟩;clear BK653 HB hq_;have BK653:=n0_;have HB:=n1_;clear n0_ n1_)))|((with_reducible refine gate_callee (f:=98) rfl ?_);refine goesL_ (some 18) rfl rfl Tryz.func98 (by kernel_rfl) rfl #[.string a0] rfl Zl ?_;(with_reducible refine (lines_Run.calls a0 t655 _ A5.out).mono ?_);rintro e w8 ⟨rfl,hb⟩;refine⟨_,rfl,?_⟩;have n0_:=Zd (blk_below (g:=gb653) (o := .cells #[.int .u8 0,.bool false,.string (⟨#[]⟩:ByteArray)] 134 (0,0)) (Zk BK653.out) hb);have n1_:=Zd (below_step Zb hb);clear BK653;clear HB;have BK653:=n0_;have HB:=n1_;clear n0_ n1_;(try clear hb);(try clear hb2);(try clear hk);(try clear hi);obtain⟨hcz9_0,hcz9_1,hcz9_2,hfz9_0,hfz9_1,hfz9_2⟩:=Zc3 BK653.out))
   refine bodyPost_ret (results_ctt rfl _ _ gb653 134 #[.int .u8 0,.bool false,.string (⟨#[]⟩:ByteArray)] (0,0) _ rfl (by refine Zk ?_;refine blk_put (cs:=#[.int .u8 0,.bool false,.string (⟨#[]⟩:ByteArray)]) ?_ 2 _ rfl;refine Zk ?_;refine blk_put (cs:=#[.int .u8 0,.bool false,.string (⟨#[]⟩:ByteArray)]) ?_ 1 _ rfl;refine Zk ?_;refine blk_put (cs:=#[.int .u8 0,.bool false,.string (⟨#[]⟩:ByteArray)]) ?_ 0 _ rfl;refine Zk ?_;exact BK653.out) Tryz.underlying134 rfl (by kernel_rfl)) rfl ?_
   exact⟨by first|rfl|(simp [errW_none,errW_some]<;>rfl)|(simp [*,errW_none,errW_some]<;>rfl),by repeat (first|(with_reducible first|exact HB.out|apply below_alloc|apply pw_below_drewN|apply below_drew1|refine below_set ?_ GE653.out)|exact HB.out)⟩
  ·rw [if_neg c6] at H
   have c6b0:decide (t655<a1)=false:=decide_eq_false c6
   clear c6
   by_cases c10:0<(a0.size:Int)
   ·rw [if_pos c10] at H
    have c10b0:decide (0<(a0.size:Int))=true:=decide_eq_true c10
    have c10b1:decide (0<a0.size)=true:=decide_eq_true (by omega)
    clear c10
    by_cases c12:0≤a1
    ·rw [if_pos c12] at H
     have c12b0:=eq_true c12
     have c12b1:decide (0≤a1)=true:=decide_eq_true c12
     clear c12
     by_cases c13:a1≤(a0.size:Int)
     ·rw [if_pos c13] at H
      have c13b0:=eq_true c13
      have c13b1:decide (a1≤(a0.size:Int))=true:=decide_eq_true c13
      clear c13
      replace H:=Option.bind_eq_some_iff.mp H
      obtain⟨⟨t657,t658⟩,A140,H⟩:=H
      replace H:((strings_TrimSuffix.f t657 (⟨#[10]⟩:ByteArray)).bind fun t659=>((strings_CutPrefix.f t659 (⟨#[32]⟩:ByteArray)).bind fun bt660=>(if bt660.2=true then (mark_Read.j0 k a0 a1 (bt a0 0) t658 bt660.1) else (mark_Read.j0 k a0 a1 (bt a0 0) t658 (⟨#[]⟩:ByteArray)))))=some (r1,r2,r3,r4,r5):=H
      have A14:=Zd A140
      clear A140
      replace H:=Option.bind_eq_some_iff.mp H
      obtain⟨t659,A150,H⟩:=H
      replace H:((strings_CutPrefix.f t659 (⟨#[32]⟩:ByteArray)).bind fun bt660=>(if bt660.2=true then (mark_Read.j0 k a0 a1 (bt a0 0) t658 bt660.1) else (mark_Read.j0 k a0 a1 (bt a0 0) t658 (⟨#[]⟩:ByteArray))))=some (r1,r2,r3,r4,r5):=H
      have A15:=Zd A150
      clear A150
      replace H:=Option.bind_eq_some_iff.mp H
      obtain⟨⟨t660,t661⟩,A160,H⟩:=H
      replace H:(if t661=true then (mark_Read.j0 k a0 a1 (bt a0 0) t658 t660) else (mark_Read.j0 k a0 a1 (bt a0 0) t658 (⟨#[]⟩:ByteArray)))=some (r1,r2,r3,r4,r5):=H
      have A16:=Zd A160
      clear A160
      have HC17:=Zd H
      clear H
      go_enter Tryz.func66,Tryz.ntmps66
      go_upto_if 40 with (first|((with_reducible refine gate_dst (N:=4) rfl ?_);refine box_event ?hg (N:=4) ?hd (cs:=#[.int .u8 0,.bool false,.string (⟨#[]⟩:ByteArray)]) (t:=134) ?hr ?_;(case hd=>rfl);(case hg=>rfl);(case hr=>first|(go_simp;done)|(go_simp;rfl));intro gb653 hg w18 hbox hb;have n0_:=Zd (below_step Zb hb);have n1_:=Zd (hbox);have n2_:=Zd ((Zg hg:w.heap.size≤gb653));have n3_:=Zd ((Zg hg:w.heap.size≤gb653));clear HB;have HB:=n0_;have BK653:=n1_;have GW653:=n2_;have GE653:=n3_;clear n0_ n1_ n2_ n3_;clear hb hbox hg)|((with_reducible refine gate_callee (f:=74) rfl ?_);refine goesL_ (some 13) rfl rfl Tryz.func74 (by kernel_rfl) rfl #[.int .i64 a1] rfl Zl ?_;(with_reducible refine (mark_wide.calls a1 true _ A3.out).mono ?_);rintro e w' ⟨rfl,⟨nd,rfl⟩⟩;refine⟨_,rfl,?_⟩;(try (rw [drewN_self w18];generalize hq_:World.drewN w18 _=w18;have n0_:Aside0 (w18.heap[gb653]? = some (.cells #[.int .u8 0,.bool false,.string (⟨#[]⟩:ByteArray)] 134 (0,0))):=⟨by rw [←hq_];exact (Zk BK653.out)⟩;have n1_:Aside0 (Below w.heap.size w w18):=⟨by rw [←hq_];exact Zb⟩;clear BK653 HB hq_;have BK653:=n0_;have HB:=n1_;clear n0_ n1_)))|((with_reducible refine gate_callee (f:=98) rfl ?_);refine goesL_ (some 18) rfl rfl Tryz.func98 (by kernel_rfl) rfl #[.string a0] rfl Zl ?_;(with_reducible refine (lines_Run.calls a0 t655 _ A5.out).mono ?_);rintro e w19 ⟨rfl,hb⟩;refine⟨_,rfl,?_⟩;have n0_:=Zd (blk_below (g:=gb653) (o := .cells #[.int .u8 0,.bool false,.string (⟨#[]⟩:ByteArray)] 134 (0,0)) (Zk BK653.out) hb);have n1_:=Zd (below_step Zb hb);clear BK653;clear HB;have BK653:=n0_;have HB:=n1_;clear n0_ n1_;(try clear hb);(try clear hb2);(try clear hk);(try clear hi);have p11:0≤(0:Int):=(by omega);have q11:0<a0.size:=(by have:(0:Int)<(a0.size:Int):=Zo;omega);have hx11:∀ h:0<a0.size,((a0[0]'h).toNat:Int)=bt a0 0:=bt_at a0 0;clear p11;have qi11:(0<(a0.size:Int))=True:=eq_true (Zo);replace q11:=eq_true q11)|((with_reducible refine gate_dst (N:=7) rfl ?_);refine box_event ?hg (N:=7) ?hd (cs:=#[.int .u8 0,.bool false,.string (⟨#[]⟩:ByteArray)]) (t:=134) ?hr ?_;(case hd=>rfl);(case hg=>rfl);(case hr=>first|(go_simp;done)|(go_simp;rfl));intro gb656 hg w20 hbox hb;have n0_:=Zd (blk_below (g:=gb653) (o := .cells #[.int .u8 0,.bool false,.string (⟨#[]⟩:ByteArray)] 134 (0,0)) (Zk BK653.out) hb);have n1_:=Zd (below_step Zb hb);have n2_:=Zd (hbox);have n3_:=Zd ((Zg hg:w.heap.size≤gb656));have n4_:=Zd ((Zg hg:w.heap.size≤gb656));have n5_:=Zd ((by rw [hg];exact Nat.ne_of_lt (blk_lt (g:=gb653) (o := .cells #[.int .u8 0,.bool false,.string (⟨#[]⟩:ByteArray)] 134 (0,0)) (Zk BK653.out)):gb653≠gb656));have n6_:=Zd ((by rw [hg];exact Nat.ne_of_gt (blk_lt (g:=gb653) (o := .cells #[.int .u8 0,.bool false,.string (⟨#[]⟩:ByteArray)] 134 (0,0)) (Zk BK653.out)):gb656≠gb653));clear BK653;clear HB;have BK653:=n0_;have HB:=n1_;have BK656:=n2_;have GW656:=n3_;have GE656:=n4_;have NB653_656:=n5_;have NB656_653:=n6_;clear n0_ n1_ n2_ n3_ n4_ n5_ n6_;clear hb hbox hg;have hnb21:=NB656_653.out;have hnc21:=NB653_656.out;obtain⟨hcz22_0,hcz22_1,hcz22_2,hfz22_0,hfz22_1,hfz22_2⟩:=Zc3 BK656.out)|((with_reducible refine gate_callee (f:=99) rfl ?_);refine goesL_ (some 30) rfl rfl Tryz.func99 (by kernel_rfl) rfl #[.string (a0.extract (a1:Int).toNat a0.size),.string (⟨#[33]⟩:ByteArray)] rfl Zl ?_;(with_reducible refine (strings_CutPrefix.calls (a0.extract (a1:Int).toNat a0.size) (⟨#[33]⟩:ByteArray) t657 t658 _ A14.out).mono ?_);rintro e w' ⟨rfl,⟨nd,rfl⟩⟩;refine⟨_,rfl,?_⟩)|((with_reducible refine gate_callee (f:=100) rfl ?_);refine goesL_ (some 36) rfl rfl Tryz.func100 (by kernel_rfl) rfl #[.string t657,.string (⟨#[10]⟩:ByteArray)] rfl Zl ?_;(with_reducible refine (strings_TrimSuffix.calls t657 (⟨#[10]⟩:ByteArray) t659 _ A15.out).mono ?_);rintro e w' ⟨rfl,⟨nd,rfl⟩⟩;refine⟨_,rfl,?_⟩)|((with_reducible refine gate_callee (f:=99) rfl ?_);refine goesL_ (some 37) rfl rfl Tryz.func99 (by kernel_rfl) rfl #[.string t659,.string (⟨#[32]⟩:ByteArray)] rfl Zl ?_;(with_reducible refine (strings_CutPrefix.calls t659 (⟨#[32]⟩:ByteArray) t660 t661 _ A16.out).mono ?_);rintro e w' ⟨rfl,⟨nd,rfl⟩⟩;refine⟨_,rfl,?_⟩))
      (try simp only [Act.put,List.setIfInBounds_toArray,List.set_cons_zero,List.set_cons_succ])
      go_cut [] (fun wc=>∃ (kq:Nat) (x657002_16:ByteArray),Aside0 (mark_Read.j0 kq a0 a1 (bt a0 0) t658 x657002_16=some (r1,r2,r3,r4,r5))∧Aside0 (kq≤k)∧Aside0 (wc.heap[gb653]? = some (.cells #[.int .u8 0,.bool false,.string (⟨#[]⟩:ByteArray)] 134 (0,0)))∧Aside0 (wc.heap[gb656]? = some (.cells #[.int .u8 (bt a0 0),.bool t658,.string x657002_16] 134 (0,0)))∧Aside0 (Below w.heap.size w wc))
      case first =>
       have H:=HC17.out
       clear HC17
       by_cases c23:t661=true
       ·subst c23
        have H1:(mark_Read.j0 k a0 a1 (bt a0 0) t658 t660)=some (r1,r2,r3,r4,r5):=by rw [if_pos rfl] at H;exact H
        clear H
        have H:=H1
        clear H1
        have H':=Zd H
        clear H
        have hnb24:=NB656_653.out
        have hnc24:=NB653_656.out
        have hcz25_0:w20.cell? ⟨gb656,0,none⟩=some (.int .u8 0):=(blk_cell BK656.out 0).trans rfl
        have hcz25_1:w20.cell? ⟨gb656,1,none⟩=some (.bool false):=(blk_cell BK656.out 1).trans rfl
        have hcz25_2:w20.cell? ⟨gb656,2,none⟩=some (.string (⟨#[]⟩:ByteArray)):=(blk_cell BK656.out 2).trans rfl
        have hfz25_0:=blk_frozen BK656.out 0
        have hfz25_1:=blk_frozen BK656.out 1
        have hfz25_2:=blk_frozen BK656.out 2
        go_wp2
        go_meet
        case rel=>exact⟨_,(t660),H',⟨by first|omega|exact Nat.le_refl _⟩,⟨by refine Zk ?_;refine blk_far ?_ NB653_656.out _;refine Zk ?_;refine blk_far ?_ NB653_656.out _;refine Zk ?_;refine blk_far ?_ NB653_656.out _;refine Zk ?_;refine blk_far ?_ NB653_656.out _;refine Zk ?_;refine blk_far ?_ NB653_656.out _;refine Zk ?_;exact BK653.out⟩,⟨by refine Zk ?_;refine blk_put (cs:=#[.int .u8 (bt a0 0),.bool t658,.string (⟨#[]⟩:ByteArray)]) ?_ 2 _ rfl;refine Zk ?_;refine blk_put (cs:=#[.int .u8 (bt a0 0),.bool false,.string (⟨#[]⟩:ByteArray)]) ?_ 1 _ rfl;refine Zk ?_;refine blk_put (cs:=#[.int .u8 (bt a0 0),.bool false,.string (⟨#[]⟩:ByteArray)]) ?_ 2 _ rfl;refine Zk ?_;refine blk_put (cs:=#[.int .u8 (bt a0 0),.bool false,.string (⟨#[]⟩:ByteArray)]) ?_ 1 _ rfl;refine Zk ?_;refine blk_put (cs:=#[.int .u8 0,.bool false,.string (⟨#[]⟩:ByteArray)]) ?_ 0 _ rfl;refine Zk ?_;exact BK656.out⟩,⟨by repeat (first|(with_reducible first|exact HB.out|apply below_alloc|apply pw_below_drewN|apply below_drew1|refine below_set ?_ GE653.out|refine below_set ?_ GE656.out)|exact HB.out)⟩⟩
       ·replace c23:=Bool.eq_false_iff.mpr c23
        subst c23
        have H1:(mark_Read.j0 k a0 a1 (bt a0 0) t658 (⟨#[]⟩:ByteArray))=some (r1,r2,r3,r4,r5):=by rw [if_neg (show ¬ (false=true) by decide)] at H;exact H
        clear H
        have H:=H1
        clear H1
        have H':=Zd H
        clear H
        go_wp2
        go_meet
        case rel=>exact⟨_,((⟨#[]⟩:ByteArray)),H',⟨by first|omega|exact Nat.le_refl _⟩,⟨by refine Zk ?_;refine blk_far ?_ NB653_656.out _;refine Zk ?_;refine blk_far ?_ NB653_656.out _;refine Zk ?_;refine blk_far ?_ NB653_656.out _;refine Zk ?_;refine blk_far ?_ NB653_656.out _;refine Zk ?_;exact BK653.out⟩,⟨by refine Zk ?_;refine blk_put (cs:=#[.int .u8 (bt a0 0),.bool false,.string (⟨#[]⟩:ByteArray)]) ?_ 1 _ rfl;refine Zk ?_;refine blk_put (cs:=#[.int .u8 (bt a0 0),.bool false,.string (⟨#[]⟩:ByteArray)]) ?_ 2 _ rfl;refine Zk ?_;refine blk_put (cs:=#[.int .u8 (bt a0 0),.bool false,.string (⟨#[]⟩:ByteArray)]) ?_ 1 _ rfl;refine Zk ?_;refine blk_put (cs:=#[.int .u8 0,.bool false,.string (⟨#[]⟩:ByteArray)]) ?_ 0 _ rfl;refine Zk ?_;exact BK656.out⟩,⟨by repeat (first|(with_reducible first|exact HB.out|apply below_alloc|apply pw_below_drewN|apply below_drew1|refine below_set ?_ GE653.out|refine below_set ?_ GE656.out)|exact HB.out)⟩⟩
      case rest =>
       clear HC17
       try clear c1
       try clear p1
       try clear q1
       try clear hx1
       try clear qi1
       try clear c2
       try clear p2
       try clear c4
       try clear c6
       try clear c6b0
       try clear c7
       try clear c9
       try clear c10
       try clear c10b0
       try clear c10b1
       try clear p11
       try clear q11
       try clear hx11
       try clear qi11
       try clear c12
       try clear c12b0
       try clear c12b1
       try clear c13
       try clear c13b0
       try clear c13b1
       try clear c21
       try clear c23
       try clear c24
       try clear hcz22_0
       try clear hcz22_1
       try clear hcz22_2
       try clear hcz25_0
       try clear hcz25_1
       try clear hcz25_2
       try clear hcz9_0
       try clear hcz9_1
       try clear hcz9_2
       try clear hfz22_0
       try clear hfz22_1
       try clear hfz22_2
       try clear hfz25_0
       try clear hfz25_1
       try clear hfz25_2
       try clear hfz9_0
       try clear hfz9_1
       try clear hfz9_2
       try clear p11
       try clear q11
       obtain⟨kq,x657002_16,HA,HJ16,BK653,BK656,HB⟩:=hcut
       cases kq with
       | zero=>exact absurd HA.out (by simp [mark_Read.j0])
       | succ kj16 =>
        have H:=HA.out
        clear HA
        simp only [mark_Read.j0] at H
        replace H:=Option.bind_eq_some_iff.mp H
        obtain⟨t662,A260,H⟩:=H
        replace H:(if t662=true then ((mark_Marker_line.f (bt a0 0) t658 x657002_16 a1).bind fun t663=>(if t663.toList=a0.toList then (some ((bt a0 0),t658,x657002_16,true,0)) else (some (0,false,(⟨#[]⟩:ByteArray),false,6)))) else (some (0,false,(⟨#[]⟩:ByteArray),false,6)))=some (r1,r2,r3,r4,r5):=H
        have A26:=Zd A260
        clear A260
        by_cases c27:t662=true
        ·subst c27
         have H1:((mark_Marker_line.f (bt a0 0) t658 x657002_16 a1).bind fun t663=>(if t663.toList=a0.toList then (some ((bt a0 0),t658,x657002_16,true,0)) else (some (0,false,(⟨#[]⟩:ByteArray),false,6))))=some (r1,r2,r3,r4,r5):=by rw [if_pos rfl] at H;exact H
         clear H
         have H:=H1
         clear H1
         replace H:=Option.bind_eq_some_iff.mp H
         obtain⟨t663,A280,H⟩:=H
         replace H:(if t663.toList=a0.toList then (some ((bt a0 0),t658,x657002_16,true,0)) else (some (0,false,(⟨#[]⟩:ByteArray),false,6)))=some (r1,r2,r3,r4,r5):=H
         have A28:=Zd A280
         clear A280
         by_cases c29:t663.toList=a0.toList
         ·rw [if_pos c29] at H
          have c29b0:(t663.toList==a0.toList)=true:=beq_iff_eq.mpr c29
          have c29b1:(t663.toList != a0.toList)=false:=bne_eq_false_iff_eq.mpr c29
          clear c29
          simp only [Option.some.injEq,Prod.mk.injEq] at H
          obtain⟨rfl,rfl,rfl,rfl,rfl⟩:=H
          have hnb30:=NB656_653.out
          have hnc30:=NB653_656.out
          have hcz31_0:wc.cell? ⟨gb656,0,none⟩=some (.int .u8 (bt a0 0)):=(blk_cell BK656.out 0).trans rfl
          have hcz31_1:wc.cell? ⟨gb656,1,none⟩=some (.bool t658):=(blk_cell BK656.out 1).trans rfl
          have hcz31_2:wc.cell? ⟨gb656,2,none⟩=some (.string x657002_16):=(blk_cell BK656.out 2).trans rfl
          have hfz31_0:=blk_frozen BK656.out 0
          have hfz31_1:=blk_frozen BK656.out 1
          have hfz31_2:=blk_frozen BK656.out 2
          go_wp2_with (first|((with_reducible refine gate_callee (f:=101) rfl ?_);refine goesL_ (some 44) rfl rfl Tryz.func101 (by kernel_rfl) rfl #[.agg #[.int .u8 (bt a0 0),.bool t658,.string x657002_16]] rfl Zl ?_;(with_reducible refine (mark_Marker_may.calls (bt a0 0) t658 x657002_16 true _ A26.out).mono ?_);rintro e w32 ⟨rfl,hb⟩;refine⟨_,rfl,?_⟩;have n0_:=Zd (blk_below (g:=gb653) (o := .cells #[.int .u8 0,.bool false,.string (⟨#[]⟩:ByteArray)] 134 (0,0)) (Zk BK653.out) hb);have n1_:=Zd (blk_below (g:=gb656) (o := .cells #[.int .u8 (bt a0 0),.bool t658,.string x657002_16] 134 (0,0)) (Zk BK656.out) hb);have n2_:=Zd (below_step Zb hb);clear BK653;clear BK656;clear HB;have BK653:=n0_;have BK656:=n1_;have HB:=n2_;clear n0_ n1_ n2_;(try clear hb);(try clear hb2);(try clear hk);(try clear hi);obtain⟨hcz33_0,hcz33_1,hcz33_2,hfz33_0,hfz33_1,hfz33_2⟩:=Zc3 BK656.out)|(go_at_call 102;(with_reducible refine (mark_Marker_line.calls (bt a0 0) t658 x657002_16 a1 t663 _ A28.out).mono ?_);rintro e w34 ⟨rfl,hb⟩;have n0_:=Zd (blk_below (g:=gb653) (o := .cells #[.int .u8 0,.bool false,.string (⟨#[]⟩:ByteArray)] 134 (0,0)) (Zk BK653.out) hb);have n1_:=Zd (blk_below (g:=gb656) (o := .cells #[.int .u8 (bt a0 0),.bool t658,.string x657002_16] 134 (0,0)) (Zk BK656.out) hb);have n2_:=Zd (below_step Zb hb);clear BK653;clear BK656;clear HB;have BK653:=n0_;have BK656:=n1_;have HB:=n2_;clear n0_ n1_ n2_;(try clear hb);(try clear hb2);(try clear hk);(try clear hi);obtain⟨hcz35_0,hcz35_1,hcz35_2,hfz35_0,hfz35_1,hfz35_2⟩:=Zc3 BK656.out;obtain⟨hcz36_0,hcz36_1,hcz36_2,hfz36_0,hfz36_1,hfz36_2⟩:=Zc3 BK653.out))
          refine bodyPost_ret (results_ctt rfl _ _ gb653 134 #[.int .u8 (bt a0 0),.bool t658,.string x657002_16] (0,0) _ rfl (by refine Zk ?_;refine blk_put (cs:=#[.int .u8 (bt a0 0),.bool t658,.string (⟨#[]⟩:ByteArray)]) ?_ 2 _ rfl;refine Zk ?_;refine blk_put (cs:=#[.int .u8 (bt a0 0),.bool false,.string (⟨#[]⟩:ByteArray)]) ?_ 1 _ rfl;refine Zk ?_;refine blk_put (cs:=#[.int .u8 0,.bool false,.string (⟨#[]⟩:ByteArray)]) ?_ 0 _ rfl;refine Zk ?_;exact BK653.out) Tryz.underlying134 rfl (by kernel_rfl)) rfl ?_
          exact⟨by first|rfl|(simp [errW_none,errW_some]<;>rfl)|(simp [*,errW_none,errW_some]<;>rfl),by repeat (first|(with_reducible first|exact HB.out|apply below_alloc|apply pw_below_drewN|apply below_drew1|refine below_set ?_ GE653.out|refine below_set ?_ GE656.out)|exact HB.out)⟩
         ·rw [if_neg c29] at H
          have c29b0:(t663.toList==a0.toList)=false:=beq_eq_false_iff_ne.mpr c29
          have c29b1:(t663.toList != a0.toList)=true:=bne_iff_ne.mpr c29
          simp only [Option.some.injEq,Prod.mk.injEq] at H
          obtain⟨rfl,rfl,rfl,rfl,rfl⟩:=H
          have hnb37:=NB656_653.out
          have hnc37:=NB653_656.out
          have hcz38_0:wc.cell? ⟨gb656,0,none⟩=some (.int .u8 (bt a0 0)):=(blk_cell BK656.out 0).trans rfl
          have hcz38_1:wc.cell? ⟨gb656,1,none⟩=some (.bool t658):=(blk_cell BK656.out 1).trans rfl
          have hcz38_2:wc.cell? ⟨gb656,2,none⟩=some (.string x657002_16):=(blk_cell BK656.out 2).trans rfl
          have hfz38_0:=blk_frozen BK656.out 0
          have hfz38_1:=blk_frozen BK656.out 1
          have hfz38_2:=blk_frozen BK656.out 2
          go_wp2_with (first|((with_reducible refine gate_callee (f:=101) rfl ?_);refine goesL_ (some 44) rfl rfl Tryz.func101 (by kernel_rfl) rfl #[.agg #[.int .u8 (bt a0 0),.bool t658,.string x657002_16]] rfl Zl ?_;(with_reducible refine (mark_Marker_may.calls (bt a0 0) t658 x657002_16 true _ A26.out).mono ?_);rintro e w39 ⟨rfl,hb⟩;refine⟨_,rfl,?_⟩;have n0_:=Zd (blk_below (g:=gb653) (o := .cells #[.int .u8 0,.bool false,.string (⟨#[]⟩:ByteArray)] 134 (0,0)) (Zk BK653.out) hb);have n1_:=Zd (blk_below (g:=gb656) (o := .cells #[.int .u8 (bt a0 0),.bool t658,.string x657002_16] 134 (0,0)) (Zk BK656.out) hb);have n2_:=Zd (below_step Zb hb);clear BK653;clear BK656;clear HB;have BK653:=n0_;have BK656:=n1_;have HB:=n2_;clear n0_ n1_ n2_;(try clear hb);(try clear hb2);(try clear hk);(try clear hi);obtain⟨hcz40_0,hcz40_1,hcz40_2,hfz40_0,hfz40_1,hfz40_2⟩:=Zc3 BK656.out)|(go_at_call 102;(with_reducible refine (mark_Marker_line.calls (bt a0 0) t658 x657002_16 a1 t663 _ A28.out).mono ?_);rintro e w41 ⟨rfl,hb⟩;have n0_:=Zd (blk_below (g:=gb653) (o := .cells #[.int .u8 0,.bool false,.string (⟨#[]⟩:ByteArray)] 134 (0,0)) (Zk BK653.out) hb);have n1_:=Zd (blk_below (g:=gb656) (o := .cells #[.int .u8 (bt a0 0),.bool t658,.string x657002_16] 134 (0,0)) (Zk BK656.out) hb);have n2_:=Zd (below_step Zb hb);clear BK653;clear BK656;clear HB;have BK653:=n0_;have BK656:=n1_;have HB:=n2_;clear n0_ n1_ n2_;(try clear hb);(try clear hb2);(try clear hk);(try clear hi);obtain⟨hcz42_0,hcz42_1,hcz42_2,hfz42_0,hfz42_1,hfz42_2⟩:=Zc3 BK653.out))
          refine bodyPost_ret (results_ctt rfl _ _ gb653 134 #[.int .u8 0,.bool false,.string (⟨#[]⟩:ByteArray)] (0,0) _ rfl (by refine Zk ?_;refine blk_put (cs:=#[.int .u8 0,.bool false,.string (⟨#[]⟩:ByteArray)]) ?_ 2 _ rfl;refine Zk ?_;refine blk_put (cs:=#[.int .u8 0,.bool false,.string (⟨#[]⟩:ByteArray)]) ?_ 1 _ rfl;refine Zk ?_;refine blk_put (cs:=#[.int .u8 0,.bool false,.string (⟨#[]⟩:ByteArray)]) ?_ 0 _ rfl;refine Zk ?_;exact BK653.out) Tryz.underlying134 rfl (by kernel_rfl)) rfl ?_
          exact⟨by first|rfl|(simp [errW_none,errW_some]<;>rfl)|(simp [*,errW_none,errW_some]<;>rfl),by repeat (first|(with_reducible first|exact HB.out|apply below_alloc|apply pw_below_drewN|apply below_drew1|refine below_set ?_ GE653.out|refine below_set ?_ GE656.out)|exact HB.out)⟩
        ·replace c27:=Bool.eq_false_iff.mpr c27
         subst c27
         have H1:(some (0,false,(⟨#[]⟩:ByteArray),false,6))=some (r1,r2,r3,r4,r5):=by rw [if_neg (show ¬ (false=true) by decide)] at H;exact H
         clear H
         have H:=H1
         clear H1
         simp only [Option.some.injEq,Prod.mk.injEq] at H
         obtain⟨rfl,rfl,rfl,rfl,rfl⟩:=H
         have hnb43:=NB656_653.out
         have hnc43:=NB653_656.out
         have hcz44_0:wc.cell? ⟨gb656,0,none⟩=some (.int .u8 (bt a0 0)):=(blk_cell BK656.out 0).trans rfl
         have hcz44_1:wc.cell? ⟨gb656,1,none⟩=some (.bool t658):=(blk_cell BK656.out 1).trans rfl
         have hcz44_2:wc.cell? ⟨gb656,2,none⟩=some (.string x657002_16):=(blk_cell BK656.out 2).trans rfl
         have hfz44_0:=blk_frozen BK656.out 0
         have hfz44_1:=blk_frozen BK656.out 1
         have hfz44_2:=blk_frozen BK656.out 2
         go_wp2_with (first|((with_reducible refine gate_callee (f:=101) rfl ?_);refine goesL_ (some 44) rfl rfl Tryz.func101 (by kernel_rfl) rfl #[.agg #[.int .u8 (bt a0 0),.bool t658,.string x657002_16]] rfl Zl ?_;(with_reducible refine (mark_Marker_may.calls (bt a0 0) t658 x657002_16 false _ A26.out).mono ?_);rintro e w45 ⟨rfl,hb⟩;refine⟨_,rfl,?_⟩;have n0_:=Zd (blk_below (g:=gb653) (o := .cells #[.int .u8 0,.bool false,.string (⟨#[]⟩:ByteArray)] 134 (0,0)) (Zk BK653.out) hb);have n1_:=Zd (blk_below (g:=gb656) (o := .cells #[.int .u8 (bt a0 0),.bool t658,.string x657002_16] 134 (0,0)) (Zk BK656.out) hb);have n2_:=Zd (below_step Zb hb);clear BK653;clear BK656;clear HB;have BK653:=n0_;have BK656:=n1_;have HB:=n2_;clear n0_ n1_ n2_;(try clear hb);(try clear hb2);(try clear hk);(try clear hi);obtain⟨hcz46_0,hcz46_1,hcz46_2,hfz46_0,hfz46_1,hfz46_2⟩:=Zc3 BK653.out))
         refine bodyPost_ret (results_ctt rfl _ _ gb653 134 #[.int .u8 0,.bool false,.string (⟨#[]⟩:ByteArray)] (0,0) _ rfl (by refine Zk ?_;refine blk_put (cs:=#[.int .u8 0,.bool false,.string (⟨#[]⟩:ByteArray)]) ?_ 2 _ rfl;refine Zk ?_;refine blk_put (cs:=#[.int .u8 0,.bool false,.string (⟨#[]⟩:ByteArray)]) ?_ 1 _ rfl;refine Zk ?_;refine blk_put (cs:=#[.int .u8 0,.bool false,.string (⟨#[]⟩:ByteArray)]) ?_ 0 _ rfl;refine Zk ?_;exact BK653.out) Tryz.underlying134 rfl (by kernel_rfl)) rfl ?_
         exact⟨by first|rfl|(simp [errW_none,errW_some]<;>rfl)|(simp [*,errW_none,errW_some]<;>rfl),by repeat (first|(with_reducible first|exact HB.out|apply below_alloc|apply pw_below_drewN|apply below_drew1|refine below_set ?_ GE653.out|refine below_set ?_ GE656.out)|exact HB.out)⟩
     ·rw [if_neg c13] at H
      exact absurd H (by simp)
    ·rw [if_neg c12] at H
     exact absurd H (by simp)
   ·rw [if_neg c10] at H
    exact absurd H (by simp)
 ·replace c4:=Bool.eq_false_iff.mpr c4
  subst c4
  have H1:(some (0,false,(⟨#[]⟩:ByteArray),false,4))=some (r1,r2,r3,r4,r5):=by rw [if_neg (show ¬ (false=true) by decide)] at H;exact H
  clear H
  have H:=H1
  clear H1
  simp only [Option.some.injEq,Prod.mk.injEq] at H
  obtain⟨rfl,rfl,rfl,rfl,rfl⟩:=H
  go_enter Tryz.func66,Tryz.ntmps66
  go_wp2_with (first|((with_reducible refine gate_dst (N:=4) rfl ?_);refine box_event ?hg (N:=4) ?hd (cs:=#[.int .u8 0,.bool false,.string (⟨#[]⟩:ByteArray)]) (t:=134) ?hr ?_;(case hd=>rfl);(case hg=>rfl);(case hr=>first|(go_simp;done)|(go_simp;rfl));intro gb653 hg w47 hbox hb;have n0_:=Zd (below_step Zb hb);have n1_:=Zd (hbox);have n2_:=Zd ((Zg hg:w.heap.size≤gb653));have n3_:=Zd ((Zg hg:w.heap.size≤gb653));clear HB;have HB:=n0_;have BK653:=n1_;have GW653:=n2_;have GE653:=n3_;clear n0_ n1_ n2_ n3_;clear hb hbox hg)|((with_reducible refine gate_callee (f:=74) rfl ?_);refine goesL_ (some 13) rfl rfl Tryz.func74 (by kernel_rfl) rfl #[.int .i64 a1] rfl Zl ?_;(with_reducible refine (mark_wide.calls a1 false _ A3.out).mono ?_);rintro e w' ⟨rfl,⟨nd,rfl⟩⟩;refine⟨_,rfl,?_⟩;(try (rw [drewN_self w47];generalize hq_:World.drewN w47 _=w47;have n0_:Aside0 (w47.heap[gb653]? = some (.cells #[.int .u8 0,.bool false,.string (⟨#[]⟩:ByteArray)] 134 (0,0))):=⟨by rw [←hq_];exact (Zk BK653.out)⟩;have n1_:Aside0 (Below w.heap.size w w47):=⟨by rw [←hq_];exact Zb⟩;clear BK653 HB hq_;have BK653:=n0_;have HB:=n1_;clear n0_ n1_));obtain⟨hcz48_0,hcz48_1,hcz48_2,hfz48_0,hfz48_1,hfz48_2⟩:=Zc3 BK653.out))
  refine bodyPost_ret (results_ctt rfl _ _ gb653 134 #[.int .u8 0,.bool false,.string (⟨#[]⟩:ByteArray)] (0,0) _ rfl (by refine Zk ?_;refine blk_put (cs:=#[.int .u8 0,.bool false,.string (⟨#[]⟩:ByteArray)]) ?_ 2 _ rfl;refine Zk ?_;refine blk_put (cs:=#[.int .u8 0,.bool false,.string (⟨#[]⟩:ByteArray)]) ?_ 1 _ rfl;refine Zk ?_;refine blk_put (cs:=#[.int .u8 0,.bool false,.string (⟨#[]⟩:ByteArray)]) ?_ 0 _ rfl;refine Zk ?_;exact BK653.out) Tryz.underlying134 rfl (by kernel_rfl)) rfl ?_
  exact⟨by first|rfl|(simp [errW_none,errW_some]<;>rfl)|(simp [*,errW_none,errW_some]<;>rfl),by repeat (first|(with_reducible first|exact HB.out|apply below_alloc|apply pw_below_drewN|apply below_drew1|refine below_set ?_ GE653.out)|exact HB.out)⟩
end Go.Proofs.YtfiamddinkokbaaGreat.F
end

section
namespace Go.Proofs.YtfiamddinkokbaaGreat.F
open Go.RowKit Go.Proofs.YtfiamddinkokbaaGreatW.PrintWords Go.Proofs.YtfiamddinkokbaaGreatW.PrintLast Go.Proofs.YtfiamddinkokbaaGreatW.PrintMore
theorem lineless_iff (s : ByteArray) : lineless s=decide ((10 : UInt8)∈s.data.toList) := by
 unfold lineless
 rcases nl_cases s.data.toList with h|⟨q,r,h,e⟩
 ·rw [index_no _ h];simp [h]
 ·rw [e,index_at q r h];simp
theorem toB_toList (l : List UInt8) : (toB l).toList=l := by rw [bytes_toList,data_toB]
theorem extract_data (s : ByteArray) (i j : Nat) : (s.extract i j).data.toList=(s.data.toList.take j).drop i := by
 rw [ByteArray.data_extract,Array.toList_extract]
 simp [List.extract_eq_take_drop,List.drop_take]
theorem extract_drop (s : ByteArray) (i : Nat) : s.extract i s.size=toB (s.data.toList.drop i) := bytes_ext (by rw [extract_data,data_toB,List.take_of_length_le (by rw [size_data];omega)])
theorem extract_take (s : ByteArray) (j : Nat) : s.extract 0 j=toB (s.data.toList.take j) := bytes_ext (by rw [extract_data,data_toB,List.drop_zero])
theorem cutp_yes (s : ByteArray) (c : UInt8) (t : List UInt8) (h : s.data.toList=c::t) : strings_CutPrefix.f s ⟨#[c]⟩=some (toB t,true) := by
 have hs:s.size=t.length+1:=by rw [←size_data,h];simp
 have h1:(⟨#[c]⟩:ByteArray).size=1:=rfl
 unfold strings_CutPrefix.f stringslite_CutPrefix.f stringslite_HasPrefix.f
 rw [h1,if_pos (by omega),if_pos (by omega),if_pos (by omega)]
 rw [show ((1:Nat):Int).toNat=1 from rfl,extract_take,toB_toList,extract_drop,h,show (⟨#[c]⟩:ByteArray).toList=[c] from by rw [bytes_toList]]
 simp only [List.take_succ_cons,List.take_zero,beq_self_eq_true,Option.bind_some,if_true]
 rw [if_pos (by omega),if_pos (by omega)];rfl
theorem cutp_no (s : ByteArray) (c : UInt8) (h : s.data.toList.head?≠some c) : strings_CutPrefix.f s ⟨#[c]⟩=some (s,false) := by
 have h1:(⟨#[c]⟩:ByteArray).size=1:=rfl
 unfold strings_CutPrefix.f stringslite_CutPrefix.f stringslite_HasPrefix.f
 rw [h1]
 by_cases hs:1≤s.size
 ·rw [if_pos (by omega),if_pos (by omega),if_pos (by omega)]
  rw [show ((1:Nat):Int).toNat=1 from rfl,extract_take,toB_toList,show (⟨#[c]⟩:ByteArray).toList=[c] from by rw [bytes_toList]]
  have:(s.data.toList.take 1==[c])=false:=by
   cases hl:s.data.toList with
   | nil=>rfl
   | cons a t =>
    rw [hl] at h
    simpa using h
  rw [this];rfl
 ·rw [if_neg (by omega)];rfl
theorem sufx (s : ByteArray) (hs4 : s.size≤4000000000) : strings_HasSuffix.f s ⟨#[10]⟩=some (endsL s.data.toList) := by
 have h1:(⟨#[10]⟩:ByteArray).size=1:=rfl
 unfold strings_HasSuffix.f stringslite_HasSuffix.f
 rw [h1]
 by_cases hs:1≤s.size
 ·have e1:wrap64 ((s.size:Int)-((1:Nat):Int))=(s.size:Int)-1:=wrap_in (by omega) (by omega)
  rw [if_pos (by omega),e1,if_pos (by omega),if_pos (by omega)]
  rw [show ((s.size:Int)-1).toNat=s.size-1 by omega,extract_drop,toB_toList,show (⟨#[10]⟩:ByteArray).toList=[10] from by rw [bytes_toList]]
  unfold endsL
  rcases List.eq_nil_or_concat s.data.toList with h|⟨u,z,h⟩
  ·exfalso;have:=size_data s;rw [h] at this;simp at this;omega
  ·rw [List.concat_eq_append] at h
   have hz:s.size-1=u.length:=by have:=size_data s;rw [h] at this;simp at this;omega
   rw [h,hz,List.drop_append_of_le_length (Nat.le_refl _),List.drop_length,List.getLast?_concat]
   simp only [List.nil_append,Option.bind_some]
   by_cases e:z=10<;>simp [e]
 ·rw [if_neg (by omega)]
  have:s.data.toList=[]:=List.length_eq_zero_iff.1 (by rw [size_data];omega)
  rw [this];rfl
theorem sufx_lite (s : ByteArray) (hs4 : s.size≤4000000000) : stringslite_HasSuffix.f s ⟨#[10]⟩=some (endsL s.data.toList) := by
 have h:=sufx s hs4
 unfold strings_HasSuffix.f at h
 cases hx:stringslite_HasSuffix.f s ⟨#[10]⟩ with
 | none=>rw [hx] at h;cases h
 | some v=>rw [hx] at h;exact h
def trimL (l : List UInt8) : List UInt8 := if endsL l=true then l.dropLast else l
theorem trims (s : ByteArray) (hs4 : s.size≤4000000000) : strings_TrimSuffix.f s ⟨#[10]⟩=some (toB (trimL s.data.toList)) := by
 have h1:(⟨#[10]⟩:ByteArray).size=1:=rfl
 unfold strings_TrimSuffix.f stringslite_TrimSuffix.f
 rw [sufx_lite s hs4]
 unfold trimL
 cases he:endsL s.data.toList with
 | false=>simp [toB_data]
 | true =>
  have hs:1≤s.size:=by
   by_cases h:1≤s.size
   ·exact h
   ·exfalso
    have:s.data.toList=[]:=List.length_eq_zero_iff.1 (by rw [size_data];omega)
    rw [this] at he;simp [endsL] at he
  have e1:wrap64 ((s.size:Int)-((1:Nat):Int))=(s.size:Int)-1:=wrap_in (by omega) (by omega)
  simp only [Option.bind_some,if_true]
  rw [h1,e1,if_pos (by omega),if_pos (by omega),extract_take,show ((s.size:Int)-1).toNat=s.size-1 by omega,List.dropLast_eq_take,size_data];rfl
def markL (c : UInt8) (fl : Bool) (lb : List UInt8) (n : Nat) : List UInt8 := List.replicate n c++((if fl=true then [33] else [])++((if lb.isEmpty=true then [] else 32::lb)++[10]))
theorem lineB_markL (k : Int) (fl : Bool) (lb : ByteArray) (w : Int) : lineB k fl lb w=toB (markL (UInt8.ofNat k.toNat) fl lb.data.toList w.toNat) := by
 unfold lineB markL;rw [bytes_toList]
def unblank : List UInt8→List UInt8
 | []=>[]
 | d::lb=>if d=32 then lb else []
def flagged : List UInt8→Bool×List UInt8
 | []=>(false,[])
 | d::t=>if d=33 then (true,t) else (false,d::t)
def candA (rest : List UInt8) : Bool×List UInt8 := ((flagged rest).1,unblank (trimL (flagged rest).2))
def tailM (fl : Bool) (lb : List UInt8) : List UInt8 := (if fl=true then [33] else [])++((if lb.isEmpty=true then [] else 32::lb)++[10])
theorem trimL_snoc (l : List UInt8) : trimL (l++[10])=l := by
 unfold trimL endsL;rw [List.getLast?_concat];simp
def blankL (lb : List UInt8) : List UInt8 := (if lb.isEmpty=true then [] else 32::lb)++[10]
theorem labA (lb : List UInt8) : unblank (trimL (blankL lb))=lb := by
 unfold blankL
 rw [trimL_snoc]
 cases lb with
 | nil=>rfl
 | cons a t=>rfl
theorem flagged_tail (fl : Bool) (lb : List UInt8) : flagged (tailM fl lb)=(fl,blankL lb) := by
 cases fl with
 | true=>rfl
 | false =>
  cases lb with
  | nil=>rfl
  | cons a t=>rfl
theorem candA_tail (fl : Bool) (lb : List UInt8) : candA (tailM fl lb)=(fl,lb) := by unfold candA;rw [flagged_tail,labA]
def readS (c : UInt8) (cand : Bool×List UInt8) (s : List UInt8) (n : Nat) : Int×Bool×ByteArray×Bool×Int :=
 if mayB (c.toNat:Int) cand.1 (toB cand.2)=true∧markL c cand.1 cand.2 n=s then ((c.toNat:Int),cand.1,toB cand.2,true,0) else (0,false,⟨#[]⟩,false,6)
theorem readS_pos {c : UInt8} {fl : Bool} {lb : List UInt8} {s : List UInt8} {n : Nat} (h : mayB (c.toNat : Int) fl (toB lb)=true) (h2 : markL c fl lb n=s) : readS c (fl,lb) s n=((c.toNat : Int),fl,toB lb,true,0) := if_pos ⟨h,h2⟩
theorem readS_neg {c : UInt8} {fl : Bool} {lb : List UInt8} {s : List UInt8} {n : Nat} (h : ¬ (mayB (c.toNat : Int) fl (toB lb)=true∧markL c fl lb n=s)) : readS c (fl,lb) s n=(0,false,⟨#[]⟩,false,6) := if_neg h
theorem run_prefix (c : UInt8) (t : List UInt8) (n : Nat) (h : n≤runL (c::t)) (hn : 1≤n) : isSign c=true∧c::t=List.replicate n c++(c::t).drop n := by
 unfold runL at h
 simp only at h
 by_cases hs:isSign c=true
 ·rw [if_pos hs] at h
  refine⟨hs,?_⟩
  have h1:=cut_snoc c (c::t)
  have h2:n≤((c::t).takeWhile (· == c)).length:=by omega
  have h3:(c::t).take n=List.replicate n c:=by
   apply List.eq_replicate_iff.2
   refine⟨by rw [List.length_take];have:=(List.takeWhile_sublist (l:=c::t) (· == c)).length_le;omega,fun x hx=>?_⟩
   have h4:(c::t).take n=((c::t).takeWhile (· == c)).take n:=by
    have:=List.takeWhile_append_dropWhile (p:=(· == c)) (l:=c::t)
    rw [←this,List.take_append_of_le_length h2,this]
   rw [h4] at hx
   have h5:=List.all_eq_true.1 (List.all_takeWhile (l:=c::t) (p:=(· == c))) x (List.mem_of_mem_take hx)
   simpa using h5
  rw [←h3,List.take_append_drop]
 ·rw [if_neg hs] at h;omega
theorem sign_lt (c : UInt8) (h : isSign c=true) : c.toNat<128 := by
 unfold isSign at h
 simp only [Bool.or_eq_true,beq_iff_eq] at h
 rcases h with ((h|h)|h)|h<;>subst h<;>decide
theorem mark_line (c : UInt8) (fl : Bool) (lb : List UInt8) (w : Int) (hc : c.toNat<128) (w0 : 0≤w) (w1 : w≤1073741824) (hl : lb.length≤4000000000) :
  mark_Marker_line.f (c.toNat:Int) fl (toB lb) w=some (toB (markL c fl lb w.toNat)):=by
 unfold mark_Marker_line.f
 rw [if_pos ⟨by omega,by omega,w0,w1,by rw [size_toB];exact hl⟩,lineB_markL,data_toB,Int.toNat_natCast]
 simp
theorem mark_may (c : UInt8) (fl : Bool) (lb : ByteArray) (hc : c.toNat<128) : mark_Marker_may.f (c.toNat : Int) fl lb=some (mayB (c.toNat : Int) fl lb) := by
 unfold mark_Marker_may.f;rw [if_pos ⟨by omega,by omega⟩]
theorem trimL_le (l : List UInt8) : (trimL l).length≤l.length := by
 unfold trimL;split
 ·rw [List.length_dropLast];omega
 ·exact Nat.le_refl _
def readA (s : ByteArray) (w : Int) : Int×Bool×ByteArray×Bool×Int :=
 if 1≤w∧w≤1073741824 then (if runI s<w then (0,false,⟨#[]⟩,false,0) else match s.data.toList with
  | []=>(0,false,⟨#[]⟩,false,0)
  | c::t=>readS c (candA ((c::t).drop w.toNat)) (c::t) w.toNat) else (0,false,⟨#[]⟩,false,4)
theorem ev_mark_read (s : ByteArray) (w : Int) (hs : s.size≤4000000000) : Ev (fun k=>mark_Read.f k s w) (readA s w) := by
 unfold mark_Read.f mark_wide.f readA
 by_cases h1:w≥1
 ·rw [if_pos h1]
  by_cases h2:w≤1073741824
  ·rw [decide_eq_true h2,if_pos ⟨h1,h2⟩]
   refine Ev.bind (Ev.const rfl) (Ev.pos rfl (Ev.bind (Ev.const (lines_run s hs)) ?_))
   by_cases h3:runI s<w
   ·rw [if_pos h3];exact Ev.pos h3 (Ev.val rfl)
   ·rw [if_neg h3]
    refine Ev.neg h3 ?_
    cases hl:s.data.toList with
    | nil =>
     exfalso
     have:=runI_le s;have:=size_data s;rw [hl] at this;simp at this;omega
    | cons c t =>
     have hr:w.toNat≤runL (c::t):=by unfold runI at h3;rw [hl] at h3;omega
     obtain⟨hsg,hrep⟩:=run_prefix c t w.toNat hr (by omega)
     have hc:=sign_lt c hsg
     have hsz:=runI_le s
     have hb:bt s 0=(c.toNat:Int):=bytes_bt s 0 [] t c hl rfl
     have hlen:(c::t).length≤4000000000:=by rw [←hl,size_data];exact hs
     show Ev _ (readS c (candA ((c::t).drop w.toNat)) (c::t) w.toNat)
     refine Ev.pos (by omega) (Ev.pos (by omega) (Ev.pos (by omega) ?_))
     rw [extract_drop,hl,hb]
     generalize hrest:(c::t).drop w.toNat=rest at hrep ⊢
     have hrl:rest.length≤4000000000:=by rw [←hrest,List.length_drop];omega
     have fin:∀ (fl:Bool) (lb:List UInt8),lb.length≤4000000000→Ev (fun k=>mark_Read.j0 k s w (c.toNat:Int) fl (toB lb)) (readS c (fl,lb) (c::t) w.toNat):=by
      intro fl lb hlb
      refine Ev.succ ?_
      simp only [mark_Read.j0]
      refine Ev.bind (Ev.const (mark_may c fl (toB lb) hc)) ?_
      by_cases hm:mayB (c.toNat:Int) fl (toB lb)=true
      ·refine Ev.pos hm (Ev.bind (Ev.const (mark_line c fl lb w hc (by omega) h2 hlb)) ?_)
       rw [toB_toList,bytes_toList s,hl]
       by_cases he:markL c fl lb w.toNat=c::t
       ·rw [readS_pos hm he];exact Ev.pos he (Ev.val rfl)
       ·rw [readS_neg (fun h=>he h.2)];exact Ev.neg he (Ev.val rfl)
      ·rw [readS_neg (fun h=>hm h.1)];exact Ev.neg hm (Ev.val rfl)
     have fin2:∀ (fl:Bool) (t':List UInt8),t'.length≤4000000000→Ev (fun k=>(strings_TrimSuffix.f (toB t') ⟨#[10]⟩).bind fun t359=>(strings_CutPrefix.f t359 (⟨#[32]⟩:ByteArray)).bind fun bt360=>(if bt360.2=true then (mark_Read.j0 k s w (c.toNat:Int) fl bt360.1) else (mark_Read.j0 k s w (c.toNat:Int) fl (⟨#[]⟩:ByteArray))))
       (readS c (fl,unblank (trimL t')) (c::t) w.toNat):=by
      intro fl t' ht'
      refine Ev.bind (Ev.const (trims (toB t') (by rw [size_toB];exact ht'))) ?_
      rw [data_toB]
      have htl:=trimL_le t'
      cases htr:trimL t' with
      | nil =>
       refine Ev.bind (Ev.const (cutp_no _ 32 (by rw [data_toB];simp))) (Ev.neg (by simp) ?_)
       exact fin fl [] (by simp)
      | cons d lb =>
       rw [htr] at htl
       by_cases hd:d=32
       ·subst hd
        refine Ev.bind (Ev.const (cutp_yes _ 32 lb (by rw [data_toB]))) (Ev.pos rfl ?_)
        exact fin fl lb (by simp at htl;omega)
       ·refine Ev.bind (Ev.const (cutp_no _ 32 (by rw [data_toB];simpa using hd))) (Ev.neg (by simp) ?_)
        rw [show unblank (d::lb)=[] from if_neg hd]
        exact fin fl [] (by simp)
     by_cases hb2:∃ t',rest=33::t'
     ·obtain⟨t',rfl⟩:=hb2
      refine Ev.bind (Ev.const (cutp_yes _ 33 t' (by rw [data_toB]))) ?_
      exact fin2 true t' (by simp at hrl;omega)
     ·refine Ev.bind (Ev.const (cutp_no _ 33 (by rw [data_toB];intro e;cases rest with|nil=>simp at e|cons d t'=>simp at e;exact hb2 ⟨t',by rw [e]⟩))) ?_
      have hfl:flagged rest=(false,rest):=by
       cases rest with
       | nil=>rfl
       | cons d t'=>exact if_neg (fun e=>hb2 ⟨t',by rw [e]⟩)
      rw [show candA rest=(false,unblank (trimL rest)) by unfold candA;rw [hfl]]
      exact fin2 false rest hrl
  ·rw [decide_eq_false h2,if_neg (fun h=>h2 h.2)]
   exact Ev.bind (Ev.const rfl) (Ev.neg (by simp) (Ev.val rfl))
 ·rw [if_neg h1,if_neg (fun h=>h1 h.1)]
  exact Ev.bind (Ev.const rfl) (Ev.neg (by simp) (Ev.val rfl))
end Go.Proofs.YtfiamddinkokbaaGreat.F
end

section
namespace Go.Proofs.YtfiamddinkokbaaGreat.F
open Go.RowKit Go.Proofs.YtfiamddinkokbaaGreatW.PrintWords Go.Proofs.YtfiamddinkokbaaGreatW.PrintLast Go.Proofs.YtfiamddinkokbaaGreatW.PrintMore
attribute [local go_sem] max2_int min2_int max_two min_two max_three min_three max_four min_four




end Go.Proofs.YtfiamddinkokbaaGreat.F
end

section
namespace Go.Proofs.YtfiamddinkokbaaGreat.F
open Go.RowKit Go.Proofs.YtfiamddinkokbaaGreatW.PrintWords Go.Proofs.YtfiamddinkokbaaGreatW.PrintLast Go.Proofs.YtfiamddinkokbaaGreatW.PrintMore
theorem lineless_nil : lineless (⟨#[]⟩ : ByteArray)=false := by rw [lineless_iff];rfl
end Go.Proofs.YtfiamddinkokbaaGreat.F
end

section
namespace Go.Proofs.YtfiamddinkokbaaGreat.F
open Go.RowKit Go.Shelf Go.Proofs.YtfiamddinkokbaaGreatW.PrintWords
def Pr (B b : Nat) (wd : Int) (lk : Bool) (bs : List UInt8) (w : World) : Prop :=
 ∃ p v,BldAt 148 0 B b #[p,v,.int .i64 wd,.bool lk] p v bs w
theorem Pr.below {B b : Nat} {wd : Int} {lk : Bool} {bs : List UInt8} {w w' : World} (h : Pr B b wd lk bs w) (hb : Below w.heap.size w w') : Pr B b wd lk bs w' := by
 obtain⟨p,v,h⟩:=h
 refine⟨p,v,⟨h.lo,(hb.block b h.lt).trans h.blk,h.at0,h.at1,h.ptr,?_,h.ne⟩⟩
 exact ownF_move h.own (fun k hk=>hb.block k (h.own.lt k hk).2)
theorem Pr.wd {B b : Nat} {wd : Int} {lk : Bool} {bs : List UInt8} {w : World} (h : Pr B b wd lk bs w) : w.cell? ⟨b,2,none⟩=some (.int .i64 wd) := by
 obtain⟨p,v,h⟩:=h;exact (Lib.cell_of_heap h.blk 2).trans rfl
theorem Pr.lk {B b : Nat} {wd : Int} {lk : Bool} {bs : List UInt8} {w : World} (h : Pr B b wd lk bs w) : w.cell? ⟨b,3,none⟩=some (.bool lk) := by
 obtain⟨p,v,h⟩:=h;exact (Lib.cell_of_heap h.blk 3).trans rfl
theorem Pr.fz {B b : Nat} {wd : Int} {lk : Bool} {bs : List UInt8} {w : World} (h : Pr B b wd lk bs w) (i : Nat) : w.frozen? ⟨b,i,none⟩=false := by
 obtain⟨p,v,h⟩:=h;exact Lib.frozen_of_heap h.blk i
theorem Pr.lo {B b : Nat} {wd : Int} {lk : Bool} {bs : List UInt8} {w : World} (h : Pr B b wd lk bs w) : B≤b := by obtain⟨p,v,h⟩ := h;exact h.lo
theorem Pr.lt {B b : Nat} {wd : Int} {lk : Bool} {bs : List UInt8} {w : World} (h : Pr B b wd lk bs w) : b<w.heap.size := by obtain⟨p,v,h⟩ := h;exact h.lt
theorem Pr.put {B b : Nat} {wd : Int} {lk : Bool} {bs : List UInt8} {w : World} (h : Pr B b wd lk bs w) (l : Bool) : Pr B b wd l bs (w.setCell ⟨b,3,none⟩ (.bool l)) := by
 obtain⟨p,v,h⟩:=h
 refine⟨p,v,⟨h.lo,?_,rfl,rfl,h.ptr,?_,h.ne⟩⟩
 ·have:=h.blk
  simp [World.setCell,Array.getElem?_modify,this]
 ·exact ownF_move h.own (fun k hk=>Below.heap_setCell _ _ _ _ (fun e=>h.ne (by rw [hk,e])))
def KeepT (b : Nat) (w w' : World) : Prop := ∀ k cs t fr,w.heap[k]? = some (.cells cs t fr)→t≠5→k≠b→w'.heap[k]? = w.heap[k]?
theorem KeepT.refl (b : Nat) (w : World) : KeepT b w w := fun _ _ _ _ _ _ _=>rfl
theorem KeepT.trans {b : Nat} {w w1 w2 : World} (h : KeepT b w w1) (g : KeepT b w1 w2) : KeepT b w w2 := fun k cs t fr hk ht hb=>by
 have h1:=h k cs t fr hk ht hb
 rw [g k cs t fr (h1.trans hk) ht hb,h1]
theorem KeepT.below {b : Nat} {w w' : World} (h : Below w.heap.size w w') : KeepT b w w' := fun k cs t fr hk _ _=>h.block k (Array.getElem?_eq_some_iff.1 hk).1
theorem KeepT.set {b : Nat} {w w' : World} (h : KeepT b w w') (i : Nat) (v : Value) : KeepT b w (w'.setCell ⟨b,i,none⟩ v) := fun k cs t fr hk ht hb=>by
 rw [Below.heap_setCell _ _ _ _ hb];exact h k cs t fr hk ht hb
theorem KeepT.drewN {b : Nat} {w w' : World} (h : KeepT b w w') (n : Nat) : KeepT b w (w'.drewN n) := fun k cs t fr hk ht hb=>(h k cs t fr hk ht hb)
theorem KeepT.cell {b : Nat} {w w' : World} (h : KeepT b w w') {k : Nat} {cs : Array Value} {t : TypeId} (hk : w.heap[k]? = some (.cells cs t (0,0))) (ht : t≠5) (hb : k≠b) : w'.heap[k]? = some (.cells cs t (0,0)) :=
 (h k cs t (0,0) hk ht hb).trans hk
theorem pr_write {B b : Nat} {wd : Int} {lk : Bool} {bs : List UInt8} {w : World} (s : ByteArray) (h : Pr B b wd lk bs w) (hlen : bs.length+s.size≤140737488355328) (hBw : B≤w.heap.size) :
  Calls Tryz.prog 68 #[.pointer (some ⟨b,0,none⟩),.string s] w fun e w'=>e = .returned (.tuple #[.int .i64 s.size,.nilIface])∧Pr B b wd lk (bs++s.data.toList) w'∧Below B w w'∧KeepT b w w':=by
 obtain⟨p,v,h⟩:=h
 refine (bld_write s h (by kernel_rfl) (by decide) hlen hBw).mono ?_
 rintro e w' ⟨rfl,v',h',hb,hk⟩
 refine⟨rfl,⟨_,v',h'⟩,hb,fun k cs t fr hkk ht hkb=>hk k (Array.getElem?_eq_some_iff.1 hkk).1 hkb (fun e=>?_)⟩
 obtain⟨cells,fz,hc⟩:=ownF_typed h.own k e.symm
 rw [hkk] at hc
 injection hc with hc
 injection hc with _ hc _
 exact ht hc
theorem pr_drawn {n : Nat} {w w' : World} (h : Below n w.drew w') : Below n w w' := ⟨h.os,h.tape,h.output,h.size,h.block⟩
set_option maxHeartbeats 8000000 in
set_option maxRecDepth 100000 in
theorem pr_marker {B b : Nat} {wd : Int} {lk : Bool} {bs : List UInt8} {w : World} (k : Int) (lb : ByteArray) (h : Pr B b wd lk bs w) (h0 : 0≤k) (h1 : k<128) (w0 : 0≤wd) (w1 : wd≤1073741824) (hl : lb.size≤4000000000)
  (hlen:bs.length+(lineB k lk lb wd).size≤140737488355328) (hBw:B≤w.heap.size) :
  Calls Tryz.prog 114 #[.pointer (some ⟨b,0,none⟩),.int .u8 k,.string lb] w fun e w'=>e = .returned (.tuple #[])∧Pr B b wd false (bs++(lineB k lk lb wd).data.toList) w'∧Below B w w'∧KeepT b w w':=by
 have HL:=fun W=>line_calls k lk lb wd W h0 h1 w0 w1 hl
 have HP:=Zd h
 have c2:=h.wd
 have c3:=h.lk
 have HBw:=Zd hBw
 generalize lineB k lk lb wd=ln at HL hlen ⊢
 clear hl h hBw
 go_enter Tryz.func114,Tryz.ntmps114
 go_wp2_with fail
 go_region_with ((first
  | (go_at_call 102;refine (HL _).mono ?_;rintro e w1 ⟨rfl,hb1⟩;have HP1:=Zd (HP.out.below (pr_drawn hb1));have HB1:=Zd (Below.mono (pr_drawn hb1) HBw.out);have HK1:=Zd (KeepT.below (b:=b) (w:=w) (pr_drawn hb1));clear hb1)
  | (go_at_call 68;refine (pr_write ln HP1.out hlen (Nat.le_trans HBw.out HB1.out.size)).mono ?_;rintro e w2 ⟨rfl,hp2,hb2,hk2⟩)))
 all_goals have f3:=hp2.fz 3
 all_goals have d3:=hp2.lk
 all_goals have BB:=Zd (Below.trans HB1.out hb2)
 all_goals have HK2:=Zd (KeepT.trans HK1.out hk2)
 all_goals have HP2:=Zd hp2
 all_goals clear hp2 hb2 HP HP1 HB1 hk2 HK1
 all_goals go_wp2
 all_goals go_end0
 all_goals exact⟨rfl,HP2.out.put false,Below.setCell (p:=⟨b,3,none⟩) BB.out HP2.out.lo _,HK2.out.set 3 _⟩
theorem pr_step {B b : Nat} {wd : Int} {lk : Bool} {bs : List UInt8} {w : World} (h : Pr B b wd lk bs w) (nd : Nat) (l : Bool) : Pr B b wd l bs ((w.drewN nd).setCell ⟨b,3,none⟩ (.bool l)) :=
 (h.below (pw_below_drewN (Below.refl _ _) nd)).put l
theorem pr_size {B b : Nat} {w w1 : World} (h : B≤w.heap.size) (hb : Below B w w1) (nd : Nat) (l : Bool) : B≤((w1.drewN nd).setCell ⟨b,3,none⟩ (.bool l)).heap.size := by
 have:=hb.size
 simp [World.setCell];omega
theorem size_dataL (s : ByteArray) : s.data.toList.length=s.size := Array.length_toList
def lacksB (s : ByteArray) (q : Bool) : Bool := !s.toList.isEmpty && !q
def sideL (s : ByteArray) (q : Bool) : List UInt8 := s.data.toList++(if lacksB s q=true then [10] else [])
set_option maxHeartbeats 8000000 in
set_option maxRecDepth 100000 in
theorem pr_side {B b : Nat} {wd : Int} {lk : Bool} {bs : List UInt8} {w : World} (s : ByteArray) (q : Bool) (h : Pr B b wd lk bs w) (hq : strings_HasSuffix.f s ⟨#[10]⟩=some q)
  (hlen:bs.length+s.size+1≤140737488355328) (hBw:B≤w.heap.size) :
  Calls Tryz.prog 115 #[.pointer (some ⟨b,0,none⟩),.string s] w fun e w'=>e = .returned (.tuple #[])∧Pr B b wd (lacksB s q) (bs++sideL s q) w'∧Below B w w'∧KeepT b w w':=by
 have HQ:=fun W=>strings_HasSuffix.calls s ⟨#[10]⟩ q W hq
 have HP:=Zd h
 have HBw:=Zd hBw
 have HD:=size_dataL s
 clear h hBw
 have hsz:(⟨#[10]⟩:ByteArray).size=1:=rfl
 have hlen2:bs.length+s.size≤140737488355328:=by omega
 have hlen3:(bs++s.data.toList).length+(⟨#[10]⟩:ByteArray).size≤140737488355328:=by rw [List.length_append,HD,hsz];omega
 go_enter Tryz.func115,Tryz.ntmps115
 go_wp2_with (first
  | (go_at_call_of 68 (Value.string s);refine (pr_write s HP.out hlen2 HBw.out).mono ?_;rintro e w1 ⟨rfl,hp1,hb1,hk1⟩;have f3:=hp1.fz 3;have d3:=hp1.lk;have HP1:=Zd hp1;have HB1:=Zd hb1;have HK1:=Zd hk1;clear HP hp1 hb1 hk1)
  | (go_at_call_of 68 (Value.string ⟨#[10]⟩);refine (pr_write ⟨#[10]⟩ (pr_step HP1.out nd true) hlen3 (pr_size HBw.out HB1.out nd true)).mono ?_;rintro e w3 ⟨rfl,hp3,hb3,hk3⟩;have HP3:=Zd hp3;have HB3:=Zd hb3;have HK3:=Zd hk3;clear hp3 hb3 hk3)
  | (go_at_call 109;refine (HQ _).mono ?_;rintro e w2 ⟨rfl,nd,rfl⟩))
 ·go_end0
  have hl:lacksB s q=false:=by unfold lacksB;simp_all
  rw [hl]
  have hs:sideL s q=s.data.toList:=by unfold sideL;rw [hl];simp
  rw [hs]
  exact⟨rfl,HP1.out.put false,Below.setCell (p:=⟨b,3,none⟩) HB1.out HP1.out.lo _,HK1.out.set 3 _⟩
 ·go_end0
  have hl:lacksB s q=true:=by unfold lacksB;simp_all
  rw [hl]
  have hs:sideL s q=s.data.toList++[10]:=by unfold sideL;rw [hl];rfl
  rw [hs,←List.append_assoc]
  exact⟨rfl,HP3.out,Below.trans (Below.setCell (p:=⟨b,3,none⟩) (pw_below_drewN HB1.out nd) HP1.out.lo _) HB3.out,KeepT.trans ((HK1.out.drewN nd).set 3 _) HK3.out⟩
 ·go_end0
  have hl:(!s.toList.isEmpty && !q)=false:=by simp_all
  rw [hl]
  have hl':lacksB s q=false:=hl
  rw [hl']
  have hs:sideL s q=s.data.toList:=by unfold sideL;rw [hl'];simp
  rw [hs]
  exact⟨rfl,pr_step HP1.out nd false,Below.setCell (p:=⟨b,3,none⟩) (pw_below_drewN HB1.out nd) HP1.out.lo _,(HK1.out.drewN nd).set 3 _⟩
end Go.Proofs.YtfiamddinkokbaaGreat.F
end
