/- Texts joined into one file (wip/tools/pack.py): Fn145, Class, Fn126, Fn89 -/
import Derived.Test.YtfiamddinkokbaaGreatTB2
import Derived.Test.YtfiamddinkokbaaGreatTB1
import Derived.Test.YtfiamddinkokbaaGreatTB11
import Derived.Test.YtfiamddinkokbaaGreatTB10
import Derived.BigQuiet
set_option linter.unusedVariables false
set_option linter.unusedSimpArgs false
section
namespace Go.Proofs.YtfiamddinkokbaaGreat.F
open Go.RowKit Go.Proofs.YtfiamddinkokbaaGreatW.PrintWords Go.Proofs.YtfiamddinkokbaaGreatW.PrintLast Go.Proofs.YtfiamddinkokbaaGreatW.PrintMore
attribute [local go_sem] max2_int min2_int max_two min_two max_three min_three max_four min_four
def trim_Same_string.f (k : Nat) (l0 : List ByteArray) (l1 : List ByteArray) : Option (Bool) := (slices_Equal_string_string.f k l0 l1).bind fun t149=>(some t149)
theorem trim_Same_string.mono : ∀ a0 a1 k,LeO (trim_Same_string.f k a0 a1) (trim_Same_string.f (k+1) a0 a1) := by
 intro a0 a1 k
 unfold trim_Same_string.f
 repeat' first
   | (with_reducible exact slices_Equal_string_string.mono _ _ _)
   | (with_reducible exact LeO.refl _)
   | (with_reducible exact LeO.none _)
   | (with_reducible refine LeO.ite ?_ ?_)
   | (with_reducible refine LeO.bind ?_ (fun _=>?_))
   | exact slices_Equal_string_string.mono _ _ _
   | exact LeO.none _
   | refine LeO.ite ?_ ?_
   | refine LeO.bind ?_ (fun _=>?_)
set_option maxHeartbeats 8000000 in
set_option maxRecDepth 100000 in
theorem trim_Same_string.calls (k : Nat) (A0 : Option Addr) (c0 : Nat) (l0 : List ByteArray) (A1 : Option Addr) (c1 : Nat) (l1 : List ByteArray) (r : Bool) (w : World) (hr0 : Kd.C Kd.string w A0 l0.length l0) (hc0 : l0.length≤c0) (hr1 : Kd.C Kd.string w A1 l1.length l1) (hc1 : l1.length≤c1) (h : trim_Same_string.f k l0 l1=some r) :
  Calls Tryz.prog 145 #[.slice A0 l0.length c0,.slice A1 l1.length c1] w fun e w'=>e = .returned (.bool r)∧Drawn0 w w':=by
 have HR0:=Zd hr0
 have HC0:=Zd hc0
 clear hr0 hc0
 have HR1:=Zd hr1
 have HC1:=Zd hc1
 clear hr1 hc1
 have H:((slices_Equal_string_string.f k l0 l1).bind fun t149=>(some t149))=some r:=h
 clear h
 replace H:=Option.bind_eq_some_iff.mp H
 obtain⟨t149,A30,H⟩:=H
 replace H:(some t149)=some r:=H
 have A3:=Zd A30
 clear A30
 obtain rfl:=Option.some.inj H
 go_enter Tryz.func145,Tryz.ntmps145
 go_wp2_with (first|((with_reducible refine gate_callee (f:=157) rfl ?_);refine goesL_ (some 7) rfl rfl Tryz.func157 (by kernel_rfl) rfl #[.slice A0 l0.length c0,.slice A1 l1.length c1] rfl Zl ?_;(with_reducible refine (slices_Equal_string_string.calls k _ _ l0 _ _ l1 t149 _ ?side1 ?side2 ?side3 ?side4 A3.out).mono ?_);(case side1=>repeat (first|exact HR0.out|(with_reducible refine Kd.C_alloc ?_ _)|(with_reducible refine Kd.C_drewN ?_ _)|(with_reducible refine Kd.C_drew ?_)));(case side2=>exact HC0.out);(case side3=>repeat (first|exact HR1.out|(with_reducible refine Kd.C_alloc ?_ _)|(with_reducible refine Kd.C_drewN ?_ _)|(with_reducible refine Kd.C_drew ?_)));(case side4=>exact HC1.out);rintro e w' ⟨rfl,⟨nd,rfl⟩⟩;refine⟨_,rfl,?_⟩))
 go_ret
 exact⟨by first|rfl|(simp;done)|(simp [*];done),by repeat (first|exact Drawn0.refl _|apply Drawn0.step)⟩
end Go.Proofs.YtfiamddinkokbaaGreat.F
end

section
namespace Go.Proofs.YtfiamddinkokbaaGreat.F
open Go.RowKit Go.Shelf Go.Proofs.YtfiamddinkokbaaGreatW.PrintWords
def classF (k : Nat) (a0_0 : Bool) (a0_1 a0_2 a0_3 a0_4 a0_5 a0_6 : Int) (l1 l2 l3 : List ByteArray) : Option Int := (chunk_Span_Cut.f a0_1 a0_2 l1).bind fun t510=>((chunk_Span_Cut.f a0_3 a0_4 l2).bind fun t513=>((chunk_Span_Cut.f a0_5 a0_6 l3).bind fun t516=>(if a0_0=true then (some 0) else ((trim_Same_string.f k t510 t513).bind fun t519=>(if t519=true then (some 2) else ((trim_Same_string.f k t510 t516).bind fun t520=>(if t520=true then (some 1) else ((trim_Same_string.f k t513 t516).bind fun t521=>(if t521=true then (some 3) else (some 4))))))))))
theorem class_mono : ∀ a0 a1 a2 a3 a4 a5 a6 l1 l2 l3 k,LeO (classF k a0 a1 a2 a3 a4 a5 a6 l1 l2 l3) (classF (k+1) a0 a1 a2 a3 a4 a5 a6 l1 l2 l3) := fun a0 a1 a2 a3 a4 a5 a6 l1 l2 l3 k=>by
 unfold classF
 exact LeO.bind (LeO.refl _) (fun _=>LeO.bind (LeO.refl _) (fun _=>LeO.bind (LeO.refl _) (fun _=>LeO.ite (LeO.refl _) (LeO.bind (trim_Same_string.mono _ _ k) (fun _=>LeO.ite (LeO.refl _) (LeO.bind (trim_Same_string.mono _ _ k) (fun _=>LeO.ite (LeO.refl _) (LeO.bind (trim_Same_string.mono _ _ k) (fun _=>LeO.refl _)))))))))
set_option maxHeartbeats 8000000 in
set_option maxRecDepth 100000 in
theorem class_calls (k : Nat) (a0_0 : Bool) (a0_1 a0_2 a0_3 a0_4 a0_5 a0_6 : Int) (A1 : Option Addr) (c1 : Nat) (l1 : List ByteArray) (A2 : Option Addr) (c2 : Nat) (l2 : List ByteArray) (A3 : Option Addr) (c3 : Nat) (l3 : List ByteArray) (r : Int) (w : World) (hr1 : Kd.C Kd.string w A1 l1.length l1) (hc1 : l1.length≤c1) (hr2 : Kd.C Kd.string w A2 l2.length l2) (hc2 : l2.length≤c2) (hr3 : Kd.C Kd.string w A3 l3.length l3) (hc3 : l3.length≤c3)
  (h:classF k a0_0 a0_1 a0_2 a0_3 a0_4 a0_5 a0_6 l1 l2 l3=some r) :
  Calls Tryz.prog 126 #[.agg #[.bool a0_0,.int .i64 a0_1,.int .i64 a0_2,.int .i64 a0_3,.int .i64 a0_4,.int .i64 a0_5,.int .i64 a0_6],.slice A1 l1.length c1,.slice A2 l2.length c2,.slice A3 l3.length c3] w fun e w'=>e = .returned (.int .i64 r)∧Below w.heap.size w w':=by
 unfold classF at h
 obtain⟨x,hx,h⟩:=Option.bind_eq_some_iff.1 h
 obtain⟨y,hy,h⟩:=Option.bind_eq_some_iff.1 h
 obtain⟨z,hz,h⟩:=Option.bind_eq_some_iff.1 h
 have HX:=Zd (fun W (hb:Below w.heap.size w W)=>chunk_Span_Cut.calls a0_1 a0_2 A1 c1 l1 x W (Kd.C_below hr1 hb) hc1 hx)
 have HY:=Zd (fun W (hb:Below w.heap.size w W)=>chunk_Span_Cut.calls a0_3 a0_4 A2 c2 l2 y W (Kd.C_below hr2 hb) hc2 hy)
 have HZ:=Zd (fun W (hb:Below w.heap.size w W)=>chunk_Span_Cut.calls a0_5 a0_6 A3 c3 l3 z W (Kd.C_below hr3 hb) hc3 hz)
 have HH:=Zd h
 clear hr1 hc1 hr2 hc2 hr3 hc3 hx hy hz h
 go_enter Tryz.func126,Tryz.ntmps126
 go_wp2
 obtain⟨g,hg⟩:∃ g,g=w.heap.size:=⟨_,rfl⟩
 have hbx:(w.alloc (.cells #[.bool a0_0,.int .i64 a0_1,.int .i64 a0_2,.int .i64 a0_3,.int .i64 a0_4,.int .i64 a0_5,.int .i64 a0_6] 121)).heap[w.heap.size]? = some (.cells #[.bool a0_0,.int .i64 a0_1,.int .i64 a0_2,.int .i64 a0_3,.int .i64 a0_4,.int .i64 a0_5,.int .i64 a0_6] 121 (0,0)):=World.alloc_heap_new w _
 have HW:=Zd (below_alloc (Below.refl w.heap.size w) (.cells #[.bool a0_0,.int .i64 a0_1,.int .i64 a0_2,.int .i64 a0_3,.int .i64 a0_4,.int .i64 a0_5,.int .i64 a0_6] 121))
 generalize (w.alloc (.cells #[.bool a0_0,.int .i64 a0_1,.int .i64 a0_2,.int .i64 a0_3,.int .i64 a0_4,.int .i64 a0_5,.int .i64 a0_6] 121))=W0 at *
 rw [←hg] at hbx ⊢
 have HG:=Zd hg
 have HBX:=Zd hbx
 clear hbx hg
 have q0:=(blk_cell HBX.out 0).trans (rfl:_=some (Value.bool a0_0))
 have q1:=(blk_cell HBX.out 1).trans (rfl:_=some (Value.int .i64 a0_1))
 have q2:=(blk_cell HBX.out 2).trans (rfl:_=some (Value.int .i64 a0_2))
 have q3:=(blk_cell HBX.out 3).trans (rfl:_=some (Value.int .i64 a0_3))
 have q4:=(blk_cell HBX.out 4).trans (rfl:_=some (Value.int .i64 a0_4))
 have q5:=(blk_cell HBX.out 5).trans (rfl:_=some (Value.int .i64 a0_5))
 have q6:=(blk_cell HBX.out 6).trans (rfl:_=some (Value.int .i64 a0_6))
 have HQ:Aside0 (Below W0.heap.size W0 W0.drew):=⟨below_drew (Below.refl _ _)⟩
 have tk1:True:=trivial
 have tk2:True:=trivial
 have tk3:True:=trivial
 go_region_held3 (fun w'=>w'.cell? ⟨g,1,none⟩=some (.int .i64 a0_1)∧w'.cell? ⟨g,2,none⟩=some (.int .i64 a0_2)∧w'.cell? ⟨g,3,none⟩=some (.int .i64 a0_3)∧w'.cell? ⟨g,4,none⟩=some (.int .i64 a0_4)∧w'.cell? ⟨g,5,none⟩=some (.int .i64 a0_5)∧w'.cell? ⟨g,6,none⟩=some (.int .i64 a0_6))
  ((refine (fun (hb:Below W0.heap.size W0 _)=>⟨(hb.cell (World.block_lt_of_cell? W0 _ q1)).trans q1,(hb.cell (World.block_lt_of_cell? W0 _ q2)).trans q2,(hb.cell (World.block_lt_of_cell? W0 _ q3)).trans q3,(hb.cell (World.block_lt_of_cell? W0 _ q4)).trans q4,(hb.cell (World.block_lt_of_cell? W0 _ q5)).trans q5,(hb.cell (World.block_lt_of_cell? W0 _ q6)).trans q6⟩) ?_;exact HQ.out))
  (first
   | ((refine Go.Proofs.YtfiamddinkokbaaGreatW.PrintLast.goes_ Tryz.func125 (by kernel_rfl) rfl #[.agg #[.int .i64 a0_1,.int .i64 a0_2],.slice A1 l1.length c1] (by rfl) rfl rfl (by (try simp only [List.map_toArray,List.map_cons,List.map_nil]);rfl) ?_;have _t:=tk1;refine (HX.out _ (below_step HW.out HQ.out)).mono ?_;rintro e w1 ⟨v,rfl,hr,hb⟩;obtain⟨Bx,bx,rfl,hl,hC⟩:=Kd.R_reads hr;have HLX:=Zd hl;have HCX:=Zd hC;have hq:=below_step HQ.out hb;clear tk1 HQ hr hb hl hC;have HQ:=Zd hq;clear hq;refine⟨_,rfl,?_⟩))
   | ((refine Go.Proofs.YtfiamddinkokbaaGreatW.PrintLast.goes_ Tryz.func125 (by kernel_rfl) rfl #[.agg #[.int .i64 a0_3,.int .i64 a0_4],.slice A2 l2.length c2] (by rfl) rfl rfl (by (try simp only [List.map_toArray,List.map_cons,List.map_nil]);rfl) ?_;have _t:=tk2;refine (HY.out _ (below_step HW.out HQ.out)).mono ?_;rintro e w2 ⟨v,rfl,hr,hb⟩;obtain⟨By,by_,rfl,hl,hC⟩:=Kd.R_reads hr;have HLY:=Zd hl;have HCY:=Zd hC;have hcx:=Kd.C_below HCX.out hb;clear HCX;have HCX:=Zd hcx;have hq:=below_step HQ.out hb;clear tk2 HQ hr hb hl hC hcx;have HQ:=Zd hq;clear hq;refine⟨_,rfl,?_⟩))
   | ((refine Go.Proofs.YtfiamddinkokbaaGreatW.PrintLast.goes_ Tryz.func125 (by kernel_rfl) rfl #[.agg #[.int .i64 a0_5,.int .i64 a0_6],.slice A3 l3.length c3] (by rfl) rfl rfl (by (try simp only [List.map_toArray,List.map_cons,List.map_nil]);rfl) ?_;have _t:=tk3;refine (HZ.out _ (below_step HW.out HQ.out)).mono ?_;rintro e w3 ⟨v,rfl,hr,hb⟩;obtain⟨Bz,bz,rfl,hl,hC⟩:=Kd.R_reads hr;have HLZ:=Zd hl;have HCZ:=Zd hC;have hcx:=Kd.C_below HCX.out hb;have hcy:=Kd.C_below HCY.out hb;clear HCX HCY;have HCX:=Zd hcx;have HCY:=Zd hcy;have hq:=below_step HQ.out hb;clear tk3 HQ hr hb hl hC hcx hcy;have HQ:=Zd hq;clear hq;refine⟨_,rfl,?_⟩)))
 have p0:=(blk_cell (after_call HQ.out HBX.out) 0).trans (rfl:_=some (Value.bool a0_0))
 have h:=HH.out
 have HB:=Zd (below_step HW.out HQ.out)
 clear q0 q1 q2 q3 q4 q5 q6 HH HX HY HZ HQ HW HBX HG
 generalize w3=W3 at *
 cases a0_0 with
 | true =>
  rw [if_pos rfl] at h
  obtain rfl:=Option.some.inj h
  go_wp2
  go_ret
  exact⟨rfl,HB.out⟩
 | false =>
  rw [if_neg (by simp)] at h
  obtain⟨t1,ht1,h⟩:=Option.bind_eq_some_iff.1 h
  have H1:=Zd (trim_Same_string.calls k Bx bx x By by_ y t1 W3 HCX.out HLX.out HCY.out HLY.out ht1)
  cases t1 with
  | true =>
   rw [if_pos rfl] at h
   obtain rfl:=Option.some.inj h
   clear ht1
   go_wp2_with (first|(go_at_call 145;(with_reducible refine H1.out.mono ?_);rintro e w4 ⟨rfl,hd⟩;obtain⟨n1,rfl⟩:=hd.out))
   go_ret
   exact⟨rfl,pw_below_drewN HB.out _⟩
  | false =>
   rw [if_neg (by simp)] at h
   obtain⟨t2,ht2,h⟩:=Option.bind_eq_some_iff.1 h
   have H2:=Zd (fun n1=>trim_Same_string.calls k Bx bx x Bz bz z t2 (W3.drewN n1) (Kd.C_drewN HCX.out _) HLX.out (Kd.C_drewN HCZ.out _) HLZ.out ht2)
   cases t2 with
   | true =>
    rw [if_pos rfl] at h
    obtain rfl:=Option.some.inj h
    clear ht1 ht2
    go_wp2_with (first|(go_at_call 145;(with_reducible refine H1.out.mono ?_);rintro e w4 ⟨rfl,hd⟩;obtain⟨n1,rfl⟩:=hd.out)|(go_at_call 145;(with_reducible refine (H2.out _).mono ?_);rintro e w5 ⟨rfl,hd⟩;obtain⟨n2,rfl⟩:=hd.out))
    go_ret
    exact⟨rfl,pw_below_drewN HB.out _⟩
   | false =>
    rw [if_neg (by simp)] at h
    obtain⟨t3,ht3,h⟩:=Option.bind_eq_some_iff.1 h
    have H3:=Zd (fun n1=>trim_Same_string.calls k By by_ y Bz bz z t3 (W3.drewN n1) (Kd.C_drewN HCY.out _) HLY.out (Kd.C_drewN HCZ.out _) HLZ.out ht3)
    cases t3 with
    | true =>
     rw [if_pos rfl] at h
     obtain rfl:=Option.some.inj h
     clear ht1 ht2 ht3
     go_wp2_with (first|(go_at_call 145;(with_reducible refine H1.out.mono ?_);rintro e w4 ⟨rfl,hd⟩;obtain⟨n1,rfl⟩:=hd.out)|(go_at_call 145;(with_reducible refine (H2.out _).mono ?_);rintro e w5 ⟨rfl,hd⟩;obtain⟨n2,rfl⟩:=hd.out)|(go_at_call 145;(with_reducible refine (H3.out _).mono ?_);rintro e w6 ⟨rfl,hd⟩;obtain⟨n3,rfl⟩:=hd.out))
     go_ret
     exact⟨rfl,pw_below_drewN HB.out _⟩
    | false =>
     rw [if_neg (by simp)] at h
     obtain rfl:=Option.some.inj h
     clear ht1 ht2 ht3
     go_wp2_with (first|(go_at_call 145;(with_reducible refine H1.out.mono ?_);rintro e w4 ⟨rfl,hd⟩;obtain⟨n1,rfl⟩:=hd.out)|(go_at_call 145;(with_reducible refine (H2.out _).mono ?_);rintro e w5 ⟨rfl,hd⟩;obtain⟨n2,rfl⟩:=hd.out)|(go_at_call 145;(with_reducible refine (H3.out _).mono ?_);rintro e w6 ⟨rfl,hd⟩;obtain⟨n3,rfl⟩:=hd.out))
     go_ret
     exact⟨rfl,pw_below_drewN HB.out _⟩
end Go.Proofs.YtfiamddinkokbaaGreat.F
end

section
namespace Go.Proofs.YtfiamddinkokbaaGreat.F
open Go.RowKit Go.Proofs.YtfiamddinkokbaaGreatW.PrintWords Go.Proofs.YtfiamddinkokbaaGreatW.PrintLast Go.Proofs.YtfiamddinkokbaaGreatW.PrintMore
attribute [local go_sem] max2_int min2_int max_two min_two max_three min_three max_four min_four
def chunk_Chunk_Class.f (k : Nat) (a0_0 : Bool) (a0_1 a0_2 a0_3 a0_4 a0_5 a0_6 : Int) (l1 l2 l3 : List ByteArray) : Option Int := classF k a0_0 a0_1 a0_2 a0_3 a0_4 a0_5 a0_6 l1 l2 l3
theorem chunk_Chunk_Class.mono : ∀ a0_0 a0_1 a0_2 a0_3 a0_4 a0_5 a0_6 l1 l2 l3 k,LeO (chunk_Chunk_Class.f k a0_0 a0_1 a0_2 a0_3 a0_4 a0_5 a0_6 l1 l2 l3) (chunk_Chunk_Class.f (k+1) a0_0 a0_1 a0_2 a0_3 a0_4 a0_5 a0_6 l1 l2 l3) := class_mono
theorem chunk_Chunk_Class.calls (k : Nat) (a0_0 : Bool) (a0_1 : Int) (a0_2 : Int) (a0_3 : Int) (a0_4 : Int) (a0_5 : Int) (a0_6 : Int) (A1 : Option Addr) (c1 : Nat) (l1 : List ByteArray) (A2 : Option Addr) (c2 : Nat) (l2 : List ByteArray) (A3 : Option Addr) (c3 : Nat) (l3 : List ByteArray) (r : Int) (w : World) (hr1 : Kd.C Kd.string w A1 l1.length l1) (hc1 : l1.length≤c1) (hr2 : Kd.C Kd.string w A2 l2.length l2) (hc2 : l2.length≤c2) (hr3 : Kd.C Kd.string w A3 l3.length l3) (hc3 : l3.length≤c3) (h : chunk_Chunk_Class.f k a0_0 a0_1 a0_2 a0_3 a0_4 a0_5 a0_6 l1 l2 l3=some r) :
  Calls Tryz.prog 126 #[.agg #[.bool a0_0,.int .i64 a0_1,.int .i64 a0_2,.int .i64 a0_3,.int .i64 a0_4,.int .i64 a0_5,.int .i64 a0_6],.slice A1 l1.length c1,.slice A2 l2.length c2,.slice A3 l3.length c3] w fun e w'=>e = .returned (.int .i64 r)∧Below w.heap.size w w':=by
 exact class_calls k a0_0 a0_1 a0_2 a0_3 a0_4 a0_5 a0_6 A1 c1 l1 A2 c2 l2 A3 c3 l3 r w hr1 hc1 hr2 hc2 hr3 hc3 h
def build_Files_cut.f (k : Nat) (l0_0 : List ByteArray) (l0_1 : List ByteArray) (l0_2 : List ByteArray) (a1_0 : Bool) (a1_1 : Int) (a1_2 : Int) (a1_3 : Int) (a1_4 : Int) (a1_5 : Int) (a1_6 : Int) : Option (Bool×Int×Int×Int×Int×Int×Int×List ByteArray×List ByteArray×List ByteArray×Int) := (chunk_Span_Cut.f a1_1 a1_2 l0_0).bind fun t153=>((chunk_Span_Cut.f a1_3 a1_4 l0_1).bind fun t156=>((chunk_Span_Cut.f a1_5 a1_6 l0_2).bind fun t159=>((chunk_Chunk_Class.f k a1_0 a1_1 a1_2 a1_3 a1_4 a1_5 a1_6 l0_0 l0_1 l0_2).bind fun t162=>(some (a1_0,a1_1,a1_2,a1_3,a1_4,a1_5,a1_6,t153,t156,t159,t162)))))
theorem build_Files_cut.mono : ∀ a0 a1 a2 a3 a4 a5 a6 a7 a8 a9 k,LeO (build_Files_cut.f k a0 a1 a2 a3 a4 a5 a6 a7 a8 a9) (build_Files_cut.f (k+1) a0 a1 a2 a3 a4 a5 a6 a7 a8 a9) := by
 intro a0 a1 a2 a3 a4 a5 a6 a7 a8 a9 k
 unfold build_Files_cut.f
 repeat' first
   | (with_reducible exact chunk_Chunk_Class.mono _ _ _ _ _ _ _ _ _ _ _)
   | (with_reducible exact LeO.refl _)
   | (with_reducible exact LeO.none _)
   | (with_reducible refine LeO.ite ?_ ?_)
   | (with_reducible refine LeO.bind ?_ (fun _=>?_))
   | exact chunk_Chunk_Class.mono _ _ _ _ _ _ _ _ _ _ _
   | exact LeO.none _
   | refine LeO.ite ?_ ?_
   | refine LeO.bind ?_ (fun _=>?_)
def build_Files_cut.T1 : Bool×List (List Nat×List Nat) := (true,[([],[]),([],[]),([1],[1]),([],[]),([3],[3]),([2,4],[2,4]),([],[]),([6],[6]),([],[]),([8],[8]),([7,9,5],[7,9]),([],[]),([11],[11]),([],[]),([13],[13]),([12,14,10],[12,14]),([],[]),([],[]),([17],[17]),([],[]),([19],[19]),([],[]),([21],[21]),([16,18,20,22,15],[16,18,20,22]),([0,5,10,15,23],[0,5,10,15,23]),([24,23,0,1,2,3,4,5,6,7,8,9,10,11,12,13,14,15,16,17,18,19,20,21,22,23,24],[24])])
def build_Files_cut.B1 : List Nat := [0,0,2,0,8,30,0,64,0,256,1022,0,2048,0,8192,32766,0,0,131072,0,524288,0,2097152,8388606,16777215,33554431]
theorem build_Files_cut.tab1 : rtab .any (opsOf Tryz.f89 1)=build_Files_cut.T1 := by kernel_rfl
theorem build_Files_cut.bits1 : waitsOk build_Files_cut.T1.2 build_Files_cut.B1=true := by kernel_rfl
set_option maxHeartbeats 8000000 in
set_option maxRecDepth 100000 in
theorem build_Files_cut.calls (k : Nat) (A0_0 : Option Addr) (c0_0 : Nat) (l0_0 : List ByteArray) (A0_1 : Option Addr) (c0_1 : Nat) (l0_1 : List ByteArray) (A0_2 : Option Addr) (c0_2 : Nat) (l0_2 : List ByteArray) (a1_0 : Bool) (a1_1 : Int) (a1_2 : Int) (a1_3 : Int) (a1_4 : Int) (a1_5 : Int) (a1_6 : Int) (r1 : Bool) (r2 : Int) (r3 : Int) (r4 : Int) (r5 : Int) (r6 : Int) (r7 : Int) (r8 : List ByteArray) (r9 : List ByteArray) (r10 : List ByteArray) (r11 : Int) (w : World) (hr0_0 : Kd.C Kd.string w A0_0 l0_0.length l0_0) (hc0_0 : l0_0.length≤c0_0) (hr0_1 : Kd.C Kd.string w A0_1 l0_1.length l0_1) (hc0_1 : l0_1.length≤c0_1) (hr0_2 : Kd.C Kd.string w A0_2 l0_2.length l0_2) (hc0_2 : l0_2.length≤c0_2) (h : build_Files_cut.f k l0_0 l0_1 l0_2 a1_0 a1_1 a1_2 a1_3 a1_4 a1_5 a1_6=some (r1,r2,r3,r4,r5,r6,r7,r8,r9,r10,r11)) :
  Calls Tryz.prog 89 #[.agg #[.slice A0_0 l0_0.length c0_0,.slice A0_1 l0_1.length c0_1,.slice A0_2 l0_2.length c0_2],.agg #[.bool a1_0,.int .i64 a1_1,.int .i64 a1_2,.int .i64 a1_3,.int .i64 a1_4,.int .i64 a1_5,.int .i64 a1_6]] w fun e w'=>∃ v7_ v8_ v9_:Value,e = .returned (.agg #[.bool r1,.int .i64 r2,.int .i64 r3,.int .i64 r4,.int .i64 r5,.int .i64 r6,.int .i64 r7,v7_,v8_,v9_,.int .i64 r11])∧Kd.R Kd.string 9 w' w.heap.size (fun k_=>some k_≠(v8_:Value).ownBlock∧some k_≠(v9_:Value).ownBlock) v7_ r8∧Kd.R Kd.string 9 w' w.heap.size (fun k_=>some k_≠(v7_:Value).ownBlock∧some k_≠(v9_:Value).ownBlock) v8_ r9∧Kd.R Kd.string 9 w' w.heap.size (fun k_=>some k_≠(v7_:Value).ownBlock∧some k_≠(v8_:Value).ownBlock) v9_ r10∧Below w.heap.size w w':=by
 have hu84:=Tryz.underlying84
 have hu121:=Tryz.underlying121
 have hu168:=Tryz.underlying168
 have hu119:=Tryz.underlying119
 have HR0_0:=Zd hr0_0
 have HC0_0:=Zd hc0_0
 clear hr0_0 hc0_0
 have HR0_1:=Zd hr0_1
 have HC0_1:=Zd hc0_1
 clear hr0_1 hc0_1
 have HR0_2:=Zd hr0_2
 have HC0_2:=Zd hc0_2
 clear hr0_2 hc0_2
 have HB:=Zd (Below.refl w.heap.size w)
 have H:((chunk_Span_Cut.f a1_1 a1_2 l0_0).bind fun t153=>((chunk_Span_Cut.f a1_3 a1_4 l0_1).bind fun t156=>((chunk_Span_Cut.f a1_5 a1_6 l0_2).bind fun t159=>((chunk_Chunk_Class.f k a1_0 a1_1 a1_2 a1_3 a1_4 a1_5 a1_6 l0_0 l0_1 l0_2).bind fun t162=>(some (a1_0,a1_1,a1_2,a1_3,a1_4,a1_5,a1_6,t153,t156,t159,t162))))))=some (r1,r2,r3,r4,r5,r6,r7,r8,r9,r10,r11):=h
 clear h
 replace H:=Option.bind_eq_some_iff.mp H
 obtain⟨t153,A30,H⟩:=H
 replace H:((chunk_Span_Cut.f a1_3 a1_4 l0_1).bind fun t156=>((chunk_Span_Cut.f a1_5 a1_6 l0_2).bind fun t159=>((chunk_Chunk_Class.f k a1_0 a1_1 a1_2 a1_3 a1_4 a1_5 a1_6 l0_0 l0_1 l0_2).bind fun t162=>(some (a1_0,a1_1,a1_2,a1_3,a1_4,a1_5,a1_6,t153,t156,t159,t162)))))=some (r1,r2,r3,r4,r5,r6,r7,r8,r9,r10,r11):=H
 have A3:=Zd A30
 clear A30
 replace H:=Option.bind_eq_some_iff.mp H
 obtain⟨t156,A40,H⟩:=H
 replace H:((chunk_Span_Cut.f a1_5 a1_6 l0_2).bind fun t159=>((chunk_Chunk_Class.f k a1_0 a1_1 a1_2 a1_3 a1_4 a1_5 a1_6 l0_0 l0_1 l0_2).bind fun t162=>(some (a1_0,a1_1,a1_2,a1_3,a1_4,a1_5,a1_6,t153,t156,t159,t162))))=some (r1,r2,r3,r4,r5,r6,r7,r8,r9,r10,r11):=H
 have A4:=Zd A40
 clear A40
 replace H:=Option.bind_eq_some_iff.mp H
 obtain⟨t159,A50,H⟩:=H
 replace H:((chunk_Chunk_Class.f k a1_0 a1_1 a1_2 a1_3 a1_4 a1_5 a1_6 l0_0 l0_1 l0_2).bind fun t162=>(some (a1_0,a1_1,a1_2,a1_3,a1_4,a1_5,a1_6,t153,t156,t159,t162)))=some (r1,r2,r3,r4,r5,r6,r7,r8,r9,r10,r11):=H
 have A5:=Zd A50
 clear A50
 replace H:=Option.bind_eq_some_iff.mp H
 obtain⟨t162,A60,H⟩:=H
 replace H:(some (a1_0,a1_1,a1_2,a1_3,a1_4,a1_5,a1_6,t153,t156,t159,t162))=some (r1,r2,r3,r4,r5,r6,r7,r8,r9,r10,r11):=H
 have A6:=Zd A60
 clear A60
 simp only [Option.some.injEq,Prod.mk.injEq] at H
 obtain⟨rfl,rfl,rfl,rfl,rfl,rfl,rfl,rfl,rfl,rfl,rfl⟩:=H
 go_enter Tryz.func89,Tryz.ntmps89
 try go_wp2_with (first|((with_reducible refine gate_dst (N:=2) rfl ?_);refine box_event ?hg (N:=2) ?hd (cs:=#[.slice A0_0 l0_0.length c0_0,.slice A0_1 l0_1.length c0_1,.slice A0_2 l0_2.length c0_2]) (t:=84) ?hr ?_;(case hd=>rfl);(case hg=>rfl);(case hr=>first|(go_simp;done)|(go_simp;rfl));intro gb150 hg w7 hbox hb;have n0_:=Zd (below_step Zb hb);have n1_:=Zd (hbox);have n2_:=Zd ((Zg hg:w.heap.size≤gb150));have n3_:=Zd ((Zg hg:w.heap.size≤gb150));clear HB;have HB:=n0_;have BK150:=n1_;have GW150:=n2_;have GE150:=n3_;clear n0_ n1_ n2_ n3_;clear hb hbox hg)|((with_reducible refine gate_dst (N:=3) rfl ?_);refine box_event ?hg (N:=3) ?hd (cs:=#[.bool a1_0,.int .i64 a1_1,.int .i64 a1_2,.int .i64 a1_3,.int .i64 a1_4,.int .i64 a1_5,.int .i64 a1_6]) (t:=121) ?hr ?_;(case hd=>rfl);(case hg=>rfl);(case hr=>first|(go_simp;done)|(go_simp;rfl));intro gb151 hg w8 hbox hb;have n0_:=Zd (blk_below (g:=gb150) (o := .cells #[.slice A0_0 l0_0.length c0_0,.slice A0_1 l0_1.length c0_1,.slice A0_2 l0_2.length c0_2] 84 (0,0)) (Zk BK150.out) hb);have n1_:=Zd (below_step Zb hb);have n2_:=Zd (hbox);have n3_:=Zd ((Zg hg:w.heap.size≤gb151));have n4_:=Zd ((Zg hg:w.heap.size≤gb151));have n5_:=Zd ((by rw [hg];exact Nat.ne_of_lt (blk_lt (g:=gb150) (o := .cells #[.slice A0_0 l0_0.length c0_0,.slice A0_1 l0_1.length c0_1,.slice A0_2 l0_2.length c0_2] 84 (0,0)) (Zk BK150.out)):gb150≠gb151));have n6_:=Zd ((by rw [hg];exact Nat.ne_of_gt (blk_lt (g:=gb150) (o := .cells #[.slice A0_0 l0_0.length c0_0,.slice A0_1 l0_1.length c0_1,.slice A0_2 l0_2.length c0_2] 84 (0,0)) (Zk BK150.out)):gb151≠gb150));clear BK150;clear HB;have BK150:=n0_;have HB:=n1_;have BK151:=n2_;have GW151:=n3_;have GE151:=n4_;have NB150_151:=n5_;have NB151_150:=n6_;clear n0_ n1_ n2_ n3_ n4_ n5_ n6_;clear hb hbox hg)|((with_reducible refine gate_dst (N:=4) rfl ?_);refine box_event ?hg (N:=4) ?hd (cs:=#[.bool false,.int .i64 0,.int .i64 0,.int .i64 0,.int .i64 0,.int .i64 0,.int .i64 0,.slice none 0 0,.slice none 0 0,.slice none 0 0,.int .i64 0]) (t:=168) ?hr ?_;(case hd=>rfl);(case hg=>rfl);(case hr=>first|(go_simp;done)|(go_simp;rfl));intro gb152 hg w9 hbox hb;have n0_:=Zd (blk_below (g:=gb150) (o := .cells #[.slice A0_0 l0_0.length c0_0,.slice A0_1 l0_1.length c0_1,.slice A0_2 l0_2.length c0_2] 84 (0,0)) (Zk BK150.out) hb);have n1_:=Zd (blk_below (g:=gb151) (o := .cells #[.bool a1_0,.int .i64 a1_1,.int .i64 a1_2,.int .i64 a1_3,.int .i64 a1_4,.int .i64 a1_5,.int .i64 a1_6] 121 (0,0)) (Zk BK151.out) hb);have n2_:=Zd (below_step Zb hb);have n3_:=Zd (hbox);have n4_:=Zd ((Zg hg:w.heap.size≤gb152));have n5_:=Zd ((Zg hg:w.heap.size≤gb152));have n6_:=Zd ((by rw [hg];exact Nat.ne_of_lt (blk_lt (g:=gb150) (o := .cells #[.slice A0_0 l0_0.length c0_0,.slice A0_1 l0_1.length c0_1,.slice A0_2 l0_2.length c0_2] 84 (0,0)) (Zk BK150.out)):gb150≠gb152));have n7_:=Zd ((by rw [hg];exact Nat.ne_of_gt (blk_lt (g:=gb150) (o := .cells #[.slice A0_0 l0_0.length c0_0,.slice A0_1 l0_1.length c0_1,.slice A0_2 l0_2.length c0_2] 84 (0,0)) (Zk BK150.out)):gb152≠gb150));have n8_:=Zd ((by rw [hg];exact Nat.ne_of_lt (blk_lt (g:=gb151) (o := .cells #[.bool a1_0,.int .i64 a1_1,.int .i64 a1_2,.int .i64 a1_3,.int .i64 a1_4,.int .i64 a1_5,.int .i64 a1_6] 121 (0,0)) (Zk BK151.out)):gb151≠gb152));have n9_:=Zd ((by rw [hg];exact Nat.ne_of_gt (blk_lt (g:=gb151) (o := .cells #[.bool a1_0,.int .i64 a1_1,.int .i64 a1_2,.int .i64 a1_3,.int .i64 a1_4,.int .i64 a1_5,.int .i64 a1_6] 121 (0,0)) (Zk BK151.out)):gb152≠gb151));clear BK150;clear BK151;clear HB;have BK150:=n0_;have BK151:=n1_;have HB:=n2_;have BK152:=n3_;have GW152:=n4_;have GE152:=n5_;have NB150_152:=n6_;have NB152_150:=n7_;have NB151_152:=n8_;have NB152_151:=n9_;clear n0_ n1_ n2_ n3_ n4_ n5_ n6_ n7_ n8_ n9_;clear hb hbox hg))
 have n0_:=Zd (blk_drew BK150.out)
 have n1_:=Zd (blk_drew BK151.out)
 have n2_:=Zd (blk_drew BK152.out)
 have n3_:=Zd (below_drew1 HB.out)
 clear BK150
 clear BK151
 clear BK152
 clear HB
 have BK150:=n0_
 have BK151:=n1_
 have BK152:=n2_
 have HB:=n3_
 clear n0_ n1_ n2_ n3_
 refine start_ (n:=26) (S:=fun w'=>w'.cell? ⟨gb151,0,none⟩=some (.bool a1_0)∧w'.cell? ⟨gb151,1,none⟩=some (.int .i64 a1_1)∧w'.cell? ⟨gb151,2,none⟩=some (.int .i64 a1_2)∧w'.cell? ⟨gb151,3,none⟩=some (.int .i64 a1_3)∧w'.cell? ⟨gb151,4,none⟩=some (.int .i64 a1_4)∧w'.cell? ⟨gb151,5,none⟩=some (.int .i64 a1_5)∧w'.cell? ⟨gb151,6,none⟩=some (.int .i64 a1_6)∧w'.cell? ⟨gb150,0,none⟩=some (.slice A0_0 l0_0.length c0_0)∧w'.cell? ⟨gb150,1,none⟩=some (.slice A0_1 l0_1.length c0_1)∧w'.cell? ⟨gb150,2,none⟩=some (.slice A0_2 l0_2.length c0_2)) (ds:=[]) #[false,false,false,false,false,false,false,false,false,false,false,false,false,false,false,false,false,false,false,false,false,false,false,false,false,false] (by kernel_rfl) rfl rfl ⟨(blk_cell BK151.out 0).trans rfl,(blk_cell BK151.out 1).trans rfl,(blk_cell BK151.out 2).trans rfl,(blk_cell BK151.out 3).trans rfl,(blk_cell BK151.out 4).trans rfl,(blk_cell BK151.out 5).trans rfl,(blk_cell BK151.out 6).trans rfl,(blk_cell BK150.out 0).trans rfl,(blk_cell BK150.out 1).trans rfl,(blk_cell BK150.out 2).trans rfl⟩ (fun hHeld=>?_);refine with_tabW build_Files_cut.tab1 build_Files_cut.bits1 (fun HT_ HW_=>?_)
 generalize w9.drew=w10 at BK150 BK151 BK152 HB hHeld ⊢
 refine pure_ (i:=1) (N:=some 6) (v:=?_) (a':=?_) #[false,true,false,false,false,false,false,false,false,false,false,false,false,false,false,false,false,false,false,false,false,false,false,false,false,false] rfl rfl (any_of HT_.out (by kernel_rfl)) (fun _ _ _ h=>h) (Or.inl ⟨by rfl,?_⟩) ?_ ?_
 rotate_left
 ·intro w'
  go_simp
  with_reducible rfl
 rotate_left
 ·simp only [Act.put,List.setIfInBounds_toArray,List.set_cons_zero,List.set_cons_succ,i64_w,i32_w]
  rfl
 refine pure_ (i:=3) (N:=some 8) (v:=?_) (a':=?_) #[false,true,false,true,false,false,false,false,false,false,false,false,false,false,false,false,false,false,false,false,false,false,false,false,false,false] rfl rfl (any_of HT_.out (by kernel_rfl)) (fun _ _ _ h=>h) (Or.inl ⟨by rfl,?_⟩) ?_ ?_
 rotate_left
 ·intro w'
  go_simp
  with_reducible rfl
 rotate_left
 ·simp only [Act.put,List.setIfInBounds_toArray,List.set_cons_zero,List.set_cons_succ,i64_w,i32_w]
  rfl
 refine pure_ (i:=6) (N:=some 11) (v:=?_) (a':=?_) #[false,true,false,true,false,false,true,false,false,false,false,false,false,false,false,false,false,false,false,false,false,false,false,false,false,false] rfl rfl (any_of HT_.out (by kernel_rfl)) (fun _ _ _ h=>h) (Or.inl ⟨by rfl,?_⟩) ?_ ?_
 rotate_left
 ·intro w'
  go_simp
  with_reducible rfl
 rotate_left
 ·simp only [Act.put,List.setIfInBounds_toArray,List.set_cons_zero,List.set_cons_succ,i64_w,i32_w]
  rfl
 refine pure_ (i:=8) (N:=some 13) (v:=?_) (a':=?_) #[false,true,false,true,false,false,true,false,true,false,false,false,false,false,false,false,false,false,false,false,false,false,false,false,false,false] rfl rfl (any_of HT_.out (by kernel_rfl)) (fun _ _ _ h=>h) (Or.inl ⟨by rfl,?_⟩) ?_ ?_
 rotate_left
 ·intro w'
  go_simp
  with_reducible rfl
 rotate_left
 ·simp only [Act.put,List.setIfInBounds_toArray,List.set_cons_zero,List.set_cons_succ,i64_w,i32_w]
  rfl
 refine pure_ (i:=11) (N:=some 16) (v:=?_) (a':=?_) #[false,true,false,true,false,false,true,false,true,false,false,true,false,false,false,false,false,false,false,false,false,false,false,false,false,false] rfl rfl (any_of HT_.out (by kernel_rfl)) (fun _ _ _ h=>h) (Or.inl ⟨by rfl,?_⟩) ?_ ?_
 rotate_left
 ·intro w'
  go_simp
  with_reducible rfl
 rotate_left
 ·simp only [Act.put,List.setIfInBounds_toArray,List.set_cons_zero,List.set_cons_succ,i64_w,i32_w]
  rfl
 refine pure_ (i:=13) (N:=some 18) (v:=?_) (a':=?_) #[false,true,false,true,false,false,true,false,true,false,false,true,false,true,false,false,false,false,false,false,false,false,false,false,false,false] rfl rfl (any_of HT_.out (by kernel_rfl)) (fun _ _ _ h=>h) (Or.inl ⟨by rfl,?_⟩) ?_ ?_
 rotate_left
 ·intro w'
  go_simp
  with_reducible rfl
 rotate_left
 ·simp only [Act.put,List.setIfInBounds_toArray,List.set_cons_zero,List.set_cons_succ,i64_w,i32_w]
  rfl
 refine pure_ (i:=17) (N:=some 22) (v:=?_) (a':=?_) #[false,true,false,true,false,false,true,false,true,false,false,true,false,true,false,false,false,true,false,false,false,false,false,false,false,false] rfl rfl (any_of HT_.out (by kernel_rfl)) (fun _ _ _ h=>h) (Or.inl ⟨by rfl,?_⟩) ?_ ?_
 rotate_left
 ·intro w'
  go_simp
  with_reducible rfl
 rotate_left
 ·simp only [Act.put,List.setIfInBounds_toArray,List.set_cons_zero,List.set_cons_succ,i64_w,i32_w]
  rfl
 refine pure_ (i:=19) (N:=some 24) (v:=?_) (a':=?_) #[false,true,false,true,false,false,true,false,true,false,false,true,false,true,false,false,false,true,false,true,false,false,false,false,false,false] rfl rfl (any_of HT_.out (by kernel_rfl)) (fun _ _ _ h=>h) (Or.inl ⟨by rfl,?_⟩) ?_ ?_
 rotate_left
 ·intro w'
  go_simp
  with_reducible rfl
 rotate_left
 ·simp only [Act.put,List.setIfInBounds_toArray,List.set_cons_zero,List.set_cons_succ,i64_w,i32_w]
  rfl
 refine pure_ (i:=21) (N:=some 26) (v:=?_) (a':=?_) #[false,true,false,true,false,false,true,false,true,false,false,true,false,true,false,false,false,true,false,true,false,true,false,false,false,false] rfl rfl (any_of HT_.out (by kernel_rfl)) (fun _ _ _ h=>h) (Or.inl ⟨by rfl,?_⟩) ?_ ?_
 rotate_left
 ·intro w'
  go_simp
  with_reducible rfl
 rotate_left
 ·simp only [Act.put,List.setIfInBounds_toArray,List.set_cons_zero,List.set_cons_succ,i64_w,i32_w]
  rfl
 refine take_ (i:=0) (N:=some 5) (v:=?_) (a':=?_) #[true,true,false,true,false,false,true,false,true,false,false,true,false,true,false,false,false,true,false,true,false,true,false,false,false,false] rfl rfl (take_ofW HT_.out HW_.out (by kernel_rfl)) (fun _ _ _ h=>h) (Or.inl ⟨by rfl,?_⟩) hHeld ?_ ?_
 rotate_left
 ·rintro w' ⟨s0,s1,s2,s3,s4,s5,s6,s7,s8,s9⟩
  go_simp
  with_reducible rfl
 rotate_left
 ·simp only [Act.put,List.setIfInBounds_toArray,List.set_cons_zero,List.set_cons_succ,i64_w,i32_w]
  rfl
 refine take_ (i:=2) (N:=some 7) (v:=?_) (a':=?_) #[true,true,true,true,false,false,true,false,true,false,false,true,false,true,false,false,false,true,false,true,false,true,false,false,false,false] rfl rfl (take_ofW HT_.out HW_.out (by kernel_rfl)) (fun _ _ _ h=>h) (Or.inl ⟨by rfl,?_⟩) hHeld ?_ ?_
 rotate_left
 ·rintro w' ⟨s0,s1,s2,s3,s4,s5,s6,s7,s8,s9⟩
  go_simp
  with_reducible rfl
 rotate_left
 ·simp only [Act.put,List.setIfInBounds_toArray,List.set_cons_zero,List.set_cons_succ,i64_w,i32_w]
  rfl
 refine take_ (i:=4) (N:=some 9) (v:=?_) (a':=?_) #[true,true,true,true,true,false,true,false,true,false,false,true,false,true,false,false,false,true,false,true,false,true,false,false,false,false] rfl rfl (take_ofW HT_.out HW_.out (by kernel_rfl)) (fun _ _ _ h=>h) (Or.inl ⟨by rfl,?_⟩) hHeld ?_ ?_
 rotate_left
 ·rintro w' ⟨s0,s1,s2,s3,s4,s5,s6,s7,s8,s9⟩
  go_simp
  with_reducible rfl
 rotate_left
 ·simp only [Act.put,List.setIfInBounds_toArray,List.set_cons_zero,List.set_cons_succ,i64_w,i32_w]
  rfl
 refine take_ (i:=7) (N:=some 12) (v:=?_) (a':=?_) #[true,true,true,true,true,false,true,true,true,false,false,true,false,true,false,false,false,true,false,true,false,true,false,false,false,false] rfl rfl (take_ofW HT_.out HW_.out (by kernel_rfl)) (fun _ _ _ h=>h) (Or.inl ⟨by rfl,?_⟩) hHeld ?_ ?_
 rotate_left
 ·rintro w' ⟨s0,s1,s2,s3,s4,s5,s6,s7,s8,s9⟩
  go_simp
  with_reducible rfl
 rotate_left
 ·simp only [Act.put,List.setIfInBounds_toArray,List.set_cons_zero,List.set_cons_succ,i64_w,i32_w]
  rfl
 refine take_ (i:=9) (N:=some 14) (v:=?_) (a':=?_) #[true,true,true,true,true,false,true,true,true,true,false,true,false,true,false,false,false,true,false,true,false,true,false,false,false,false] rfl rfl (take_ofW HT_.out HW_.out (by kernel_rfl)) (fun _ _ _ h=>h) (Or.inl ⟨by rfl,?_⟩) hHeld ?_ ?_
 rotate_left
 ·rintro w' ⟨s0,s1,s2,s3,s4,s5,s6,s7,s8,s9⟩
  go_simp
  with_reducible rfl
 rotate_left
 ·simp only [Act.put,List.setIfInBounds_toArray,List.set_cons_zero,List.set_cons_succ,i64_w,i32_w]
  rfl
 refine take_ (i:=12) (N:=some 17) (v:=?_) (a':=?_) #[true,true,true,true,true,false,true,true,true,true,false,true,true,true,false,false,false,true,false,true,false,true,false,false,false,false] rfl rfl (take_ofW HT_.out HW_.out (by kernel_rfl)) (fun _ _ _ h=>h) (Or.inl ⟨by rfl,?_⟩) hHeld ?_ ?_
 rotate_left
 ·rintro w' ⟨s0,s1,s2,s3,s4,s5,s6,s7,s8,s9⟩
  go_simp
  with_reducible rfl
 rotate_left
 ·simp only [Act.put,List.setIfInBounds_toArray,List.set_cons_zero,List.set_cons_succ,i64_w,i32_w]
  rfl
 refine take_ (i:=14) (N:=some 19) (v:=?_) (a':=?_) #[true,true,true,true,true,false,true,true,true,true,false,true,true,true,true,false,false,true,false,true,false,true,false,false,false,false] rfl rfl (take_ofW HT_.out HW_.out (by kernel_rfl)) (fun _ _ _ h=>h) (Or.inl ⟨by rfl,?_⟩) hHeld ?_ ?_
 rotate_left
 ·rintro w' ⟨s0,s1,s2,s3,s4,s5,s6,s7,s8,s9⟩
  go_simp
  with_reducible rfl
 rotate_left
 ·simp only [Act.put,List.setIfInBounds_toArray,List.set_cons_zero,List.set_cons_succ,i64_w,i32_w]
  rfl
 refine take_ (i:=16) (N:=some 21) (v:=?_) (a':=?_) #[true,true,true,true,true,false,true,true,true,true,false,true,true,true,true,false,true,true,false,true,false,true,false,false,false,false] rfl rfl (take_ofW HT_.out HW_.out (by kernel_rfl)) (fun _ _ _ h=>h) (Or.inl ⟨by rfl,?_⟩) hHeld ?_ ?_
 rotate_left
 ·rintro w' ⟨s0,s1,s2,s3,s4,s5,s6,s7,s8,s9⟩
  go_simp
  with_reducible rfl
 rotate_left
 ·simp only [Act.put,List.setIfInBounds_toArray,List.set_cons_zero,List.set_cons_succ,i64_w,i32_w]
  rfl
 refine take_ (i:=18) (N:=some 23) (v:=?_) (a':=?_) #[true,true,true,true,true,false,true,true,true,true,false,true,true,true,true,false,true,true,true,true,false,true,false,false,false,false] rfl rfl (take_ofW HT_.out HW_.out (by kernel_rfl)) (fun _ _ _ h=>h) (Or.inl ⟨by rfl,?_⟩) hHeld ?_ ?_
 rotate_left
 ·rintro w' ⟨s0,s1,s2,s3,s4,s5,s6,s7,s8,s9⟩
  go_simp
  with_reducible rfl
 rotate_left
 ·simp only [Act.put,List.setIfInBounds_toArray,List.set_cons_zero,List.set_cons_succ,i64_w,i32_w]
  rfl
 refine take_ (i:=20) (N:=some 25) (v:=?_) (a':=?_) #[true,true,true,true,true,false,true,true,true,true,false,true,true,true,true,false,true,true,true,true,true,true,false,false,false,false] rfl rfl (take_ofW HT_.out HW_.out (by kernel_rfl)) (fun _ _ _ h=>h) (Or.inl ⟨by rfl,?_⟩) hHeld ?_ ?_
 rotate_left
 ·rintro w' ⟨s0,s1,s2,s3,s4,s5,s6,s7,s8,s9⟩
  go_simp
  with_reducible rfl
 rotate_left
 ·simp only [Act.put,List.setIfInBounds_toArray,List.set_cons_zero,List.set_cons_succ,i64_w,i32_w]
  rfl
 refine take_ (i:=22) (N:=some 27) (v:=?_) (a':=?_) #[true,true,true,true,true,false,true,true,true,true,false,true,true,true,true,false,true,true,true,true,true,true,true,false,false,false] rfl rfl (take_ofW HT_.out HW_.out (by kernel_rfl)) (fun _ _ _ h=>h) (Or.inl ⟨by rfl,?_⟩) hHeld ?_ ?_
 rotate_left
 ·rintro w' ⟨s0,s1,s2,s3,s4,s5,s6,s7,s8,s9⟩
  go_simp
  with_reducible rfl
 rotate_left
 ·simp only [Act.put,List.setIfInBounds_toArray,List.set_cons_zero,List.set_cons_succ,i64_w,i32_w]
  rfl
 refine one_ (i:=5) (N:=some 10) #[true,true,true,true,true,true,true,true,true,true,false,true,true,true,true,false,true,true,true,true,true,true,true,false,false,false] rfl rfl (one_of HT_.out (by kernel_rfl)) (by decide) (fun K hK=>?_)
 refine goes_ Tryz.func125 (by kernel_rfl) rfl #[.agg #[.int .i64 a1_1,.int .i64 a1_2],.slice A0_0 l0_0.length c0_0] (by rfl) rfl rfl Zl ?_
 with_reducible refine (chunk_Span_Cut.calls a1_1 a1_2 _ _ l0_0 t153 _ ?side1 ?side2 A3.out).mono ?_
 (case side1=>repeat (first|exact (Kd.C_below HR0_0.out HB.out)|(with_reducible refine Kd.C_alloc ?_ _)|(with_reducible refine Kd.C_drewN ?_ _)|(with_reducible refine Kd.C_drew ?_)))
 (case side2=>exact HC0_0.out)
 rintro e w11 ⟨v154,rfl,ho0,hb⟩
 refine⟨_,rfl,?_⟩
 have n0_:=Zd (Kd.R_lower ho0 (below_size Zb))
 have n1_:=Zd (blk_below (g:=gb150) (o := .cells #[.slice A0_0 l0_0.length c0_0,.slice A0_1 l0_1.length c0_1,.slice A0_2 l0_2.length c0_2] 84 (0,0)) (Zk BK150.out) hb)
 have n2_:=Zd (blk_below (g:=gb151) (o := .cells #[.bool a1_0,.int .i64 a1_1,.int .i64 a1_2,.int .i64 a1_3,.int .i64 a1_4,.int .i64 a1_5,.int .i64 a1_6] 121 (0,0)) (Zk BK151.out) hb)
 have n3_:=Zd (blk_below (g:=gb152) (o := .cells #[.bool false,.int .i64 0,.int .i64 0,.int .i64 0,.int .i64 0,.int .i64 0,.int .i64 0,.slice none 0 0,.slice none 0 0,.slice none 0 0,.int .i64 0] 168 (0,0)) (Zk BK152.out) hb)
 have n4_:=Zd (below_step Zb hb)
 clear BK150
 clear BK151
 clear BK152
 clear HB
 have HO155:=n0_
 have BK150:=n1_
 have BK151:=n2_
 have BK152:=n3_
 have HB:=n4_
 clear n0_ n1_ n2_ n3_ n4_
 (try clear hb)
 (try clear hb2)
 (try clear hk)
 (try clear hi)
 (try clear ho0)
 refine hK.out _ _ ⟨(blk_cell BK151.out 0).trans rfl,(blk_cell BK151.out 1).trans rfl,(blk_cell BK151.out 2).trans rfl,(blk_cell BK151.out 3).trans rfl,(blk_cell BK151.out 4).trans rfl,(blk_cell BK151.out 5).trans rfl,(blk_cell BK151.out 6).trans rfl,(blk_cell BK150.out 0).trans rfl,(blk_cell BK150.out 1).trans rfl,(blk_cell BK150.out 2).trans rfl⟩ (fun hHeld=>?_)
 clear hK K
 refine norm_ (a':=?_) ?_ ?_
 rotate_left
 ·show Act.put _ (some 10) _=_
  simp only [Act.put,List.setIfInBounds_toArray,List.set_cons_zero,List.set_cons_succ,i64_w,i32_w]
  rfl
 refine one_ (i:=10) (N:=some 15) #[true,true,true,true,true,true,true,true,true,true,true,true,true,true,true,false,true,true,true,true,true,true,true,false,false,false] rfl rfl (one_of HT_.out (by kernel_rfl)) (by decide) (fun K hK=>?_)
 refine goes_ Tryz.func125 (by kernel_rfl) rfl #[.agg #[.int .i64 a1_3,.int .i64 a1_4],.slice A0_1 l0_1.length c0_1] (by rfl) rfl rfl Zl ?_
 with_reducible refine (chunk_Span_Cut.calls a1_3 a1_4 _ _ l0_1 t156 _ ?side1 ?side2 A4.out).mono ?_
 (case side1=>repeat (first|exact (Kd.C_below HR0_1.out HB.out)|(with_reducible refine Kd.C_alloc ?_ _)|(with_reducible refine Kd.C_drewN ?_ _)|(with_reducible refine Kd.C_drew ?_)))
 (case side2=>exact HC0_1.out)
 rintro e w12 ⟨v157,rfl,ho0,hb⟩
 refine⟨_,rfl,?_⟩
 have n0_:=Zd (Kd.R_elder' (Zr HO155.out) (Kd.R_base ho0) hb)
 have n1_:=Zd (Kd.R_lower (Kd.R_new' ho0 (Kd.R_lt (Zr HO155.out))) (below_size Zb))
 have n2_:=Zd (blk_below (g:=gb150) (o := .cells #[.slice A0_0 l0_0.length c0_0,.slice A0_1 l0_1.length c0_1,.slice A0_2 l0_2.length c0_2] 84 (0,0)) (Zk BK150.out) hb)
 have n3_:=Zd (blk_below (g:=gb151) (o := .cells #[.bool a1_0,.int .i64 a1_1,.int .i64 a1_2,.int .i64 a1_3,.int .i64 a1_4,.int .i64 a1_5,.int .i64 a1_6] 121 (0,0)) (Zk BK151.out) hb)
 have n4_:=Zd (blk_below (g:=gb152) (o := .cells #[.bool false,.int .i64 0,.int .i64 0,.int .i64 0,.int .i64 0,.int .i64 0,.int .i64 0,.slice none 0 0,.slice none 0 0,.slice none 0 0,.int .i64 0] 168 (0,0)) (Zk BK152.out) hb)
 have n5_:=Zd (below_step Zb hb)
 clear HO155
 clear BK150
 clear BK151
 clear BK152
 clear HB
 have HO155:=n0_
 have HO158:=n1_
 have BK150:=n2_
 have BK151:=n3_
 have BK152:=n4_
 have HB:=n5_
 clear n0_ n1_ n2_ n3_ n4_ n5_
 (try clear hb)
 (try clear hb2)
 (try clear hk)
 (try clear hi)
 (try clear ho0)
 refine hK.out _ _ ⟨(blk_cell BK151.out 0).trans rfl,(blk_cell BK151.out 1).trans rfl,(blk_cell BK151.out 2).trans rfl,(blk_cell BK151.out 3).trans rfl,(blk_cell BK151.out 4).trans rfl,(blk_cell BK151.out 5).trans rfl,(blk_cell BK151.out 6).trans rfl,(blk_cell BK150.out 0).trans rfl,(blk_cell BK150.out 1).trans rfl,(blk_cell BK150.out 2).trans rfl⟩ (fun hHeld=>?_)
 clear hK K
 refine norm_ (a':=?_) ?_ ?_
 rotate_left
 ·show Act.put _ (some 15) _=_
  simp only [Act.put,List.setIfInBounds_toArray,List.set_cons_zero,List.set_cons_succ,i64_w,i32_w]
  rfl
 refine one_ (i:=15) (N:=some 20) #[true,true,true,true,true,true,true,true,true,true,true,true,true,true,true,true,true,true,true,true,true,true,true,false,false,false] rfl rfl (one_of HT_.out (by kernel_rfl)) (by decide) (fun K hK=>?_)
 refine goes_ Tryz.func125 (by kernel_rfl) rfl #[.agg #[.int .i64 a1_5,.int .i64 a1_6],.slice A0_2 l0_2.length c0_2] (by rfl) rfl rfl Zl ?_
 with_reducible refine (chunk_Span_Cut.calls a1_5 a1_6 _ _ l0_2 t159 _ ?side1 ?side2 A5.out).mono ?_
 (case side1=>repeat (first|exact (Kd.C_below HR0_2.out HB.out)|(with_reducible refine Kd.C_alloc ?_ _)|(with_reducible refine Kd.C_drewN ?_ _)|(with_reducible refine Kd.C_drew ?_)))
 (case side2=>exact HC0_2.out)
 rintro e w13 ⟨v160,rfl,ho0,hb⟩
 refine⟨_,rfl,?_⟩
 have n0_:=Zd (Kd.R_elder' (Zr HO155.out) (Kd.R_base ho0) hb)
 have n1_:=Zd (Kd.R_elder' (Zr HO158.out) (Kd.R_base ho0) hb)
 have n2_:=Zd (Kd.R_lower (Kd.R_new' (Kd.R_new' ho0 (Kd.R_lt (Zr HO155.out))) (Kd.R_lt (Zr HO158.out))) (below_size Zb))
 have n3_:=Zd (blk_below (g:=gb150) (o := .cells #[.slice A0_0 l0_0.length c0_0,.slice A0_1 l0_1.length c0_1,.slice A0_2 l0_2.length c0_2] 84 (0,0)) (Zk BK150.out) hb)
 have n4_:=Zd (blk_below (g:=gb151) (o := .cells #[.bool a1_0,.int .i64 a1_1,.int .i64 a1_2,.int .i64 a1_3,.int .i64 a1_4,.int .i64 a1_5,.int .i64 a1_6] 121 (0,0)) (Zk BK151.out) hb)
 have n5_:=Zd (blk_below (g:=gb152) (o := .cells #[.bool false,.int .i64 0,.int .i64 0,.int .i64 0,.int .i64 0,.int .i64 0,.int .i64 0,.slice none 0 0,.slice none 0 0,.slice none 0 0,.int .i64 0] 168 (0,0)) (Zk BK152.out) hb)
 have n6_:=Zd (below_step Zb hb)
 clear HO155
 clear HO158
 clear BK150
 clear BK151
 clear BK152
 clear HB
 have HO155:=n0_
 have HO158:=n1_
 have HO161:=n2_
 have BK150:=n3_
 have BK151:=n4_
 have BK152:=n5_
 have HB:=n6_
 clear n0_ n1_ n2_ n3_ n4_ n5_ n6_
 (try clear hb)
 (try clear hb2)
 (try clear hk)
 (try clear hi)
 (try clear ho0)
 refine hK.out _ _ ⟨(blk_cell BK151.out 0).trans rfl,(blk_cell BK151.out 1).trans rfl,(blk_cell BK151.out 2).trans rfl,(blk_cell BK151.out 3).trans rfl,(blk_cell BK151.out 4).trans rfl,(blk_cell BK151.out 5).trans rfl,(blk_cell BK151.out 6).trans rfl,(blk_cell BK150.out 0).trans rfl,(blk_cell BK150.out 1).trans rfl,(blk_cell BK150.out 2).trans rfl⟩ (fun hHeld=>?_)
 clear hK K
 refine norm_ (a':=?_) ?_ ?_
 rotate_left
 ·show Act.put _ (some 20) _=_
  simp only [Act.put,List.setIfInBounds_toArray,List.set_cons_zero,List.set_cons_succ,i64_w,i32_w]
  rfl
 refine one_ (i:=23) (N:=some 28) #[true,true,true,true,true,true,true,true,true,true,true,true,true,true,true,true,true,true,true,true,true,true,true,true,false,false] rfl rfl (one_of HT_.out (by kernel_rfl)) (by decide) (fun K hK=>?_)
 refine goes_ Tryz.func126 (by kernel_rfl) rfl #[.agg #[.bool a1_0,.int .i64 a1_1,.int .i64 a1_2,.int .i64 a1_3,.int .i64 a1_4,.int .i64 a1_5,.int .i64 a1_6],.slice A0_0 l0_0.length c0_0,.slice A0_1 l0_1.length c0_1,.slice A0_2 l0_2.length c0_2] (by rfl) rfl rfl Zl ?_
 with_reducible refine (chunk_Chunk_Class.calls k a1_0 a1_1 a1_2 a1_3 a1_4 a1_5 a1_6 _ _ l0_0 _ _ l0_1 _ _ l0_2 t162 _ ?side1 ?side2 ?side3 ?side4 ?side5 ?side6 A6.out).mono ?_
 (case side1=>repeat (first|exact (Kd.C_below HR0_0.out HB.out)|(with_reducible refine Kd.C_alloc ?_ _)|(with_reducible refine Kd.C_drewN ?_ _)|(with_reducible refine Kd.C_drew ?_)))
 (case side2=>exact HC0_0.out)
 (case side3=>repeat (first|exact (Kd.C_below HR0_1.out HB.out)|(with_reducible refine Kd.C_alloc ?_ _)|(with_reducible refine Kd.C_drewN ?_ _)|(with_reducible refine Kd.C_drew ?_)))
 (case side4=>exact HC0_1.out)
 (case side5=>repeat (first|exact (Kd.C_below HR0_2.out HB.out)|(with_reducible refine Kd.C_alloc ?_ _)|(with_reducible refine Kd.C_drewN ?_ _)|(with_reducible refine Kd.C_drew ?_)))
 (case side6=>exact HC0_2.out)
 rintro e w14 ⟨rfl,hb⟩
 refine⟨_,rfl,?_⟩
 have n0_:=Zd (Kd.R_below (Zr HO155.out) hb)
 have n1_:=Zd (Kd.R_below (Zr HO158.out) hb)
 have n2_:=Zd (Kd.R_below (Zr HO161.out) hb)
 have n3_:=Zd (blk_below (g:=gb150) (o := .cells #[.slice A0_0 l0_0.length c0_0,.slice A0_1 l0_1.length c0_1,.slice A0_2 l0_2.length c0_2] 84 (0,0)) (Zk BK150.out) hb)
 have n4_:=Zd (blk_below (g:=gb151) (o := .cells #[.bool a1_0,.int .i64 a1_1,.int .i64 a1_2,.int .i64 a1_3,.int .i64 a1_4,.int .i64 a1_5,.int .i64 a1_6] 121 (0,0)) (Zk BK151.out) hb)
 have n5_:=Zd (blk_below (g:=gb152) (o := .cells #[.bool false,.int .i64 0,.int .i64 0,.int .i64 0,.int .i64 0,.int .i64 0,.int .i64 0,.slice none 0 0,.slice none 0 0,.slice none 0 0,.int .i64 0] 168 (0,0)) (Zk BK152.out) hb)
 have n6_:=Zd (below_step Zb hb)
 clear HO155
 clear HO158
 clear HO161
 clear BK150
 clear BK151
 clear BK152
 clear HB
 have HO155:=n0_
 have HO158:=n1_
 have HO161:=n2_
 have BK150:=n3_
 have BK151:=n4_
 have BK152:=n5_
 have HB:=n6_
 clear n0_ n1_ n2_ n3_ n4_ n5_ n6_
 (try clear hb)
 (try clear hb2)
 (try clear hk)
 (try clear hi)
 obtain⟨Ao15,co15,eo15⟩:=Kd.R_slice HO161.out
 (first|subst eo15|(injection eo15 with f1_ f2_ f3_;have f4_:=f1_.symm;have f5_:=f3_.symm;clear f1_ f2_ f3_;subst f4_;subst f5_))
 obtain⟨Ao16,co16,eo16⟩:=Kd.R_slice HO158.out
 (first|subst eo16|(injection eo16 with f1_ f2_ f3_;have f4_:=f1_.symm;have f5_:=f3_.symm;clear f1_ f2_ f3_;subst f4_;subst f5_))
 obtain⟨Ao17,co17,eo17⟩:=Kd.R_slice HO155.out
 (first|subst eo17|(injection eo17 with f1_ f2_ f3_;have f4_:=f1_.symm;have f5_:=f3_.symm;clear f1_ f2_ f3_;subst f4_;subst f5_))
 refine hK.out _ _ ⟨(blk_cell BK151.out 0).trans rfl,(blk_cell BK151.out 1).trans rfl,(blk_cell BK151.out 2).trans rfl,(blk_cell BK151.out 3).trans rfl,(blk_cell BK151.out 4).trans rfl,(blk_cell BK151.out 5).trans rfl,(blk_cell BK151.out 6).trans rfl,(blk_cell BK150.out 0).trans rfl,(blk_cell BK150.out 1).trans rfl,(blk_cell BK150.out 2).trans rfl⟩ (fun hHeld=>?_)
 clear hK K
 refine norm_ (a':=?_) ?_ ?_
 rotate_left
 ·show Act.put _ (some 28) _=_
  simp only [Act.put,List.setIfInBounds_toArray,List.set_cons_zero,List.set_cons_succ,i64_w,i32_w]
  rfl
 refine pure_ (i:=24) (N:=some 29) (v:=?_) (a':=?_) #[true,true,true,true,true,true,true,true,true,true,true,true,true,true,true,true,true,true,true,true,true,true,true,true,true,false] rfl rfl (any_of HT_.out (by kernel_rfl)) (fun _ _ _ h=>h) (Or.inl ⟨by rfl,?_⟩) ?_ ?_
 rotate_left
 ·intro w'
  go_simp
  with_reducible rfl
 rotate_left
 ·simp only [Act.put,List.setIfInBounds_toArray,List.set_cons_zero,List.set_cons_succ,i64_w,i32_w]
  rfl
 refine one_ (i:=25) (N:=none) #[true,true,true,true,true,true,true,true,true,true,true,true,true,true,true,true,true,true,true,true,true,true,true,true,true,true] rfl rfl (one_of HT_.out (by kernel_rfl)) (by decide) (fun K hK=>?_)
 have hs18:w14.cell? ⟨gb152,0,none⟩=some (.bool false):=(blk_cell BK152.out 0).trans rfl
 have hfs18:=blk_frozen BK152.out 0
 have hns18_0:=NB150_152.out
 have hns18_1:=NB151_152.out
 have hms18_0:=NB152_150.out
 have hms18_1:=NB152_151.out
 have hs19:w14.cell? ⟨gb152,1,none⟩=some (.int .i64 0):=(blk_cell BK152.out 1).trans rfl
 have hfs19:=blk_frozen BK152.out 1
 have hns19_0:=NB150_152.out
 have hns19_1:=NB151_152.out
 have hms19_0:=NB152_150.out
 have hms19_1:=NB152_151.out
 have hs20:w14.cell? ⟨gb152,2,none⟩=some (.int .i64 0):=(blk_cell BK152.out 2).trans rfl
 have hfs20:=blk_frozen BK152.out 2
 have hns20_0:=NB150_152.out
 have hns20_1:=NB151_152.out
 have hms20_0:=NB152_150.out
 have hms20_1:=NB152_151.out
 have hs21:w14.cell? ⟨gb152,3,none⟩=some (.int .i64 0):=(blk_cell BK152.out 3).trans rfl
 have hfs21:=blk_frozen BK152.out 3
 have hns21_0:=NB150_152.out
 have hns21_1:=NB151_152.out
 have hms21_0:=NB152_150.out
 have hms21_1:=NB152_151.out
 have hs22:w14.cell? ⟨gb152,4,none⟩=some (.int .i64 0):=(blk_cell BK152.out 4).trans rfl
 have hfs22:=blk_frozen BK152.out 4
 have hns22_0:=NB150_152.out
 have hns22_1:=NB151_152.out
 have hms22_0:=NB152_150.out
 have hms22_1:=NB152_151.out
 have hs23:w14.cell? ⟨gb152,5,none⟩=some (.int .i64 0):=(blk_cell BK152.out 5).trans rfl
 have hfs23:=blk_frozen BK152.out 5
 have hns23_0:=NB150_152.out
 have hns23_1:=NB151_152.out
 have hms23_0:=NB152_150.out
 have hms23_1:=NB152_151.out
 have hs24:w14.cell? ⟨gb152,6,none⟩=some (.int .i64 0):=(blk_cell BK152.out 6).trans rfl
 have hfs24:=blk_frozen BK152.out 6
 have hns24_0:=NB150_152.out
 have hns24_1:=NB151_152.out
 have hms24_0:=NB152_150.out
 have hms24_1:=NB152_151.out
 have hs25:w14.cell? ⟨gb152,7,none⟩=some (.slice none 0 0):=(blk_cell BK152.out 7).trans rfl
 have hfs25:=blk_frozen BK152.out 7
 have hns25_0:=NB150_152.out
 have hns25_1:=NB151_152.out
 have hms25_0:=NB152_150.out
 have hms25_1:=NB152_151.out
 have hs26:w14.cell? ⟨gb152,8,none⟩=some (.slice none 0 0):=(blk_cell BK152.out 8).trans rfl
 have hfs26:=blk_frozen BK152.out 8
 have hns26_0:=NB150_152.out
 have hns26_1:=NB151_152.out
 have hms26_0:=NB152_150.out
 have hms26_1:=NB152_151.out
 have hs27:w14.cell? ⟨gb152,9,none⟩=some (.slice none 0 0):=(blk_cell BK152.out 9).trans rfl
 have hfs27:=blk_frozen BK152.out 9
 have hns27_0:=NB150_152.out
 have hns27_1:=NB151_152.out
 have hms27_0:=NB152_150.out
 have hms27_1:=NB152_151.out
 have hs28:w14.cell? ⟨gb152,10,none⟩=some (.int .i64 0):=(blk_cell BK152.out 10).trans rfl
 have hfs28:=blk_frozen BK152.out 10
 have hns28_0:=NB150_152.out
 have hns28_1:=NB151_152.out
 have hms28_0:=NB152_150.out
 have hms28_1:=NB152_151.out
 refine skip_ (w1:=?_) (by rfl) rfl ?_ ?_
 rotate_left
 ·go_simp
  rfl
 refine hK.out _ _ ⟨((cell_far (p:=⟨gb152,_,none⟩) NB151_152.out _).trans (((cell_far (p:=⟨gb152,_,none⟩) NB151_152.out _).trans (((cell_far (p:=⟨gb152,_,none⟩) NB151_152.out _).trans (((cell_far (p:=⟨gb152,_,none⟩) NB151_152.out _).trans (((cell_far (p:=⟨gb152,_,none⟩) NB151_152.out _).trans (((cell_far (p:=⟨gb152,_,none⟩) NB151_152.out _).trans (((cell_far (p:=⟨gb152,_,none⟩) NB151_152.out _).trans (((cell_far (p:=⟨gb152,_,none⟩) NB151_152.out _).trans (((cell_far (p:=⟨gb152,_,none⟩) NB151_152.out _).trans (((cell_far (p:=⟨gb152,_,none⟩) NB151_152.out _).trans (((cell_far (p:=⟨gb152,_,none⟩) NB151_152.out _).trans (hHeld.1)))))))))))))))))))))),((cell_far (p:=⟨gb152,_,none⟩) NB151_152.out _).trans (((cell_far (p:=⟨gb152,_,none⟩) NB151_152.out _).trans (((cell_far (p:=⟨gb152,_,none⟩) NB151_152.out _).trans (((cell_far (p:=⟨gb152,_,none⟩) NB151_152.out _).trans (((cell_far (p:=⟨gb152,_,none⟩) NB151_152.out _).trans (((cell_far (p:=⟨gb152,_,none⟩) NB151_152.out _).trans (((cell_far (p:=⟨gb152,_,none⟩) NB151_152.out _).trans (((cell_far (p:=⟨gb152,_,none⟩) NB151_152.out _).trans (((cell_far (p:=⟨gb152,_,none⟩) NB151_152.out _).trans (((cell_far (p:=⟨gb152,_,none⟩) NB151_152.out _).trans (((cell_far (p:=⟨gb152,_,none⟩) NB151_152.out _).trans (hHeld.2.1)))))))))))))))))))))),((cell_far (p:=⟨gb152,_,none⟩) NB151_152.out _).trans (((cell_far (p:=⟨gb152,_,none⟩) NB151_152.out _).trans (((cell_far (p:=⟨gb152,_,none⟩) NB151_152.out _).trans (((cell_far (p:=⟨gb152,_,none⟩) NB151_152.out _).trans (((cell_far (p:=⟨gb152,_,none⟩) NB151_152.out _).trans (((cell_far (p:=⟨gb152,_,none⟩) NB151_152.out _).trans (((cell_far (p:=⟨gb152,_,none⟩) NB151_152.out _).trans (((cell_far (p:=⟨gb152,_,none⟩) NB151_152.out _).trans (((cell_far (p:=⟨gb152,_,none⟩) NB151_152.out _).trans (((cell_far (p:=⟨gb152,_,none⟩) NB151_152.out _).trans (((cell_far (p:=⟨gb152,_,none⟩) NB151_152.out _).trans (hHeld.2.2.1)))))))))))))))))))))),((cell_far (p:=⟨gb152,_,none⟩) NB151_152.out _).trans (((cell_far (p:=⟨gb152,_,none⟩) NB151_152.out _).trans (((cell_far (p:=⟨gb152,_,none⟩) NB151_152.out _).trans (((cell_far (p:=⟨gb152,_,none⟩) NB151_152.out _).trans (((cell_far (p:=⟨gb152,_,none⟩) NB151_152.out _).trans (((cell_far (p:=⟨gb152,_,none⟩) NB151_152.out _).trans (((cell_far (p:=⟨gb152,_,none⟩) NB151_152.out _).trans (((cell_far (p:=⟨gb152,_,none⟩) NB151_152.out _).trans (((cell_far (p:=⟨gb152,_,none⟩) NB151_152.out _).trans (((cell_far (p:=⟨gb152,_,none⟩) NB151_152.out _).trans (((cell_far (p:=⟨gb152,_,none⟩) NB151_152.out _).trans (hHeld.2.2.2.1)))))))))))))))))))))),((cell_far (p:=⟨gb152,_,none⟩) NB151_152.out _).trans (((cell_far (p:=⟨gb152,_,none⟩) NB151_152.out _).trans (((cell_far (p:=⟨gb152,_,none⟩) NB151_152.out _).trans (((cell_far (p:=⟨gb152,_,none⟩) NB151_152.out _).trans (((cell_far (p:=⟨gb152,_,none⟩) NB151_152.out _).trans (((cell_far (p:=⟨gb152,_,none⟩) NB151_152.out _).trans (((cell_far (p:=⟨gb152,_,none⟩) NB151_152.out _).trans (((cell_far (p:=⟨gb152,_,none⟩) NB151_152.out _).trans (((cell_far (p:=⟨gb152,_,none⟩) NB151_152.out _).trans (((cell_far (p:=⟨gb152,_,none⟩) NB151_152.out _).trans (((cell_far (p:=⟨gb152,_,none⟩) NB151_152.out _).trans (hHeld.2.2.2.2.1)))))))))))))))))))))),((cell_far (p:=⟨gb152,_,none⟩) NB151_152.out _).trans (((cell_far (p:=⟨gb152,_,none⟩) NB151_152.out _).trans (((cell_far (p:=⟨gb152,_,none⟩) NB151_152.out _).trans (((cell_far (p:=⟨gb152,_,none⟩) NB151_152.out _).trans (((cell_far (p:=⟨gb152,_,none⟩) NB151_152.out _).trans (((cell_far (p:=⟨gb152,_,none⟩) NB151_152.out _).trans (((cell_far (p:=⟨gb152,_,none⟩) NB151_152.out _).trans (((cell_far (p:=⟨gb152,_,none⟩) NB151_152.out _).trans (((cell_far (p:=⟨gb152,_,none⟩) NB151_152.out _).trans (((cell_far (p:=⟨gb152,_,none⟩) NB151_152.out _).trans (((cell_far (p:=⟨gb152,_,none⟩) NB151_152.out _).trans (hHeld.2.2.2.2.2.1)))))))))))))))))))))),((cell_far (p:=⟨gb152,_,none⟩) NB151_152.out _).trans (((cell_far (p:=⟨gb152,_,none⟩) NB151_152.out _).trans (((cell_far (p:=⟨gb152,_,none⟩) NB151_152.out _).trans (((cell_far (p:=⟨gb152,_,none⟩) NB151_152.out _).trans (((cell_far (p:=⟨gb152,_,none⟩) NB151_152.out _).trans (((cell_far (p:=⟨gb152,_,none⟩) NB151_152.out _).trans (((cell_far (p:=⟨gb152,_,none⟩) NB151_152.out _).trans (((cell_far (p:=⟨gb152,_,none⟩) NB151_152.out _).trans (((cell_far (p:=⟨gb152,_,none⟩) NB151_152.out _).trans (((cell_far (p:=⟨gb152,_,none⟩) NB151_152.out _).trans (((cell_far (p:=⟨gb152,_,none⟩) NB151_152.out _).trans (hHeld.2.2.2.2.2.2.1)))))))))))))))))))))),((cell_far (p:=⟨gb152,_,none⟩) NB150_152.out _).trans (((cell_far (p:=⟨gb152,_,none⟩) NB150_152.out _).trans (((cell_far (p:=⟨gb152,_,none⟩) NB150_152.out _).trans (((cell_far (p:=⟨gb152,_,none⟩) NB150_152.out _).trans (((cell_far (p:=⟨gb152,_,none⟩) NB150_152.out _).trans (((cell_far (p:=⟨gb152,_,none⟩) NB150_152.out _).trans (((cell_far (p:=⟨gb152,_,none⟩) NB150_152.out _).trans (((cell_far (p:=⟨gb152,_,none⟩) NB150_152.out _).trans (((cell_far (p:=⟨gb152,_,none⟩) NB150_152.out _).trans (((cell_far (p:=⟨gb152,_,none⟩) NB150_152.out _).trans (((cell_far (p:=⟨gb152,_,none⟩) NB150_152.out _).trans (hHeld.2.2.2.2.2.2.2.1)))))))))))))))))))))),((cell_far (p:=⟨gb152,_,none⟩) NB150_152.out _).trans (((cell_far (p:=⟨gb152,_,none⟩) NB150_152.out _).trans (((cell_far (p:=⟨gb152,_,none⟩) NB150_152.out _).trans (((cell_far (p:=⟨gb152,_,none⟩) NB150_152.out _).trans (((cell_far (p:=⟨gb152,_,none⟩) NB150_152.out _).trans (((cell_far (p:=⟨gb152,_,none⟩) NB150_152.out _).trans (((cell_far (p:=⟨gb152,_,none⟩) NB150_152.out _).trans (((cell_far (p:=⟨gb152,_,none⟩) NB150_152.out _).trans (((cell_far (p:=⟨gb152,_,none⟩) NB150_152.out _).trans (((cell_far (p:=⟨gb152,_,none⟩) NB150_152.out _).trans (((cell_far (p:=⟨gb152,_,none⟩) NB150_152.out _).trans (hHeld.2.2.2.2.2.2.2.2.1)))))))))))))))))))))),((cell_far (p:=⟨gb152,_,none⟩) NB150_152.out _).trans (((cell_far (p:=⟨gb152,_,none⟩) NB150_152.out _).trans (((cell_far (p:=⟨gb152,_,none⟩) NB150_152.out _).trans (((cell_far (p:=⟨gb152,_,none⟩) NB150_152.out _).trans (((cell_far (p:=⟨gb152,_,none⟩) NB150_152.out _).trans (((cell_far (p:=⟨gb152,_,none⟩) NB150_152.out _).trans (((cell_far (p:=⟨gb152,_,none⟩) NB150_152.out _).trans (((cell_far (p:=⟨gb152,_,none⟩) NB150_152.out _).trans (((cell_far (p:=⟨gb152,_,none⟩) NB150_152.out _).trans (((cell_far (p:=⟨gb152,_,none⟩) NB150_152.out _).trans (((cell_far (p:=⟨gb152,_,none⟩) NB150_152.out _).trans (hHeld.2.2.2.2.2.2.2.2.2))))))))))))))))))))))⟩ (fun hHeld=>?_)
 clear hK K
 refine done_ (done_of HT_.out (by kernel_rfl)) ?_
 try go_wp2
 refine bodyPost_ret (results_cell_row rfl _ _ gb152 168 #[.bool a1_0,.int .i64 a1_1,.int .i64 a1_2,.int .i64 a1_3,.int .i64 a1_4,.int .i64 a1_5,.int .i64 a1_6,.slice Ao17 t153.length co17,.slice Ao16 t156.length co16,.slice Ao15 t159.length co15,.int .i64 t162] (0,0) _ rfl (by refine Zk ?_;refine blk_put (cs:=#[.bool a1_0,.int .i64 a1_1,.int .i64 a1_2,.int .i64 a1_3,.int .i64 a1_4,.int .i64 a1_5,.int .i64 a1_6,.slice Ao17 t153.length co17,.slice Ao16 t156.length co16,.slice Ao15 t159.length co15,.int .i64 0]) ?_ 10 _ rfl;refine Zk ?_;refine blk_put (cs:=#[.bool a1_0,.int .i64 a1_1,.int .i64 a1_2,.int .i64 a1_3,.int .i64 a1_4,.int .i64 a1_5,.int .i64 a1_6,.slice Ao17 t153.length co17,.slice Ao16 t156.length co16,.slice none 0 0,.int .i64 0]) ?_ 9 _ rfl;refine Zk ?_;refine blk_put (cs:=#[.bool a1_0,.int .i64 a1_1,.int .i64 a1_2,.int .i64 a1_3,.int .i64 a1_4,.int .i64 a1_5,.int .i64 a1_6,.slice Ao17 t153.length co17,.slice none 0 0,.slice none 0 0,.int .i64 0]) ?_ 8 _ rfl;refine Zk ?_;refine blk_put (cs:=#[.bool a1_0,.int .i64 a1_1,.int .i64 a1_2,.int .i64 a1_3,.int .i64 a1_4,.int .i64 a1_5,.int .i64 a1_6,.slice none 0 0,.slice none 0 0,.slice none 0 0,.int .i64 0]) ?_ 7 _ rfl;refine Zk ?_;refine blk_put (cs:=#[.bool a1_0,.int .i64 a1_1,.int .i64 a1_2,.int .i64 a1_3,.int .i64 a1_4,.int .i64 a1_5,.int .i64 0,.slice none 0 0,.slice none 0 0,.slice none 0 0,.int .i64 0]) ?_ 6 _ rfl;refine Zk ?_;refine blk_put (cs:=#[.bool a1_0,.int .i64 a1_1,.int .i64 a1_2,.int .i64 a1_3,.int .i64 a1_4,.int .i64 0,.int .i64 0,.slice none 0 0,.slice none 0 0,.slice none 0 0,.int .i64 0]) ?_ 5 _ rfl;refine Zk ?_;refine blk_put (cs:=#[.bool a1_0,.int .i64 a1_1,.int .i64 a1_2,.int .i64 a1_3,.int .i64 0,.int .i64 0,.int .i64 0,.slice none 0 0,.slice none 0 0,.slice none 0 0,.int .i64 0]) ?_ 4 _ rfl;refine Zk ?_;refine blk_put (cs:=#[.bool a1_0,.int .i64 a1_1,.int .i64 a1_2,.int .i64 0,.int .i64 0,.int .i64 0,.int .i64 0,.slice none 0 0,.slice none 0 0,.slice none 0 0,.int .i64 0]) ?_ 3 _ rfl;refine Zk ?_;refine blk_put (cs:=#[.bool a1_0,.int .i64 a1_1,.int .i64 0,.int .i64 0,.int .i64 0,.int .i64 0,.int .i64 0,.slice none 0 0,.slice none 0 0,.slice none 0 0,.int .i64 0]) ?_ 2 _ rfl;refine Zk ?_;refine blk_put (cs:=#[.bool a1_0,.int .i64 0,.int .i64 0,.int .i64 0,.int .i64 0,.int .i64 0,.int .i64 0,.slice none 0 0,.slice none 0 0,.slice none 0 0,.int .i64 0]) ?_ 1 _ rfl;refine Zk ?_;refine blk_put (cs:=#[.bool false,.int .i64 0,.int .i64 0,.int .i64 0,.int .i64 0,.int .i64 0,.int .i64 0,.slice none 0 0,.slice none 0 0,.slice none 0 0,.int .i64 0]) ?_ 0 _ rfl;refine Zk ?_;exact BK152.out) Tryz.underlying168 rfl (by kernel_rfl)) rfl ?_
 exact⟨_,_,_,by first|rfl|(simp [errW_none,errW_some]<;>rfl)|(simp [*,errW_none,errW_some]<;>rfl),by refine Zr ?_;exact Kd.R_mono (Kd.R_far (p:=⟨gb152,10,none⟩) (Kd.R_far (p:=⟨gb152,9,none⟩) (Kd.R_far (p:=⟨gb152,8,none⟩) (Kd.R_far (p:=⟨gb152,7,none⟩) (Kd.R_far (p:=⟨gb152,6,none⟩) (Kd.R_far (p:=⟨gb152,5,none⟩) (Kd.R_far (p:=⟨gb152,4,none⟩) (Kd.R_far (p:=⟨gb152,3,none⟩) (Kd.R_far (p:=⟨gb152,2,none⟩) (Kd.R_far (p:=⟨gb152,1,none⟩) (Kd.R_far (p:=⟨gb152,0,none⟩) (Kd.R_types HO155.out BK152.out (by decide)) (fun _ hk=>hk.2) (.bool a1_0)) (fun _ hk=>hk.2) (.int .i64 a1_1)) (fun _ hk=>hk.2) (.int .i64 a1_2)) (fun _ hk=>hk.2) (.int .i64 a1_3)) (fun _ hk=>hk.2) (.int .i64 a1_4)) (fun _ hk=>hk.2) (.int .i64 a1_5)) (fun _ hk=>hk.2) (.int .i64 a1_6)) (fun _ hk=>hk.2) (.slice Ao17 t153.length co17)) (fun _ hk=>hk.2) (.slice Ao16 t156.length co16)) (fun _ hk=>hk.2) (.slice Ao15 t159.length co15)) (fun _ hk=>hk.2) (.int .i64 t162)) (fun _ hk=>⟨hk.1.1.2,hk.1.2⟩),by refine Zr ?_;exact Kd.R_mono (Kd.R_far (p:=⟨gb152,10,none⟩) (Kd.R_far (p:=⟨gb152,9,none⟩) (Kd.R_far (p:=⟨gb152,8,none⟩) (Kd.R_far (p:=⟨gb152,7,none⟩) (Kd.R_far (p:=⟨gb152,6,none⟩) (Kd.R_far (p:=⟨gb152,5,none⟩) (Kd.R_far (p:=⟨gb152,4,none⟩) (Kd.R_far (p:=⟨gb152,3,none⟩) (Kd.R_far (p:=⟨gb152,2,none⟩) (Kd.R_far (p:=⟨gb152,1,none⟩) (Kd.R_far (p:=⟨gb152,0,none⟩) (Kd.R_types HO158.out BK152.out (by decide)) (fun _ hk=>hk.2) (.bool a1_0)) (fun _ hk=>hk.2) (.int .i64 a1_1)) (fun _ hk=>hk.2) (.int .i64 a1_2)) (fun _ hk=>hk.2) (.int .i64 a1_3)) (fun _ hk=>hk.2) (.int .i64 a1_4)) (fun _ hk=>hk.2) (.int .i64 a1_5)) (fun _ hk=>hk.2) (.int .i64 a1_6)) (fun _ hk=>hk.2) (.slice Ao17 t153.length co17)) (fun _ hk=>hk.2) (.slice Ao16 t156.length co16)) (fun _ hk=>hk.2) (.slice Ao15 t159.length co15)) (fun _ hk=>hk.2) (.int .i64 t162)) (fun _ hk=>⟨hk.1.1.2,hk.1.2⟩),by refine Zr ?_;exact Kd.R_mono (Kd.R_far (p:=⟨gb152,10,none⟩) (Kd.R_far (p:=⟨gb152,9,none⟩) (Kd.R_far (p:=⟨gb152,8,none⟩) (Kd.R_far (p:=⟨gb152,7,none⟩) (Kd.R_far (p:=⟨gb152,6,none⟩) (Kd.R_far (p:=⟨gb152,5,none⟩) (Kd.R_far (p:=⟨gb152,4,none⟩) (Kd.R_far (p:=⟨gb152,3,none⟩) (Kd.R_far (p:=⟨gb152,2,none⟩) (Kd.R_far (p:=⟨gb152,1,none⟩) (Kd.R_far (p:=⟨gb152,0,none⟩) (Kd.R_types HO161.out BK152.out (by decide)) (fun _ hk=>hk.2) (.bool a1_0)) (fun _ hk=>hk.2) (.int .i64 a1_1)) (fun _ hk=>hk.2) (.int .i64 a1_2)) (fun _ hk=>hk.2) (.int .i64 a1_3)) (fun _ hk=>hk.2) (.int .i64 a1_4)) (fun _ hk=>hk.2) (.int .i64 a1_5)) (fun _ hk=>hk.2) (.int .i64 a1_6)) (fun _ hk=>hk.2) (.slice Ao17 t153.length co17)) (fun _ hk=>hk.2) (.slice Ao16 t156.length co16)) (fun _ hk=>hk.2) (.slice Ao15 t159.length co15)) (fun _ hk=>hk.2) (.int .i64 t162)) (fun _ hk=>⟨hk.1.1.2,hk.1.2⟩),by repeat (first|(with_reducible first|exact HB.out|apply below_alloc|apply pw_below_drewN|apply below_drew1|refine below_set ?_ GE150.out|refine below_set ?_ GE151.out|refine below_set ?_ GE152.out)|exact HB.out)⟩
end Go.Proofs.YtfiamddinkokbaaGreat.F
end
