/- Texts joined into one file (wip/tools/pack.py): Class, Fn61 -/
import Derived.Test.YtfiamddinkokbaaTA24
import Derived.Test.YtfiamddinkokbaaTA19
import Derived.BigQuiet
import Derived.Test.YtfiamddinkokbaaTA3
set_option linter.unusedVariables false
set_option linter.unusedSimpArgs false
section
namespace Go.Proofs.Ytfiamddinkokbaa.F
open Go.RowKit Go.Shelf Go.Proofs.YtfiamddinkokbaaW.PrintWords
def classF (k : Nat) (a0_0 : Bool) (a0_1 a0_2 a0_3 a0_4 a0_5 a0_6 : Int) (l1 l2 l3 : List ByteArray) : Option Int := (chunk_Span_Cut.f a0_1 a0_2 l1).bind fun t510=>((chunk_Span_Cut.f a0_3 a0_4 l2).bind fun t513=>((chunk_Span_Cut.f a0_5 a0_6 l3).bind fun t516=>(if a0_0=true then (some 0) else ((trim_Same_string.f k t510 t513).bind fun t519=>(if t519=true then (some 2) else ((trim_Same_string.f k t510 t516).bind fun t520=>(if t520=true then (some 1) else ((trim_Same_string.f k t513 t516).bind fun t521=>(if t521=true then (some 3) else (some 4))))))))))
theorem class_mono : ∀ a0 a1 a2 a3 a4 a5 a6 l1 l2 l3 k,LeO (classF k a0 a1 a2 a3 a4 a5 a6 l1 l2 l3) (classF (k+1) a0 a1 a2 a3 a4 a5 a6 l1 l2 l3) := fun a0 a1 a2 a3 a4 a5 a6 l1 l2 l3 k=>by
 unfold classF
 exact LeO.bind (LeO.refl _) (fun _=>LeO.bind (LeO.refl _) (fun _=>LeO.bind (LeO.refl _) (fun _=>LeO.ite (LeO.refl _) (LeO.bind (trim_Same_string.mono _ _ k) (fun _=>LeO.ite (LeO.refl _) (LeO.bind (trim_Same_string.mono _ _ k) (fun _=>LeO.ite (LeO.refl _) (LeO.bind (trim_Same_string.mono _ _ k) (fun _=>LeO.refl _)))))))))
set_option maxHeartbeats 8000000 in
set_option maxRecDepth 100000 in
theorem class_calls (k : Nat) (a0_0 : Bool) (a0_1 a0_2 a0_3 a0_4 a0_5 a0_6 : Int) (A1 : Option Addr) (c1 : Nat) (l1 : List ByteArray) (A2 : Option Addr) (c2 : Nat) (l2 : List ByteArray) (A3 : Option Addr) (c3 : Nat) (l3 : List ByteArray) (r : Int) (w : World) (hr1 : Kd.C Kd.string w A1 l1.length l1) (hc1 : l1.length≤c1) (hr2 : Kd.C Kd.string w A2 l2.length l2) (hc2 : l2.length≤c2) (hr3 : Kd.C Kd.string w A3 l3.length l3) (hc3 : l3.length≤c3)
  (h:classF k a0_0 a0_1 a0_2 a0_3 a0_4 a0_5 a0_6 l1 l2 l3=some r) :
  Calls Try.prog 61 #[.agg #[.bool a0_0,.int .i64 a0_1,.int .i64 a0_2,.int .i64 a0_3,.int .i64 a0_4,.int .i64 a0_5,.int .i64 a0_6],.slice A1 l1.length c1,.slice A2 l2.length c2,.slice A3 l3.length c3] w fun e w'=>e = .returned (.int .i64 r)∧Below w.heap.size w w':=by
 unfold classF at h
 obtain⟨x,hx,h⟩:=Option.bind_eq_some_iff.1 h
 obtain⟨y,hy,h⟩:=Option.bind_eq_some_iff.1 h
 obtain⟨z,hz,h⟩:=Option.bind_eq_some_iff.1 h
 have HX:=Aside0.mk (fun W (hb:Below w.heap.size w W)=>chunk_Span_Cut.calls a0_1 a0_2 A1 c1 l1 x W (Kd.C_below hr1 hb) hc1 hx)
 have HY:=Aside0.mk (fun W (hb:Below w.heap.size w W)=>chunk_Span_Cut.calls a0_3 a0_4 A2 c2 l2 y W (Kd.C_below hr2 hb) hc2 hy)
 have HZ:=Aside0.mk (fun W (hb:Below w.heap.size w W)=>chunk_Span_Cut.calls a0_5 a0_6 A3 c3 l3 z W (Kd.C_below hr3 hb) hc3 hz)
 have HH:=Aside0.mk h
 clear hr1 hc1 hr2 hc2 hr3 hc3 hx hy hz h
 go_enter Try.func61,Try.ntmps61
 go_wp2
 obtain⟨g,hg⟩:∃ g,g=w.heap.size:=⟨_,rfl⟩
 have hbx:(w.alloc (.cells #[.bool a0_0,.int .i64 a0_1,.int .i64 a0_2,.int .i64 a0_3,.int .i64 a0_4,.int .i64 a0_5,.int .i64 a0_6] 91)).heap[w.heap.size]? = some (.cells #[.bool a0_0,.int .i64 a0_1,.int .i64 a0_2,.int .i64 a0_3,.int .i64 a0_4,.int .i64 a0_5,.int .i64 a0_6] 91 (0,0)):=World.alloc_heap_new w _
 have HW:=Aside0.mk (below_alloc (Below.refl w.heap.size w) (.cells #[.bool a0_0,.int .i64 a0_1,.int .i64 a0_2,.int .i64 a0_3,.int .i64 a0_4,.int .i64 a0_5,.int .i64 a0_6] 91))
 generalize (w.alloc (.cells #[.bool a0_0,.int .i64 a0_1,.int .i64 a0_2,.int .i64 a0_3,.int .i64 a0_4,.int .i64 a0_5,.int .i64 a0_6] 91))=W0 at *
 rw [←hg] at hbx ⊢
 have HG:=Aside0.mk hg
 have HBX:=Aside0.mk hbx
 clear hbx hg
 have q0:=(blk_cell HBX.out 0).trans (rfl:_=some (Value.bool a0_0))
 have q1:=(blk_cell HBX.out 1).trans (rfl:_=some (Value.int .i64 a0_1))
 have q2:=(blk_cell HBX.out 2).trans (rfl:_=some (Value.int .i64 a0_2))
 have q3:=(blk_cell HBX.out 3).trans (rfl:_=some (Value.int .i64 a0_3))
 have q4:=(blk_cell HBX.out 4).trans (rfl:_=some (Value.int .i64 a0_4))
 have q5:=(blk_cell HBX.out 5).trans (rfl:_=some (Value.int .i64 a0_5))
 have q6:=(blk_cell HBX.out 6).trans (rfl:_=some (Value.int .i64 a0_6))
 have HQ:Aside0 (Below W0.heap.size W0 W0.drew):=⟨below_drew (Below.refl _ _)⟩
 have tk1:True:=trivial
 have tk2:True:=trivial
 have tk3:True:=trivial
 go_region_held3 (fun w'=>w'.cell? ⟨g,1,none⟩=some (.int .i64 a0_1)∧w'.cell? ⟨g,2,none⟩=some (.int .i64 a0_2)∧w'.cell? ⟨g,3,none⟩=some (.int .i64 a0_3)∧w'.cell? ⟨g,4,none⟩=some (.int .i64 a0_4)∧w'.cell? ⟨g,5,none⟩=some (.int .i64 a0_5)∧w'.cell? ⟨g,6,none⟩=some (.int .i64 a0_6))
  ((refine (fun (hb:Below W0.heap.size W0 _)=>⟨(hb.cell (World.block_lt_of_cell? W0 _ q1)).trans q1,(hb.cell (World.block_lt_of_cell? W0 _ q2)).trans q2,(hb.cell (World.block_lt_of_cell? W0 _ q3)).trans q3,(hb.cell (World.block_lt_of_cell? W0 _ q4)).trans q4,(hb.cell (World.block_lt_of_cell? W0 _ q5)).trans q5,(hb.cell (World.block_lt_of_cell? W0 _ q6)).trans q6⟩) ?_;exact HQ.out))
  (first
   | ((refine Go.Proofs.YtfiamddinkokbaaW.PrintLast.goes_ Try.func60 (by kernel_rfl) rfl #[.agg #[.int .i64 a0_1,.int .i64 a0_2],.slice A1 l1.length c1] (by rfl) rfl rfl (by (try simp only [List.map_toArray,List.map_cons,List.map_nil]);rfl) ?_;have _t:=tk1;refine (HX.out _ (below_step HW.out HQ.out)).mono ?_;rintro e w1 ⟨v,rfl,hr,hb⟩;obtain⟨Bx,bx,rfl,hl,hC⟩:=Kd.R_reads hr;have HLX:=Aside0.mk hl;have HCX:=Aside0.mk hC;have hq:=below_step HQ.out hb;clear tk1 HQ hr hb hl hC;have HQ:=Aside0.mk hq;clear hq;refine⟨_,rfl,?_⟩))
   | ((refine Go.Proofs.YtfiamddinkokbaaW.PrintLast.goes_ Try.func60 (by kernel_rfl) rfl #[.agg #[.int .i64 a0_3,.int .i64 a0_4],.slice A2 l2.length c2] (by rfl) rfl rfl (by (try simp only [List.map_toArray,List.map_cons,List.map_nil]);rfl) ?_;have _t:=tk2;refine (HY.out _ (below_step HW.out HQ.out)).mono ?_;rintro e w2 ⟨v,rfl,hr,hb⟩;obtain⟨By,by_,rfl,hl,hC⟩:=Kd.R_reads hr;have HLY:=Aside0.mk hl;have HCY:=Aside0.mk hC;have hcx:=Kd.C_below HCX.out hb;clear HCX;have HCX:=Aside0.mk hcx;have hq:=below_step HQ.out hb;clear tk2 HQ hr hb hl hC hcx;have HQ:=Aside0.mk hq;clear hq;refine⟨_,rfl,?_⟩))
   | ((refine Go.Proofs.YtfiamddinkokbaaW.PrintLast.goes_ Try.func60 (by kernel_rfl) rfl #[.agg #[.int .i64 a0_5,.int .i64 a0_6],.slice A3 l3.length c3] (by rfl) rfl rfl (by (try simp only [List.map_toArray,List.map_cons,List.map_nil]);rfl) ?_;have _t:=tk3;refine (HZ.out _ (below_step HW.out HQ.out)).mono ?_;rintro e w3 ⟨v,rfl,hr,hb⟩;obtain⟨Bz,bz,rfl,hl,hC⟩:=Kd.R_reads hr;have HLZ:=Aside0.mk hl;have HCZ:=Aside0.mk hC;have hcx:=Kd.C_below HCX.out hb;have hcy:=Kd.C_below HCY.out hb;clear HCX HCY;have HCX:=Aside0.mk hcx;have HCY:=Aside0.mk hcy;have hq:=below_step HQ.out hb;clear tk3 HQ hr hb hl hC hcx hcy;have HQ:=Aside0.mk hq;clear hq;refine⟨_,rfl,?_⟩)))
 have p0:=(blk_cell (after_call HQ.out HBX.out) 0).trans (rfl:_=some (Value.bool a0_0))
 have h:=HH.out
 have HB:=Aside0.mk (below_step HW.out HQ.out)
 clear q0 q1 q2 q3 q4 q5 q6 HH HX HY HZ HQ HW HBX HG
 generalize w3=W3 at *
 cases a0_0 with
 | true =>
  rw [if_pos rfl] at h
  obtain rfl:=Option.some.inj h
  go_wp2
  go_ret
  exact⟨rfl,HB.out⟩
 | false =>
  rw [if_neg (by simp)] at h
  obtain⟨t1,ht1,h⟩:=Option.bind_eq_some_iff.1 h
  have H1:=Aside0.mk (trim_Same_string.calls k Bx bx x By by_ y t1 W3 HCX.out HLX.out HCY.out HLY.out ht1)
  cases t1 with
  | true =>
   rw [if_pos rfl] at h
   obtain rfl:=Option.some.inj h
   clear ht1
   go_wp2_with (first|(go_at_call 109;(with_reducible refine H1.out.mono ?_);rintro e w4 ⟨rfl,hd⟩;obtain⟨n1,rfl⟩:=hd.out))
   go_ret
   exact⟨rfl,pw_below_drewN HB.out _⟩
  | false =>
   rw [if_neg (by simp)] at h
   obtain⟨t2,ht2,h⟩:=Option.bind_eq_some_iff.1 h
   have H2:=Aside0.mk (fun n1=>trim_Same_string.calls k Bx bx x Bz bz z t2 (W3.drewN n1) (Kd.C_drewN HCX.out _) HLX.out (Kd.C_drewN HCZ.out _) HLZ.out ht2)
   cases t2 with
   | true =>
    rw [if_pos rfl] at h
    obtain rfl:=Option.some.inj h
    clear ht1 ht2
    go_wp2_with (first|(go_at_call 109;(with_reducible refine H1.out.mono ?_);rintro e w4 ⟨rfl,hd⟩;obtain⟨n1,rfl⟩:=hd.out)|(go_at_call 109;(with_reducible refine (H2.out _).mono ?_);rintro e w5 ⟨rfl,hd⟩;obtain⟨n2,rfl⟩:=hd.out))
    go_ret
    exact⟨rfl,pw_below_drewN HB.out _⟩
   | false =>
    rw [if_neg (by simp)] at h
    obtain⟨t3,ht3,h⟩:=Option.bind_eq_some_iff.1 h
    have H3:=Aside0.mk (fun n1=>trim_Same_string.calls k By by_ y Bz bz z t3 (W3.drewN n1) (Kd.C_drewN HCY.out _) HLY.out (Kd.C_drewN HCZ.out _) HLZ.out ht3)
    cases t3 with
    | true =>
     rw [if_pos rfl] at h
     obtain rfl:=Option.some.inj h
     clear ht1 ht2 ht3
     go_wp2_with (first|(go_at_call 109;(with_reducible refine H1.out.mono ?_);rintro e w4 ⟨rfl,hd⟩;obtain⟨n1,rfl⟩:=hd.out)|(go_at_call 109;(with_reducible refine (H2.out _).mono ?_);rintro e w5 ⟨rfl,hd⟩;obtain⟨n2,rfl⟩:=hd.out)|(go_at_call 109;(with_reducible refine (H3.out _).mono ?_);rintro e w6 ⟨rfl,hd⟩;obtain⟨n3,rfl⟩:=hd.out))
     go_ret
     exact⟨rfl,pw_below_drewN HB.out _⟩
    | false =>
     rw [if_neg (by simp)] at h
     obtain rfl:=Option.some.inj h
     clear ht1 ht2 ht3
     go_wp2_with (first|(go_at_call 109;(with_reducible refine H1.out.mono ?_);rintro e w4 ⟨rfl,hd⟩;obtain⟨n1,rfl⟩:=hd.out)|(go_at_call 109;(with_reducible refine (H2.out _).mono ?_);rintro e w5 ⟨rfl,hd⟩;obtain⟨n2,rfl⟩:=hd.out)|(go_at_call 109;(with_reducible refine (H3.out _).mono ?_);rintro e w6 ⟨rfl,hd⟩;obtain⟨n3,rfl⟩:=hd.out))
     go_ret
     exact⟨rfl,pw_below_drewN HB.out _⟩
end Go.Proofs.Ytfiamddinkokbaa.F
end

section
namespace Go.Proofs.Ytfiamddinkokbaa.F
open Go.RowKit Go.Proofs.YtfiamddinkokbaaW.PrintWords Go.Proofs.YtfiamddinkokbaaW.PrintLast Go.Proofs.YtfiamddinkokbaaW.PrintMore
attribute [local go_sem] max2_int min2_int max_two min_two max_three min_three max_four min_four
def chunk_Chunk_Class.f (k : Nat) (a0_0 : Bool) (a0_1 a0_2 a0_3 a0_4 a0_5 a0_6 : Int) (l1 l2 l3 : List ByteArray) : Option Int := classF k a0_0 a0_1 a0_2 a0_3 a0_4 a0_5 a0_6 l1 l2 l3
theorem chunk_Chunk_Class.mono : ∀ a0_0 a0_1 a0_2 a0_3 a0_4 a0_5 a0_6 l1 l2 l3 k,LeO (chunk_Chunk_Class.f k a0_0 a0_1 a0_2 a0_3 a0_4 a0_5 a0_6 l1 l2 l3) (chunk_Chunk_Class.f (k+1) a0_0 a0_1 a0_2 a0_3 a0_4 a0_5 a0_6 l1 l2 l3) := class_mono
theorem chunk_Chunk_Class.calls (k : Nat) (a0_0 : Bool) (a0_1 : Int) (a0_2 : Int) (a0_3 : Int) (a0_4 : Int) (a0_5 : Int) (a0_6 : Int) (A1 : Option Addr) (c1 : Nat) (l1 : List ByteArray) (A2 : Option Addr) (c2 : Nat) (l2 : List ByteArray) (A3 : Option Addr) (c3 : Nat) (l3 : List ByteArray) (r : Int) (w : World) (hr1 : Kd.C Kd.string w A1 l1.length l1) (hc1 : l1.length≤c1) (hr2 : Kd.C Kd.string w A2 l2.length l2) (hc2 : l2.length≤c2) (hr3 : Kd.C Kd.string w A3 l3.length l3) (hc3 : l3.length≤c3) (h : chunk_Chunk_Class.f k a0_0 a0_1 a0_2 a0_3 a0_4 a0_5 a0_6 l1 l2 l3=some r) :
  Calls Try.prog 61 #[.agg #[.bool a0_0,.int .i64 a0_1,.int .i64 a0_2,.int .i64 a0_3,.int .i64 a0_4,.int .i64 a0_5,.int .i64 a0_6],.slice A1 l1.length c1,.slice A2 l2.length c2,.slice A3 l3.length c3] w fun e w'=>e = .returned (.int .i64 r)∧Below w.heap.size w w':=by
 exact class_calls k a0_0 a0_1 a0_2 a0_3 a0_4 a0_5 a0_6 A1 c1 l1 A2 c2 l2 A3 c3 l3 r w hr1 hc1 hr2 hc2 hr3 hc3 h
end Go.Proofs.Ytfiamddinkokbaa.F
end
