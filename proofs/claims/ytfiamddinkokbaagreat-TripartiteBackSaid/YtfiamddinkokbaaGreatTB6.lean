/- Texts joined into one file (wip/tools/pack.py): Fn42, Pure07, FeqA29, Fn106 -/
import Derived.Test.YtfiamddinkokbaaGreatTB2
import Derived.Test.YtfiamddinkokbaaGreatTB1
import Derived.Test.YtfiamddinkokbaaGreatTB5
set_option linter.unusedVariables false
set_option linter.unusedSimpArgs false
section
namespace Go.Proofs.YtfiamddinkokbaaGreat.F
open Go.RowKit Go.Proofs.YtfiamddinkokbaaGreatW.PrintWords Go.Proofs.YtfiamddinkokbaaGreatW.PrintLast Go.Proofs.YtfiamddinkokbaaGreatW.PrintMore
attribute [local go_sem] max2_int min2_int max_two min_two max_three min_three max_four min_four
def doc_Width.f (k : Nat) (a0 : Int) (l1 : List ByteArray) : Option (Int) := (doc_run.f k l1).bind fun t180=>(some (mx a0 (wrap64 (t180+1))))
theorem doc_Width.mono : ∀ a0 a1 k,LeO (doc_Width.f k a0 a1) (doc_Width.f (k+1) a0 a1) := by
 intro a0 a1 k
 unfold doc_Width.f
 repeat' first
   | (with_reducible exact doc_run.mono _ _)
   | (with_reducible exact LeO.refl _)
   | (with_reducible exact LeO.none _)
   | (with_reducible refine LeO.ite ?_ ?_)
   | (with_reducible refine LeO.bind ?_ (fun _=>?_))
   | exact doc_run.mono _ _
   | exact LeO.none _
   | refine LeO.ite ?_ ?_
   | refine LeO.bind ?_ (fun _=>?_)
set_option maxHeartbeats 8000000 in
set_option maxRecDepth 100000 in
theorem doc_Width.calls (k : Nat) (a0 : Int) (A1 : Option Addr) (c1 : Nat) (l1 : List ByteArray) (r : Int) (w : World) (hr1 : Kd.C Kd.string w A1 l1.length l1) (hc1 : l1.length≤c1) (h : doc_Width.f k a0 l1=some r) :
  Calls Tryz.prog 42 #[.int .i64 a0,.slice A1 l1.length c1] w fun e w'=>e = .returned (.int .i64 r)∧Below w.heap.size w w':=by
 have HR1:=Zd hr1
 have HC1:=Zd hc1
 clear hr1 hc1
 have HB:=Zd (Below.refl w.heap.size w)
 have H:((doc_run.f k l1).bind fun t180=>(some (mx a0 (wrap64 (t180+1)))))=some r:=h
 clear h
 replace H:=Option.bind_eq_some_iff.mp H
 obtain⟨t180,A30,H⟩:=H
 replace H:(some (mx a0 (wrap64 (t180+1))))=some r:=H
 have A3:=Zd A30
 clear A30
 obtain⟨ji4,hji4⟩:∃ j_:Int,(mx a0 (wrap64 (t180+1)))=j_:=⟨_,rfl⟩
 replace H:(some ji4)=some r:=by first|(rw [hji4] at H;exact H)|(simp only [hji4] at H ⊢;exact H)
 (try rw [hji4] at A3)
 have hji4_:(if a0<(wrap64 (t180+1)) then (wrap64 (t180+1)) else a0)=ji4:=hji4
 obtain rfl:=Option.some.inj H
 go_enter Tryz.func42,Tryz.ntmps42
 go_wp2_with (first|((with_reducible refine gate_callee (f:=84) rfl ?_);refine goesL_ (some 7) rfl rfl Tryz.func84 (by kernel_rfl) rfl #[.slice A1 l1.length c1] rfl Zl ?_;(with_reducible refine (doc_run.calls k _ _ l1 t180 _ ?side1 ?side2 A3.out).mono ?_);(case side1=>repeat (first|exact HR1.out|(with_reducible refine Kd.C_alloc ?_ _)|(with_reducible refine Kd.C_drewN ?_ _)|(with_reducible refine Kd.C_drew ?_)));(case side2=>exact HC1.out);rintro e w5 ⟨rfl,hb⟩;refine⟨_,rfl,?_⟩;have n0_:=Zd (below_step Zb hb);clear HB;have HB:=n0_;clear n0_;(try clear hb);(try clear hb2);(try clear hk);(try clear hi)))
 go_ret
 exact⟨by first|rfl|(simp [errW_none,errW_some]<;>rfl)|(simp only [←hji4];first|rfl|(simp [errW_none,errW_some]<;>rfl))|(simp [*,errW_none,errW_some]<;>rfl),by repeat (first|(with_reducible first|exact HB.out|apply below_alloc|apply pw_below_drewN|apply below_drew1)|exact HB.out)⟩
end Go.Proofs.YtfiamddinkokbaaGreat.F
end

section
namespace Go.Proofs.YtfiamddinkokbaaGreat.F
open Go.RowKit Go.Proofs.YtfiamddinkokbaaGreatW.PrintWords Go.Proofs.YtfiamddinkokbaaGreatW.PrintLast Go.Proofs.YtfiamddinkokbaaGreatW.PrintMore
def runAll (l : List ByteArray) (n : Int) : Int := l.foldl (fun n s=>mx n (textRun s)) n
theorem doc_run_in (ls : List ByteArray) (hN : ls.length≤4000000000) (hs : ∀ s∈ls,s.size≤4000000000) :
  ∀ (rest done:List ByteArray) (x i:Int),ls=done++rest→i=done.length→Ev (fun k=>doc_run.l0 k x ls (ls.length:Int) i) (runAll rest x)
 | [],done,x,i,hl,ei=>by
  refine Ev.succ ?_
  simp only [doc_run.l0]
  refine Ev.neg (by rw [hl];simp;omega) (Ev.val rfl)
 | s::rest,done,x,i,hl,ei=>by
  have hsz:ls.length=done.length+(rest.length+1):=by rw [hl];simp
  have hw:wrap64 (i+1)=i+1:=wrap_in (by omega) (by omega)
  have hb:rdOf ByteArray.empty ls i=s:=rdOf_at _ ls i done rest s hl ei
  have hS:s.size≤4000000000:=hs s (by rw [hl];simp)
  refine Ev.succ ?_
  simp only [doc_run.l0,hw,hb]
  refine Ev.pos (by omega) (Ev.pos (by omega) (Ev.pos (by omega) (Ev.bind (Ev.const (lines_split s hS)) (Ev.bind (lines_longest [splitB s] (by simp) ?_ ?_) ?_))))
  ·intro l hm;rw [List.mem_singleton.1 hm];have:=splitB_length s;omega
  ·intro l hm;rw [List.mem_singleton.1 hm];intro x hx;have:=splitB_mem s x hx;omega
  ·exact doc_run_in ls hN hs rest (done++[s]) _ (i+1) (by rw [hl];simp) (by simp;omega)
theorem ev_doc_run (ls : List ByteArray) (hN : ls.length≤4000000000) (hs : ∀ s∈ls,s.size≤4000000000) : Ev (fun k=>doc_run.f k ls) (runAll ls 0) := doc_run_in ls hN hs ls [] 0 0 rfl rfl
theorem ev_doc_width (n : Int) (ls : List ByteArray) (hN : ls.length≤4000000000) (hs : ∀ s∈ls,s.size≤4000000000) : Ev (fun k=>doc_Width.f k n ls) (mx n (wrap64 (runAll ls 0+1))) :=
 Ev.bind (ev_doc_run ls hN hs) (Ev.val rfl)
end Go.Proofs.YtfiamddinkokbaaGreat.F
end

section
namespace Go.Proofs.YtfiamddinkokbaaGreat.F
open Go.RowKit Go.Proofs.YtfiamddinkokbaaGreatW.PrintWords Go.Proofs.YtfiamddinkokbaaGreatW.PrintLast Go.Proofs.YtfiamddinkokbaaGreatW.PrintMore
attribute [local go_sem] max2_int min2_int max_two min_two max_three min_three max_four min_four
theorem eqA29 (d : Nat) (w : World) (x0 y0 : ByteArray) (x1 y1 : ByteArray) (x2 y2 : ByteArray) :
  (Op.equalIn (d+2) 29 (.agg #[.string x0,.string x1,.string x2]) (.agg #[.string y0,.string y1,.string y2])).run Tryz.prog w = .ok (x0.toList==y0.toList&&(x1.toList==y1.toList&&(x2.toList==y2.toList))) w:=by
 refine eqA_of Tryz.underlying29 (by kernel_rfl) ?_
 refine eqf_cons (by rfl) (by go_simp;rfl) (by go_simp;rfl) (by go_simp) ?_
 refine eqf_cons (by rfl) (by go_simp;rfl) (by go_simp;rfl) (by go_simp) ?_
 exact eqf_last (by rfl) (by go_simp;rfl) (by go_simp;rfl) (by go_simp)
theorem eqA124 (d : Nat) (w : World) (x0 y0 : ByteArray) (x1 y1 : ByteArray) (x2 y2 : ByteArray) (x3 y3 : Bool) (x4 y4 : ByteArray) (x5 y5 : ByteArray) (x6 y6 : ByteArray) (x7 y7 : ByteArray) (x8 y8 : Bool) :
  (Op.equalIn (d+3) 124 (.agg #[.string x0,.string x1,.string x2,.bool x3,.string x4,.string x5,.string x6,.string x7,.bool x8]) (.agg #[.string y0,.string y1,.string y2,.bool y3,.string y4,.string y5,.string y6,.string y7,.bool y8])).run Tryz.prog w = .ok ((x0.toList==y0.toList&&(x1.toList==y1.toList&&(x2.toList==y2.toList)))&&(x3==y3&&(x4.toList==y4.toList&&(x5.toList==y5.toList&&(x6.toList==y6.toList&&(x7.toList==y7.toList&&(x8==y8))))))) w:=by
 refine eqA_of Tryz.underlying124 (by kernel_rfl) ?_
 refine eqf_cons (by rfl) (by go_simp) (by go_simp) (eqA29 (d+0) w _ _ _ _ _ _) ?_
 refine eqf_cons (by rfl) (by go_simp;rfl) (by go_simp;rfl) (by go_simp) ?_
 refine eqf_cons (by rfl) (by go_simp;rfl) (by go_simp;rfl) (by go_simp) ?_
 refine eqf_cons (by rfl) (by go_simp;rfl) (by go_simp;rfl) (by go_simp) ?_
 refine eqf_cons (by rfl) (by go_simp;rfl) (by go_simp;rfl) (by go_simp) ?_
 refine eqf_cons (by rfl) (by go_simp;rfl) (by go_simp;rfl) (by go_simp) ?_
 exact eqf_last (by rfl) (by go_simp;rfl) (by go_simp;rfl) (by go_simp)
end Go.Proofs.YtfiamddinkokbaaGreat.F
end

section
namespace Go.Proofs.YtfiamddinkokbaaGreat.F
open Go.RowKit Go.Proofs.YtfiamddinkokbaaGreatW.PrintWords Go.Proofs.YtfiamddinkokbaaGreatW.PrintLast Go.Proofs.YtfiamddinkokbaaGreatW.PrintMore
attribute [local go_sem] max2_int min2_int max_two min_two max_three min_three max_four min_four
attribute [local go_sem high] eqA124
def doc_Part_isText.f (a0_0 : ByteArray) (a0_1 : ByteArray) (a0_2 : ByteArray) (a0_3 : Bool) (a0_4 : ByteArray) (a0_5 : ByteArray) (a0_6 : ByteArray) (a0_7 : ByteArray) (a0_8 : Bool) : Option (Bool) := some ((a0_0.toList.isEmpty&&(a0_1.toList.isEmpty&&(a0_2.toList.isEmpty)))&&(!a0_3&&(a0_5.toList.isEmpty&&(a0_6.toList.isEmpty&&(a0_7.toList.isEmpty&&(!a0_8))))))
set_option maxHeartbeats 8000000 in
set_option maxRecDepth 100000 in
theorem doc_Part_isText.calls (a0_0 : ByteArray) (a0_1 : ByteArray) (a0_2 : ByteArray) (a0_3 : Bool) (a0_4 : ByteArray) (a0_5 : ByteArray) (a0_6 : ByteArray) (a0_7 : ByteArray) (a0_8 : Bool) (r : Bool) (w : World) (h : doc_Part_isText.f a0_0 a0_1 a0_2 a0_3 a0_4 a0_5 a0_6 a0_7 a0_8=some r) :
  Calls Tryz.prog 106 #[.agg #[.string a0_0,.string a0_1,.string a0_2,.bool a0_3,.string a0_4,.string a0_5,.string a0_6,.string a0_7,.bool a0_8]] w fun e w'=>e = .returned (.bool r)∧Below w.heap.size w w':=by
 have hu124:=Tryz.underlying124
 have HB:=Zd (Below.refl w.heap.size w)
 have H:(some ((a0_0.toList.isEmpty&&(a0_1.toList.isEmpty&&(a0_2.toList.isEmpty)))&&(!a0_3&&(a0_5.toList.isEmpty&&(a0_6.toList.isEmpty&&(a0_7.toList.isEmpty&&(!a0_8)))))))=some r:=h
 clear h
 obtain rfl:=Option.some.inj H
 go_enter Tryz.func106,Tryz.ntmps106
 go_wp2_with (first|((with_reducible refine gate_dst (N:=1) rfl ?_);refine box_event ?hg (N:=1) ?hd (cs:=#[.string a0_0,.string a0_1,.string a0_2,.bool a0_3,.string a0_4,.string a0_5,.string a0_6,.string a0_7,.bool a0_8]) (t:=124) ?hr ?_;(case hd=>rfl);(case hg=>rfl);(case hr=>first|(go_simp;done)|(go_simp;rfl));intro gb104 hg w2 hbox hb;have n0_:=Zd (below_step Zb hb);have n1_:=Zd (hbox);have n2_:=Zd ((Zg hg:w.heap.size≤gb104));have n3_:=Zd ((Zg hg:w.heap.size≤gb104));clear HB;have HB:=n0_;have BK104:=n1_;have GW104:=n2_;have GE104:=n3_;clear n0_ n1_ n2_ n3_;clear hb hbox hg;obtain⟨hcz3_0,hcz3_1,hcz3_2,hcz3_3,hcz3_4,hcz3_5,hcz3_6,hcz3_7,hcz3_8,hfz3_0,hfz3_1,hfz3_2,hfz3_3,hfz3_4,hfz3_5,hfz3_6,hfz3_7,hfz3_8⟩:=Zc9 BK104.out))
 go_ret
 exact⟨by first|rfl|(simp [errW_none,errW_some]<;>rfl)|(simp [*,errW_none,errW_some]<;>rfl),by repeat (first|(with_reducible first|exact HB.out|apply below_alloc|apply pw_below_drewN|apply below_drew1|refine below_set ?_ GE104.out)|exact HB.out)⟩
end Go.Proofs.YtfiamddinkokbaaGreat.F
end
