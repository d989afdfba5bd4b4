/- Texts joined into one file (wip/tools/pack.py): BuildConf, BuildPiece -/
import Derived.Test.YtfiamddinkokbaaTA19
import Derived.Deep.DrawnRows
set_option linter.unusedVariables false
set_option linter.unusedSimpArgs false
section
namespace Go.Proofs.Ytfiamddinkokbaa.F
open Go.RowKit Go.Shelf Go.Proofs.YtfiamddinkokbaaW.PrintWords
def hunkP (st : Int) (g0 g1 g2 jl jb jr : ByteArray) : PP := ⟨⟨g0,if st=0 then ⟨#[]⟩ else g1,g2⟩,true,⟨#[]⟩,jl,if st=0 then ⟨#[]⟩ else jb,jr,decide (st≠0)⟩
def Stays (f : Nat) (w : World) (A : Option Addr) (c : Nat) (xs : List ByteArray) : Prop := xs.length≤c∧∀ W,Keeps 106 f w W→Kd.C Kd.string W A xs.length xs
set_option maxHeartbeats 8000000 in
set_option maxRecDepth 100000 in
theorem conflict_calls {B f : Nat} {g0 g1 g2 : ByteArray} {st fv : Int} {l : List PP} {w : World} (pb : Bool) (p1 p2 p3 p4 p5 p6 cls : Int) (Ab Al Ar : Option Addr) (cb cl cr : Nat) (base left right : List ByteArray)
  (h:Bld B f f g0 g1 g2 st fv l w) (hsb:Stays f w Ab cb base) (hsl:Stays f w Al cl left) (hsr:Stays f w Ar cr right) (hl4:left.length≤4000000000) (hr4:right.length≤4000000000) (hll:l.length≤1000000000) (jt jl jb jr ju:ByteArray)
  (hjt:lines_Join.f (left.take (hoN st left right))=some jt) (hjl:lines_Join.f (midS left (hoN st left right) (hoM st left right))=some jl) (hjr:lines_Join.f (midS right (hoN st left right) (hoM st left right))=some jr) (hjb:st≠0→lines_Join.f base=some jb) (hju:lines_Join.f (left.drop (left.length-hoM st left right))=some ju) (hBw:B≤w.heap.size) :
  Calls Try.prog 159 #[.pointer (some ⟨f,0,none⟩),.agg #[.bool pb,.int .i64 p1,.int .i64 p2,.int .i64 p3,.int .i64 p4,.int .i64 p5,.int .i64 p6,.slice Ab base.length cb,.slice Al left.length cl,.slice Ar right.length cr,.int .i64 cls]] w fun e w' =>
   e = .returned (.tuple #[])∧Bld B f f g0 g1 g2 st fv (l++[textPart jt,hunkP st g0 g1 g2 jl jb jr,textPart ju]) w'∧Below B w w'∧Keeps 106 f w w':=by
 obtain⟨hcb,hb0⟩:=hsb
 obtain⟨hcl,hl0⟩:=hsl
 obtain⟨hcr,hr0⟩:=hsr
 have hb:=hb0 w (Keeps.refl _ _ _)
 have hlf:=hl0 w (Keeps.refl _ _ _)
 have hrt:=hr0 w (Keeps.refl _ _ _)
 obtain⟨hcut3,hC3,hc3⟩:=cut_CSt hlf hcl (hoN st left right) (by have:=(ho_le st left right).1;omega)
 obtain⟨A4,hcut4,hC4,hc4⟩:=cut_CSf (K:=Keeps 106 f w) hl0 hcl (hoM st left right) (by have:=(ho_le st left right).1;omega)
 have HJ3:=Aside0.mk (fun (hst:st≠0) W (hb':Below w.heap.size w W)=>lines_Join.calls Ab cb base jb W (Kd.C_below hb hb') hcb (hjb hst))
 have HT1:=Aside0.mk (fun (l':List PP) (X:Nat) (W:World) (hB':Bld B f X g0 g1 g2 st fv l' W) (hk:Keeps 106 f w W) (hl':l'.length≤100000000000) (h1:B≤W.heap.size) (h2:X<W.heap.size)=>text_calls Al cl _ jt hB' (cut_CSt (hl0 W hk) hcl (hoN st left right) (by have:=(ho_le st left right).1;omega)).2.1 hc3 hjt hl' h1 h2)
 have HT2:=Aside0.mk (fun (l':List PP) (X:Nat) (W:World) (hB':Bld B f X g0 g1 g2 st fv l' W) (hk:Keeps 106 f w W) (hl':l'.length≤100000000000) (h1:B≤W.heap.size) (h2:X<W.heap.size)=>text_calls A4 _ _ ju hB' (hC4 W hk) hc4 hju hl' h1 h2)
 have HLL:=Aside0.mk hll
 have HBw:=Aside0.mk hBw
 have HF:=Aside0.mk h
 have c3:=h.c3
 have HO:=Aside0.mk (fun W (hb:Below w.heap.size w W)=>hoist_calls (w:=W) (Kd.C_below hlf hb) (Kd.C_below hrt hb) hcl hcr hl4 hr4)
 have hfl:=h.lt
 obtain⟨A1,n1,hn1,hcut1,hC1,hc1⟩:=cut_CSm hlf hcl (hoN st left right) (hoM st left right) (ho_le st left right).1
 obtain⟨A2,n2,hn2,hcut2,hC2,hc2⟩:=cut_CSm hrt hcr (hoN st left right) (hoM st left right) (ho_le st left right).2
 have HLE:=Aside0.mk (ho_le st left right)
 subst hn1 hn2
 have HJ1:=Aside0.mk (fun W (hb:Below w.heap.size w W)=>lines_Join.calls A1 _ _ jl W (Kd.C_below hC1 hb) hc1 hjl)
 have HJ2:=Aside0.mk (fun W (hb:Below w.heap.size w W)=>lines_Join.calls A2 _ _ jr W (Kd.C_below hC2 hb) hc2 hjr)
 clear h hb hlf hrt hBw hjl hjr hC1 hC2 hc1 hc2 hC3 hC4 hc3 hc4 hjt hju hjb hb0 hl0 hr0 hll
 obtain⟨n,hn⟩:∃ n,hoN st left right=n:=⟨_,rfl⟩
 obtain⟨m,hm⟩:∃ m,hoM st left right=m:=⟨_,rfl⟩
 rw [hn,hm] at hcut1 hcut2 HLE HJ1 HJ2
 rw [hn] at hcut3 HT1
 rw [hm] at hcut4 HT2
 obtain⟨lt,hlt⟩:∃ lt,left.take n=lt:=⟨_,rfl⟩
 obtain⟨ld,hld⟩:∃ ld,left.drop (left.length-m)=ld:=⟨_,rfl⟩
 obtain⟨cd,hcd⟩:∃ cd,cl-(left.length-m)=cd:=⟨_,rfl⟩
 rw [hlt] at hcut3 HT1
 rw [hld,hcd] at hcut4 HT2
 clear hlt hld hcd
 have HC3:=Aside0.mk hcut3
 have HC4:=Aside0.mk hcut4
 clear hcut3 hcut4
 have HN:=Aside0.mk hn
 have HM:=Aside0.mk hm
 clear hn hm
 go_enter Try.func159,Try.ntmps159
 obtain⟨hp,hhp⟩:∃ hp,hp=w.heap.size:=⟨_,rfl⟩
 go_upto_if 11 with fail
 go_cut [4,5] (fun v4 v5 wc=>v4 = .int .i64 (n:Int)∧v5 = .int .i64 (m:Int)∧Aside0 (∃ q,wc=(w.alloc (.cells #[.bool pb,.int .i64 p1,.int .i64 p2,.int .i64 p3,.int .i64 p4,.int .i64 p5,.int .i64 p6,.slice Ab base.length cb,.slice Al left.length cl,.slice Ar right.length cr,.int .i64 cls] 179)).drewN q))
 case first =>
  by_cases hst:st=2
  ·have q1:(st==(2:Int))=true:=by rw [hst];rfl
   have e1:=HN.out
   have e2:=HM.out
   unfold hoN at e1;unfold hoM at e2
   rw [if_pos hst] at e1 e2
   clear hst HN HM
   go_wp2_with (first|(go_at_call 168;refine (HO.out _ (below_alloc (Below.refl _ _) _)).mono ?_;rintro e w1 ⟨rfl,hd⟩;have HD:=Aside0.mk hd.out;clear hd))
   go_meet
   case rel=>exact⟨by rw [←e1],by rw [←e2],HD⟩
  ·have q1:(st==(2:Int))=false:=beq_eq_false_iff_ne.2 hst
   have e1:=HN.out
   have e2:=HM.out
   unfold hoN at e1;unfold hoM at e2
   rw [if_neg hst] at e1 e2
   clear hst HN HM
   go_wp2
   go_meet
   case rel=>exact⟨by rw [←e1];rfl,by rw [←e2];rfl,⟨0,rfl⟩⟩
 case rest =>
  obtain⟨rfl,rfl,HQ⟩:=hcut
  obtain⟨q,rfl⟩:=HQ.out
  clear HQ HO HN HM
  have hbel:=pw_below_drewN (below_alloc (Below.refl w.heap.size w) (.cells #[.bool pb,.int .i64 p1,.int .i64 p2,.int .i64 p3,.int .i64 p4,.int .i64 p5,.int .i64 p6,.slice Ab base.length cb,.slice Al left.length cl,.slice Ar right.length cr,.int .i64 cls] 179)) q
  have hbx:((w.alloc (.cells #[.bool pb,.int .i64 p1,.int .i64 p2,.int .i64 p3,.int .i64 p4,.int .i64 p5,.int .i64 p6,.slice Ab base.length cb,.slice Al left.length cl,.slice Ar right.length cr,.int .i64 cls] 179)).drewN q).heap[w.heap.size]? = some (.cells #[.bool pb,.int .i64 p1,.int .i64 p2,.int .i64 p3,.int .i64 p4,.int .i64 p5,.int .i64 p6,.slice Ab base.length cb,.slice Al left.length cl,.slice Ar right.length cr,.int .i64 cls] 179 (0,0)):=World.alloc_heap_new w _
  have HF0:=Aside0.mk (HF.out.below hbel)
  have HB:=Aside0.mk hbel
  have HX:=Aside0.mk hbx
  clear hbel hbx HF c3
  generalize (w.alloc (.cells #[.bool pb,.int .i64 p1,.int .i64 p2,.int .i64 p3,.int .i64 p4,.int .i64 p5,.int .i64 p6,.slice Ab base.length cb,.slice Al left.length cl,.slice Ar right.length cr,.int .i64 cls] 179)).drewN q=W0 at *
  rw [←hhp] at HX ⊢
  have HHP:=Aside0.mk hhp
  clear hhp
  have a0:=HF0.out.c0
  have a1:=HF0.out.c1
  have a2:=HF0.out.c2
  have b8:=(blk_cell HX.out 8).trans (rfl:_=some (Value.slice Al left.length cl))
  have b9:=(blk_cell HX.out 9).trans (rfl:_=some (Value.slice Ar right.length cr))
  have z1:0≤(left.length:Int)-(m:Int):=by have:=HLE.out;omega
  have z2:0≤(right.length:Int)-(m:Int):=by have:=HLE.out;omega
  have z3:(left.length:Int)-(m:Int)≤4000000000:=by omega
  have z4:(right.length:Int)-(m:Int)≤4000000000:=by omega
  obtain⟨u1,hu1⟩:∃ u1:Int,(left.length:Int)-(m:Int)=u1:=⟨_,rfl⟩
  obtain⟨u2,hu2⟩:∃ u2:Int,(right.length:Int)-(m:Int)=u2:=⟨_,rfl⟩
  have y1:IntKind.i64.wrap ((left.length:Int)-(m:Int))=u1:=by rw [IntWalk.i64_in _ (by omega)];exact hu1
  have y2:IntKind.i64.wrap ((right.length:Int)-(m:Int))=u2:=by rw [IntWalk.i64_in _ (by omega)];exact hu2
  rw [hu1] at hcut1 z1 z3
  rw [hu2] at hcut2 z2 z4
  have HU1:=Aside0.mk hu1
  have HU2:=Aside0.mk hu2
  have z5:(n:Int)≤u1:=by have:=HLE.out;omega
  have z6:(n:Int)≤u2:=by have:=HLE.out;omega
  have z7:u1≤(cl:Int):=by omega
  have z8:u2≤(cr:Int):=by omega
  have z9:(0:Int)≤(n:Int):=by omega
  clear hu1 hu2
  have hS:W0.cell? ⟨f,0,none⟩=some (.string g0)∧W0.cell? ⟨f,1,none⟩=some (.string g1)∧W0.cell? ⟨f,2,none⟩=some (.string g2)∧W0.cell? ⟨hp,8,none⟩=some (.slice Al left.length cl)∧W0.cell? ⟨hp,9,none⟩=some (.slice Ar right.length cr)∧Below W0.heap.size W0 W0:=⟨a0,a1,a2,b8,b9,Below.refl _ _⟩
  go_upto_region 5 with (fail)
  go_cut [6] (fun v6 wc=>∃ hx,v6 = .pointer (some ⟨hx,0,none⟩)∧Aside0 (W0.heap.size≤hx)∧Aside0 (wc.heap[hx]? = some (.cells #[.string g0,.string g1,.string g2,.bool true,.string ⟨#[]⟩,.string jl,.string ⟨#[]⟩,.string jr,.bool false] 106 (0,0)))∧Aside0 (Below W0.heap.size W0 wc))
  case first =>
   have tk1:True:=trivial
   have tk2:True:=trivial
   have HQ:Aside0 (Below W0.heap.size W0 W0.drew):=⟨below_drew (Below.refl _ _)⟩
   go_wp2
   go_region_held3 (fun w'=>w'.cell? ⟨f,0,none⟩=some (.string g0)∧w'.cell? ⟨f,1,none⟩=some (.string g1)∧w'.cell? ⟨f,2,none⟩=some (.string g2)∧w'.cell? ⟨hp,8,none⟩=some (.slice Al left.length cl)∧w'.cell? ⟨hp,9,none⟩=some (.slice Ar right.length cr)∧Below W0.heap.size W0 w')
    (first|((with_reducible refine keep5 (W:=W0) ?_ hS);(first|(with_reducible exact HQ.out)|(with_reducible exact below_alloc HQ.out _)|(with_reducible exact below_drew (below_alloc (Below.refl _ _) _))|exact below_set9 HQ.out HK.out _ _ _ _ _ _ _ _ _)))
    (first
     | ((refine Go.Proofs.YtfiamddinkokbaaW.PrintLast.goes_ Try.func33 (by kernel_rfl) rfl #[.slice A1 (midS left n m).length (cl-n)] (by rfl) rfl rfl (by (try simp only [List.map_toArray,List.map_cons,List.map_nil]);rfl) ?_;have _t:=tk1;refine (HJ1.out _ (by first|(with_reducible exact below_step HB.out HQ.out)|(with_reducible exact below_step HB.out (below_alloc HQ.out _))|(with_reducible exact below_step HB.out (below_drew (below_alloc (Below.refl _ _) _))))).mono ?_;rintro e w1 ⟨rfl,hb1⟩;have hq:Below W0.heap.size W0 w1:=(by refine below_step ?_ hb1;first|(with_reducible exact HQ.out)|(with_reducible exact below_alloc HQ.out _)|(with_reducible exact below_drew (below_alloc (Below.refl _ _) _)));have hk0:=HQ.out.size;clear tk1 HQ;have HQ:=Aside0.mk hq;clear hq;(first|((first|have hz:=after_alloc hb1|have hz:=after_alloc_drew hb1);have HK:=Aside0.mk hk0;obtain⟨e0,e1,e2,e3,e4,e5,e6,e7,e8,f0,f1,f2,f3,f4,f5,f6,f7,f8⟩:=zero_facts hz;have HZ:=Aside0.mk hz;clear hz)|(have hz:=after_call hb1 HZ.out;clear HZ e0 e1 e2 e3 e4 e5 e6 e7 e8 f0 f1 f2 f3 f4 f5 f6 f7 f8;obtain⟨e0,e1,e2,e3,e4,e5,e6,e7,e8,f0,f1,f2,f3,f4,f5,f6,f7,f8⟩:=zero_facts hz;have HZ:=Aside0.mk hz;clear hz)|skip);clear hk0;refine⟨_,rfl,?_⟩))
     | ((refine Go.Proofs.YtfiamddinkokbaaW.PrintLast.goes_ Try.func33 (by kernel_rfl) rfl #[.slice A2 (midS right n m).length (cr-n)] (by rfl) rfl rfl (by (try simp only [List.map_toArray,List.map_cons,List.map_nil]);rfl) ?_;have _t:=tk2;refine (HJ2.out _ (by first|(with_reducible exact below_step HB.out HQ.out)|(with_reducible exact below_step HB.out (below_alloc HQ.out _))|(with_reducible exact below_step HB.out (below_drew (below_alloc (Below.refl _ _) _))))).mono ?_;rintro e w1 ⟨rfl,hb1⟩;have hq:Below W0.heap.size W0 w1:=(by refine below_step ?_ hb1;first|(with_reducible exact HQ.out)|(with_reducible exact below_alloc HQ.out _)|(with_reducible exact below_drew (below_alloc (Below.refl _ _) _)));have hk0:=HQ.out.size;clear tk2 HQ;have HQ:=Aside0.mk hq;clear hq;(first|((first|have hz:=after_alloc hb1|have hz:=after_alloc_drew hb1);have HK:=Aside0.mk hk0;obtain⟨e0,e1,e2,e3,e4,e5,e6,e7,e8,f0,f1,f2,f3,f4,f5,f6,f7,f8⟩:=zero_facts hz;have HZ:=Aside0.mk hz;clear hz)|(have hz:=after_call hb1 HZ.out;clear HZ e0 e1 e2 e3 e4 e5 e6 e7 e8 f0 f1 f2 f3 f4 f5 f6 f7 f8;obtain⟨e0,e1,e2,e3,e4,e5,e6,e7,e8,f0,f1,f2,f3,f4,f5,f6,f7,f8⟩:=zero_facts hz;have HZ:=Aside0.mk hz;clear hz)|skip);clear hk0;refine⟨_,rfl,?_⟩)))
   all_goals go_wp2
   all_goals go_meet
   all_goals first
    | exact⟨_,rfl,⟨HQ.out.size⟩,⟨World.alloc_heap_new _ _⟩,⟨below_alloc HQ.out _⟩⟩
    | exact⟨_,rfl,HK,⟨block_set9 HZ.out _ _ _ _ _ _ _ _ _⟩,⟨below_set9 HQ.out HK.out _ _ _ _ _ _ _ _ _⟩⟩
  case rest =>
   obtain⟨hx,rfl,HH,HZ,HW⟩:=hcut
   have h3:=HF0.out.c3
   have c3:wc.cell? ⟨f,3,none⟩=some (.int .i64 st):=(HW.out.cell (World.block_lt_of_cell? W0 _ h3)).trans h3
   have b7:=(blk_cell HX.out 7).trans (rfl:_=some (Value.slice Ab base.length cb))
   have c7:wc.cell? ⟨hp,7,none⟩=some (Value.slice Ab base.length cb):=(HW.out.cell (World.block_lt_of_cell? W0 _ b7)).trans b7
   have hxlt:=(Array.getElem?_eq_some_iff.1 HZ.out).1
   obtain⟨gb,hgb⟩:∃ gb,(if st=0 then ⟨#[]⟩ else g1)=gb:=⟨_,rfl⟩
   obtain⟨kb,hkb⟩:∃ kb,(if st=0 then ⟨#[]⟩ else jb)=kb:=⟨_,rfl⟩
   obtain⟨ub,hub⟩:∃ ub,decide (st≠0)=ub:=⟨_,rfl⟩
   have HPart:Aside0 (hunkP st g0 g1 g2 jl jb jr=⟨⟨g0,gb,g2⟩,true,⟨#[]⟩,jl,kb,jr,ub⟩):=⟨by unfold hunkP;rw [hgb,hkb,hub]⟩
   have HGB:=Aside0.mk hgb
   have HKB:=Aside0.mk hkb
   have HUB:=Aside0.mk hub
   clear h3 b7 a0 a1 a2 b8 b9 hS hcut1 hcut2 HJ1 HJ2 y1 y2 hgb hkb hub
   go_upto_if 49 with fail
   go_cut [49] (fun _ wd=>Aside0 (wd.heap[hx]? = some (.cells #[.string g0,.string gb,.string g2,.bool true,.string ⟨#[]⟩,.string jl,.string kb,.string jr,.bool ub] 106 (0,0)))∧Aside0 (Below W0.heap.size W0 wd))
   case first =>
    have d1:=(blk_cell HZ.out 1).trans (rfl:_=some (Value.string g1))
    have d6:=(blk_cell HZ.out 6).trans (rfl:_=some (Value.string ⟨#[]⟩))
    have d8:=(blk_cell HZ.out 8).trans (rfl:_=some (Value.bool false))
    have k1:=Lib.frozen_of_heap HZ.out 1
    have k6:=Lib.frozen_of_heap HZ.out 6
    have k8:=Lib.frozen_of_heap HZ.out 8
    by_cases hst:st=0
    ·have q1:(st==(0:Int))=true:=by rw [hst];rfl
     have e1:=HGB.out
     have e2:=HKB.out
     have e3:=HUB.out
     rw [if_pos hst] at e1 e2
     rw [decide_eq_false (by omega)] at e3
     subst e1 e2 e3
     clear hst
     go_wp2
     go_meet
     case rel=>exact⟨⟨by simp [World.setCell,Array.getElem?_modify,HZ.out]⟩,⟨HW.out.setCell (p:=⟨hx,1,none⟩) HH.out _⟩⟩
    ·have q1:(st==(0:Int))=false:=beq_eq_false_iff_ne.2 hst
     have e1:=HGB.out
     have e2:=HKB.out
     have e3:=HUB.out
     rw [if_neg hst] at e1 e2
     rw [decide_eq_true hst] at e3
     subst e1 e2 e3
     have HJ3':=Aside0.mk (HJ3.out hst)
     clear hst HJ3
     go_wp2_with (first|(go_at_call 33;refine (HJ3'.out _ (below_step HB.out HW.out)).mono ?_;rintro e w2 ⟨rfl,hb2⟩;have HW2:=Aside0.mk (below_step HW.out hb2);have HZ2:=Aside0.mk (after_call hb2 HZ.out);clear d1 d6 d8 k1 k6 k8 hb2;have d6:=(blk_cell HZ2.out 6).trans (rfl:_=some (Value.string ⟨#[]⟩));have d8:=(blk_cell HZ2.out 8).trans (rfl:_=some (Value.bool false));have k6:=Lib.frozen_of_heap HZ2.out 6;have k8:=Lib.frozen_of_heap HZ2.out 8))
     go_meet
     case rel=>exact⟨⟨by simp [World.setCell,Array.getElem?_modify,HZ2.out]⟩,⟨(HW2.out.setCell (p:=⟨hx,8,none⟩) HH.out _).setCell (p:=⟨hx,6,none⟩) HH.out _⟩⟩
   case rest =>
    obtain⟨HY,HV⟩:=hcut
    have HFx:=Aside0.mk (HF0.out.fresh HH.out HV.out)
    have HXd:=Aside0.mk (after_call HV.out HX.out)
    have b8:=(blk_cell HXd.out 8).trans (rfl:_=some (Value.slice Al left.length cl))
    have HK1:=Aside0.mk ((Keeps.below (T:=106) (b:=f) HB.out).trans (Keeps.below HV.out))
    have HBd:=Aside0.mk (below_step HB.out HV.out)
    have hs1:B≤wc.heap.size:=Nat.le_trans HBw.out HBd.out.size
    have hs2:hx<wc.heap.size:=(Array.getElem?_eq_some_iff.1 HY.out).1
    have HNX:Aside0 (hx≠f):=⟨by have:=HF0.out.lt;have:=HH.out;omega⟩
    have HNP:Aside0 (hp≠f):=⟨by have:=HHP.out;omega⟩
    have hl1:l.length≤100000000000:=by have:=HLL.out;omega
    have hcut3:=HC3.out
    clear HF0 HX HB HW HZ HV c3 c7 HJ3 hxlt
    go_wp2_with (first|(go_at_call 158;(with_reducible refine (HT1.out l hx _ HFx.out HK1.out hl1 hs1 hs2).mono ?_);rintro e w3 ⟨rfl,hB3,hb3,hk3,hx3⟩;have HB3:=Aside0.mk hB3;have HK3:=Aside0.mk (HK1.out.trans hk3);have HY3:=Aside0.mk ((hx3 HNX.out).trans HY.out);have HX3:=Aside0.mk (hk3.cell HXd.out (by decide) HNP.out);have HW3:=Aside0.mk (Below.trans (HBd.out.mono HBw.out) hb3);clear hB3 hb3 hk3 hx3 HFx HXd HK1 HBd hs1 hs2 HY b8 hcut3))
    obtain⟨v,h0,h1,hR⟩:=HB3.out
    obtain⟨Av,cv,rfl⟩:=Kd.R_slice hR
    have c5:=(blk_cell h1 5).trans (rfl:_=some (Value.slice Av (l++[textPart jt]).length cv))
    have HS:=Aside0.mk h1
    have HF3:=Aside0.mk h0
    have HR:=Aside0.mk (Kd.R_drew hR)
    have HL3:Aside0 (B≤w3.heap.size):=⟨Nat.le_trans HBw.out HW3.out.size⟩
    have HFr:Aside0 (∀ k,w3.heap.size≤k→k≠f∧k≠hx):=⟨fun k hk=>⟨fun e=>by have:=(Array.getElem?_eq_some_iff.1 HS.out).1;omega,fun e=>by have:=(Array.getElem?_eq_some_iff.1 HY3.out).1;omega⟩⟩
    have hl3:(l++[textPart jt]).length≤100000000001:=by simp only [List.length_append,List.length_singleton];omega
    clear h0 h1 hR HB3
    have d0:=(blk_cell HY3.out 0).trans (rfl:_=some (Value.string g0));have d1:=(blk_cell HY3.out 1).trans (rfl:_=some (Value.string gb));have d2:=(blk_cell HY3.out 2).trans (rfl:_=some (Value.string g2));have d3:=(blk_cell HY3.out 3).trans (rfl:_=some (Value.bool true));have d4:=(blk_cell HY3.out 4).trans (rfl:_=some (Value.string ⟨#[]⟩));have d5:=(blk_cell HY3.out 5).trans (rfl:_=some (Value.string jl));have d6:=(blk_cell HY3.out 6).trans (rfl:_=some (Value.string kb));have d7:=(blk_cell HY3.out 7).trans (rfl:_=some (Value.string jr));have d8:=(blk_cell HY3.out 8).trans (rfl:_=some (Value.bool ub))
    have c53:∀ o,(w3.alloc o).cell? ⟨f,5,none⟩=some (Value.slice Av (l++[textPart jt]).length cv):=fun o=>tr1 o c5
    generalize hl3e:l++[textPart jt]=l3 at *
    have HL3E:=Aside0.mk hl3e
    clear hl3e
    go_region_law (refine Kd.R_append_step k106 (w0:=w) (W:=w3.drew) B (by rfl) (.tmp 67) (.tmp 69) 28 106 (.agg #[.string ⟨#[]⟩,.string ⟨#[]⟩,.string ⟨#[]⟩,.bool false,.string ⟨#[]⟩,.string ⟨#[]⟩,.string ⟨#[]⟩,.string ⟨#[]⟩,.bool false]) 128 (by rfl) Try.underlying28 part_info rfl (by decide) (by omega) (.slice Av l3.length cv) l3 (⟨⟨g0,gb,g2⟩,true,⟨#[]⟩,jl,kb,jr,ub⟩:PP) [.string g0,.string gb,.string g2,.bool true,.string ⟨#[]⟩,.string jl,.string kb,.string jr,.bool ub] (fun k=>k≠f∧k≠hx) (fun _=>False) (by rfl) (by rfl) (k106_mkM _ _ _ _) (fun _ hk=>hk.elim) HFr.out HR.out (below_drew HW3.out) HL3.out (by omega) ?_;intro v1 w4 ho hb hg1 hat;obtain⟨Aw,cw,rfl⟩:=Kd.R_slice ho;obtain⟨hf1,hfin⟩:=bld_put (W:=w3.drew) HF3.out HS.out HR.out ho hg1;have c52:=(blk_cell hf1 5).trans (rfl:_=some (Value.slice Av l3.length cv));have f52:=Lib.frozen_of_heap hf1 5;have HF5:Aside0 (Bld B f hx g0 g1 g2 st fv (l3++[(⟨⟨g0,gb,g2⟩,true,⟨#[]⟩,jl,kb,jr,ub⟩:PP)]) (w4.setCell ⟨f,5,none⟩ (.slice Aw (l3.length+1) cw))):=⟨by simpa only [List.length_append,List.length_singleton] using hfin⟩;have HB5:Aside0 (Below B w (w4.setCell ⟨f,5,none⟩ (.slice Aw (l3.length+1) cw))):=⟨hb.setCell (p:=⟨f,5,none⟩) HF3.out _⟩;have HK5:Aside0 (Keeps 106 f w (w4.setCell ⟨f,5,none⟩ (.slice Aw (l3.length+1) cw))):=⟨((HK3.out.drewN 1).grown hg1 (Kd.R_typed HR.out)).set 5 _⟩;have HX5:=Aside0.mk (((((Keeps.refl 106 f w3).drewN 1).grown hg1 (Kd.R_typed HR.out)).set 5 (.slice Aw (l3.length+1) cw)).cell HX3.out (by decide) HNP.out);have HS5:Aside0 (hx<(w4.setCell ⟨f,5,none⟩ (.slice Aw (l3.length+1) cw)).heap.size):=⟨by have h1:=hg1.size;have h2:=(Array.getElem?_eq_some_iff.1 HY3.out).1;rw [World.size_setCell];exact Nat.lt_of_lt_of_le h2 h1⟩;clear ho hb hg1 hat hfin hf1)
    all_goals
     generalize (w4.setCell ⟨f,5,none⟩ (.slice Aw (l3.length+1) cw))=w5 at *
     have b8:=(blk_cell HX5.out 8).trans (rfl:_=some (Value.slice Al left.length cl))
     have hs1:B≤w5.heap.size:=Nat.le_trans HBw.out HB5.out.size
     have hs2:=HS5.out
     have hm4:(m:Int)≤(left.length:Int):=by have:=HLE.out;omega
     have hl5:(l3++[(⟨⟨g0,gb,g2⟩,true,⟨#[]⟩,jl,kb,jr,ub⟩:PP)]).length≤100000000000:=by have:=HLL.out;rw [←HL3E.out];simp only [List.length_append,List.length_singleton];omega
     have hcut4:=HC4.out
     clear c5 c52 f52 c53 d0 d1 d2 d3 d4 d5 d6 d7 d8 HS HR HFr HY3 HX3 HW3 HK3
     go_wp2_with (first|(go_at_call 158;(with_reducible refine (HT2.out _ hx _ HF5.out HK5.out hl5 hs1 hs2).mono ?_);rintro e w6 ⟨rfl,hB6,hb6,hk6,hx6⟩;have HB6:=Aside0.mk hB6.weaken;have HK6:=Aside0.mk (HK5.out.trans hk6);have HW6:=Aside0.mk (Below.trans HB5.out hb6);clear hB6 hb6 hk6 hx6))
     go_end0
     refine⟨rfl,?_,HW6.out,HK6.out⟩
     have:=HB6.out
     rw [←HL3E.out,←HPart.out] at this
     simpa only [List.append_assoc,List.cons_append,List.nil_append] using this
def confPs (st : Int) (g0 g1 g2 : ByteArray) (b l r : List ByteArray) : Option (List PP) :=
 if l.length≤4000000000∧r.length≤4000000000 then
  (lines_Join.f (l.take (hoN st l r))).bind fun jt=>(lines_Join.f (midS l (hoN st l r) (hoM st l r))).bind fun jl=>(lines_Join.f (midS r (hoN st l r) (hoM st l r))).bind fun jr =>
   (if st=0 then some ⟨#[]⟩ else lines_Join.f b).bind fun jb=>(lines_Join.f (l.drop (l.length-hoM st l r))).bind fun ju=>some [textPart jt,hunkP st g0 g1 g2 jl jb jr,textPart ju]
 else none
def textPs (l : List ByteArray) : Option (List PP) := (lines_Join.f l).bind fun j=>some [textPart j]
def piecePs (st fv : Int) (g0 g1 g2 : ByteArray) (k : Int) (b l r : List ByteArray) : Option (List PP) :=
 if k=0 then textPs b else if k=1∨k=3∨(k=4∧fv=1) then textPs l else if k=2∨fv=3 then textPs r else confPs st g0 g1 g2 b l r
theorem Stays.keep {f : Nat} {w W : World} {A : Option Addr} {c : Nat} {xs : List ByteArray} (h : Stays f w A c xs) (hk : Keeps 106 f w W) : Stays f W A c xs := ⟨h.1,fun W' hk'=>h.2 W' (hk.trans hk')⟩
def Pieced (B f : Nat) (g0 g1 g2 : ByteArray) (st fv : Int) (l : List PP) (w : World) (e : Ending) (w' : World) : Prop := e = .returned (.tuple #[])∧Bld B f f g0 g1 g2 st fv l w'∧Below B w w'∧Keeps 106 f w w'
theorem text_piece {B f : Nat} {g0 g1 g2 : ByteArray} {st fv : Int} {l ps : List PP} {w W : World} {A : Option Addr} {c : Nat} {xs : List ByteArray} (h : Bld B f f g0 g1 g2 st fv l w) (hs : Stays f w A c xs) (hl : l.length≤1000000000) (hp : textPs xs=some ps) (hBw : B≤w.heap.size) (hb : Below w.heap.size w W) :
  Calls Try.prog 158 #[.pointer (some ⟨f,0,none⟩),.slice A xs.length c] W (Pieced B f g0 g1 g2 st fv (l++ps) w):=by
 obtain⟨j,hj,h2⟩:=Option.bind_eq_some_iff.1 hp
 obtain rfl:=Option.some.inj h2
 refine (text_calls A c xs j (h.below hb) (hs.2 W (Keeps.below hb)) hs.1 hj (by omega) (Nat.le_trans hBw hb.size) (Nat.lt_of_lt_of_le h.lt hb.size)).mono ?_
 rintro e w' ⟨rfl,h1,h2,h3,_⟩
 exact⟨rfl,h1,Below.trans (hb.mono hBw) h2,(Keeps.below hb).trans h3⟩
theorem conf_piece {B f : Nat} {g0 g1 g2 : ByteArray} {st fv : Int} {l ps : List PP} {w W : World} (pb : Bool) (p1 p2 p3 p4 p5 p6 cls : Int) {Ab Al Ar : Option Addr} {cb cl cr : Nat} {base left right : List ByteArray}
  (h:Bld B f f g0 g1 g2 st fv l w) (hsb:Stays f w Ab cb base) (hsl:Stays f w Al cl left) (hsr:Stays f w Ar cr right) (hl:l.length≤1000000000) (hp:confPs st g0 g1 g2 base left right=some ps) (hBw:B≤w.heap.size) (hb:Below w.heap.size w W) :
  Calls Try.prog 159 #[.pointer (some ⟨f,0,none⟩),.agg #[.bool pb,.int .i64 p1,.int .i64 p2,.int .i64 p3,.int .i64 p4,.int .i64 p5,.int .i64 p6,.slice Ab base.length cb,.slice Al left.length cl,.slice Ar right.length cr,.int .i64 cls]] W (Pieced B f g0 g1 g2 st fv (l++ps) w):=by
 unfold confPs at hp
 split at hp
 case isFalse=>cases hp
 case isTrue hlen =>
 obtain⟨jt,h1,hp⟩:=Option.bind_eq_some_iff.1 hp
 obtain⟨jl,h2,hp⟩:=Option.bind_eq_some_iff.1 hp
 obtain⟨jr,h3,hp⟩:=Option.bind_eq_some_iff.1 hp
 obtain⟨jb,h4,hp⟩:=Option.bind_eq_some_iff.1 hp
 obtain⟨ju,h5,hp⟩:=Option.bind_eq_some_iff.1 hp
 obtain rfl:=Option.some.inj hp
 have hk:=Keeps.below (T:=106) (b:=f) hb
 refine (conflict_calls pb p1 p2 p3 p4 p5 p6 cls Ab Al Ar cb cl cr base left right (h.below hb) (hsb.keep hk) (hsl.keep hk) (hsr.keep hk) hlen.1 hlen.2 hl jt jl jb jr ju h1 h2 h3 (fun hst=>by rwa [if_neg hst] at h4) h5 (Nat.le_trans hBw hb.size)).mono ?_
 rintro e w' ⟨rfl,h1,h2,h3⟩
 exact⟨rfl,h1,Below.trans (hb.mono hBw) h2,hk.trans h3⟩
set_option maxHeartbeats 8000000 in
set_option maxRecDepth 100000 in
theorem piece_calls {B f : Nat} {g0 g1 g2 : ByteArray} {st fv : Int} {l ps : List PP} {w : World} (pb : Bool) (p1 p2 p3 p4 p5 p6 cls : Int) (Ab Al Ar : Option Addr) (cb cl cr : Nat) (base left right : List ByteArray)
  (h:Bld B f f g0 g1 g2 st fv l w) (hsb:Stays f w Ab cb base) (hsl:Stays f w Al cl left) (hsr:Stays f w Ar cr right) (hl:l.length≤1000000000) (hp:piecePs st fv g0 g1 g2 cls base left right=some ps) (hBw:B≤w.heap.size) :
  Calls Try.prog 136 #[.pointer (some ⟨f,0,none⟩),.agg #[.bool pb,.int .i64 p1,.int .i64 p2,.int .i64 p3,.int .i64 p4,.int .i64 p5,.int .i64 p6,.slice Ab base.length cb,.slice Al left.length cl,.slice Ar right.length cr,.int .i64 cls]] w (Pieced B f g0 g1 g2 st fv (l++ps) w):=by
 have c4:=h.c4
 have hfl:=h.lt
 have HB:=Aside0.mk h
 have HTb:=Aside0.mk (fun (hq:textPs base=some ps) W (hb:Below w.heap.size w W)=>text_piece h hsb hl hq hBw hb)
 have HTl:=Aside0.mk (fun (hq:textPs left=some ps) W (hb:Below w.heap.size w W)=>text_piece h hsl hl hq hBw hb)
 have HTr:=Aside0.mk (fun (hq:textPs right=some ps) W (hb:Below w.heap.size w W)=>text_piece h hsr hl hq hBw hb)
 have HCf:=Aside0.mk (fun (hq:confPs st g0 g1 g2 base left right=some ps) W (hb:Below w.heap.size w W)=>conf_piece pb p1 p2 p3 p4 p5 p6 cls h hsb hsl hsr hl hq hBw hb)
 clear h hsb hsl hsr hl hBw
 generalize l++ps=lr at *
 unfold piecePs at hp
 by_cases k0:cls=0
 ·rw [if_pos k0] at hp
  have HT:=Aside0.mk (HTb.out hp)
  have q0:(cls==(0:Int))=true:=beq_iff_eq.2 k0
  clear HTb HTl HTr HCf hp k0
  go_enter Try.func136,Try.ntmps136
  go_wp2_with (first|(go_at_call 158;(with_reducible refine (HT.out _ (below_alloc (Below.refl _ _) _)).mono ?_);rintro e w3 ⟨rfl,r1,r2,r3⟩;have R1:=Aside0.mk r1;have R2:=Aside0.mk r2;have R3:=Aside0.mk r3;clear r1 r2 r3))
  go_end0
  exact⟨rfl,R1.out,R2.out,R3.out⟩
 rw [if_neg k0] at hp
 have q0:(cls==(0:Int))=false:=beq_eq_false_iff_ne.2 k0
 by_cases k1:cls=1∨cls=3∨(cls=4∧fv=1)
 ·rw [if_pos k1] at hp
  have HT:=Aside0.mk (HTl.out hp)
  clear HTb HTl HTr HCf hp k0
  rcases k1 with k1|k1|⟨k1,k2⟩
  ·have q1:(cls==(1:Int))=true:=beq_iff_eq.2 k1
   clear k1
   go_enter Try.func136,Try.ntmps136
   go_wp2_with (first|(go_at_call 158;(with_reducible refine (HT.out _ (below_alloc (Below.refl _ _) _)).mono ?_);rintro e w3 ⟨rfl,r1,r2,r3⟩;have R1:=Aside0.mk r1;have R2:=Aside0.mk r2;have R3:=Aside0.mk r3;clear r1 r2 r3))
   go_end0
   exact⟨rfl,R1.out,R2.out,R3.out⟩
  ·have q1:(cls==(1:Int))=false:=beq_eq_false_iff_ne.2 (by omega)
   have q3:(cls==(3:Int))=true:=beq_iff_eq.2 k1
   clear k1
   go_enter Try.func136,Try.ntmps136
   go_wp2_with (first|(go_at_call 158;(with_reducible refine (HT.out _ (below_alloc (Below.refl _ _) _)).mono ?_);rintro e w3 ⟨rfl,r1,r2,r3⟩;have R1:=Aside0.mk r1;have R2:=Aside0.mk r2;have R3:=Aside0.mk r3;clear r1 r2 r3))
   go_end0
   exact⟨rfl,R1.out,R2.out,R3.out⟩
  ·have q1:(cls==(1:Int))=false:=beq_eq_false_iff_ne.2 (by omega)
   have q3:(cls==(3:Int))=false:=beq_eq_false_iff_ne.2 (by omega)
   have q4:(cls==(4:Int))=true:=beq_iff_eq.2 k1
   have qf:(fv==(1:Int))=true:=beq_iff_eq.2 k2
   clear k1 k2
   go_enter Try.func136,Try.ntmps136
   go_wp2_with (first|(go_at_call 158;(with_reducible refine (HT.out _ (below_alloc (Below.refl _ _) _)).mono ?_);rintro e w3 ⟨rfl,r1,r2,r3⟩;have R1:=Aside0.mk r1;have R2:=Aside0.mk r2;have R3:=Aside0.mk r3;clear r1 r2 r3))
   go_end0
   exact⟨rfl,R1.out,R2.out,R3.out⟩
 rw [if_neg k1] at hp
 have q1:(cls==(1:Int))=false:=beq_eq_false_iff_ne.2 (by omega)
 have q3:(cls==(3:Int))=false:=beq_eq_false_iff_ne.2 (by omega)
 by_cases k2:cls=2∨fv=3
 ·rw [if_pos k2] at hp
  have HT:=Aside0.mk (HTr.out hp)
  clear HTb HTl HTr HCf hp
  by_cases k3:cls=2
  ·have q2:(cls==(2:Int))=true:=beq_iff_eq.2 k3
   have q4:(cls==(4:Int))=false:=beq_eq_false_iff_ne.2 (by omega)
   clear k0 k1 k2 k3
   go_enter Try.func136,Try.ntmps136
   go_wp2_with (first|(go_at_call 158;(with_reducible refine (HT.out _ (below_alloc (Below.refl _ _) _)).mono ?_);rintro e w3 ⟨rfl,r1,r2,r3⟩;have R1:=Aside0.mk r1;have R2:=Aside0.mk r2;have R3:=Aside0.mk r3;clear r1 r2 r3))
   go_end0
   exact⟨rfl,R1.out,R2.out,R3.out⟩
  ·have q2:(cls==(2:Int))=false:=beq_eq_false_iff_ne.2 k3
   have qf:(fv==(3:Int))=true:=beq_iff_eq.2 (by omega)
   have qg:(fv==(1:Int))=false:=beq_eq_false_iff_ne.2 (by omega)
   cases q4:(cls==(4:Int)) with
   | true =>
    clear k0 k1 k2 k3
    go_enter Try.func136,Try.ntmps136
    go_wp2_with (first|(go_at_call 158;(with_reducible refine (HT.out _ (below_alloc (Below.refl _ _) _)).mono ?_);rintro e w3 ⟨rfl,r1,r2,r3⟩;have R1:=Aside0.mk r1;have R2:=Aside0.mk r2;have R3:=Aside0.mk r3;clear r1 r2 r3))
    go_end0
    exact⟨rfl,R1.out,R2.out,R3.out⟩
   | false =>
    clear k0 k1 k2 k3
    go_enter Try.func136,Try.ntmps136
    go_wp2_with (first|(go_at_call 158;(with_reducible refine (HT.out _ (below_alloc (Below.refl _ _) _)).mono ?_);rintro e w3 ⟨rfl,r1,r2,r3⟩;have R1:=Aside0.mk r1;have R2:=Aside0.mk r2;have R3:=Aside0.mk r3;clear r1 r2 r3))
    go_end0
    exact⟨rfl,R1.out,R2.out,R3.out⟩
 ·rw [if_neg k2] at hp
  have HT:=Aside0.mk (HCf.out hp)
  clear HTb HTl HTr HCf hp
  have q2:(cls==(2:Int))=false:=beq_eq_false_iff_ne.2 (by omega)
  have qf:(fv==(3:Int))=false:=beq_eq_false_iff_ne.2 (by omega)
  cases q4:(cls==(4:Int)) with
  | true =>
   have qg:(fv==(1:Int))=false:=beq_eq_false_iff_ne.2 (by have:=beq_iff_eq.1 q4;omega)
   clear k0 k1 k2
   go_enter Try.func136,Try.ntmps136
   go_wp2_with (first|(go_at_call 159;(with_reducible refine (HT.out _ (below_alloc (Below.refl _ _) _)).mono ?_);rintro e w3 ⟨rfl,r1,r2,r3⟩;have R1:=Aside0.mk r1;have R2:=Aside0.mk r2;have R3:=Aside0.mk r3;clear r1 r2 r3))
   go_end0
   exact⟨rfl,R1.out,R2.out,R3.out⟩
  | false =>
   clear k0 k1 k2
   go_enter Try.func136,Try.ntmps136
   go_wp2_with (first|(go_at_call 159;(with_reducible refine (HT.out _ (below_alloc (Below.refl _ _) _)).mono ?_);rintro e w3 ⟨rfl,r1,r2,r3⟩;have R1:=Aside0.mk r1;have R2:=Aside0.mk r2;have R3:=Aside0.mk r3;clear r1 r2 r3))
   go_end0
   exact⟨rfl,R1.out,R2.out,R3.out⟩
end Go.Proofs.Ytfiamddinkokbaa.F
end
