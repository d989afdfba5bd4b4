/- Texts joined into one file (wip/tools/pack.py): BuildConf, BuildPiece, BuildDoc, Count, Fn45, Fn82, Fn83, Fn41, Fn44 -/
import Derived.Test.YtfiamddinkokbaaGreatTB2
import Derived.Test.YtfiamddinkokbaaGreatTB10
import Derived.Deep.DrawnRows
import Derived.Test.YtfiamddinkokbaaGreatTB8
import Derived.Test.YtfiamddinkokbaaGreatTB12
import Derived.Test.YtfiamddinkokbaaGreatTB7
import Derived.Test.YtfiamddinkokbaaGreatTB1
import Derived.Test.YtfiamddinkokbaaGreatTB5
set_option linter.unusedVariables false
set_option linter.unusedSimpArgs false
section
namespace Go.Proofs.YtfiamddinkokbaaGreat.F
open Go.RowKit Go.Shelf Go.Proofs.YtfiamddinkokbaaGreatW.PrintWords
def hunkP (st : Int) (g0 g1 g2 jl jb jr : ByteArray) : PP := ⟨⟨g0,if st=0 then ⟨#[]⟩ else g1,g2⟩,true,⟨#[]⟩,jl,if st=0 then ⟨#[]⟩ else jb,jr,decide (st≠0)⟩
def Stays (f : Nat) (w : World) (A : Option Addr) (c : Nat) (xs : List ByteArray) : Prop := xs.length≤c∧∀ W,Keeps 124 f w W→Kd.C Kd.string W A xs.length xs
set_option maxHeartbeats 8000000 in
set_option maxRecDepth 100000 in
theorem conflict_calls {B f : Nat} {g0 g1 g2 : ByteArray} {st fv : Int} {l : List PP} {w : World} (pb : Bool) (p1 p2 p3 p4 p5 p6 cls : Int) (Ab Al Ar : Option Addr) (cb cl cr : Nat) (base left right : List ByteArray)
  (h:Bld B f f g0 g1 g2 st fv l w) (hsb:Stays f w Ab cb base) (hsl:Stays f w Al cl left) (hsr:Stays f w Ar cr right) (hl4:left.length≤4000000000) (hr4:right.length≤4000000000) (hll:l.length≤1000000000) (jt jl jb jr ju:ByteArray)
  (hjt:lines_Join.f (left.take (hoN st left right))=some jt) (hjl:lines_Join.f (midS left (hoN st left right) (hoM st left right))=some jl) (hjr:lines_Join.f (midS right (hoN st left right) (hoM st left right))=some jr) (hjb:st≠0→lines_Join.f base=some jb) (hju:lines_Join.f (left.drop (left.length-hoM st left right))=some ju) (hBw:B≤w.heap.size) :
  Calls Tryz.prog 124 #[.pointer (some ⟨f,0,none⟩),.agg #[.bool pb,.int .i64 p1,.int .i64 p2,.int .i64 p3,.int .i64 p4,.int .i64 p5,.int .i64 p6,.slice Ab base.length cb,.slice Al left.length cl,.slice Ar right.length cr,.int .i64 cls]] w fun e w' =>
   e = .returned (.tuple #[])∧Bld B f f g0 g1 g2 st fv (l++[textPart jt,hunkP st g0 g1 g2 jl jb jr,textPart ju]) w'∧Below B w w'∧Keeps 124 f w w':=by
 obtain⟨hcb,hb0⟩:=hsb
 obtain⟨hcl,hl0⟩:=hsl
 obtain⟨hcr,hr0⟩:=hsr
 have hb:=hb0 w (Keeps.refl _ _ _)
 have hlf:=hl0 w (Keeps.refl _ _ _)
 have hrt:=hr0 w (Keeps.refl _ _ _)
 obtain⟨hcut3,hC3,hc3⟩:=cut_CSt hlf hcl (hoN st left right) (by have:=(ho_le st left right).1;omega)
 obtain⟨A4,hcut4,hC4,hc4⟩:=cut_CSf (K:=Keeps 124 f w) hl0 hcl (hoM st left right) (by have:=(ho_le st left right).1;omega)
 have HJ3:=Zd (fun (hst:st≠0) W (hb':Below w.heap.size w W)=>lines_Join.calls Ab cb base jb W (Kd.C_below hb hb') hcb (hjb hst))
 have HT1:=Zd (fun (l':List PP) (X:Nat) (W:World) (hB':Bld B f X g0 g1 g2 st fv l' W) (hk:Keeps 124 f w W) (hl':l'.length≤100000000000) (h1:B≤W.heap.size) (h2:X<W.heap.size)=>text_calls Al cl _ jt hB' (cut_CSt (hl0 W hk) hcl (hoN st left right) (by have:=(ho_le st left right).1;omega)).2.1 hc3 hjt hl' h1 h2)
 have HT2:=Zd (fun (l':List PP) (X:Nat) (W:World) (hB':Bld B f X g0 g1 g2 st fv l' W) (hk:Keeps 124 f w W) (hl':l'.length≤100000000000) (h1:B≤W.heap.size) (h2:X<W.heap.size)=>text_calls A4 _ _ ju hB' (hC4 W hk) hc4 hju hl' h1 h2)
 have HLL:=Zd hll
 have HBw:=Zd hBw
 have HF:=Zd h
 have c3:=h.c3
 have HO:=Zd (fun W (hb:Below w.heap.size w W)=>hoist_calls (w:=W) (Kd.C_below hlf hb) (Kd.C_below hrt hb) hcl hcr hl4 hr4)
 have hfl:=h.lt
 obtain⟨A1,n1,hn1,hcut1,hC1,hc1⟩:=cut_CSm hlf hcl (hoN st left right) (hoM st left right) (ho_le st left right).1
 obtain⟨A2,n2,hn2,hcut2,hC2,hc2⟩:=cut_CSm hrt hcr (hoN st left right) (hoM st left right) (ho_le st left right).2
 have HLE:=Zd (ho_le st left right)
 subst hn1 hn2
 have HJ1:=Zd (fun W (hb:Below w.heap.size w W)=>lines_Join.calls A1 _ _ jl W (Kd.C_below hC1 hb) hc1 hjl)
 have HJ2:=Zd (fun W (hb:Below w.heap.size w W)=>lines_Join.calls A2 _ _ jr W (Kd.C_below hC2 hb) hc2 hjr)
 clear h hb hlf hrt hBw hjl hjr hC1 hC2 hc1 hc2 hC3 hC4 hc3 hc4 hjt hju hjb hb0 hl0 hr0 hll
 obtain⟨n,hn⟩:∃ n,hoN st left right=n:=⟨_,rfl⟩
 obtain⟨m,hm⟩:∃ m,hoM st left right=m:=⟨_,rfl⟩
 rw [hn,hm] at hcut1 hcut2 HLE HJ1 HJ2
 rw [hn] at hcut3 HT1
 rw [hm] at hcut4 HT2
 obtain⟨lt,hlt⟩:∃ lt,left.take n=lt:=⟨_,rfl⟩
 obtain⟨ld,hld⟩:∃ ld,left.drop (left.length-m)=ld:=⟨_,rfl⟩
 obtain⟨cd,hcd⟩:∃ cd,cl-(left.length-m)=cd:=⟨_,rfl⟩
 rw [hlt] at hcut3 HT1
 rw [hld,hcd] at hcut4 HT2
 clear hlt hld hcd
 have HC3:=Zd hcut3
 have HC4:=Zd hcut4
 clear hcut3 hcut4
 have HN:=Zd hn
 have HM:=Zd hm
 clear hn hm
 go_enter Tryz.func124,Tryz.ntmps124
 obtain⟨hp,hhp⟩:∃ hp,hp=w.heap.size:=⟨_,rfl⟩
 go_upto_if 11 with fail
 go_cut [4,5] (fun v4 v5 wc=>v4 = .int .i64 (n:Int)∧v5 = .int .i64 (m:Int)∧Aside0 (∃ q,wc=(w.alloc (.cells #[.bool pb,.int .i64 p1,.int .i64 p2,.int .i64 p3,.int .i64 p4,.int .i64 p5,.int .i64 p6,.slice Ab base.length cb,.slice Al left.length cl,.slice Ar right.length cr,.int .i64 cls] 168)).drewN q))
 case first =>
  by_cases hst:st=2
  ·have q1:(st==(2:Int))=true:=by rw [hst];rfl
   have e1:=HN.out
   have e2:=HM.out
   unfold hoN at e1;unfold hoM at e2
   rw [if_pos hst] at e1 e2
   clear hst HN HM
   go_wp2_with (first|(go_at_call 143;refine (HO.out _ (below_alloc (Below.refl _ _) _)).mono ?_;rintro e w1 ⟨rfl,hd⟩;have HD:=Zd hd.out;clear hd))
   go_meet
   case rel=>exact⟨by rw [←e1],by rw [←e2],HD⟩
  ·have q1:(st==(2:Int))=false:=beq_eq_false_iff_ne.2 hst
   have e1:=HN.out
   have e2:=HM.out
   unfold hoN at e1;unfold hoM at e2
   rw [if_neg hst] at e1 e2
   clear hst HN HM
   go_wp2
   go_meet
   case rel=>exact⟨by rw [←e1];rfl,by rw [←e2];rfl,⟨0,rfl⟩⟩
 case rest =>
  obtain⟨rfl,rfl,HQ⟩:=hcut
  obtain⟨q,rfl⟩:=HQ.out
  clear HQ HO HN HM
  have hbel:=pw_below_drewN (below_alloc (Below.refl w.heap.size w) (.cells #[.bool pb,.int .i64 p1,.int .i64 p2,.int .i64 p3,.int .i64 p4,.int .i64 p5,.int .i64 p6,.slice Ab base.length cb,.slice Al left.length cl,.slice Ar right.length cr,.int .i64 cls] 168)) q
  have hbx:((w.alloc (.cells #[.bool pb,.int .i64 p1,.int .i64 p2,.int .i64 p3,.int .i64 p4,.int .i64 p5,.int .i64 p6,.slice Ab base.length cb,.slice Al left.length cl,.slice Ar right.length cr,.int .i64 cls] 168)).drewN q).heap[w.heap.size]? = some (.cells #[.bool pb,.int .i64 p1,.int .i64 p2,.int .i64 p3,.int .i64 p4,.int .i64 p5,.int .i64 p6,.slice Ab base.length cb,.slice Al left.length cl,.slice Ar right.length cr,.int .i64 cls] 168 (0,0)):=World.alloc_heap_new w _
  have HF0:=Zd (HF.out.below hbel)
  have HB:=Zd hbel
  have HX:=Zd hbx
  clear hbel hbx HF c3
  generalize (w.alloc (.cells #[.bool pb,.int .i64 p1,.int .i64 p2,.int .i64 p3,.int .i64 p4,.int .i64 p5,.int .i64 p6,.slice Ab base.length cb,.slice Al left.length cl,.slice Ar right.length cr,.int .i64 cls] 168)).drewN q=W0 at *
  rw [←hhp] at HX ⊢
  have HHP:=Zd hhp
  clear hhp
  have a0:=HF0.out.c0
  have a1:=HF0.out.c1
  have a2:=HF0.out.c2
  have b8:=(blk_cell HX.out 8).trans (rfl:_=some (Value.slice Al left.length cl))
  have b9:=(blk_cell HX.out 9).trans (rfl:_=some (Value.slice Ar right.length cr))
  have z1:0≤(left.length:Int)-(m:Int):=by have:=HLE.out;omega
  have z2:0≤(right.length:Int)-(m:Int):=by have:=HLE.out;omega
  have z3:(left.length:Int)-(m:Int)≤4000000000:=by omega
  have z4:(right.length:Int)-(m:Int)≤4000000000:=by omega
  obtain⟨u1,hu1⟩:∃ u1:Int,(left.length:Int)-(m:Int)=u1:=⟨_,rfl⟩
  obtain⟨u2,hu2⟩:∃ u2:Int,(right.length:Int)-(m:Int)=u2:=⟨_,rfl⟩
  have y1:IntKind.i64.wrap ((left.length:Int)-(m:Int))=u1:=by rw [IntWalk.i64_in _ (by omega)];exact hu1
  have y2:IntKind.i64.wrap ((right.length:Int)-(m:Int))=u2:=by rw [IntWalk.i64_in _ (by omega)];exact hu2
  rw [hu1] at hcut1 z1 z3
  rw [hu2] at hcut2 z2 z4
  have HU1:=Zd hu1
  have HU2:=Zd hu2
  have z5:(n:Int)≤u1:=by have:=HLE.out;omega
  have z6:(n:Int)≤u2:=by have:=HLE.out;omega
  have z7:u1≤(cl:Int):=by omega
  have z8:u2≤(cr:Int):=by omega
  have z9:(0:Int)≤(n:Int):=by omega
  clear hu1 hu2
  have hS:W0.cell? ⟨f,0,none⟩=some (.string g0)∧W0.cell? ⟨f,1,none⟩=some (.string g1)∧W0.cell? ⟨f,2,none⟩=some (.string g2)∧W0.cell? ⟨hp,8,none⟩=some (.slice Al left.length cl)∧W0.cell? ⟨hp,9,none⟩=some (.slice Ar right.length cr)∧Below W0.heap.size W0 W0:=⟨a0,a1,a2,b8,b9,Below.refl _ _⟩
  go_upto_region 5 with (fail)
  go_cut [6] (fun v6 wc=>∃ hx,v6 = .pointer (some ⟨hx,0,none⟩)∧Aside0 (W0.heap.size≤hx)∧Aside0 (wc.heap[hx]? = some (.cells #[.string g0,.string g1,.string g2,.bool true,.string ⟨#[]⟩,.string jl,.string ⟨#[]⟩,.string jr,.bool false] 124 (0,0)))∧Aside0 (Below W0.heap.size W0 wc))
  case first =>
   have tk1:True:=trivial
   have tk2:True:=trivial
   have HQ:Aside0 (Below W0.heap.size W0 W0.drew):=⟨below_drew (Below.refl _ _)⟩
   go_wp2
   go_region_held3 (fun w'=>w'.cell? ⟨f,0,none⟩=some (.string g0)∧w'.cell? ⟨f,1,none⟩=some (.string g1)∧w'.cell? ⟨f,2,none⟩=some (.string g2)∧w'.cell? ⟨hp,8,none⟩=some (.slice Al left.length cl)∧w'.cell? ⟨hp,9,none⟩=some (.slice Ar right.length cr)∧Below W0.heap.size W0 w')
    (first|((with_reducible refine keep5 (W:=W0) ?_ hS);(first|(with_reducible exact HQ.out)|(with_reducible exact below_alloc HQ.out _)|(with_reducible exact below_drew (below_alloc (Below.refl _ _) _))|exact below_set9 HQ.out HK.out _ _ _ _ _ _ _ _ _)))
    (first
     | ((refine Go.Proofs.YtfiamddinkokbaaGreatW.PrintLast.goes_ Tryz.func142 (by kernel_rfl) rfl #[.slice A1 (midS left n m).length (cl-n)] (by rfl) rfl rfl (by (try simp only [List.map_toArray,List.map_cons,List.map_nil]);rfl) ?_;have _t:=tk1;refine (HJ1.out _ (by first|(with_reducible exact below_step HB.out HQ.out)|(with_reducible exact below_step HB.out (below_alloc HQ.out _))|(with_reducible exact below_step HB.out (below_drew (below_alloc (Below.refl _ _) _))))).mono ?_;rintro e w1 ⟨rfl,hb1⟩;have hq:Below W0.heap.size W0 w1:=(by refine below_step ?_ hb1;first|(with_reducible exact HQ.out)|(with_reducible exact below_alloc HQ.out _)|(with_reducible exact below_drew (below_alloc (Below.refl _ _) _)));have hk0:=HQ.out.size;clear tk1 HQ;have HQ:=Zd hq;clear hq;(first|((first|have hz:=after_alloc hb1|have hz:=after_alloc_drew hb1);have HK:=Zd hk0;obtain⟨e0,e1,e2,e3,e4,e5,e6,e7,e8,f0,f1,f2,f3,f4,f5,f6,f7,f8⟩:=zero_facts hz;have HZ:=Zd hz;clear hz)|(have hz:=after_call hb1 HZ.out;clear HZ e0 e1 e2 e3 e4 e5 e6 e7 e8 f0 f1 f2 f3 f4 f5 f6 f7 f8;obtain⟨e0,e1,e2,e3,e4,e5,e6,e7,e8,f0,f1,f2,f3,f4,f5,f6,f7,f8⟩:=zero_facts hz;have HZ:=Zd hz;clear hz)|skip);clear hk0;refine⟨_,rfl,?_⟩))
     | ((refine Go.Proofs.YtfiamddinkokbaaGreatW.PrintLast.goes_ Tryz.func142 (by kernel_rfl) rfl #[.slice A2 (midS right n m).length (cr-n)] (by rfl) rfl rfl (by (try simp only [List.map_toArray,List.map_cons,List.map_nil]);rfl) ?_;have _t:=tk2;refine (HJ2.out _ (by first|(with_reducible exact below_step HB.out HQ.out)|(with_reducible exact below_step HB.out (below_alloc HQ.out _))|(with_reducible exact below_step HB.out (below_drew (below_alloc (Below.refl _ _) _))))).mono ?_;rintro e w1 ⟨rfl,hb1⟩;have hq:Below W0.heap.size W0 w1:=(by refine below_step ?_ hb1;first|(with_reducible exact HQ.out)|(with_reducible exact below_alloc HQ.out _)|(with_reducible exact below_drew (below_alloc (Below.refl _ _) _)));have hk0:=HQ.out.size;clear tk2 HQ;have HQ:=Zd hq;clear hq;(first|((first|have hz:=after_alloc hb1|have hz:=after_alloc_drew hb1);have HK:=Zd hk0;obtain⟨e0,e1,e2,e3,e4,e5,e6,e7,e8,f0,f1,f2,f3,f4,f5,f6,f7,f8⟩:=zero_facts hz;have HZ:=Zd hz;clear hz)|(have hz:=after_call hb1 HZ.out;clear HZ e0 e1 e2 e3 e4 e5 e6 e7 e8 f0 f1 f2 f3 f4 f5 f6 f7 f8;obtain⟨e0,e1,e2,e3,e4,e5,e6,e7,e8,f0,f1,f2,f3,f4,f5,f6,f7,f8⟩:=zero_facts hz;have HZ:=Zd hz;clear hz)|skip);clear hk0;refine⟨_,rfl,?_⟩)))
   all_goals go_wp2
   all_goals go_meet
   all_goals first
    | exact⟨_,rfl,⟨HQ.out.size⟩,⟨World.alloc_heap_new _ _⟩,⟨below_alloc HQ.out _⟩⟩
    | exact⟨_,rfl,HK,⟨block_set9 HZ.out _ _ _ _ _ _ _ _ _⟩,⟨below_set9 HQ.out HK.out _ _ _ _ _ _ _ _ _⟩⟩
  case rest =>
   obtain⟨hx,rfl,HH,HZ,HW⟩:=hcut
   have h3:=HF0.out.c3
   have c3:wc.cell? ⟨f,3,none⟩=some (.int .i64 st):=(HW.out.cell (World.block_lt_of_cell? W0 _ h3)).trans h3
   have b7:=(blk_cell HX.out 7).trans (rfl:_=some (Value.slice Ab base.length cb))
   have c7:wc.cell? ⟨hp,7,none⟩=some (Value.slice Ab base.length cb):=(HW.out.cell (World.block_lt_of_cell? W0 _ b7)).trans b7
   have hxlt:=(Array.getElem?_eq_some_iff.1 HZ.out).1
   obtain⟨gb,hgb⟩:∃ gb,(if st=0 then ⟨#[]⟩ else g1)=gb:=⟨_,rfl⟩
   obtain⟨kb,hkb⟩:∃ kb,(if st=0 then ⟨#[]⟩ else jb)=kb:=⟨_,rfl⟩
   obtain⟨ub,hub⟩:∃ ub,decide (st≠0)=ub:=⟨_,rfl⟩
   have HPart:Aside0 (hunkP st g0 g1 g2 jl jb jr=⟨⟨g0,gb,g2⟩,true,⟨#[]⟩,jl,kb,jr,ub⟩):=⟨by unfold hunkP;rw [hgb,hkb,hub]⟩
   have HGB:=Zd hgb
   have HKB:=Zd hkb
   have HUB:=Zd hub
   clear h3 b7 a0 a1 a2 b8 b9 hS hcut1 hcut2 HJ1 HJ2 y1 y2 hgb hkb hub
   go_upto_if 49 with fail
   go_cut [49] (fun _ wd=>Aside0 (wd.heap[hx]? = some (.cells #[.string g0,.string gb,.string g2,.bool true,.string ⟨#[]⟩,.string jl,.string kb,.string jr,.bool ub] 124 (0,0)))∧Aside0 (Below W0.heap.size W0 wd))
   case first =>
    have d1:=(blk_cell HZ.out 1).trans (rfl:_=some (Value.string g1))
    have d6:=(blk_cell HZ.out 6).trans (rfl:_=some (Value.string ⟨#[]⟩))
    have d8:=(blk_cell HZ.out 8).trans (rfl:_=some (Value.bool false))
    have k1:=Lib.frozen_of_heap HZ.out 1
    have k6:=Lib.frozen_of_heap HZ.out 6
    have k8:=Lib.frozen_of_heap HZ.out 8
    by_cases hst:st=0
    ·have q1:(st==(0:Int))=true:=by rw [hst];rfl
     have e1:=HGB.out
     have e2:=HKB.out
     have e3:=HUB.out
     rw [if_pos hst] at e1 e2
     rw [decide_eq_false (by omega)] at e3
     subst e1 e2 e3
     clear hst
     go_wp2
     go_meet
     case rel=>exact⟨⟨by simp [World.setCell,Array.getElem?_modify,HZ.out]⟩,⟨HW.out.setCell (p:=⟨hx,1,none⟩) HH.out _⟩⟩
    ·have q1:(st==(0:Int))=false:=beq_eq_false_iff_ne.2 hst
     have e1:=HGB.out
     have e2:=HKB.out
     have e3:=HUB.out
     rw [if_neg hst] at e1 e2
     rw [decide_eq_true hst] at e3
     subst e1 e2 e3
     have HJ3':=Zd (HJ3.out hst)
     clear hst HJ3
     go_wp2_with (first|(go_at_call 142;refine (HJ3'.out _ (below_step HB.out HW.out)).mono ?_;rintro e w2 ⟨rfl,hb2⟩;have HW2:=Zd (below_step HW.out hb2);have HZ2:=Zd (after_call hb2 HZ.out);clear d1 d6 d8 k1 k6 k8 hb2;have d6:=(blk_cell HZ2.out 6).trans (rfl:_=some (Value.string ⟨#[]⟩));have d8:=(blk_cell HZ2.out 8).trans (rfl:_=some (Value.bool false));have k6:=Lib.frozen_of_heap HZ2.out 6;have k8:=Lib.frozen_of_heap HZ2.out 8))
     go_meet
     case rel=>exact⟨⟨by simp [World.setCell,Array.getElem?_modify,HZ2.out]⟩,⟨(HW2.out.setCell (p:=⟨hx,8,none⟩) HH.out _).setCell (p:=⟨hx,6,none⟩) HH.out _⟩⟩
   case rest =>
    obtain⟨HY,HV⟩:=hcut
    have HFx:=Zd (HF0.out.fresh HH.out HV.out)
    have HXd:=Zd (after_call HV.out HX.out)
    have b8:=(blk_cell HXd.out 8).trans (rfl:_=some (Value.slice Al left.length cl))
    have HK1:=Zd ((Keeps.below (T:=124) (b:=f) HB.out).trans (Keeps.below HV.out))
    have HBd:=Zd (below_step HB.out HV.out)
    have hs1:B≤wc.heap.size:=Nat.le_trans HBw.out HBd.out.size
    have hs2:hx<wc.heap.size:=(Array.getElem?_eq_some_iff.1 HY.out).1
    have HNX:Aside0 (hx≠f):=⟨by have:=HF0.out.lt;have:=HH.out;omega⟩
    have HNP:Aside0 (hp≠f):=⟨by have:=HHP.out;omega⟩
    have hl1:l.length≤100000000000:=by have:=HLL.out;omega
    have hcut3:=HC3.out
    clear HF0 HX HB HW HZ HV c3 c7 HJ3 hxlt
    go_wp2_with (first|(go_at_call 123;(with_reducible refine (HT1.out l hx _ HFx.out HK1.out hl1 hs1 hs2).mono ?_);rintro e w3 ⟨rfl,hB3,hb3,hk3,hx3⟩;have HB3:=Zd hB3;have HK3:=Zd (HK1.out.trans hk3);have HY3:=Zd ((hx3 HNX.out).trans HY.out);have HX3:=Zd (hk3.cell HXd.out (by decide) HNP.out);have HW3:=Zd (Below.trans (HBd.out.mono HBw.out) hb3);clear hB3 hb3 hk3 hx3 HFx HXd HK1 HBd hs1 hs2 HY b8 hcut3))
    obtain⟨v,h0,h1,hR⟩:=HB3.out
    obtain⟨Av,cv,rfl⟩:=Kd.R_slice hR
    have c5:=(blk_cell h1 5).trans (rfl:_=some (Value.slice Av (l++[textPart jt]).length cv))
    have HS:=Zd h1
    have HF3:=Zd h0
    have HR:=Zd (Kd.R_drew hR)
    have HL3:Aside0 (B≤w3.heap.size):=⟨Nat.le_trans HBw.out HW3.out.size⟩
    have HFr:Aside0 (∀ k,w3.heap.size≤k→k≠f∧k≠hx):=⟨fun k hk=>⟨fun e=>by have:=(Array.getElem?_eq_some_iff.1 HS.out).1;omega,fun e=>by have:=(Array.getElem?_eq_some_iff.1 HY3.out).1;omega⟩⟩
    have hl3:(l++[textPart jt]).length≤100000000001:=by simp only [List.length_append,List.length_singleton];omega
    clear h0 h1 hR HB3
    have d0:=(blk_cell HY3.out 0).trans (rfl:_=some (Value.string g0));have d1:=(blk_cell HY3.out 1).trans (rfl:_=some (Value.string gb));have d2:=(blk_cell HY3.out 2).trans (rfl:_=some (Value.string g2));have d3:=(blk_cell HY3.out 3).trans (rfl:_=some (Value.bool true));have d4:=(blk_cell HY3.out 4).trans (rfl:_=some (Value.string ⟨#[]⟩));have d5:=(blk_cell HY3.out 5).trans (rfl:_=some (Value.string jl));have d6:=(blk_cell HY3.out 6).trans (rfl:_=some (Value.string kb));have d7:=(blk_cell HY3.out 7).trans (rfl:_=some (Value.string jr));have d8:=(blk_cell HY3.out 8).trans (rfl:_=some (Value.bool ub))
    have c53:∀ o,(w3.alloc o).cell? ⟨f,5,none⟩=some (Value.slice Av (l++[textPart jt]).length cv):=fun o=>tr1 o c5
    generalize hl3e:l++[textPart jt]=l3 at *
    have HL3E:=Zd hl3e
    clear hl3e
    go_region_law (refine Kd.R_append_step k124 (w0:=w) (W:=w3.drew) B (by rfl) (.tmp 67) (.tmp 69) 33 124 (.agg #[.string ⟨#[]⟩,.string ⟨#[]⟩,.string ⟨#[]⟩,.bool false,.string ⟨#[]⟩,.string ⟨#[]⟩,.string ⟨#[]⟩,.string ⟨#[]⟩,.bool false]) 128 (by rfl) Tryz.underlying33 part_info rfl (by decide) (by omega) (.slice Av l3.length cv) l3 (⟨⟨g0,gb,g2⟩,true,⟨#[]⟩,jl,kb,jr,ub⟩:PP) [.string g0,.string gb,.string g2,.bool true,.string ⟨#[]⟩,.string jl,.string kb,.string jr,.bool ub] (fun k=>k≠f∧k≠hx) (fun _=>False) (by rfl) (by rfl) (k124_mkM _ _ _ _) (fun _ hk=>hk.elim) HFr.out HR.out (below_drew HW3.out) HL3.out (by omega) ?_;intro v1 w4 ho hb hg1 hat;obtain⟨Aw,cw,rfl⟩:=Kd.R_slice ho;obtain⟨hf1,hfin⟩:=bld_put (W:=w3.drew) HF3.out HS.out HR.out ho hg1;have c52:=(blk_cell hf1 5).trans (rfl:_=some (Value.slice Av l3.length cv));have f52:=Lib.frozen_of_heap hf1 5;have HF5:Aside0 (Bld B f hx g0 g1 g2 st fv (l3++[(⟨⟨g0,gb,g2⟩,true,⟨#[]⟩,jl,kb,jr,ub⟩:PP)]) (w4.setCell ⟨f,5,none⟩ (.slice Aw (l3.length+1) cw))):=⟨by simpa only [List.length_append,List.length_singleton] using hfin⟩;have HB5:Aside0 (Below B w (w4.setCell ⟨f,5,none⟩ (.slice Aw (l3.length+1) cw))):=⟨hb.setCell (p:=⟨f,5,none⟩) HF3.out _⟩;have HK5:Aside0 (Keeps 124 f w (w4.setCell ⟨f,5,none⟩ (.slice Aw (l3.length+1) cw))):=⟨((HK3.out.drewN 1).grown hg1 (Kd.R_typed HR.out)).set 5 _⟩;have HX5:=Zd (((((Keeps.refl 124 f w3).drewN 1).grown hg1 (Kd.R_typed HR.out)).set 5 (.slice Aw (l3.length+1) cw)).cell HX3.out (by decide) HNP.out);have HS5:Aside0 (hx<(w4.setCell ⟨f,5,none⟩ (.slice Aw (l3.length+1) cw)).heap.size):=⟨by have h1:=hg1.size;have h2:=(Array.getElem?_eq_some_iff.1 HY3.out).1;rw [World.size_setCell];exact Nat.lt_of_lt_of_le h2 h1⟩;clear ho hb hg1 hat hfin hf1)
    all_goals
     generalize (w4.setCell ⟨f,5,none⟩ (.slice Aw (l3.length+1) cw))=w5 at *
     have b8:=(blk_cell HX5.out 8).trans (rfl:_=some (Value.slice Al left.length cl))
     have hs1:B≤w5.heap.size:=Nat.le_trans HBw.out HB5.out.size
     have hs2:=HS5.out
     have hm4:(m:Int)≤(left.length:Int):=by have:=HLE.out;omega
     have hl5:(l3++[(⟨⟨g0,gb,g2⟩,true,⟨#[]⟩,jl,kb,jr,ub⟩:PP)]).length≤100000000000:=by have:=HLL.out;rw [←HL3E.out];simp only [List.length_append,List.length_singleton];omega
     have hcut4:=HC4.out
     clear c5 c52 f52 c53 d0 d1 d2 d3 d4 d5 d6 d7 d8 HS HR HFr HY3 HX3 HW3 HK3
     go_wp2_with (first|(go_at_call 123;(with_reducible refine (HT2.out _ hx _ HF5.out HK5.out hl5 hs1 hs2).mono ?_);rintro e w6 ⟨rfl,hB6,hb6,hk6,hx6⟩;have HB6:=Zd hB6.weaken;have HK6:=Zd (HK5.out.trans hk6);have HW6:=Zd (Below.trans HB5.out hb6);clear hB6 hb6 hk6 hx6))
     go_end0
     refine⟨rfl,?_,HW6.out,HK6.out⟩
     have:=HB6.out
     rw [←HL3E.out,←HPart.out] at this
     simpa only [List.append_assoc,List.cons_append,List.nil_append] using this
def confPs (st : Int) (g0 g1 g2 : ByteArray) (b l r : List ByteArray) : Option (List PP) :=
 if l.length≤4000000000∧r.length≤4000000000 then
  (lines_Join.f (l.take (hoN st l r))).bind fun jt=>(lines_Join.f (midS l (hoN st l r) (hoM st l r))).bind fun jl=>(lines_Join.f (midS r (hoN st l r) (hoM st l r))).bind fun jr =>
   (if st=0 then some ⟨#[]⟩ else lines_Join.f b).bind fun jb=>(lines_Join.f (l.drop (l.length-hoM st l r))).bind fun ju=>some [textPart jt,hunkP st g0 g1 g2 jl jb jr,textPart ju]
 else none
def textPs (l : List ByteArray) : Option (List PP) := (lines_Join.f l).bind fun j=>some [textPart j]
def piecePs (st fv : Int) (g0 g1 g2 : ByteArray) (k : Int) (b l r : List ByteArray) : Option (List PP) :=
 if k=0 then textPs b else if k=1∨k=3∨(k=4∧fv=1) then textPs l else if k=2∨fv=3 then textPs r else confPs st g0 g1 g2 b l r
theorem Stays.keep {f : Nat} {w W : World} {A : Option Addr} {c : Nat} {xs : List ByteArray} (h : Stays f w A c xs) (hk : Keeps 124 f w W) : Stays f W A c xs := ⟨h.1,fun W' hk'=>h.2 W' (hk.trans hk')⟩
def Pieced (B f : Nat) (g0 g1 g2 : ByteArray) (st fv : Int) (l : List PP) (w : World) (e : Ending) (w' : World) : Prop := e = .returned (.tuple #[])∧Bld B f f g0 g1 g2 st fv l w'∧Below B w w'∧Keeps 124 f w w'
theorem text_piece {B f : Nat} {g0 g1 g2 : ByteArray} {st fv : Int} {l ps : List PP} {w W : World} {A : Option Addr} {c : Nat} {xs : List ByteArray} (h : Bld B f f g0 g1 g2 st fv l w) (hs : Stays f w A c xs) (hl : l.length≤1000000000) (hp : textPs xs=some ps) (hBw : B≤w.heap.size) (hb : Below w.heap.size w W) :
  Calls Tryz.prog 123 #[.pointer (some ⟨f,0,none⟩),.slice A xs.length c] W (Pieced B f g0 g1 g2 st fv (l++ps) w):=by
 obtain⟨j,hj,h2⟩:=Option.bind_eq_some_iff.1 hp
 obtain rfl:=Option.some.inj h2
 refine (text_calls A c xs j (h.below hb) (hs.2 W (Keeps.below hb)) hs.1 hj (by omega) (Nat.le_trans hBw hb.size) (Nat.lt_of_lt_of_le h.lt hb.size)).mono ?_
 rintro e w' ⟨rfl,h1,h2,h3,_⟩
 exact⟨rfl,h1,Below.trans (hb.mono hBw) h2,(Keeps.below hb).trans h3⟩
theorem conf_piece {B f : Nat} {g0 g1 g2 : ByteArray} {st fv : Int} {l ps : List PP} {w W : World} (pb : Bool) (p1 p2 p3 p4 p5 p6 cls : Int) {Ab Al Ar : Option Addr} {cb cl cr : Nat} {base left right : List ByteArray}
  (h:Bld B f f g0 g1 g2 st fv l w) (hsb:Stays f w Ab cb base) (hsl:Stays f w Al cl left) (hsr:Stays f w Ar cr right) (hl:l.length≤1000000000) (hp:confPs st g0 g1 g2 base left right=some ps) (hBw:B≤w.heap.size) (hb:Below w.heap.size w W) :
  Calls Tryz.prog 124 #[.pointer (some ⟨f,0,none⟩),.agg #[.bool pb,.int .i64 p1,.int .i64 p2,.int .i64 p3,.int .i64 p4,.int .i64 p5,.int .i64 p6,.slice Ab base.length cb,.slice Al left.length cl,.slice Ar right.length cr,.int .i64 cls]] W (Pieced B f g0 g1 g2 st fv (l++ps) w):=by
 unfold confPs at hp
 split at hp
 case isFalse=>cases hp
 case isTrue hlen =>
 obtain⟨jt,h1,hp⟩:=Option.bind_eq_some_iff.1 hp
 obtain⟨jl,h2,hp⟩:=Option.bind_eq_some_iff.1 hp
 obtain⟨jr,h3,hp⟩:=Option.bind_eq_some_iff.1 hp
 obtain⟨jb,h4,hp⟩:=Option.bind_eq_some_iff.1 hp
 obtain⟨ju,h5,hp⟩:=Option.bind_eq_some_iff.1 hp
 obtain rfl:=Option.some.inj hp
 have hk:=Keeps.below (T:=124) (b:=f) hb
 refine (conflict_calls pb p1 p2 p3 p4 p5 p6 cls Ab Al Ar cb cl cr base left right (h.below hb) (hsb.keep hk) (hsl.keep hk) (hsr.keep hk) hlen.1 hlen.2 hl jt jl jb jr ju h1 h2 h3 (fun hst=>by rwa [if_neg hst] at h4) h5 (Nat.le_trans hBw hb.size)).mono ?_
 rintro e w' ⟨rfl,h1,h2,h3⟩
 exact⟨rfl,h1,Below.trans (hb.mono hBw) h2,hk.trans h3⟩
set_option maxHeartbeats 8000000 in
set_option maxRecDepth 100000 in
theorem piece_calls {B f : Nat} {g0 g1 g2 : ByteArray} {st fv : Int} {l ps : List PP} {w : World} (pb : Bool) (p1 p2 p3 p4 p5 p6 cls : Int) (Ab Al Ar : Option Addr) (cb cl cr : Nat) (base left right : List ByteArray)
  (h:Bld B f f g0 g1 g2 st fv l w) (hsb:Stays f w Ab cb base) (hsl:Stays f w Al cl left) (hsr:Stays f w Ar cr right) (hl:l.length≤1000000000) (hp:piecePs st fv g0 g1 g2 cls base left right=some ps) (hBw:B≤w.heap.size) :
  Calls Tryz.prog 88 #[.pointer (some ⟨f,0,none⟩),.agg #[.bool pb,.int .i64 p1,.int .i64 p2,.int .i64 p3,.int .i64 p4,.int .i64 p5,.int .i64 p6,.slice Ab base.length cb,.slice Al left.length cl,.slice Ar right.length cr,.int .i64 cls]] w (Pieced B f g0 g1 g2 st fv (l++ps) w):=by
 have c4:=h.c4
 have hfl:=h.lt
 have HB:=Zd h
 have HTb:=Zd (fun (hq:textPs base=some ps) W (hb:Below w.heap.size w W)=>text_piece h hsb hl hq hBw hb)
 have HTl:=Zd (fun (hq:textPs left=some ps) W (hb:Below w.heap.size w W)=>text_piece h hsl hl hq hBw hb)
 have HTr:=Zd (fun (hq:textPs right=some ps) W (hb:Below w.heap.size w W)=>text_piece h hsr hl hq hBw hb)
 have HCf:=Zd (fun (hq:confPs st g0 g1 g2 base left right=some ps) W (hb:Below w.heap.size w W)=>conf_piece pb p1 p2 p3 p4 p5 p6 cls h hsb hsl hsr hl hq hBw hb)
 clear h hsb hsl hsr hl hBw
 generalize l++ps=lr at *
 unfold piecePs at hp
 by_cases k0:cls=0
 ·rw [if_pos k0] at hp
  have HT:=Zd (HTb.out hp)
  have q0:(cls==(0:Int))=true:=beq_iff_eq.2 k0
  clear HTb HTl HTr HCf hp k0
  go_enter Tryz.func88,Tryz.ntmps88
  go_wp2_with (first|(go_at_call 123;(with_reducible refine (HT.out _ (below_alloc (Below.refl _ _) _)).mono ?_);rintro e w3 ⟨rfl,r1,r2,r3⟩;have R1:=Zd r1;have R2:=Zd r2;have R3:=Zd r3;clear r1 r2 r3))
  go_end0
  exact⟨rfl,R1.out,R2.out,R3.out⟩
 rw [if_neg k0] at hp
 have q0:(cls==(0:Int))=false:=beq_eq_false_iff_ne.2 k0
 by_cases k1:cls=1∨cls=3∨(cls=4∧fv=1)
 ·rw [if_pos k1] at hp
  have HT:=Zd (HTl.out hp)
  clear HTb HTl HTr HCf hp k0
  rcases k1 with k1|k1|⟨k1,k2⟩
  ·have q1:(cls==(1:Int))=true:=beq_iff_eq.2 k1
   clear k1
   go_enter Tryz.func88,Tryz.ntmps88
   go_wp2_with (first|(go_at_call 123;(with_reducible refine (HT.out _ (below_alloc (Below.refl _ _) _)).mono ?_);rintro e w3 ⟨rfl,r1,r2,r3⟩;have R1:=Zd r1;have R2:=Zd r2;have R3:=Zd r3;clear r1 r2 r3))
   go_end0
   exact⟨rfl,R1.out,R2.out,R3.out⟩
  ·have q1:(cls==(1:Int))=false:=beq_eq_false_iff_ne.2 (by omega)
   have q3:(cls==(3:Int))=true:=beq_iff_eq.2 k1
   clear k1
   go_enter Tryz.func88,Tryz.ntmps88
   go_wp2_with (first|(go_at_call 123;(with_reducible refine (HT.out _ (below_alloc (Below.refl _ _) _)).mono ?_);rintro e w3 ⟨rfl,r1,r2,r3⟩;have R1:=Zd r1;have R2:=Zd r2;have R3:=Zd r3;clear r1 r2 r3))
   go_end0
   exact⟨rfl,R1.out,R2.out,R3.out⟩
  ·have q1:(cls==(1:Int))=false:=beq_eq_false_iff_ne.2 (by omega)
   have q3:(cls==(3:Int))=false:=beq_eq_false_iff_ne.2 (by omega)
   have q4:(cls==(4:Int))=true:=beq_iff_eq.2 k1
   have qf:(fv==(1:Int))=true:=beq_iff_eq.2 k2
   clear k1 k2
   go_enter Tryz.func88,Tryz.ntmps88
   go_wp2_with (first|(go_at_call 123;(with_reducible refine (HT.out _ (below_alloc (Below.refl _ _) _)).mono ?_);rintro e w3 ⟨rfl,r1,r2,r3⟩;have R1:=Zd r1;have R2:=Zd r2;have R3:=Zd r3;clear r1 r2 r3))
   go_end0
   exact⟨rfl,R1.out,R2.out,R3.out⟩
 rw [if_neg k1] at hp
 have q1:(cls==(1:Int))=false:=beq_eq_false_iff_ne.2 (by omega)
 have q3:(cls==(3:Int))=false:=beq_eq_false_iff_ne.2 (by omega)
 by_cases k2:cls=2∨fv=3
 ·rw [if_pos k2] at hp
  have HT:=Zd (HTr.out hp)
  clear HTb HTl HTr HCf hp
  by_cases k3:cls=2
  ·have q2:(cls==(2:Int))=true:=beq_iff_eq.2 k3
   have q4:(cls==(4:Int))=false:=beq_eq_false_iff_ne.2 (by omega)
   clear k0 k1 k2 k3
   go_enter Tryz.func88,Tryz.ntmps88
   go_wp2_with (first|(go_at_call 123;(with_reducible refine (HT.out _ (below_alloc (Below.refl _ _) _)).mono ?_);rintro e w3 ⟨rfl,r1,r2,r3⟩;have R1:=Zd r1;have R2:=Zd r2;have R3:=Zd r3;clear r1 r2 r3))
   go_end0
   exact⟨rfl,R1.out,R2.out,R3.out⟩
  ·have q2:(cls==(2:Int))=false:=beq_eq_false_iff_ne.2 k3
   have qf:(fv==(3:Int))=true:=beq_iff_eq.2 (by omega)
   have qg:(fv==(1:Int))=false:=beq_eq_false_iff_ne.2 (by omega)
   cases q4:(cls==(4:Int)) with
   | true =>
    clear k0 k1 k2 k3
    go_enter Tryz.func88,Tryz.ntmps88
    go_wp2_with (first|(go_at_call 123;(with_reducible refine (HT.out _ (below_alloc (Below.refl _ _) _)).mono ?_);rintro e w3 ⟨rfl,r1,r2,r3⟩;have R1:=Zd r1;have R2:=Zd r2;have R3:=Zd r3;clear r1 r2 r3))
    go_end0
    exact⟨rfl,R1.out,R2.out,R3.out⟩
   | false =>
    clear k0 k1 k2 k3
    go_enter Tryz.func88,Tryz.ntmps88
    go_wp2_with (first|(go_at_call 123;(with_reducible refine (HT.out _ (below_alloc (Below.refl _ _) _)).mono ?_);rintro e w3 ⟨rfl,r1,r2,r3⟩;have R1:=Zd r1;have R2:=Zd r2;have R3:=Zd r3;clear r1 r2 r3))
    go_end0
    exact⟨rfl,R1.out,R2.out,R3.out⟩
 ·rw [if_neg k2] at hp
  have HT:=Zd (HCf.out hp)
  clear HTb HTl HTr HCf hp
  have q2:(cls==(2:Int))=false:=beq_eq_false_iff_ne.2 (by omega)
  have qf:(fv==(3:Int))=false:=beq_eq_false_iff_ne.2 (by omega)
  cases q4:(cls==(4:Int)) with
  | true =>
   have qg:(fv==(1:Int))=false:=beq_eq_false_iff_ne.2 (by have:=beq_iff_eq.1 q4;omega)
   clear k0 k1 k2
   go_enter Tryz.func88,Tryz.ntmps88
   go_wp2_with (first|(go_at_call 124;(with_reducible refine (HT.out _ (below_alloc (Below.refl _ _) _)).mono ?_);rintro e w3 ⟨rfl,r1,r2,r3⟩;have R1:=Zd r1;have R2:=Zd r2;have R3:=Zd r3;clear r1 r2 r3))
   go_end0
   exact⟨rfl,R1.out,R2.out,R3.out⟩
  | false =>
   clear k0 k1 k2
   go_enter Tryz.func88,Tryz.ntmps88
   go_wp2_with (first|(go_at_call 124;(with_reducible refine (HT.out _ (below_alloc (Below.refl _ _) _)).mono ?_);rintro e w3 ⟨rfl,r1,r2,r3⟩;have R1:=Zd r1;have R2:=Zd r2;have R3:=Zd r3;clear r1 r2 r3))
   go_end0
   exact⟨rfl,R1.out,R2.out,R3.out⟩
abbrev SCh := S121
def docL (k : Nat) (B L R : List ByteArray) (st fv : Int) (g0 g1 g2 : ByteArray) : List SCh→List PP→Option (List PP)
 | [],acc=>some acc
 | c::cs,acc=>(build_Files_cut.f k B L R c.f0 c.f1.f0 c.f1.f1 c.f2.f0 c.f2.f1 c.f3.f0 c.f3.f1).bind fun t =>
   (piecePs st fv g0 g1 g2 t.2.2.2.2.2.2.2.2.2.2 t.2.2.2.2.2.2.2.1 t.2.2.2.2.2.2.2.2.1 t.2.2.2.2.2.2.2.2.2.1).bind fun ps=>if acc.length≤1000000000 then docL k B L R st fv g0 g1 g2 cs (acc++ps) else none
def docF (k : Nat) (B L R : List ByteArray) (l : List SCh) (st : Int) (g0 g1 g2 : ByteArray) (fv : Int) : Option (List PP×Int) :=
 if st<0∨2<st∨(fv≠0∧fv≠1∧fv≠3) then some ([],5)
 else (doc_Labels_Plain.f g0 g1 g2).bind fun t=>if t=true then (docL k B L R st fv g0 g1 g2 l []).bind fun ps=>(doc_Of.f k ps).bind fun d=>some (d,0) else some ([],3)
theorem docL_mono (B L R : List ByteArray) (st fv : Int) (g0 g1 g2 : ByteArray) (k : Nat) : ∀ (l : List SCh) (acc : List PP),LeO (docL k B L R st fv g0 g1 g2 l acc) (docL (k+1) B L R st fv g0 g1 g2 l acc)
 | [],acc=>LeO.refl _
 | c::cs,acc=>LeO.bind (build_Files_cut.mono _ _ _ _ _ _ _ _ _ _ k) (fun t=>LeO.bind (LeO.refl _) (fun ps=>LeO.ite (docL_mono B L R st fv g0 g1 g2 k cs _) (LeO.refl _)))
theorem doc_mono : ∀ B L R l st g0 g1 g2 fv k,LeO (docF k B L R l st g0 g1 g2 fv) (docF (k+1) B L R l st g0 g1 g2 fv) := fun B L R l st g0 g1 g2 fv k=>by
 unfold docF
 exact LeO.ite (LeO.refl _) (LeO.bind (LeO.refl _) (fun t=>LeO.ite (LeO.bind (docL_mono _ _ _ _ _ _ _ _ k _ _) (fun ps=>LeO.bind (doc_Of.mono _ k) (fun d=>LeO.refl _))) (LeO.refl _)))
theorem stays_R {f base : Nat} {ok : Nat→Prop} {w : World} {v : Value} {xs : List ByteArray} {cs : Array Value} {T : TypeId} (h : Kd.R Kd.string 9 w base ok v xs) (hf : w.heap[f]? = some (.cells cs T (0,0))) (hT : T≠9) : ∃ A c,v = .slice A xs.length c∧Stays f w A c xs := by
 obtain⟨A,c,rfl,hc,_⟩:=Kd.R_reads h
 refine⟨A,c,rfl,hc,fun W hk=>?_⟩
 refine (Kd.R_reads' (Kd.R_move (Kd.R_bound h) (w1:=W) (fun k hk2=>?_))).2.2
 obtain⟨_,_,_,q,hq,cells,hcell⟩:=hk2
 have hq9:q=9:=by
  rcases List.mem_cons.1 hq with e|e
  ·exact e
  ·cases e
 subst hq9
 refine hk k cells _ _ hcell (by decide) (fun e=>?_)
 subst e
 rw [hcell] at hf
 injection hf with hf
 injection hf with _ hf _
 exact hT hf.symm
set_option maxHeartbeats 8000000 in
set_option maxRecDepth 100000 in
theorem doc_bad (A0 : Option Addr) (c0 : Nat) (B : List ByteArray) (A1 : Option Addr) (c1 : Nat) (L : List ByteArray) (A2 : Option Addr) (c2 : Nat) (R : List ByteArray) (A3 : Option Addr) (c3 : Nat) (l : List SCh) (st : Int) (g0 g1 g2 : ByteArray) (fv : Int) (w : World) (hbad : st<0∨2<st∨(fv≠0∧fv≠1∧fv≠3)) :
  Calls Tryz.prog 44 #[.agg #[.slice A0 B.length c0,.slice A1 L.length c1,.slice A2 R.length c2],.slice A3 l.length c3,.int .i64 st,.agg #[.string g0,.string g1,.string g2],.int .i64 fv] w fun e w'=>∃ v0_:Value,e = .returned (.tuple #[v0_,.int .i64 5])∧Kd.R k124 124 w' w.heap.size (fun _=>True) v0_ []∧Below w.heap.size w w':=by
 by_cases h1:st<0
 ·have q1:decide (st<0)=true:=decide_eq_true h1
  clear hbad
  go_enter Tryz.func44,Tryz.ntmps44
  go_wp2
  go_ret2
  exact⟨_,rfl,Kd.R_nil _ _ _ _ _,below_alloc (below_alloc (Below.refl _ _) _) _⟩
 have q1:decide (st<0)=false:=decide_eq_false h1
 by_cases h2:2<st
 ·have q2:decide (2<st)=true:=decide_eq_true h2
  clear hbad h1
  go_enter Tryz.func44,Tryz.ntmps44
  go_wp2
  go_ret2
  exact⟨_,rfl,Kd.R_nil _ _ _ _ _,below_alloc (below_alloc (Below.refl _ _) _) _⟩
 have q2:decide (2<st)=false:=decide_eq_false h2
 obtain⟨f0,f1,f3⟩:fv≠0∧fv≠1∧fv≠3:=by
  rcases hbad with h|h|h
  ·exact absurd h h1
  ·exact absurd h h2
  ·exact h
 have q3:(fv != (0:Int))=true:=bne_iff_ne.2 f0
 have q4:(fv != (1:Int))=true:=bne_iff_ne.2 f1
 have q5:(fv != (3:Int))=true:=bne_iff_ne.2 f3
 clear hbad h1 h2 f0 f1 f3
 go_enter Tryz.func44,Tryz.ntmps44
 go_wp2
 go_ret2
 exact⟨_,rfl,Kd.R_nil _ _ _ _ _,below_alloc (below_alloc (Below.refl _ _) _) _⟩
set_option maxHeartbeats 8000000 in
set_option maxRecDepth 100000 in
theorem doc_label (A0 : Option Addr) (c0 : Nat) (B : List ByteArray) (A1 : Option Addr) (c1 : Nat) (L : List ByteArray) (A2 : Option Addr) (c2 : Nat) (R : List ByteArray) (A3 : Option Addr) (c3 : Nat) (l : List SCh) (st : Int) (g0 g1 g2 : ByteArray) (fv : Int) (w : World) (h1 : ¬ st<0) (h2 : ¬ 2<st) (h3 : fv=0∨fv=1∨fv=3) (hp : doc_Labels_Plain.f g0 g1 g2=some false) :
  Calls Tryz.prog 44 #[.agg #[.slice A0 B.length c0,.slice A1 L.length c1,.slice A2 R.length c2],.slice A3 l.length c3,.int .i64 st,.agg #[.string g0,.string g1,.string g2],.int .i64 fv] w fun e w'=>∃ v0_:Value,e = .returned (.tuple #[v0_,.int .i64 3])∧Kd.R k124 124 w' w.heap.size (fun _=>True) v0_ []∧Below w.heap.size w w':=by
 have q1:decide (st<0)=false:=decide_eq_false h1
 have q2:decide (2<st)=false:=decide_eq_false h2
 have HP:=Zd (fun W=>doc_Labels_Plain.calls g0 g1 g2 false W hp)
 clear h1 h2 hp
 rcases h3 with rfl|rfl|rfl
 all_goals
  go_enter Tryz.func44,Tryz.ntmps44
  go_wp2_with (first|(go_at_call 79;(with_reducible refine (HP.out _).mono ?_);rintro e w1 ⟨rfl,hb⟩;have HB:=Zd hb;clear hb))
  go_ret2
  exact⟨_,rfl,Kd.R_nil _ _ _ _ _,below_step (below_alloc (below_alloc (Below.refl _ _) _) _) HB.out⟩
set_option maxHeartbeats 16000000 in
set_option maxRecDepth 100000 in
theorem doc_good (k : Nat) (A0 : Option Addr) (c0 : Nat) (B : List ByteArray) (A1 : Option Addr) (c1 : Nat) (L : List ByteArray) (A2 : Option Addr) (c2 : Nat) (R : List ByteArray) (A3 : Option Addr) (c3 : Nat) (l : List SCh) (st : Int) (g0 g1 g2 : ByteArray) (fv : Int) (w : World) (h1 : ¬ st<0) (h2 : ¬ 2<st) (h3 : fv=0∨fv=1∨fv=3) (hp : doc_Labels_Plain.f g0 g1 g2=some true)
  (hA:Kd.C Kd.string w A0 B.length B) (hB:Kd.C Kd.string w A1 L.length L) (hC:Kd.C Kd.string w A2 R.length R) (hD:Kd.C k121 w A3 l.length l) (hc0:B.length≤c0) (hc1:L.length≤c1) (hc2:R.length≤c2) (hc3:l.length≤c3) (ps r:List PP) (hl:docL k B L R st fv g0 g1 g2 l []=some ps) (ho:doc_Of.f k ps=some r) :
  Calls Tryz.prog 44 #[.agg #[.slice A0 B.length c0,.slice A1 L.length c1,.slice A2 R.length c2],.slice A3 l.length c3,.int .i64 st,.agg #[.string g0,.string g1,.string g2],.int .i64 fv] w fun e w'=>∃ v0_:Value,e = .returned (.tuple #[v0_,.int .i64 0])∧Kd.R k124 124 w' w.heap.size (fun _=>True) v0_ r∧Below w.heap.size w w':=by
 have q1:decide (st<0)=false:=decide_eq_false h1
 have q2:decide (2<st)=false:=decide_eq_false h2
 have HP:=Zd (fun W=>doc_Labels_Plain.calls g0 g1 g2 true W hp)
 have hl4:l.length≤9223372036854775807:=hD.2.1
 have HL:=Zd hl
 have HA:=Zd hA
 have HB:=Zd hB
 have HC:=Zd hC
 have HD:=Zd hD
 have HO:=Zd ho
 have HC0:=Zd hc0
 have HC1:=Zd hc1
 have HC2:=Zd hc2
 clear h1 h2 hp hl hA hB hC hD ho hc0 hc1 hc2 hc3
 have hq:((fv != (0:Int))=false)∨((fv != (0:Int))=true∧(fv != (1:Int))=false)∨((fv != (0:Int))=true∧(fv != (1:Int))=true∧(fv != (3:Int))=false):=by
  rcases h3 with rfl|rfl|rfl
  ·exact .inl rfl
  ·exact .inr (.inl ⟨rfl,rfl⟩)
  ·exact .inr (.inr ⟨rfl,rfl,rfl⟩)
 clear h3
 rcases hq with q3|⟨q3,q4⟩|⟨q3,q4,q5⟩
 all_goals
  go_enter Tryz.func44,Tryz.ntmps44
  go_wp2_with (first|(go_at_call 79;(with_reducible refine (HP.out _).mono ?_);rintro e w1 ⟨rfl,hb⟩;obtain⟨hb1,hx5,hx8⟩:=two_boxes hb;have HB1:=Zd hb1;have HX5:=Zd hx5;have d0:=(blk_cell hx8 0).trans (rfl:_=some (Value.string g0));have d1:=(blk_cell hx8 1).trans (rfl:_=some (Value.string g1));have d2:=(blk_cell hx8 2).trans (rfl:_=some (Value.string g2));clear hb hb1 hx5 hx8))
  clear d0 d1 d2 q1 q2 HP
  have hw01:w.heap.size<w1.heap.size:=(Array.getElem?_eq_some_iff.1 HX5.out).1
  have hnew:=World.alloc_heap_new w1 (.cells #[.string g0,.string g1,.string g2,.int .i64 st,.int .i64 fv,.slice none 0 0] 165)
  have HBL:Aside0 (Bld w.heap.size w1.heap.size w1.heap.size g0 g1 g2 st fv [] (w1.alloc (.cells #[.string g0,.string g1,.string g2,.int .i64 st,.int .i64 fv,.slice none 0 0] 165))):=⟨⟨_,Nat.le_of_lt hw01,hnew,Kd.R_nil _ _ _ _ _⟩⟩
  have HW1:Aside0 (Below w.heap.size w (w1.alloc (.cells #[.string g0,.string g1,.string g2,.int .i64 st,.int .i64 fv,.slice none 0 0] 165))):=⟨below_step HB1.out (below_alloc (Below.refl _ _) _)⟩
  have HFL:Aside0 ((w1.alloc (.cells #[.string g0,.string g1,.string g2,.int .i64 st,.int .i64 fv,.slice none 0 0] 165)).heap[w.heap.size]? = some (.cells #[.slice A0 B.length c0,.slice A1 L.length c1,.slice A2 R.length c2] 84 (0,0))):=⟨((below_alloc (Below.refl w1.heap.size w1) _).block _ hw01).trans HX5.out⟩
  have HNE:Aside0 (w.heap.size≠w1.heap.size):=⟨by omega⟩
  clear hnew HB1 HX5 hw01
  generalize (w1.alloc (.cells #[.string g0,.string g1,.string g2,.int .i64 st,.int .i64 fv,.slice none 0 0] 165))=W3 at *
  obtain⟨f,hf⟩:∃ f,f=w1.heap.size:=⟨_,rfl⟩
  rw [←hf] at HBL HNE ⊢
  clear hf
  go_loopg [45] l.length (fun gg s45 wr=>∃ (i:Nat) (acc:List PP),i≤l.length∧l.length-i≤gg∧s45 = .int .i64 i∧Aside0 (docL k B L R st fv g0 g1 g2 (l.drop i) acc=some ps)∧Aside0 (Bld w.heap.size f f g0 g1 g2 st fv acc wr)∧Aside0 (wr.heap[w.heap.size]? = some (.cells #[.slice A0 B.length c0,.slice A1 L.length c1,.slice A2 R.length c2] 84 (0,0)))∧Aside0 (Below w.heap.size w wr))
  case atStart=>exact⟨0,[],Nat.zero_le _,by omega,rfl,⟨by rw [List.drop_zero];exact HL.out⟩,HBL,HFL,HW1⟩
  case round =>
   clear HL HBL HFL HW1
   obtain⟨i,acc,hi,hg,rfl,HL,HF,HX,HW⟩:=hrel
   by_cases hlt:i<l.length
   ·have hltz:(i:Int)<(l.length:Int):=by omega
    have hq:=HL.out
    rw [List.drop_eq_getElem_cons hlt,docL] at hq
    obtain⟨t,ht,hq1⟩:=Option.bind_eq_some_iff.1 hq
    obtain⟨qs,hqs,hq2⟩:=Option.bind_eq_some_iff.1 hq1
    clear hq hq1
    split at hq2
    case isFalse=>cases hq2
    case isTrue hacc =>
    obtain⟨t1,t2,t3,t4,t5,t6,t7,t8,t9,t10,t11⟩:=t
    simp only at hqs
    obtain⟨ad,rfl,hx0,hx1,hx2,hx3,hx4,hx5,hx6⟩:=at_T121 (Kd.C_below HD.out HW.out) (i:Int) (by omega) hltz
    have hrd:rd_T121 l (i:Int)=l[i]:=by unfold rd_T121;rw [Int.toNat_natCast,List.getD_eq_getElem?_getD,List.getElem?_eq_getElem hlt];rfl
    rw [Int.toNat_natCast] at hx0 hx1 hx2 hx3 hx4 hx5 hx6
    rw [hrd] at hx0 hx1 hx2 hx3 hx4 hx5 hx6
    generalize l[i]=ch at hx0 hx1 hx2 hx3 hx4 hx5 hx6 ht
    obtain⟨k0,⟨k1,k2⟩,⟨k3,k4⟩,⟨k5,k6⟩⟩:=ch
    simp only at hx0 hx1 hx2 hx3 hx4 hx5 hx6 ht
    have HQ:=Zd hq2
    have HCut:=Zd (fun W (hb:Below w.heap.size w W)=>build_Files_cut.calls k A0 c0 B A1 c1 L A2 c2 R k0 k1 k2 k3 k4 k5 k6 t1 t2 t3 t4 t5 t6 t7 t8 t9 t10 t11 W (Kd.C_below HA.out hb) HC0.out (Kd.C_below HB.out hb) HC1.out (Kd.C_below HC.out hb) HC2.out ht)
    have HPS:=Zd hqs
    have HACC:=Zd hacc
    have y0:=(blk_cell HX.out 0).trans (rfl:_=some (Value.slice A0 B.length c0))
    have y1:=(blk_cell HX.out 1).trans (rfl:_=some (Value.slice A1 L.length c1))
    have y2:=(blk_cell HX.out 2).trans (rfl:_=some (Value.slice A2 R.length c2))
    have z0:∀ o,(wr.alloc o).cell? ⟨w.heap.size,0,none⟩=some (Value.slice A0 B.length c0):=fun o=>tr1 o y0
    have z1:∀ o,(wr.alloc o).cell? ⟨w.heap.size,1,none⟩=some (Value.slice A1 L.length c1):=fun o=>tr1 o y1
    have z2:∀ o,(wr.alloc o).cell? ⟨w.heap.size,2,none⟩=some (Value.slice A2 R.length c2):=fun o=>tr1 o y2
    clear hq2 hqs hacc ht hrd HL y0 y1 y2
    go_wp2_with (first
     | (go_at_call 89;(with_reducible refine (HCut.out _ (below_alloc HW.out _)).mono ?_);rintro e w2 ⟨v7,v8,v9,rfl,r7,r8,r9,hb2⟩;have hbw:=below_step (below_alloc (Below.refl wr.heap.size wr) _) hb2;have hF2:=HF.out.below hbw;obtain⟨_,_,hfc,_⟩:=id hF2;obtain⟨A7,n7,rfl,S7⟩:=stays_R r7 hfc (by decide);obtain⟨A8,n8,rfl,S8⟩:=stays_R r8 hfc (by decide);obtain⟨A9,n9,rfl,S9⟩:=stays_R r9 hfc (by decide);have HF2:=Zd hF2;have HS7:=Zd S7;have HS8:=Zd S8;have HS9:=Zd S9;have HX2:=Zd (after_call hbw HX.out);have HW2:=Zd (below_step HW.out hbw);clear r7 r8 r9 hb2 hbw hF2 hfc S7 S8 S9)
     | (go_at_call 88;(with_reducible refine (piece_calls t1 t2 t3 t4 t5 t6 t7 t11 A7 A8 A9 n7 n8 n9 t8 t9 t10 HF2.out HS7.out HS8.out HS9.out HACC.out HPS.out HW2.out.size).mono ?_);rintro e w3 ⟨rfl,r1,r2,r3⟩;have HF3:=Zd r1;have HW3:=Zd (Below.trans HW2.out r2);have HX3:=Zd (r3.cell HX2.out (by decide) HNE.out);clear r1 r2 r3))
    go_roundg (l.length-(i+1))
    case measure=>omega
    case rel=>exact⟨i+1,acc++qs,by omega,Nat.le_refl _,by go_num,HQ,HF3,HX3,HW3⟩
   ·have hq:=HL.out
    rw [List.drop_of_length_le (by omega),docL] at hq
    obtain rfl:=Option.some.inj hq
    obtain rfl:i=l.length:=by omega
    obtain⟨v,h0,h1,hR⟩:=HF.out
    obtain⟨Av,cv,rfl,hcv,hCv⟩:=Kd.R_reads hR
    have c5:=(blk_cell h1 5).trans (rfl:_=some (Value.slice Av acc.length cv))
    have HCV:=Zd hCv
    clear hq hR h0 h1 hCv
    go_wp2_with (first|(go_at_call 69;(with_reducible refine (doc_Of.calls k Av cv acc r _ HCV.out hcv HO.out).mono ?_);rintro e w3 ⟨v0,rfl,r1,r2⟩;have R1:=Zd r1;have R2:=Zd r2;clear r1 r2))
    go_ret2
    exact⟨_,rfl,Kd.R_lower R1.out HW.out.size,below_step HW.out R2.out⟩
theorem doc_calls (k : Nat) (A0 : Option Addr) (c0 : Nat) (B : List ByteArray) (A1 : Option Addr) (c1 : Nat) (L : List ByteArray) (A2 : Option Addr) (c2 : Nat) (R : List ByteArray) (A3 : Option Addr) (c3 : Nat) (l : List SCh) (st : Int) (g0 g1 g2 : ByteArray) (fv : Int) (r1 : List PP) (r2 : Int) (w : World)
  (hA:Kd.C Kd.string w A0 B.length B) (hc0:B.length≤c0) (hB:Kd.C Kd.string w A1 L.length L) (hc1:L.length≤c1) (hC:Kd.C Kd.string w A2 R.length R) (hc2:R.length≤c2) (hD:Kd.C k121 w A3 l.length l) (hc3:l.length≤c3) (h:docF k B L R l st g0 g1 g2 fv=some (r1,r2)) :
  Calls Tryz.prog 44 #[.agg #[.slice A0 B.length c0,.slice A1 L.length c1,.slice A2 R.length c2],.slice A3 l.length c3,.int .i64 st,.agg #[.string g0,.string g1,.string g2],.int .i64 fv] w fun e w'=>∃ v0_:Value,e = .returned (.tuple #[v0_,.int .i64 r2])∧Kd.R k124 124 w' w.heap.size (fun _=>True) v0_ r1∧Below w.heap.size w w':=by
 unfold docF at h
 split at h
 ·rename_i hbad
  simp only [Option.some.injEq,Prod.mk.injEq] at h
  obtain⟨rfl,rfl⟩:=h
  exact doc_bad A0 c0 B A1 c1 L A2 c2 R A3 c3 l st g0 g1 g2 fv w hbad
 ·rename_i hbad
  obtain⟨t,ht,h⟩:=Option.bind_eq_some_iff.1 h
  have h1:¬ st<0:=fun e=>hbad (.inl e)
  have h2:¬ 2<st:=fun e=>hbad (.inr (.inl e))
  have h3:fv=0∨fv=1∨fv=3:=by omega
  cases t with
  | true =>
   rw [if_pos rfl] at h
   obtain⟨ps,hps,h⟩:=Option.bind_eq_some_iff.1 h
   obtain⟨d,hd,h⟩:=Option.bind_eq_some_iff.1 h
   simp only [Option.some.injEq,Prod.mk.injEq] at h
   obtain⟨rfl,rfl⟩:=h
   exact doc_good k A0 c0 B A1 c1 L A2 c2 R A3 c3 l st g0 g1 g2 fv w h1 h2 h3 ht hA hB hC hD hc0 hc1 hc2 hc3 ps d hps hd
  | false =>
   rw [if_neg (by simp)] at h
   simp only [Option.some.injEq,Prod.mk.injEq] at h
   obtain⟨rfl,rfl⟩:=h
   exact doc_label A0 c0 B A1 c1 L A2 c2 R A3 c3 l st g0 g1 g2 fv w h1 h2 h3 ht
end Go.Proofs.YtfiamddinkokbaaGreat.F
end

section
namespace Go.Proofs.YtfiamddinkokbaaGreat.F
open Go.RowKit Go.Shelf Go.Proofs.YtfiamddinkokbaaGreatW.PrintWords
def countL (k : Nat) (B L R : List ByteArray) : List SCh→Int→Option Int
 | [],n=>some n
 | c::cs,n=>(build_Files_cut.f k B L R c.f0 c.f1.f0 c.f1.f1 c.f2.f0 c.f2.f1 c.f3.f0 c.f3.f1).bind fun t=>countL k B L R cs (if t.2.2.2.2.2.2.2.2.2.2=4 then n+1 else n)
def countF (k : Nat) (B L R : List ByteArray) (l : List SCh) : Option Int := if l.length≤4000000000000 then countL k B L R l 0 else none
theorem countL_mono (B L R : List ByteArray) (k : Nat) : ∀ (l : List SCh) (n : Int),LeO (countL k B L R l n) (countL (k+1) B L R l n)
 | [],n=>LeO.refl _
 | c::cs,n=>LeO.bind (build_Files_cut.mono _ _ _ _ _ _ _ _ _ _ k) (fun t=>countL_mono B L R k cs _)
theorem count_mono : ∀ B L R l k,LeO (countF k B L R l) (countF (k+1) B L R l) := fun B L R l k=>LeO.ite (countL_mono B L R k l 0) (LeO.refl _)
theorem piece_field (b : Bool) (a1 a2 a3 a4 a5 a6 z : Int) (A B C : Option Addr) (n m k x y w : Nat) (W : World) : (Instr.field 168 (.agg #[.bool b,.int .i64 a1,.int .i64 a2,.int .i64 a3,.int .i64 a4,.int .i64 a5,.int .i64 a6,.slice A n x,.slice B m y,.slice C k w,.int .i64 z]) 4).run Tryz.prog W = .ok (.int .i64 z) W := by
 have hu:=Tryz.underlying168
 unfold Instr.field
 go_simp
 rfl
attribute [local go_sem] piece_field
set_option maxHeartbeats 8000000 in
set_option maxRecDepth 100000 in
theorem count_calls (k : Nat) (A0 : Option Addr) (c0 : Nat) (B : List ByteArray) (A1 : Option Addr) (c1 : Nat) (L : List ByteArray) (A2 : Option Addr) (c2 : Nat) (R : List ByteArray) (A3 : Option Addr) (c3 : Nat) (l : List SCh) (r : Int) (w : World)
  (hA:Kd.C Kd.string w A0 B.length B) (hc0:B.length≤c0) (hB:Kd.C Kd.string w A1 L.length L) (hc1:L.length≤c1) (hC:Kd.C Kd.string w A2 R.length R) (hc2:R.length≤c2) (hD:Kd.C k121 w A3 l.length l) (hc3:l.length≤c3) (h:countF k B L R l=some r) :
  Calls Tryz.prog 45 #[.agg #[.slice A0 B.length c0,.slice A1 L.length c1,.slice A2 R.length c2],.slice A3 l.length c3] w fun e w'=>e = .returned (.int .i64 r)∧Below w.heap.size w w':=by
 unfold countF at h
 split at h
 case isFalse=>cases h
 case isTrue hl4 =>
 have HL:=Zd h
 have HA:=Zd hA
 have HB:=Zd hB
 have HC:=Zd hC
 have HD:=Zd hD
 have HC0:=Zd hc0
 have HC1:=Zd hc1
 have HC2:=Zd hc2
 clear h hA hB hC hD hc0 hc1 hc2 hc3
 go_enter Tryz.func45,Tryz.ntmps45
 go_wp2
 have HW1:=Zd (below_alloc (Below.refl w.heap.size w) (.cells #[.slice A0 B.length c0,.slice A1 L.length c1,.slice A2 R.length c2] 84))
 have HFL:=Zd (World.alloc_heap_new w (.cells #[.slice A0 B.length c0,.slice A1 L.length c1,.slice A2 R.length c2] 84))
 generalize (w.alloc (.cells #[.slice A0 B.length c0,.slice A1 L.length c1,.slice A2 R.length c2] 84))=W3 at *
 go_loopg [5,10] l.length (fun gg s5 s10 wr=>∃ (i:Nat) (n:Int),i≤l.length∧l.length-i≤gg∧s5 = .int .i64 n∧s10 = .int .i64 i∧0≤n∧n≤i∧Aside0 (countL k B L R (l.drop i) n=some r)∧Aside0 (wr.heap[w.heap.size]? = some (.cells #[.slice A0 B.length c0,.slice A1 L.length c1,.slice A2 R.length c2] 84 (0,0)))∧Aside0 (Below w.heap.size w wr))
 case atStart=>exact⟨0,0,Nat.zero_le _,by omega,rfl,rfl,by omega,by omega,⟨by rw [List.drop_zero];exact HL.out⟩,HFL,HW1⟩
 case round =>
  clear HL HFL HW1
  obtain⟨i,n,hi,hg,rfl,rfl,hn0,hn1,HL,HX,HW⟩:=hrel
  by_cases hlt:i<l.length
  ·have hltz:(i:Int)<(l.length:Int):=by omega
   have hq:=HL.out
   rw [List.drop_eq_getElem_cons hlt,countL] at hq
   obtain⟨t,ht,hq1⟩:=Option.bind_eq_some_iff.1 hq
   clear hq
   obtain⟨t1,t2,t3,t4,t5,t6,t7,t8,t9,t10,t11⟩:=t
   simp only at hq1
   obtain⟨ad,rfl,hx0,hx1,hx2,hx3,hx4,hx5,hx6⟩:=at_T121 (Kd.C_below HD.out HW.out) (i:Int) (by omega) hltz
   have hrd:rd_T121 l (i:Int)=l[i]:=by unfold rd_T121;rw [Int.toNat_natCast,List.getD_eq_getElem?_getD,List.getElem?_eq_getElem hlt];rfl
   rw [Int.toNat_natCast] at hx0 hx1 hx2 hx3 hx4 hx5 hx6
   rw [hrd] at hx0 hx1 hx2 hx3 hx4 hx5 hx6
   generalize l[i]=ch at hx0 hx1 hx2 hx3 hx4 hx5 hx6 ht
   obtain⟨k0,⟨k1,k2⟩,⟨k3,k4⟩,⟨k5,k6⟩⟩:=ch
   simp only at hx0 hx1 hx2 hx3 hx4 hx5 hx6 ht
   have HCut:=Zd (fun W (hb:Below w.heap.size w W)=>build_Files_cut.calls k A0 c0 B A1 c1 L A2 c2 R k0 k1 k2 k3 k4 k5 k6 t1 t2 t3 t4 t5 t6 t7 t8 t9 t10 t11 W (Kd.C_below HA.out hb) HC0.out (Kd.C_below HB.out hb) HC1.out (Kd.C_below HC.out hb) HC2.out ht)
   have y0:=(blk_cell HX.out 0).trans (rfl:_=some (Value.slice A0 B.length c0))
   have y1:=(blk_cell HX.out 1).trans (rfl:_=some (Value.slice A1 L.length c1))
   have y2:=(blk_cell HX.out 2).trans (rfl:_=some (Value.slice A2 R.length c2))
   have z0:∀ o,(wr.alloc o).cell? ⟨w.heap.size,0,none⟩=some (Value.slice A0 B.length c0):=fun o=>tr1 o y0
   have z1:∀ o,(wr.alloc o).cell? ⟨w.heap.size,1,none⟩=some (Value.slice A1 L.length c1):=fun o=>tr1 o y1
   have z2:∀ o,(wr.alloc o).cell? ⟨w.heap.size,2,none⟩=some (Value.slice A2 R.length c2):=fun o=>tr1 o y2
   clear ht hrd HL y0 y1 y2
   by_cases h4:t11=4
   ·have q4:(t11==(4:Int))=true:=beq_iff_eq.2 h4
    rw [if_pos h4] at hq1
    have HQ:=Zd hq1
    clear hq1 h4
    go_wp2_with (first|(go_at_call 89;(with_reducible refine (HCut.out _ (below_alloc HW.out _)).mono ?_);rintro e w2 ⟨v7,v8,v9,rfl,r7,r8,r9,hb2⟩;have hbw:=below_step (below_alloc (Below.refl wr.heap.size wr) _) hb2;obtain⟨A7,n7,rfl⟩:=Kd.R_slice r7;obtain⟨A8,n8,rfl⟩:=Kd.R_slice r8;obtain⟨A9,n9,rfl⟩:=Kd.R_slice r9;have HX2:=Zd (after_call hbw HX.out);have HW2:=Zd (below_step HW.out hbw);clear r7 r8 r9 hb2 hbw))
    go_roundg (l.length-(i+1))
    case measure=>omega
    case rel=>exact⟨i+1,n+1,by omega,Nat.le_refl _,rfl,by go_num,by omega,by omega,HQ,HX2,HW2⟩
   ·have q4:(t11==(4:Int))=false:=beq_eq_false_iff_ne.2 h4
    rw [if_neg h4] at hq1
    have HQ:=Zd hq1
    clear hq1 h4
    go_wp2_with (first|(go_at_call 89;(with_reducible refine (HCut.out _ (below_alloc HW.out _)).mono ?_);rintro e w2 ⟨v7,v8,v9,rfl,r7,r8,r9,hb2⟩;have hbw:=below_step (below_alloc (Below.refl wr.heap.size wr) _) hb2;obtain⟨A7,n7,rfl⟩:=Kd.R_slice r7;obtain⟨A8,n8,rfl⟩:=Kd.R_slice r8;obtain⟨A9,n9,rfl⟩:=Kd.R_slice r9;have HX2:=Zd (after_call hbw HX.out);have HW2:=Zd (below_step HW.out hbw);clear r7 r8 r9 hb2 hbw))
    go_roundg (l.length-(i+1))
    case measure=>omega
    case rel=>exact⟨i+1,n,by omega,Nat.le_refl _,rfl,by go_num,by omega,by omega,HQ,HX2,HW2⟩
  ·have hq:=HL.out
   rw [List.drop_of_length_le (by omega),countL] at hq
   obtain rfl:=Option.some.inj hq
   clear hq
   go_wp2
   go_ret
   exact⟨rfl,HW.out⟩
end Go.Proofs.YtfiamddinkokbaaGreat.F
end

section
namespace Go.Proofs.YtfiamddinkokbaaGreat.F
open Go.RowKit Go.Proofs.YtfiamddinkokbaaGreatW.PrintWords Go.Proofs.YtfiamddinkokbaaGreatW.PrintLast Go.Proofs.YtfiamddinkokbaaGreatW.PrintMore
attribute [local go_sem] max2_int min2_int max_two min_two max_three min_three max_four min_four
def build_Count.f (k : Nat) (l0_0 l0_1 l0_2 : List ByteArray) (l1 : List S121) : Option Int := countF k l0_0 l0_1 l0_2 l1
theorem build_Count.mono : ∀ l0_0 l0_1 l0_2 l1 k,LeO (build_Count.f k l0_0 l0_1 l0_2 l1) (build_Count.f (k+1) l0_0 l0_1 l0_2 l1) := count_mono
theorem build_Count.calls (k : Nat) (A0_0 : Option Addr) (c0_0 : Nat) (l0_0 : List ByteArray) (A0_1 : Option Addr) (c0_1 : Nat) (l0_1 : List ByteArray) (A0_2 : Option Addr) (c0_2 : Nat) (l0_2 : List ByteArray) (A1 : Option Addr) (c1 : Nat) (l1 : List (S121)) (r : Int) (w : World) (hr0_0 : Kd.C Kd.string w A0_0 l0_0.length l0_0) (hc0_0 : l0_0.length≤c0_0) (hr0_1 : Kd.C Kd.string w A0_1 l0_1.length l0_1) (hc0_1 : l0_1.length≤c0_1) (hr0_2 : Kd.C Kd.string w A0_2 l0_2.length l0_2) (hc0_2 : l0_2.length≤c0_2) (hr1 : Kd.C k121 w A1 l1.length l1) (hc1 : l1.length≤c1) (h : build_Count.f k l0_0 l0_1 l0_2 l1=some r) :
  Calls Tryz.prog 45 #[.agg #[.slice A0_0 l0_0.length c0_0,.slice A0_1 l0_1.length c0_1,.slice A0_2 l0_2.length c0_2],.slice A1 l1.length c1] w fun e w'=>e = .returned (.int .i64 r)∧Below w.heap.size w w':=by
 exact count_calls k A0_0 c0_0 l0_0 A0_1 c0_1 l0_1 A0_2 c0_2 l0_2 A1 c1 l1 r w hr0_0 hc0_0 hr0_1 hc0_1 hr0_2 hc0_2 hr1 hc1 h
def lines_Number.f (l0 : List (List ByteArray)) : Option (List (List Int)) := if (∀ f∈l0,∀ s∈f,s.size≤4000000000)∧total l0≤4000000000∧l0.length≤4000000000 then some (numberB l0) else none
theorem lines_Number.calls (A0 : Option Addr) (c0 : Nat) (l0 : List (List ByteArray)) (r : List (List Int)) (w : World) (hr0 : Kd.C (Kd.slice 9 Kd.string) w A0 l0.length l0) (hc0 : l0.length≤c0) (h : lines_Number.f l0=some r) :
  Calls Tryz.prog 82 #[.slice A0 l0.length c0] w fun e w'=>∃ v0_:Value,e = .returned (v0_)∧Kd.S (Kd.slice 3 (Kd.int .i64)) 48 w' w.heap.size (fun _=>True) v0_ r∧Below w.heap.size w w':=by
 exact ext_number A0 c0 l0 r w hr0 hc0 h
def lcs_Match.f (l0 l1 : List Int) : Option (List S94) := if l0.length≤4000000000∧l1.length≤4000000000 then (matchF l0 l1).bind (fun r=>if r.length≤8000000000 then some r else none) else none
theorem lcs_Match.calls (A0 : Option Addr) (c0 : Nat) (l0 : List Int) (A1 : Option Addr) (c1 : Nat) (l1 : List Int) (r : List (S94)) (w : World) (hr0 : Kd.C (Kd.int .i64) w A0 l0.length l0) (hc0 : l0.length≤c0) (hr1 : Kd.C (Kd.int .i64) w A1 l1.length l1) (hc1 : l1.length≤c1) (h : lcs_Match.f l0 l1=some r) :
  Calls Tryz.prog 83 #[.slice A0 l0.length c0,.slice A1 l1.length c1] w fun e w'=>∃ v0_:Value,e = .returned (v0_)∧Kd.R k94 94 w' w.heap.size (fun _=>True) v0_ r∧Below w.heap.size w w':=by
 exact match_calls A0 c0 l0 A1 c1 l1 r w hr0 hc0 hr1 hc1 h
def merge_match.f (l0 : List ByteArray) (l1 : List ByteArray) : Option ((List (S94))) := (lines_Number.f (([l0,l1] : List (List ByteArray)))).bind fun t172=>(if 0<(t172.length : Int) then (if 1<(t172.length : Int) then ((lcs_Match.f (rd_L8 t172 0) (rd_L8 t172 1)).bind fun t177=>(some t177)) else (none)) else (none))
def merge_match.T2 : Bool×List (List Nat×List Nat) := (true,[([],[]),([0],[0]),([1],[1]),([],[]),([3],[3]),([4],[4]),([2,5],[2,5]),([6,6,0,1,2,3,4,5,6],[6])])
def merge_match.B2 : List Nat := [0,1,3,0,8,24,63,127]
theorem merge_match.tab2 : rtab .any (opsOf Tryz.f41 2)=merge_match.T2 := by kernel_rfl
theorem merge_match.bits2 : waitsOk merge_match.T2.2 merge_match.B2=true := by kernel_rfl
set_option maxHeartbeats 8000000 in
set_option maxRecDepth 100000 in
theorem merge_match.calls (P0_ : Nat→Prop) (A0 : Option Addr) (c0 : Nat) (l0 : List ByteArray) (P1_ : Nat→Prop) (A1 : Option Addr) (c1 : Nat) (l1 : List ByteArray) (r : List (S94)) (w : World) (hs0 : Kd.V Kd.string 9 w w.heap.size (fun k_=>P0_ k_) (.slice A0 l0.length c0) l0) (hs1 : Kd.V Kd.string 9 w w.heap.size (fun k_=>P1_ k_) (.slice A1 l1.length c1) l1) (h : merge_match.f l0 l1=some r) :
  Calls Tryz.prog 41 #[.slice A0 l0.length c0,.slice A1 l1.length c1] w fun e w'=>∃ v0_:Value,e = .returned (v0_)∧Kd.R k94 94 w' w.heap.size (fun k_=>(w.heap.size≤k_)) v0_ r∧Below w.heap.size w w':=by
 have HO0:=Zd (show Kd.V Kd.string 9 w w.heap.size (fun k_=>((P0_ k_∨P1_ k_)∨w.heap.size≤k_)) (.slice A0 l0.length c0) l0 from Kd.V_mono hs0 (fun k_ hk => .inl (.inl hk)))
 have HO1:=Zd (show Kd.V Kd.string 9 w w.heap.size (fun k_=>((P0_ k_∨P1_ k_)∨w.heap.size≤k_)) (.slice A1 l1.length c1) l1 from Kd.V_mono hs1 (fun k_ hk => .inl (.inr hk)))
 have HB:=Zd (Below.refl w.heap.size w)
 have H:((lines_Number.f (([l0,l1]:List (List ByteArray)))).bind fun t172=>(if 0<(t172.length:Int) then (if 1<(t172.length:Int) then ((lcs_Match.f (rd_L8 t172 0) (rd_L8 t172 1)).bind fun t177=>(some t177)) else (none)) else (none)))=some r:=h
 clear h
 obtain⟨y169,hy169⟩:∃ y_:List (List ByteArray),y_=(([l0,l1]:List (List ByteArray))):=⟨_,rfl⟩
 replace H:((lines_Number.f y169).bind fun t172=>(if 0<(t172.length:Int) then (if 1<(t172.length:Int) then ((lcs_Match.f (rd_L8 t172 0) (rd_L8 t172 1)).bind fun t177=>(some t177)) else (none)) else (none)))=some r:=by first|(rw [hy169];with_reducible exact H)|(have H2_:=(Option.bind_some _ _).symm.trans H;rw [hy169];with_reducible exact H2_)|(have H2_:=(Option.bind_some _ _).symm.trans H;with_reducible exact H2_)|with_reducible exact H|(rw [hy169];exact H)|exact H
 have Ny169:=Zd hy169
 clear hy169
 replace H:=Option.bind_eq_some_iff.mp H
 obtain⟨t172,A30,H⟩:=H
 replace H:(if 0<(t172.length:Int) then (if 1<(t172.length:Int) then ((lcs_Match.f (rd_L8 t172 0) (rd_L8 t172 1)).bind fun t177=>(some t177)) else (none)) else (none))=some r:=H
 have A3:=Zd A30
 clear A30
 by_cases c4:0<(t172.length:Int)
 ·rw [if_pos c4] at H
  have c4b0:decide (0<(t172.length:Int))=true:=decide_eq_true c4
  have c4b1:decide (0<t172.length)=true:=decide_eq_true (by omega)
  clear c4
  by_cases c5:1<(t172.length:Int)
  ·rw [if_pos c5] at H
   have c5b0:decide (1<(t172.length:Int))=true:=decide_eq_true c5
   have c5b1:decide (1<t172.length)=true:=decide_eq_true (by omega)
   clear c5
   replace H:=Option.bind_eq_some_iff.mp H
   obtain⟨t177,A60,H⟩:=H
   replace H:(some t177)=some r:=H
   have A6:=Zd A60
   clear A60
   obtain rfl:=Option.some.inj H
   go_enter Tryz.func41,Tryz.ntmps41
   try go_wp2_with (first|((with_reducible refine gate_dst (N:=8) rfl ?_);refine Kd.N_lit (Kd.slice 9 Kd.string) _ 42 ?hg (N':=8) ?hd (xs:=([l0,l1]:List (List ByteArray))) (inner:=[.slice A0 l0.length c0,.slice A1 l1.length c1]) (ok:=(fun k_=>((P0_ k_∨P1_ k_)∨w.heap.size≤k_))) (okp:=(fun k_=>((P0_ k_∨P1_ k_)∨w.heap.size≤k_))) ?hr ?hp (fun _ hk=>hk) ((show ∀ k_,w.heap.size≤k_→(fun k_=>((P0_ k_∨P1_ k_)∨w.heap.size≤k_)) k_ from fun k_ hk=>(.inr (Nat.le_trans (below_size Zb) hk))) _ (Nat.le_refl _)) (Below.refl _ _) (Nat.le_refl _) (by simp) ?_;(case hd=>rfl);(case hg=>rfl);(case hr=>first|(go_simp;done)|(go_simp;rfl));(case hp=>exact (Reps.one (show Kd.FK (Kd.slice 9 Kd.string) _ _ l0 [.slice A0 l0.length c0] from (Kd.FK_slice_mk (Kd.V_reads' (Kd.V_mono (ok':=(fun k_=>((P0_ k_∨P1_ k_)∨w.heap.size≤k_))) (HO0.out) (fun k_ hk=>hk))).2.1 (Kd.V_F (Kd.V_mono (ok':=(fun k_=>((P0_ k_∨P1_ k_)∨w.heap.size≤k_))) (HO0.out) (fun k_ hk=>hk))))) (Reps.one (show Kd.FK (Kd.slice 9 Kd.string) _ _ l1 [.slice A1 l1.length c1] from (Kd.FK_slice_mk (Kd.V_reads' (Kd.V_mono (ok':=(fun k_=>((P0_ k_∨P1_ k_)∨w.heap.size≤k_))) (HO1.out) (fun k_ hk=>hk))).2.1 (Kd.V_F (Kd.V_mono (ok':=(fun k_=>((P0_ k_∨P1_ k_)∨w.heap.size≤k_))) (HO1.out) (fun k_ hk=>hk))))) (Reps.none _ _))));intro v170 w7 ho8 hb hg_ hnew_;clear hg_ hnew_;(first|rw [←Ny169.out] at ho8|(simp only [Int.reduceToNat] at ho8;rw [←Ny169.out] at ho8));have n0_:=Zd (Kd.V_elder' (by (with_reducible repeat (first|apply Kd.V_alloc|apply Kd.V_drewN|apply Kd.V_drew));exact HO0.out) (Kd.N_base ho8) hb);have n1_:=Zd (Kd.V_elder' (by (with_reducible repeat (first|apply Kd.V_alloc|apply Kd.V_drewN|apply Kd.V_drew));exact HO1.out) (Kd.N_base ho8) hb);have n2_:=Zd (Kd.N_lower ho8 (below_size Zb));have n3_:=Zd (below_step Zb hb);clear HO0;clear HO1;clear HB;have HO0:=n0_;have HO1:=n1_;have HO171:=n2_;have HB:=n3_;clear n0_ n1_ n2_ n3_;clear hb ho8;obtain⟨Ao9,co9,eo9⟩:=Kd.N_slice HO171.out;subst eo9)|((with_reducible refine gate_callee (f:=82) rfl ?_);refine goesL_ (some 9) rfl rfl Tryz.func82 (by kernel_rfl) rfl #[.slice Ao9 y169.length co9] rfl Zl ?_;(with_reducible refine (lines_Number.calls _ _ y169 t172 _ ?side1 ?side2 A3.out).mono ?_);(case side1=>repeat (first|exact (Kd.N_reads' HO171.out).2.2|(with_reducible refine Kd.C_alloc ?_ _)|(with_reducible refine Kd.C_drewN ?_ _)|(with_reducible refine Kd.C_drew ?_)));(case side2=>exact (Kd.N_reads' HO171.out).2.1);rintro e w10 ⟨v173,rfl,ho0,hb⟩;refine⟨_,rfl,?_⟩;have n0_:=Zd (Kd.V_elder' (by (with_reducible repeat (first|apply Kd.V_alloc|apply Kd.V_drewN|apply Kd.V_drew));exact HO0.out) (Kd.S_base ho0) hb);have n1_:=Zd (Kd.V_elder' (by (with_reducible repeat (first|apply Kd.V_alloc|apply Kd.V_drewN|apply Kd.V_drew));exact HO1.out) (Kd.S_base ho0) hb);have n2_:=Zd (Kd.N_elder' (by (with_reducible repeat (first|apply Kd.N_alloc|apply Kd.N_drewN|apply Kd.N_drew));exact HO171.out) (Kd.S_base ho0) hb);have n3_:=Zd (Kd.N_lower (Kd.N_mono (ok':=fun k_=>((P0_ k_∨P1_ k_)∨w.heap.size≤k_)∧some k_≠(.slice Ao9 y169.length co9:Value).ownBlock) (Kd.S_N (Kd.S_bound ho0)) (fun k_ hk_=>⟨(.inr (Nat.le_trans (below_size Zb) hk_.2.1)),(Kd.fresh' (Kd.N_lt (by (with_reducible repeat (first|apply Kd.N_alloc|apply Kd.N_drewN|apply Kd.N_drew));exact HO171.out)) k_ hk_.2.1)⟩)) (below_size Zb));have n4_:=Zd (below_step Zb hb);clear HO0;clear HO1;clear HO171;clear HB;have HO0:=n0_;have HO1:=n1_;have HO171:=n2_;have HO174:=n3_;have HB:=n4_;clear n0_ n1_ n2_ n3_ n4_;(try clear hb);(try clear hb2);(try clear hk);(try clear hi);(try clear ho0)))
   have n0_:=Zd (Kd.V_drew HO0.out)
   have n1_:=Zd (Kd.V_drew HO1.out)
   have n2_:=Zd (Kd.N_drew HO171.out)
   have n3_:=Zd (Kd.N_drew HO174.out)
   have n4_:=Zd (below_drew1 HB.out)
   clear HO0
   clear HO1
   clear HO171
   clear HO174
   clear HB
   have HO0:=n0_
   have HO1:=n1_
   have HO171:=n2_
   have HO174:=n3_
   have HB:=n4_
   clear n0_ n1_ n2_ n3_ n4_
   obtain⟨Ao12,co12,eo12⟩:=Kd.N_slice HO174.out
   (first|subst eo12|(injection eo12 with f1_ f2_ f3_;have f4_:=f1_.symm;have f5_:=f3_.symm;clear f1_ f2_ f3_;subst f4_;subst f5_))
   have p175:0≤(0:Int):=(by omega)
   have q175:0<(t172.length:Int):=Zo
   obtain⟨ad175,A175_0,c175_0,e175,hx175_0,hl175_0,hi175_0⟩:=at_L8 (Kd.N_reads' HO174.out).2.2 0 p175 q175
   cases e175
   obtain⟨ce175,hce175,hMe175,hcc175⟩:=Kd.N_get HO174.out [] 0 p175 (by first|exact q175|exact Zo|(have e_:=(Kd.N_reads' HO174.out).1;omega))
   obtain⟨ua175_0,uc175_0,rfl,ul175_0,ge175_0⟩:=Kd.FK_slice_open hMe175
   have hv175_0:=hcc175 0 _ rfl
   rw [Nat.add_zero,show ((Kd.slice 3 (Kd.int .i64))).sz=1 from rfl,Nat.mul_one] at hv175_0
   replace hv175_0:=Option.some.inj (hv175_0.symm.trans hx175_0)
   injection hv175_0 with hva_ hvn_ hvc_
   rw [hva_] at ge175_0
   rw [hvc_] at ul175_0
   have HL175_0:=Zd (show Kd.V (Kd.int .i64) 3 _ w.heap.size _ _ (rd_L8 t172 0) from Kd.V_mk ul175_0 ge175_0)
   clear hva_ hvn_ hvc_ ge175_0 ul175_0
   clear hcc175 hce175
   have qi175:(0<t172.length)=True:=eq_true (by omega)
   (try rw [show ((0:Int)).toNat=0 from rfl] at hx175_0)
   (try rw [Addr.add_zero'] at hx175_0)
   have HR175_0:=Zd hi175_0
   have HC175_0:=Zd hl175_0
   clear hi175_0 hl175_0
   replace p175:=eq_true p175
   replace q175:=eq_true q175
   have p176:0≤(1:Int):=(by omega)
   have q176:1<(t172.length:Int):=Zo
   obtain⟨ad176,A176_0,c176_0,e176,hx176_0,hl176_0,hi176_0⟩:=at_L8 (Kd.N_reads' HO174.out).2.2 1 p176 q176
   obtain rfl:ad175=ad176:=(by injection e176)
   obtain⟨ce176,hce176,hMe176,hcc176⟩:=Kd.N_get HO174.out [] 1 p176 (by first|exact q176|exact Zo|(have e_:=(Kd.N_reads' HO174.out).1;omega))
   obtain⟨ua176_0,uc176_0,rfl,ul176_0,ge176_0⟩:=Kd.FK_slice_open hMe176
   have hv176_0:=hcc176 0 _ rfl
   rw [Nat.add_zero,show ((Kd.slice 3 (Kd.int .i64))).sz=1 from rfl,Nat.mul_one] at hv176_0
   replace hv176_0:=Option.some.inj (hv176_0.symm.trans hx176_0)
   injection hv176_0 with hva_ hvn_ hvc_
   rw [hva_] at ge176_0
   rw [hvc_] at ul176_0
   have HL176_0:=Zd (show Kd.V (Kd.int .i64) 3 _ w.heap.size _ _ (rd_L8 t172 1) from Kd.V_mk ul176_0 ge176_0)
   clear hva_ hvn_ hvc_ ge176_0 ul176_0
   clear hcc176 hce176
   (try simp only [show (1:Int).toNat=1 from rfl,Nat.reduceMul,Nat.reduceEqDiff,Go.Addr.add,↓reduceIte] at hx176_0)
   have qi176:(1<t172.length)=True:=eq_true (by omega)
   (try rw [show ((1:Int)).toNat=1 from rfl] at hx176_0)
   have HR176_0:=Zd hi176_0
   have HC176_0:=Zd hl176_0
   clear hi176_0 hl176_0
   replace p176:=eq_true p176
   replace q176:=eq_true q176
   refine start_ (n:=8) (S:=fun w'=>w'.cell? ad175=some (.slice A175_0 (rd_L8 t172 0).length c175_0)∧w'.cell? ⟨ad175.block,ad175.off+1,none⟩=some (.slice A176_0 (rd_L8 t172 1).length c176_0)) (ds:=[]) #[false,false,false,false,false,false,false,false] (by kernel_rfl) rfl rfl ⟨hx175_0,hx176_0⟩ (fun hHeld=>?_);refine with_tabW merge_match.tab2 merge_match.bits2 (fun HT_ HW_=>?_)
   generalize w10.drew=w11 at HO0 HO1 HO171 HO174 HB HL175_0 HL176_0 HR175_0 HR176_0 hx175_0 hx176_0 hHeld ⊢
   refine pure_ (i:=0) (N:=some 10) (v:=?_) (a':=?_) #[true,false,false,false,false,false,false,false] rfl rfl (any_of HT_.out (by kernel_rfl)) (fun _ _ _ h=>h) (Or.inl ⟨by rfl,?_⟩) ?_ ?_
   rotate_left
   ·intro w'
    go_simp
    with_reducible rfl
   rotate_left
   ·simp only [Act.put,List.setIfInBounds_toArray,List.set_cons_zero,List.set_cons_succ,i64_w,i32_w]
    rfl
   refine pure_ (i:=1) (N:=some 11) (v:=?_) (a':=?_) #[true,true,false,false,false,false,false,false] rfl rfl (any_of HT_.out (by kernel_rfl)) (fun _ _ _ h=>h) (Or.inl ⟨by rfl,?_⟩) ?_ ?_
   rotate_left
   ·intro w'
    go_simp
    with_reducible rfl
   rotate_left
   ·simp only [Act.put,List.setIfInBounds_toArray,List.set_cons_zero,List.set_cons_succ,i64_w,i32_w]
    rfl
   refine pure_ (i:=3) (N:=some 13) (v:=?_) (a':=?_) #[true,true,false,true,false,false,false,false] rfl rfl (any_of HT_.out (by kernel_rfl)) (fun _ _ _ h=>h) (Or.inl ⟨by rfl,?_⟩) ?_ ?_
   rotate_left
   ·intro w'
    go_simp
    with_reducible rfl
   rotate_left
   ·simp only [Act.put,List.setIfInBounds_toArray,List.set_cons_zero,List.set_cons_succ,i64_w,i32_w]
    rfl
   refine pure_ (i:=4) (N:=some 14) (v:=?_) (a':=?_) #[true,true,false,true,true,false,false,false] rfl rfl (any_of HT_.out (by kernel_rfl)) (fun _ _ _ h=>h) (Or.inl ⟨by rfl,?_⟩) ?_ ?_
   rotate_left
   ·intro w'
    go_simp
    with_reducible rfl
   rotate_left
   ·simp only [Act.put,List.setIfInBounds_toArray,List.set_cons_zero,List.set_cons_succ,i64_w,i32_w]
    rfl
   refine take_ (i:=2) (N:=some 12) (v:=?_) (a':=?_) #[true,true,true,true,true,false,false,false] rfl rfl (take_ofW HT_.out HW_.out (by kernel_rfl)) (fun _ _ _ h=>h) (Or.inl ⟨by rfl,?_⟩) hHeld ?_ ?_
   rotate_left
   ·rintro w' ⟨s0,s1⟩
    go_simp
    with_reducible rfl
   rotate_left
   ·simp only [Act.put,List.setIfInBounds_toArray,List.set_cons_zero,List.set_cons_succ,i64_w,i32_w]
    rfl
   refine take_ (i:=5) (N:=some 15) (v:=?_) (a':=?_) #[true,true,true,true,true,true,false,false] rfl rfl (take_ofW HT_.out HW_.out (by kernel_rfl)) (fun _ _ _ h=>h) (Or.inl ⟨by rfl,?_⟩) hHeld ?_ ?_
   rotate_left
   ·rintro w' ⟨s0,s1⟩
    go_simp
    with_reducible rfl
   rotate_left
   ·simp only [Act.put,List.setIfInBounds_toArray,List.set_cons_zero,List.set_cons_succ,i64_w,i32_w]
    rfl
   refine one_ (i:=6) (N:=some 16) #[true,true,true,true,true,true,true,false] rfl rfl (one_of HT_.out (by kernel_rfl)) (by decide) (fun K hK=>?_)
   refine goes_ Tryz.func83 (by kernel_rfl) rfl #[.slice A175_0 (rd_L8 t172 0).length c175_0,.slice A176_0 (rd_L8 t172 1).length c176_0] (by rfl) rfl rfl Zl ?_
   with_reducible refine (lcs_Match.calls _ _ (rd_L8 t172 0) _ _ (rd_L8 t172 1) t177 _ ?side1 ?side2 ?side3 ?side4 A6.out).mono ?_
   (case side1=>repeat (first|exact (by repeat (first|(with_reducible exact HR175_0.out)|(with_reducible refine Kd.C_alloc ?_ _)|(with_reducible refine Kd.C_drewN ?_ _)|(with_reducible refine Kd.C_drew ?_)|exact HR175_0.out))|(with_reducible refine Kd.C_alloc ?_ _)|(with_reducible refine Kd.C_drewN ?_ _)|(with_reducible refine Kd.C_drew ?_)))
   (case side2=>exact HC175_0.out)
   (case side3=>repeat (first|exact (by repeat (first|(with_reducible exact HR176_0.out)|(with_reducible refine Kd.C_alloc ?_ _)|(with_reducible refine Kd.C_drewN ?_ _)|(with_reducible refine Kd.C_drew ?_)|exact HR176_0.out))|(with_reducible refine Kd.C_alloc ?_ _)|(with_reducible refine Kd.C_drewN ?_ _)|(with_reducible refine Kd.C_drew ?_)))
   (case side4=>exact HC176_0.out)
   rintro e w13 ⟨v178,rfl,ho0,hb⟩
   have HS0_:=(hb.cell (World.block_lt_of_cell? _ _ (hHeld.1))).trans (hHeld.1)
   have HS1_:=(hb.cell (World.block_lt_of_cell? _ _ (hHeld.2))).trans (hHeld.2)
   refine⟨_,rfl,?_⟩
   have n0_:=Zd (Kd.V_elder' (by (with_reducible repeat (first|apply Kd.V_alloc|apply Kd.V_drewN|apply Kd.V_drew));exact HO0.out) (Kd.R_base ho0) hb)
   have n1_:=Zd (Kd.V_elder' (by (with_reducible repeat (first|apply Kd.V_alloc|apply Kd.V_drewN|apply Kd.V_drew));exact HO1.out) (Kd.R_base ho0) hb)
   have n2_:=Zd (Kd.N_elder' (by (with_reducible repeat (first|apply Kd.N_alloc|apply Kd.N_drewN|apply Kd.N_drew));exact HO171.out) (Kd.R_base ho0) hb)
   have n3_:=Zd (Kd.N_elder' (by (with_reducible repeat (first|apply Kd.N_alloc|apply Kd.N_drewN|apply Kd.N_drew));exact HO174.out) (Kd.R_base ho0) hb)
   have n4_:=Zd (Kd.V_elder' (by (with_reducible repeat (first|apply Kd.V_alloc|apply Kd.V_drewN|apply Kd.V_drew));exact HL175_0.out) (Kd.R_base ho0) hb)
   have n5_:=Zd (Kd.V_elder' (by (with_reducible repeat (first|apply Kd.V_alloc|apply Kd.V_drewN|apply Kd.V_drew));exact HL176_0.out) (Kd.R_base ho0) hb)
   have n6_:=Zd (Kd.R_lower (Kd.R_newM (M:=fun k_=>(w.heap.size≤k_)) ho0 (below_size Zb) (fun k_ h_=>h_)) (below_size Zb))
   have n7_:=Zd (Kd.C_below (by repeat (first|(with_reducible exact HR175_0.out)|(with_reducible refine Kd.C_alloc ?_ _)|(with_reducible refine Kd.C_drewN ?_ _)|(with_reducible refine Kd.C_drew ?_)|exact HR175_0.out)) hb)
   have n8_:=Zd (Kd.C_below (by repeat (first|(with_reducible exact HR176_0.out)|(with_reducible refine Kd.C_alloc ?_ _)|(with_reducible refine Kd.C_drewN ?_ _)|(with_reducible refine Kd.C_drew ?_)|exact HR176_0.out)) hb)
   have n9_:=Zd (below_step Zb hb)
   clear HO0
   clear HO1
   clear HO171
   clear HO174
   clear HL175_0
   clear HL176_0
   clear HR175_0
   clear HR176_0
   clear HB
   have HO0:=n0_
   have HO1:=n1_
   have HO171:=n2_
   have HO174:=n3_
   have HL175_0:=n4_
   have HL176_0:=n5_
   have HO179:=n6_
   have HR175_0:=n7_
   have HR176_0:=n8_
   have HB:=n9_
   clear n0_ n1_ n2_ n3_ n4_ n5_ n6_ n7_ n8_ n9_
   (try clear hb)
   (try clear hb2)
   (try clear hk)
   (try clear hi)
   (try clear ho0)
   refine hK.out _ _ ⟨HS0_,HS1_⟩ (fun hHeld=>?_)
   clear hK K
   refine norm_ (a':=?_) ?_ ?_
   rotate_left
   ·show Act.put _ (some 16) _=_
    simp only [Act.put,List.setIfInBounds_toArray,List.set_cons_zero,List.set_cons_succ,i64_w,i32_w]
    rfl
   refine pure_ (i:=7) (N:=some 4) (v:=?_) (a':=?_) #[true,true,true,true,true,true,true,true] rfl rfl (any_of HT_.out (by kernel_rfl)) (fun _ _ _ h=>h) (Or.inl ⟨by rfl,?_⟩) ?_ ?_
   rotate_left
   ·intro w'
    go_simp
    with_reducible rfl
   rotate_left
   ·simp only [Act.put,List.setIfInBounds_toArray,List.set_cons_zero,List.set_cons_succ,i64_w,i32_w]
    rfl
   refine done_ (done_of HT_.out (by kernel_rfl)) ?_
   try go_wp2
   go_ret
   exact⟨_,by first|rfl|(simp [errW_none,errW_some]<;>rfl)|(simp [*,errW_none,errW_some]<;>rfl),by refine Zr ?_;exact Kd.R_mono HO179.out (fun _ hk=>hk.1),by repeat (first|(with_reducible first|exact HB.out|apply below_alloc|apply pw_below_drewN|apply below_drew1)|exact HB.out)⟩
  ·rw [if_neg c5] at H
   exact absurd H (by simp)
 ·rw [if_neg c4] at H
  exact absurd H (by simp)
def build_Doc.f (k : Nat) (l0_0 l0_1 l0_2 : List ByteArray) (l1 : List S121) (a2 : Int) (a3_0 a3_1 a3_2 : ByteArray) (a4 : Int) : Option ((List S124)×Int) := docF k l0_0 l0_1 l0_2 l1 a2 a3_0 a3_1 a3_2 a4
theorem build_Doc.mono : ∀ l0_0 l0_1 l0_2 l1 a2 a3_0 a3_1 a3_2 a4 k,LeO (build_Doc.f k l0_0 l0_1 l0_2 l1 a2 a3_0 a3_1 a3_2 a4) (build_Doc.f (k+1) l0_0 l0_1 l0_2 l1 a2 a3_0 a3_1 a3_2 a4) := doc_mono
theorem build_Doc.calls (k : Nat) (A0_0 : Option Addr) (c0_0 : Nat) (l0_0 : List ByteArray) (A0_1 : Option Addr) (c0_1 : Nat) (l0_1 : List ByteArray) (A0_2 : Option Addr) (c0_2 : Nat) (l0_2 : List ByteArray) (A1 : Option Addr) (c1 : Nat) (l1 : List (S121)) (a2 : Int) (a3_0 : ByteArray) (a3_1 : ByteArray) (a3_2 : ByteArray) (a4 : Int) (r1 : List (S124)) (r2 : Int) (w : World) (hr0_0 : Kd.C Kd.string w A0_0 l0_0.length l0_0) (hc0_0 : l0_0.length≤c0_0) (hr0_1 : Kd.C Kd.string w A0_1 l0_1.length l0_1) (hc0_1 : l0_1.length≤c0_1) (hr0_2 : Kd.C Kd.string w A0_2 l0_2.length l0_2) (hc0_2 : l0_2.length≤c0_2) (hr1 : Kd.C k121 w A1 l1.length l1) (hc1 : l1.length≤c1) (h : build_Doc.f k l0_0 l0_1 l0_2 l1 a2 a3_0 a3_1 a3_2 a4=some (r1,r2)) :
  Calls Tryz.prog 44 #[.agg #[.slice A0_0 l0_0.length c0_0,.slice A0_1 l0_1.length c0_1,.slice A0_2 l0_2.length c0_2],.slice A1 l1.length c1,.int .i64 a2,.agg #[.string a3_0,.string a3_1,.string a3_2],.int .i64 a4] w fun e w'=>∃ v0_:Value,e = .returned (.tuple #[v0_,.int .i64 r2])∧Kd.R k124 124 w' w.heap.size (fun _=>True) v0_ r1∧Below w.heap.size w w':=by
 exact doc_calls k A0_0 c0_0 l0_0 A0_1 c0_1 l0_1 A0_2 c0_2 l0_2 A1 c1 l1 a2 a3_0 a3_1 a3_2 a4 r1 r2 w hr0_0 hc0_0 hr0_1 hc0_1 hr0_2 hc0_2 hr1 hc1 h
end Go.Proofs.YtfiamddinkokbaaGreat.F
end
