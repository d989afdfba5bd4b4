/- Texts joined into one file (wip/tools/pack.py): Texts, Fn58, Fn100, Fn67, Told12 -/
import Derived.Test.YtfiamddinkokbaaTA31
import Derived.Test.YtfiamddinkokbaaTA3
import Derived.Test.YtfiamddinkokbaaTA16
import Derived.Test.YtfiamddinkokbaaTA17
import Derived.Test.YtfiamddinkokbaaTA19
import Derived.BigQuiet
set_option linter.unusedVariables false
set_option linter.unusedSimpArgs false
section
namespace Go.Proofs.Ytfiamddinkokbaa.F
open Go.RowKit Go.Shelf Go.Proofs.YtfiamddinkokbaaW.PrintWords
def Texted (w : World) (r1 : List PP) (r2 r3 : List SP) (r4 : List SC) (r5 : ByteArray) (r6 r7 r8 : Int) (e : Ending) (w' : World) : Prop :=
 ∃ v0_ v1_ v2_ v3_:Value,e = .returned (.tuple #[.agg #[v0_,v1_,v2_,v3_,.string r5,.int .i64 r6,.int .i64 r7],.int .i64 r8])∧Kd.R k106 106 w' w.heap.size (fun _=>True) v0_ r1∧Kd.R k196 196 w' w.heap.size (fun k_=>some k_≠(v2_:Value).ownBlock) v1_ r2∧Kd.R k196 196 w' w.heap.size (fun k_=>some k_≠(v1_:Value).ownBlock) v2_ r3∧Kd.R k91 91 w' w.heap.size (fun _=>True) v3_ r4∧Below w.heap.size w w'
set_option maxHeartbeats 8000000 in
set_option maxRecDepth 100000 in
theorem texts_bad (k : Nat) (a0 a1 a2 g0 g1 g2 : ByteArray) (st wd fv ec : Int) (w : World) (hs : a0.size≤1000000000000∧a1.size≤1000000000000∧a2.size≤1000000000000) (h : merge_Options_wrong.f k g0 g1 g2 st wd fv ((a0.size : Int)+a1.size+a2.size)=some ec) (hne : ec≠0) :
  Calls Try.prog 58 #[.string a0,.string a1,.string a2,.agg #[.string g0,.string g1,.string g2,.int .i64 st,.int .i64 wd,.int .i64 fv]] w (Texted w [] [] [] [] ⟨#[]⟩ 0 0 ec):=by
 have HW:=Aside0.mk (fun W=>merge_Options_wrong.calls k g0 g1 g2 st wd fv _ ec W h)
 have q1:(ec != (0:Int))=true:=bne_iff_ne.2 hne
 obtain⟨s0,s1,s2⟩:=hs
 clear h hne
 go_enter Try.func58,Try.ntmps58
 go_wp2_with (first|(go_at_call 101;(with_reducible refine (HW.out _).mono ?_);rintro e w1 ⟨rfl,hb⟩;obtain⟨hb1,hx7,hx8⟩:=two_boxes hb;have HB:=Aside0.mk hb1;obtain⟨e0,e1,e2,e3,e4,e5,e6,f0,f1,f2,f3,f4,f5,f6⟩:=zero7 hx8;have HZ:=Aside0.mk hx8;clear hb hb1 hx7 hx8))
 refine bodyPost_ret (results_ct rfl _ _ (w.heap.size+1) 80 #[.slice none 0 0,.slice none 0 0,.slice none 0 0,.slice none 0 0,.string (⟨#[]⟩:ByteArray),.int .i64 0,.int .i64 0] (0,0) _ rfl (block_set7 HZ.out _ _ _ _ _ _ _) Try.underlying80 rfl (by kernel_rfl)) rfl ?_
 exact⟨_,_,_,_,rfl,Kd.R_nil _ _ _ _ _,Kd.R_nil _ _ _ _ _,Kd.R_nil _ _ _ _ _,Kd.R_nil _ _ _ _ _,below_set7 HB.out (by omega) _ _ _ _ _ _ _⟩
set_option maxHeartbeats 16000000 in
set_option maxRecDepth 100000 in
theorem texts_good (k : Nat) (a0 a1 a2 g0 g1 g2 : ByteArray) (st wd fv W6 e1 e2 e3 n : Int) (B L R : List ByteArray) (lp rp : List SP) (cs : List SC) (d : List PP) (t : ByteArray) (w : World) (hs : a0.size≤1000000000000∧a1.size≤1000000000000∧a2.size≤1000000000000)
  (h:merge_Options_wrong.f k g0 g1 g2 st wd fv ((a0.size:Int)+a1.size+a2.size)=some 0) (h0:lines_Split.f a0=some B) (h1:lines_Split.f a1=some L) (h2:lines_Split.f a2=some R) (hm1:merge_match.f B L=some lp) (hm2:merge_match.f B R=some rp)
  (hwd:doc_Width.f k wd [a0,a1,a2]=some W6) (hof:chunk_Of.f k (B.length:Int) (L.length:Int) (R.length:Int) lp rp=some (cs,e1)) (hd:build_Doc.f k B L R cs st g0 g1 g2 fv=some (d,e2)) (hp:mark_Print.f k d W6=some (t,e3)) (hn:build_Count.f k B L R cs=some n) :
  Calls Try.prog 58 #[.string a0,.string a1,.string a2,.agg #[.string g0,.string g1,.string g2,.int .i64 st,.int .i64 wd,.int .i64 fv]] w (Texted w d lp rp cs t W6 n 0):=by
 have HW:=Aside0.mk (fun W=>merge_Options_wrong.calls k g0 g1 g2 st wd fv _ 0 W h)
 have HS0:=Aside0.mk (fun W=>lines_Split.calls a0 B W h0)
 have HS1:=Aside0.mk (fun W=>lines_Split.calls a1 L W h1)
 have HS2:=Aside0.mk (fun W=>lines_Split.calls a2 R W h2)
 have HM1:=Aside0.mk hm1
 have HM2:=Aside0.mk hm2
 have HWD:=Aside0.mk hwd
 have HOF:=Aside0.mk hof
 have HD:=Aside0.mk hd
 have HP:=Aside0.mk hp
 have HN:=Aside0.mk hn
 obtain⟨s0,s1,s2⟩:=hs
 clear h h0 h1 h2 hm1 hm2 hwd hof hd hp hn
 go_enter Try.func58,Try.ntmps58
 go_wp2_with (first
  | (go_at_call 101;(with_reducible refine (HW.out _).mono ?_);rintro e w1 ⟨rfl,hb⟩;obtain⟨hb1,hx7,hx8⟩:=two_boxes hb;have HB1:=Aside0.mk hb1;have HX7:=Aside0.mk hx7;have HX8:=Aside0.mk hx8;clear hb hb1 hx7 hx8)
  | (go_at_call 29;(with_reducible refine (HS0.out _).mono ?_);rintro e w2 ⟨v0,rfl,hr,hb⟩;obtain⟨A0,c0,rfl⟩:=Kd.R_slice hr;have HR0:=Aside0.mk (Kd.R_lower hr HB1.out.size);have HB2:=Aside0.mk (below_step HB1.out hb);have HX72:=Aside0.mk (after_call hb HX7.out);have HX82:=Aside0.mk (after_call hb HX8.out);clear hr hb)
  | (go_at_call 29;(with_reducible refine (HS1.out _).mono ?_);rintro e w3 ⟨v1,rfl,hr,hb⟩;obtain⟨A1,c1,rfl⟩:=Kd.R_slice hr;have HR1:=Aside0.mk (Kd.R_lower hr HB2.out.size);have HR03:=Aside0.mk (Kd.R_below HR0.out hb);have HB3:=Aside0.mk (below_step HB2.out hb);have HX73:=Aside0.mk (after_call hb HX72.out);have HX83:=Aside0.mk (after_call hb HX82.out);clear hr hb)
  | (go_at_call 29;(with_reducible refine (HS2.out _).mono ?_);rintro e w4 ⟨v2,rfl,hr,hb⟩;obtain⟨A2,c2,rfl⟩:=Kd.R_slice hr;have HR2:=Aside0.mk (Kd.R_lower hr HB3.out.size);have HR04:=Aside0.mk (Kd.R_below HR03.out hb);have HR14:=Aside0.mk (Kd.R_below HR1.out hb);have HB4:=Aside0.mk (below_step HB3.out hb);have HX74:=Aside0.mk (after_call hb HX73.out);have HX84:=Aside0.mk (after_call hb HX83.out);clear hr hb HX7 HX8 HX72 HX82 HX73 HX83 HB1 HB2 HB3 HR0 HR03 HR1))
 clear HW HS0 HS1 HS2
 have hbel:=below_alloc (Below.refl w4.heap.size w4) (.cells #[.slice A0 B.length c0,.slice A1 L.length c1,.slice A2 R.length c2] 144)
 have HX11:=Aside0.mk (World.alloc_heap_new w4 (.cells #[.slice A0 B.length c0,.slice A1 L.length c1,.slice A2 R.length c2] 144))
 have HX7:=Aside0.mk (after_call hbel HX74.out)
 have HX8:=Aside0.mk (after_call hbel HX84.out)
 have HR0:=Aside0.mk (Kd.R_below HR04.out hbel)
 have HR1:=Aside0.mk (Kd.R_below HR14.out hbel)
 have HR2':=Aside0.mk (Kd.R_below HR2.out hbel)
 have HB:=Aside0.mk (below_step HB4.out hbel)
 have HZ4:=Aside0.mk HB4.out.size
 have HLO:Aside0 (w.heap.size+1<w4.heap.size):=⟨(Array.getElem?_eq_some_iff.1 HX84.out).1⟩
 generalize (w4.alloc (.cells #[.slice A0 B.length c0,.slice A1 L.length c1,.slice A2 R.length c2] 144))=W0 at *
 clear hbel HX74 HX84 HR04 HR14 HR2 HB4
 obtain⟨b11,hb11⟩:∃ b11,b11=w4.heap.size:=⟨_,rfl⟩
 rw [←hb11] at HX11 HZ4 HLO ⊢
 clear hb11
 have p0:=(blk_cell HX11.out 0).trans (rfl:_=some (Value.slice A0 B.length c0))
 have p1:=(blk_cell HX11.out 1).trans (rfl:_=some (Value.slice A1 L.length c1))
 have p2:=(blk_cell HX11.out 2).trans (rfl:_=some (Value.slice A2 R.length c2))
 have p4:=(blk_cell HX7.out 4).trans (rfl:_=some (Value.int .i64 wd))
 have hS4:W0.cell? ⟨b11,0,none⟩=some (.slice A0 B.length c0)∧W0.cell? ⟨b11,1,none⟩=some (.slice A1 L.length c1)∧W0.cell? ⟨b11,2,none⟩=some (.slice A2 R.length c2)∧W0.cell? ⟨w.heap.size,4,none⟩=some (.int .i64 wd):=⟨p0,p1,p2,p4⟩
 have HC1:=Aside0.mk (tx1 HR0.out HR1.out HM1.out)
 go_upto_region 6 with (fail)
 go_cut [12] (fun v12 wc=>∃ b12 A3 c3 A4 c4,v12 = .pointer (some ⟨b12,0,none⟩)∧Aside0 (W0.heap.size≤b12)∧Aside0 (wc.heap[b12]? = some (.cells #[.slice none 0 0,.slice A3 lp.length c3,.slice A4 rp.length c4,.slice none 0 0,.string (⟨#[]⟩:ByteArray),.int .i64 W6,.int .i64 0] 80 (0,0)))∧Aside0 (Below W0.heap.size W0 wc)∧Aside0 (Kd.R k196 196 wc W0.heap.size (fun k_=>some k_≠(Value.slice A4 rp.length c4).ownBlock) (.slice A3 lp.length c3) lp)∧Aside0 (Kd.R k196 196 wc W0.heap.size (fun k_=>some k_≠(Value.slice A3 lp.length c3).ownBlock) (.slice A4 rp.length c4) rp))
 case first =>
  have HQ:Aside0 (Below W0.heap.size W0 W0.drew):=⟨below_drew (Below.refl _ _)⟩
  have tk1:True:=trivial
  have tk2:True:=trivial
  have tk3:True:=trivial
  go_wp2
  go_region_held3 (fun w'=>w'.cell? ⟨b11,0,none⟩=some (.slice A0 B.length c0)∧w'.cell? ⟨b11,1,none⟩=some (.slice A1 L.length c1)∧w'.cell? ⟨b11,2,none⟩=some (.slice A2 R.length c2)∧w'.cell? ⟨w.heap.size,4,none⟩=some (.int .i64 wd))
   (((with_reducible refine keep4 (W0:=W0) ?_ hS4);(first|(with_reducible exact HQ.out)|(with_reducible exact below_alloc HQ.out _)|(with_reducible exact below_alloc (below_alloc HQ.out _) _)|(with_reducible exact below_drew (below_alloc (Below.refl _ _) _))|(with_reducible exact below_drew (below_alloc (below_alloc (Below.refl _ _) _) _))|(refine below_set7 HQ.out ?_ _ _ _ _ _ _ _;have n5:=HN5.out;have n6:=HN6.out;omega))))
   (first
    | ((refine Go.Proofs.YtfiamddinkokbaaW.PrintLast.goes_ Try.func102 (by kernel_rfl) rfl #[.slice A0 B.length c0,.slice A1 L.length c1] (by rfl) rfl rfl (by (try simp only [List.map_toArray,List.map_cons,List.map_nil]);rfl) ?_;have _t:=tk1;refine (HC1.out _ ?rel).mono ?_;(case rel=>(first|(with_reducible exact below_drew (Below.refl _ _))|(with_reducible exact below_drew (below_alloc (Below.refl _ _) _))|(with_reducible exact below_drew (below_alloc (below_alloc (Below.refl _ _) _) _))));rintro e w5 ⟨A3,c3,rfl,hr,hb,hq⟩;clear tk1 HQ;have HQ:=Aside0.mk hq;have HN5:=Aside0.mk hq.size;have HC2:=Aside0.mk (tx2 HR0.out HR2'.out HM2.out hr hq);(try (have hz:w5.heap[_]? = some (Obj.cells #[.string a0,.string a1,.string a2] 9 (0,0)):=(by first|(with_reducible exact af4 hb)|(with_reducible exact af4d hb)|(with_reducible exact af2 hb)|(with_reducible exact af2d hb)|(with_reducible exact af1 hb)|(with_reducible exact af1d hb));have HS:=Aside0.mk hz;clear hz));(try (have hz:w5.heap[_]? = some (Obj.cells #[.slice none 0 0,.slice none 0 0,.slice none 0 0,.slice none 0 0,.string (⟨#[]⟩:ByteArray),.int .i64 0,.int .i64 0] 80 (0,0)):=(by first|(with_reducible exact af4 hb)|(with_reducible exact af4d hb)|(with_reducible exact af2 hb)|(with_reducible exact af2d hb)|(with_reducible exact af1 hb)|(with_reducible exact af1d hb));have HA:=Aside0.mk hz;clear hz));clear hr hb hq;refine⟨_,rfl,?_⟩))
    | ((refine Go.Proofs.YtfiamddinkokbaaW.PrintLast.goes_ Try.func102 (by kernel_rfl) rfl #[.slice A0 B.length c0,.slice A2 R.length c2] (by rfl) rfl rfl (by (try simp only [List.map_toArray,List.map_cons,List.map_nil]);rfl) ?_;have _t:=tk2;refine (HC2.out _ ?rel).mono ?_;(case rel=>(first|(with_reducible exact Below.refl _ _)|(with_reducible exact below_alloc (Below.refl _ _) _)|(with_reducible exact below_alloc (below_alloc (Below.refl _ _) _) _)));rintro e w6 ⟨A4,c4,rfl,hr,hr2,hb,hq,h5⟩;clear tk2 HQ HC2;have HQ:=Aside0.mk hq;have HN6:=Aside0.mk hq.size;have HC3:=Aside0.mk (tx3 HWD.out hr hr2 hq);(try (have hz:=after_call h5 HS.out;clear HS;have HS:=Aside0.mk hz;clear hz));(try (have hz:=after_call h5 HA.out;clear HA;have HA:=Aside0.mk hz;clear hz));(try (have hz:w6.heap[_]? = some (Obj.cells #[.string a0,.string a1,.string a2] 9 (0,0)):=(by first|(with_reducible exact af4 hb)|(with_reducible exact af4d hb)|(with_reducible exact af2 hb)|(with_reducible exact af2d hb)|(with_reducible exact af1 hb)|(with_reducible exact af1d hb));have HS:=Aside0.mk hz;clear hz));(try (have hz:w6.heap[_]? = some (Obj.cells #[.slice none 0 0,.slice none 0 0,.slice none 0 0,.slice none 0 0,.string (⟨#[]⟩:ByteArray),.int .i64 0,.int .i64 0] 80 (0,0)):=(by first|(with_reducible exact af4 hb)|(with_reducible exact af4d hb)|(with_reducible exact af2 hb)|(with_reducible exact af2d hb)|(with_reducible exact af1 hb)|(with_reducible exact af1d hb));have HA:=Aside0.mk hz;clear hz));clear hr hr2 hb hq h5;refine⟨_,rfl,?_⟩))
    | ((refine Go.Proofs.YtfiamddinkokbaaW.PrintLast.goes_ Try.func19 (by kernel_rfl) rfl #[.int .i64 wd,.slice (some ⟨_,0,none⟩) 3 3] (by rfl) rfl rfl (by (try simp only [List.map_toArray,List.map_cons,List.map_nil]);rfl) ?_;have _t:=tk3;refine (HC3.out _ _ ?rel ?hg).mono ?_;(case rel=>(first|(with_reducible exact Below.refl _ _)|(with_reducible exact below_alloc (Below.refl _ _) _)|(with_reducible exact below_alloc (below_alloc (Below.refl _ _) _) _)));(case hg=>(first|(with_reducible exact HS.out)|(with_reducible exact blk_alloc HS.out _)|(with_reducible exact World.alloc_heap_new _ _)|(with_reducible exact blk_alloc (World.alloc_heap_new _ _) _)|(with_reducible exact new1 _ _ _ _)));rintro e w7 ⟨rfl,hr,hr2,hb,hq⟩;clear tk3 HQ HC3;have HQ:=Aside0.mk hq;have HRL:=Aside0.mk hr;have HRR:=Aside0.mk hr2;(first|(have hz:=after_call hb HA.out;clear HA;have HA:=Aside0.mk hz;clear hz)|(have hz:=after_call hb (blk_alloc HA.out _);clear HA;have HA:=Aside0.mk hz;clear hz)|skip);(try (have hz:w7.heap[_]? = some (Obj.cells #[.slice none 0 0,.slice none 0 0,.slice none 0 0,.slice none 0 0,.string (⟨#[]⟩:ByteArray),.int .i64 0,.int .i64 0] 80 (0,0)):=(by first|(with_reducible exact af4 hb)|(with_reducible exact af4d hb)|(with_reducible exact af2 hb)|(with_reducible exact af2d hb)|(with_reducible exact af1 hb)|(with_reducible exact af1d hb));have HA:=Aside0.mk hz;clear hz));clear hr hr2 hb hq;(try (have hz7:=zero7 HA.out;obtain⟨e0,e1,e2,e3,e4,e5,e6,f0,f1,f2,f3,f4,f5,f6⟩:=hz7));refine⟨_,rfl,?_⟩)))
  all_goals go_wp2
  all_goals go_meet
  all_goals first
   | exact⟨_,A3,c3,A4,c4,rfl,⟨HQ.out.size⟩,⟨World.alloc_heap_new _ _⟩,⟨below_alloc HQ.out _⟩,⟨Kd.R_below HRL.out (below_alloc (Below.refl _ _) _)⟩,⟨Kd.R_below HRR.out (below_alloc (Below.refl _ _) _)⟩⟩
   | exact⟨_,A3,c3,A4,c4,rfl,⟨by have n5:=HN5.out;have n6:=HN6.out;omega⟩,⟨block_set7 HA.out _ _ _ _ _ _ _⟩,⟨below_set7 HQ.out (by have n5:=HN5.out;have n6:=HN6.out;omega) _ _ _ _ _ _ _⟩,⟨R_set7 HRL.out HA.out (by decide) _ _ _ _ _ _ _⟩,⟨R_set7 HRR.out HA.out (by decide) _ _ _ _ _ _ _⟩⟩
 case rest =>
  obtain⟨b12,A3,c3,A4,c4,rfl,HH,HZ,HW,HRL,HRR⟩:=hcut
  have hlo:w.heap.size+1<b11:=by have:=(Array.getElem?_eq_some_iff.1 HX8.out).1;have:=HZ4.out;have:=HLO.out;omega
  have hne:b11<b12:=by have:=(Array.getElem?_eq_some_iff.1 HX11.out).1;have:=HH.out;omega
  have HT:=Aside0.mk (TSt.mk (w:=w) (below_step HB.out HW.out) hlo hne (after_call HW.out HX7.out) (after_call HW.out HX8.out) (after_call HW.out HX11.out) HZ.out (Kd.R_below HR0.out HW.out) (Kd.R_below HR1.out HW.out) (Kd.R_below HR2'.out HW.out))
  have HRL':=Aside0.mk (Kd.R_lower HRL.out HB.out.size)
  have HRR':=Aside0.mk (Kd.R_lower HRR.out HB.out.size)
  have HKL:=Aside0.mk (Kd.R_reads' HRL.out)
  have HKR:=Aside0.mk (Kd.R_reads' HRR.out)
  clear hlo hne HH HZ HW HRL HRR HX11 HX7 HX8 HR0 HR1 HR2' HB HZ4 HLO HC1 hS4 p0 p1 p2 p4
  have p0:=(blk_cell HT.out.x11 0).trans (rfl:_=some (Value.slice A0 B.length c0))
  have p1:=(blk_cell HT.out.x11 1).trans (rfl:_=some (Value.slice A1 L.length c1))
  have p2:=(blk_cell HT.out.x11 2).trans (rfl:_=some (Value.slice A2 R.length c2))
  have e1':=(blk_cell HT.out.x12 1).trans (rfl:_=some (Value.slice A3 lp.length c3))
  have e2':=(blk_cell HT.out.x12 2).trans (rfl:_=some (Value.slice A4 rp.length c4))
  go_upto_region 7 with (first|(go_at_call 103;(with_reducible refine (chunk_Of.calls k _ _ _ A3 c3 lp A4 c4 rp cs e1 _ HKL.out.2.2 HKL.out.2.1 HKR.out.2.2 HKR.out.2.1 HOF.out).mono ?_);rintro e w8 ⟨v,rfl,hr,hb⟩;obtain⟨A5,c5,rfl⟩:=Kd.R_slice hr;have HT8:=Aside0.mk (HT.out.call hb);have HRL8:=Aside0.mk (Kd.R_below HRL'.out hb);have HRR8:=Aside0.mk (Kd.R_below HRR'.out hb);have HRC8:=Aside0.mk (Kd.R_lower hr HT.out.bel.size);clear hr hb HT HRL' HRR' HKL HKR p0 p1 p2 e1' e2';have e3:=(blk_cell HT8.out.x12 3).trans (rfl:_=some (Value.slice none 0 0));have f3:=Lib.frozen_of_heap HT8.out.x12 3))
  have HT9:=Aside0.mk (HT8.out.set 3 (.slice A5 cs.length c5) _ rfl)
  have HRL9:=Aside0.mk (Kd.R_set HRL8.out HT8.out.x12 (by decide) 3 (.slice A5 cs.length c5))
  have HRR9:=Aside0.mk (Kd.R_set HRR8.out HT8.out.x12 (by decide) 3 (.slice A5 cs.length c5))
  have HRC9:=Aside0.mk (Kd.R_set HRC8.out HT8.out.x12 (by decide) 3 (.slice A5 cs.length c5))
  clear HT8 HRL8 HRR8 HRC8 e3 f3
  generalize (w8.setCell ⟨b12,3,none⟩ (.slice A5 cs.length c5))=w9 at *
  have p0:=(blk_cell HT9.out.x11 0).trans (rfl:_=some (Value.slice A0 B.length c0))
  have p1:=(blk_cell HT9.out.x11 1).trans (rfl:_=some (Value.slice A1 L.length c1))
  have p2:=(blk_cell HT9.out.x11 2).trans (rfl:_=some (Value.slice A2 R.length c2))
  have m0:=(blk_cell HT9.out.x7 0).trans (rfl:_=some (Value.string g0))
  have m1:=(blk_cell HT9.out.x7 1).trans (rfl:_=some (Value.string g1))
  have m2:=(blk_cell HT9.out.x7 2).trans (rfl:_=some (Value.string g2))
  have m3:=(blk_cell HT9.out.x7 3).trans (rfl:_=some (Value.int .i64 st))
  have m5:=(blk_cell HT9.out.x7 5).trans (rfl:_=some (Value.int .i64 fv))
  have e3:=(blk_cell HT9.out.x12 3).trans (rfl:_=some (Value.slice A5 cs.length c5))
  go_upto_region 8 with (first|(go_at_call 104;(with_reducible refine (build_Doc.calls k A0 c0 B A1 c1 L A2 c2 R A5 c5 cs st g0 g1 g2 fv d e2 _ (Kd.R_reads' HT9.out.r0).2.2 (Kd.R_reads' HT9.out.r0).2.1 (Kd.R_reads' HT9.out.r1).2.2 (Kd.R_reads' HT9.out.r1).2.1 (Kd.R_reads' HT9.out.r2).2.2 (Kd.R_reads' HT9.out.r2).2.1 (Kd.R_reads' HRC9.out).2.2 (Kd.R_reads' HRC9.out).2.1 HD.out).mono ?_);rintro e w10 ⟨v,rfl,hr,hb⟩;obtain⟨A6,c6,rfl⟩:=Kd.R_slice hr;have HT10:=Aside0.mk (HT9.out.call hb);have HRL10:=Aside0.mk (Kd.R_below HRL9.out hb);have HRR10:=Aside0.mk (Kd.R_below HRR9.out hb);have HRC10:=Aside0.mk (Kd.R_below HRC9.out hb);have HRD10:=Aside0.mk (Kd.R_lower hr HT9.out.bel.size);clear hr hb HT9 HRL9 HRR9 HRC9 p0 p1 p2 m0 m1 m2 m3 m5 e3;have e0:=(blk_cell HT10.out.x12 0).trans (rfl:_=some (Value.slice none 0 0));have f0:=Lib.frozen_of_heap HT10.out.x12 0))
  have HT11:=Aside0.mk (HT10.out.set 0 (.slice A6 d.length c6) _ rfl)
  have HRL11:=Aside0.mk (Kd.R_set HRL10.out HT10.out.x12 (by decide) 0 (.slice A6 d.length c6))
  have HRR11:=Aside0.mk (Kd.R_set HRR10.out HT10.out.x12 (by decide) 0 (.slice A6 d.length c6))
  have HRC11:=Aside0.mk (Kd.R_set HRC10.out HT10.out.x12 (by decide) 0 (.slice A6 d.length c6))
  have HRD11:=Aside0.mk (Kd.R_set HRD10.out HT10.out.x12 (by decide) 0 (.slice A6 d.length c6))
  clear HT10 HRL10 HRR10 HRC10 HRD10 e0 f0
  generalize (w10.setCell ⟨b12,0,none⟩ (.slice A6 d.length c6))=w11 at *
  have e0:=(blk_cell HT11.out.x12 0).trans (rfl:_=some (Value.slice A6 d.length c6))
  have e5:=(blk_cell HT11.out.x12 5).trans (rfl:_=some (Value.int .i64 W6))
  go_upto_region 9 with (first|(go_at_call 47;(with_reducible refine (mark_Print.calls k A6 c6 d W6 t e3 _ (Kd.R_reads' HRD11.out).2.2 (Kd.R_reads' HRD11.out).2.1 HP.out).mono ?_);rintro e w12 ⟨rfl,hb⟩;have HT12:=Aside0.mk (HT11.out.call hb);have HRL12:=Aside0.mk (Kd.R_below HRL11.out hb);have HRR12:=Aside0.mk (Kd.R_below HRR11.out hb);have HRC12:=Aside0.mk (Kd.R_below HRC11.out hb);have HRD12:=Aside0.mk (Kd.R_below HRD11.out hb);clear hb HT11 HRL11 HRR11 HRC11 HRD11 e0 e5;have e4:=(blk_cell HT12.out.x12 4).trans (rfl:_=some (Value.string (⟨#[]⟩:ByteArray)));have f4:=Lib.frozen_of_heap HT12.out.x12 4))
  have HT13:=Aside0.mk (HT12.out.set 4 (.string t) _ rfl)
  have HRL13:=Aside0.mk (Kd.R_set HRL12.out HT12.out.x12 (by decide) 4 (.string t))
  have HRR13:=Aside0.mk (Kd.R_set HRR12.out HT12.out.x12 (by decide) 4 (.string t))
  have HRC13:=Aside0.mk (Kd.R_set HRC12.out HT12.out.x12 (by decide) 4 (.string t))
  have HRD13:=Aside0.mk (Kd.R_set HRD12.out HT12.out.x12 (by decide) 4 (.string t))
  clear HT12 HRL12 HRR12 HRC12 HRD12 e4 f4
  generalize (w12.setCell ⟨b12,4,none⟩ (.string t))=w13 at *
  have p0:=(blk_cell HT13.out.x11 0).trans (rfl:_=some (Value.slice A0 B.length c0))
  have p1:=(blk_cell HT13.out.x11 1).trans (rfl:_=some (Value.slice A1 L.length c1))
  have p2:=(blk_cell HT13.out.x11 2).trans (rfl:_=some (Value.slice A2 R.length c2))
  have e3:=(blk_cell HT13.out.x12 3).trans (rfl:_=some (Value.slice A5 cs.length c5))
  go_upto_region 10 with (first|(go_at_call 105;(with_reducible refine (build_Count.calls k A0 c0 B A1 c1 L A2 c2 R A5 c5 cs n _ (Kd.R_reads' HT13.out.r0).2.2 (Kd.R_reads' HT13.out.r0).2.1 (Kd.R_reads' HT13.out.r1).2.2 (Kd.R_reads' HT13.out.r1).2.1 (Kd.R_reads' HT13.out.r2).2.2 (Kd.R_reads' HT13.out.r2).2.1 (Kd.R_reads' HRC13.out).2.2 (Kd.R_reads' HRC13.out).2.1 HN.out).mono ?_);rintro e w14 ⟨rfl,hb⟩;have HT14:=Aside0.mk (HT13.out.call hb);have HRL14:=Aside0.mk (Kd.R_below HRL13.out hb);have HRR14:=Aside0.mk (Kd.R_below HRR13.out hb);have HRC14:=Aside0.mk (Kd.R_below HRC13.out hb);have HRD14:=Aside0.mk (Kd.R_below HRD13.out hb);clear hb HT13 HRL13 HRR13 HRC13 HRD13 p0 p1 p2 e3;have e6:=(blk_cell HT14.out.x12 6).trans (rfl:_=some (Value.int .i64 0));have f6:=Lib.frozen_of_heap HT14.out.x12 6))
  have HT15:=Aside0.mk (HT14.out.set 6 (.int .i64 n) _ rfl)
  have HRL15:=Aside0.mk (Kd.R_set HRL14.out HT14.out.x12 (by decide) 6 (.int .i64 n))
  have HRR15:=Aside0.mk (Kd.R_set HRR14.out HT14.out.x12 (by decide) 6 (.int .i64 n))
  have HRC15:=Aside0.mk (Kd.R_set HRC14.out HT14.out.x12 (by decide) 6 (.int .i64 n))
  have HRD15:=Aside0.mk (Kd.R_set HRD14.out HT14.out.x12 (by decide) 6 (.int .i64 n))
  clear HT14 HRL14 HRR14 HRC14 HRD14 e6 f6
  generalize (w14.setCell ⟨b12,6,none⟩ (.int .i64 n))=w15 at *
  have e0:=(blk_cell HT15.out.x12 0).trans (rfl:_=some (Value.slice A6 d.length c6))
  have e1:=(blk_cell HT15.out.x12 1).trans (rfl:_=some (Value.slice A3 lp.length c3))
  have e2:=(blk_cell HT15.out.x12 2).trans (rfl:_=some (Value.slice A4 rp.length c4))
  have e3:=(blk_cell HT15.out.x12 3).trans (rfl:_=some (Value.slice A5 cs.length c5))
  have e4:=(blk_cell HT15.out.x12 4).trans (rfl:_=some (Value.string t))
  have e5:=(blk_cell HT15.out.x12 5).trans (rfl:_=some (Value.int .i64 W6))
  have e6:=(blk_cell HT15.out.x12 6).trans (rfl:_=some (Value.int .i64 n))
  obtain⟨i0,i1,i2,i3,i4,i5,i6,j0,j1,j2,j3,j4,j5,j6⟩:=zero7 HT15.out.x8
  go_wp2
  refine bodyPost_ret (results_ct rfl _ _ (w.heap.size+1) 80 #[.slice A6 d.length c6,.slice A3 lp.length c3,.slice A4 rp.length c4,.slice A5 cs.length c5,.string t,.int .i64 W6,.int .i64 n] (0,0) _ rfl (block_set7 HT15.out.x8 _ _ _ _ _ _ _) Try.underlying80 rfl (by kernel_rfl)) rfl ?_
  exact⟨_,_,_,_,rfl,R_set7 HRD15.out HT15.out.x8 (by decide) _ _ _ _ _ _ _,R_set7 HRL15.out HT15.out.x8 (by decide) _ _ _ _ _ _ _,R_set7 HRR15.out HT15.out.x8 (by decide) _ _ _ _ _ _ _,R_set7 HRC15.out HT15.out.x8 (by decide) _ _ _ _ _ _ _,below_set7 HT15.out.bel (by omega) _ _ _ _ _ _ _⟩
def textsF (k : Nat) (a0 a1 a2 g0 g1 g2 : ByteArray) (st wd fv : Int) : Option (List PP×List SP×List SP×List SC×ByteArray×Int×Int×Int) :=
 if a0.size≤1000000000000∧a1.size≤1000000000000∧a2.size≤1000000000000 then
  (merge_Options_wrong.f k g0 g1 g2 st wd fv ((a0.size:Int)+a1.size+a2.size)).bind fun ec=>if ec=0 then
   (lines_Split.f a0).bind fun B=>(lines_Split.f a1).bind fun L=>(lines_Split.f a2).bind fun R=>(merge_match.f B L).bind fun lp=>(merge_match.f B R).bind fun rp=>(doc_Width.f k wd [a0,a1,a2]).bind fun W6 =>
    (chunk_Of.f k (B.length:Int) (L.length:Int) (R.length:Int) lp rp).bind fun cs=>(build_Doc.f k B L R cs.1 st g0 g1 g2 fv).bind fun d=>(mark_Print.f k d.1 W6).bind fun t=>(build_Count.f k B L R cs.1).bind fun n=>some (d.1,lp,rp,cs.1,t.1,W6,n,0)
  else some ([],[],[],[],⟨#[]⟩,0,0,ec)
 else none
theorem texts_mono : ∀ a0 a1 a2 g0 g1 g2 st wd fv k,LeO (textsF k a0 a1 a2 g0 g1 g2 st wd fv) (textsF (k+1) a0 a1 a2 g0 g1 g2 st wd fv) := fun a0 a1 a2 g0 g1 g2 st wd fv k=>by
 unfold textsF
 exact LeO.ite (LeO.bind (merge_Options_wrong.mono _ _ _ _ _ _ _ k) (fun ec=>LeO.ite (LeO.bind (LeO.refl _) (fun B=>LeO.bind (LeO.refl _) (fun L=>LeO.bind (LeO.refl _) (fun R=>LeO.bind (LeO.refl _) (fun lp=>LeO.bind (LeO.refl _) (fun rp=>LeO.bind (doc_Width.mono _ _ k) (fun W6 =>
  LeO.bind (chunk_Of.mono _ _ _ _ _ k) (fun cs=>LeO.bind (build_Doc.mono _ _ _ _ _ _ _ _ _ k) (fun d=>LeO.bind (mark_Print.mono _ _ k) (fun t=>LeO.bind (build_Count.mono _ _ _ _ k) (fun n=>LeO.refl _))))))))))) (LeO.refl _))) (LeO.refl _)
theorem texts_calls (k : Nat) (a0 a1 a2 g0 g1 g2 : ByteArray) (st wd fv : Int) (r1 : List PP) (r2 r3 : List SP) (r4 : List SC) (r5 : ByteArray) (r6 r7 r8 : Int) (w : World) (h : textsF k a0 a1 a2 g0 g1 g2 st wd fv=some (r1,r2,r3,r4,r5,r6,r7,r8)) :
  Calls Try.prog 58 #[.string a0,.string a1,.string a2,.agg #[.string g0,.string g1,.string g2,.int .i64 st,.int .i64 wd,.int .i64 fv]] w (Texted w r1 r2 r3 r4 r5 r6 r7 r8):=by
 unfold textsF at h
 split at h
 case isFalse=>cases h
 case isTrue hs =>
 obtain⟨ec,hec,h⟩:=Option.bind_eq_some_iff.1 h
 split at h
 ·rename_i h0
  subst h0
  obtain⟨B,hB,h⟩:=Option.bind_eq_some_iff.1 h
  obtain⟨L,hL,h⟩:=Option.bind_eq_some_iff.1 h
  obtain⟨R,hR,h⟩:=Option.bind_eq_some_iff.1 h
  obtain⟨lp,hlp,h⟩:=Option.bind_eq_some_iff.1 h
  obtain⟨rp,hrp,h⟩:=Option.bind_eq_some_iff.1 h
  obtain⟨W6,hW6,h⟩:=Option.bind_eq_some_iff.1 h
  obtain⟨⟨cs,e1⟩,hcs,h⟩:=Option.bind_eq_some_iff.1 h
  obtain⟨⟨d,e2⟩,hd,h⟩:=Option.bind_eq_some_iff.1 h
  obtain⟨⟨t,e3⟩,ht,h⟩:=Option.bind_eq_some_iff.1 h
  obtain⟨n,hn,h⟩:=Option.bind_eq_some_iff.1 h
  simp only [Option.some.injEq,Prod.mk.injEq] at h
  obtain⟨rfl,rfl,rfl,rfl,rfl,rfl,rfl,rfl⟩:=h
  exact texts_good k a0 a1 a2 g0 g1 g2 st wd fv W6 e1 e2 e3 n B L R lp rp cs d t w hs hec hB hL hR hlp hrp hW6 hcs hd ht hn
 ·rename_i h0
  simp only [Option.some.injEq,Prod.mk.injEq] at h
  obtain⟨rfl,rfl,rfl,rfl,rfl,rfl,rfl,rfl⟩:=h
  exact texts_bad k a0 a1 a2 g0 g1 g2 st wd fv ec w hs hec h0
end Go.Proofs.Ytfiamddinkokbaa.F
end

section
namespace Go.Proofs.Ytfiamddinkokbaa.F
open Go.RowKit Go.Proofs.YtfiamddinkokbaaW.PrintWords Go.Proofs.YtfiamddinkokbaaW.PrintLast Go.Proofs.YtfiamddinkokbaaW.PrintMore
attribute [local go_sem] max2_int min2_int max_two min_two max_three min_three max_four min_four
def merge_Texts.f (k : Nat) (a0 : ByteArray) (a1 : ByteArray) (a2 : ByteArray) (a3_0 : ByteArray) (a3_1 : ByteArray) (a3_2 : ByteArray) (a3_3 : Int) (a3_4 : Int) (a3_5 : Int) : Option ((List S106)×(List S196)×(List S196)×(List S91)×ByteArray×Int×Int×Int) := textsF k a0 a1 a2 a3_0 a3_1 a3_2 a3_3 a3_4 a3_5
theorem merge_Texts.mono : ∀ a0 a1 a2 a3 a4 a5 a6 a7 a8 k,LeO (merge_Texts.f k a0 a1 a2 a3 a4 a5 a6 a7 a8) (merge_Texts.f (k+1) a0 a1 a2 a3 a4 a5 a6 a7 a8) := texts_mono
theorem merge_Texts.calls (k : Nat) (a0 : ByteArray) (a1 : ByteArray) (a2 : ByteArray) (a3_0 : ByteArray) (a3_1 : ByteArray) (a3_2 : ByteArray) (a3_3 : Int) (a3_4 : Int) (a3_5 : Int) (r1 : List (S106)) (r2 : List (S196)) (r3 : List (S196)) (r4 : List (S91)) (r5 : ByteArray) (r6 : Int) (r7 : Int) (r8 : Int) (w : World) (h : merge_Texts.f k a0 a1 a2 a3_0 a3_1 a3_2 a3_3 a3_4 a3_5=some (r1,r2,r3,r4,r5,r6,r7,r8)) :
  Calls Try.prog 58 #[.string a0,.string a1,.string a2,.agg #[.string a3_0,.string a3_1,.string a3_2,.int .i64 a3_3,.int .i64 a3_4,.int .i64 a3_5]] w fun e w'=>∃ v0_ v1_ v2_ v3_:Value,e = .returned (.tuple #[.agg #[v0_,v1_,v2_,v3_,.string r5,.int .i64 r6,.int .i64 r7],.int .i64 r8])∧Kd.R k106 106 w' w.heap.size (fun _=>True) v0_ r1∧Kd.R k196 196 w' w.heap.size (fun k_=>some k_≠(v2_:Value).ownBlock) v1_ r2∧Kd.R k196 196 w' w.heap.size (fun k_=>some k_≠(v1_:Value).ownBlock) v2_ r3∧Kd.R k91 91 w' w.heap.size (fun _=>True) v3_ r4∧Below w.heap.size w w':=by
 obtain h:=texts_calls k a0 a1 a2 a3_0 a3_1 a3_2 a3_3 a3_4 a3_5 r1 r2 r3 r4 r5 r6 r7 r8 w h
 refine h.mono ?_
 rintro e w' ⟨v0,v1,v2,v3,rfl,h0,h1,h2,h3,hb⟩
 exact⟨v0,v1,v2,v3,rfl,h0,h1,h2,h3,hb⟩
def merge_Default.f  : Option (ByteArray×ByteArray×ByteArray×Int×Int×Int) := some ((⟨#[]⟩ : ByteArray),(⟨#[]⟩ : ByteArray),(⟨#[]⟩ : ByteArray),0,7,0)
set_option maxHeartbeats 8000000 in
set_option maxRecDepth 100000 in
theorem merge_Default.calls  (r1 : ByteArray) (r2 : ByteArray) (r3 : ByteArray) (r4 : Int) (r5 : Int) (r6 : Int) (w : World) (h : merge_Default.f  = some (r1,r2,r3,r4,r5,r6)) :
  Calls Try.prog 100 #[] w fun e w'=>e = .returned (.agg #[.string r1,.string r2,.string r3,.int .i64 r4,.int .i64 r5,.int .i64 r6])∧Below w.heap.size w w':=by
 have hu86:=Try.underlying86
 have HB:=Aside0.mk (Below.refl w.heap.size w)
 have H:(some ((⟨#[]⟩:ByteArray),(⟨#[]⟩:ByteArray),(⟨#[]⟩:ByteArray),0,7,0))=some (r1,r2,r3,r4,r5,r6):=h
 clear h
 simp only [Option.some.injEq,Prod.mk.injEq] at H
 obtain⟨rfl,rfl,rfl,rfl,rfl,rfl⟩:=H
 go_enter Try.func100,Try.ntmps100
 go_wp2_with (first|((with_reducible refine gate_dst (N:=0) rfl ?_);refine box_event ?hg (N:=0) ?hd (cs:=#[.string (⟨#[]⟩:ByteArray),.string (⟨#[]⟩:ByteArray),.string (⟨#[]⟩:ByteArray),.int .i64 0,.int .i64 0,.int .i64 0]) (t:=86) ?hr ?_;(case hd=>rfl);(case hg=>rfl);(case hr=>first|(go_simp;done)|(go_simp;rfl));intro gb554 hg w1 hbox hb;have n0_:=Aside0.mk (below_step (by repeat (first|(with_reducible first|exact HB.out|apply below_alloc|apply pw_below_drewN|apply below_drew1)|exact HB.out)) hb);have n1_:=Aside0.mk (hbox);have n2_:=Aside0.mk ((by rw [hg];exact (below_size (by repeat (first|(with_reducible first|exact HB.out|apply below_alloc|apply pw_below_drewN|apply below_drew1)|exact HB.out))):w.heap.size≤gb554));have n3_:=Aside0.mk ((by rw [hg];exact (below_size (by repeat (first|(with_reducible first|exact HB.out|apply below_alloc|apply pw_below_drewN|apply below_drew1)|exact HB.out))):w.heap.size≤gb554));clear HB;have HB:=n0_;have BK554:=n1_;have GW554:=n2_;have GE554:=n3_;clear n0_ n1_ n2_ n3_;clear hb hbox hg;have hcz2_0:w1.cell? ⟨gb554,0,none⟩=some (.string (⟨#[]⟩:ByteArray)):=(blk_cell BK554.out 0).trans rfl;have hcz2_1:w1.cell? ⟨gb554,1,none⟩=some (.string (⟨#[]⟩:ByteArray)):=(blk_cell BK554.out 1).trans rfl;have hcz2_2:w1.cell? ⟨gb554,2,none⟩=some (.string (⟨#[]⟩:ByteArray)):=(blk_cell BK554.out 2).trans rfl;have hcz2_3:w1.cell? ⟨gb554,3,none⟩=some (.int .i64 0):=(blk_cell BK554.out 3).trans rfl;have hcz2_4:w1.cell? ⟨gb554,4,none⟩=some (.int .i64 0):=(blk_cell BK554.out 4).trans rfl;have hcz2_5:w1.cell? ⟨gb554,5,none⟩=some (.int .i64 0):=(blk_cell BK554.out 5).trans rfl;have hfz2_0:=blk_frozen BK554.out 0;have hfz2_1:=blk_frozen BK554.out 1;have hfz2_2:=blk_frozen BK554.out 2;have hfz2_3:=blk_frozen BK554.out 3;have hfz2_4:=blk_frozen BK554.out 4;have hfz2_5:=blk_frozen BK554.out 5))
 refine bodyPost_ret (results_cell_row rfl _ _ gb554 86 #[.string (⟨#[]⟩:ByteArray),.string (⟨#[]⟩:ByteArray),.string (⟨#[]⟩:ByteArray),.int .i64 0,.int .i64 7,.int .i64 0] (0,0) _ rfl (by (with_reducible repeat (first|refine blk_drewN ?_ _|refine blk_drew ?_|refine blk_alloc ?_ _));refine blk_put (cs:=#[.string (⟨#[]⟩:ByteArray),.string (⟨#[]⟩:ByteArray),.string (⟨#[]⟩:ByteArray),.int .i64 0,.int .i64 7,.int .i64 0]) ?_ 5 _ rfl;(with_reducible repeat (first|refine blk_drewN ?_ _|refine blk_drew ?_|refine blk_alloc ?_ _));refine blk_put (cs:=#[.string (⟨#[]⟩:ByteArray),.string (⟨#[]⟩:ByteArray),.string (⟨#[]⟩:ByteArray),.int .i64 0,.int .i64 0,.int .i64 0]) ?_ 4 _ rfl;(with_reducible repeat (first|refine blk_drewN ?_ _|refine blk_drew ?_|refine blk_alloc ?_ _));refine blk_put (cs:=#[.string (⟨#[]⟩:ByteArray),.string (⟨#[]⟩:ByteArray),.string (⟨#[]⟩:ByteArray),.int .i64 0,.int .i64 0,.int .i64 0]) ?_ 3 _ rfl;(with_reducible repeat (first|refine blk_drewN ?_ _|refine blk_drew ?_|refine blk_alloc ?_ _));refine blk_put (cs:=#[.string (⟨#[]⟩:ByteArray),.string (⟨#[]⟩:ByteArray),.string (⟨#[]⟩:ByteArray),.int .i64 0,.int .i64 0,.int .i64 0]) ?_ 2 _ rfl;(with_reducible repeat (first|refine blk_drewN ?_ _|refine blk_drew ?_|refine blk_alloc ?_ _));refine blk_put (cs:=#[.string (⟨#[]⟩:ByteArray),.string (⟨#[]⟩:ByteArray),.string (⟨#[]⟩:ByteArray),.int .i64 0,.int .i64 0,.int .i64 0]) ?_ 1 _ rfl;(with_reducible repeat (first|refine blk_drewN ?_ _|refine blk_drew ?_|refine blk_alloc ?_ _));refine blk_put (cs:=#[.string (⟨#[]⟩:ByteArray),.string (⟨#[]⟩:ByteArray),.string (⟨#[]⟩:ByteArray),.int .i64 0,.int .i64 0,.int .i64 0]) ?_ 0 _ rfl;(with_reducible repeat (first|refine blk_drewN ?_ _|refine blk_drew ?_|refine blk_alloc ?_ _));exact BK554.out) Try.underlying86 rfl (by kernel_rfl)) rfl ?_
 exact⟨by first|rfl|(simp [errW_none,errW_some]<;>rfl)|(simp [*,errW_none,errW_some]<;>rfl),by repeat (first|(with_reducible first|exact HB.out|apply below_alloc|apply pw_below_drewN|apply below_drew1|refine below_set ?_ GE554.out)|exact HB.out)⟩

end Go.Proofs.Ytfiamddinkokbaa.F
end

section
namespace Go.Proofs.Ytfiamddinkokbaa.F
open Go.RowKit Go.Shelf Go.Proofs.YtfiamddinkokbaaW.PrintWords

end Go.Proofs.Ytfiamddinkokbaa.F
end
