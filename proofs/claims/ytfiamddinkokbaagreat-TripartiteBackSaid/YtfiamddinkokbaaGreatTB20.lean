/- Texts joined into one file (wip/tools/pack.py): BackWalk, OpenHow -/
import Derived.Test.YtfiamddinkokbaaGreatTB2
import Derived.Test.YtfiamddinkokbaaGreatTB19
import Derived.Test.YtfiamddinkokbaaGreatTB17
import Derived.Test.YtfiamddinkokbaaGreatTB11
import Derived.Test.YtfiamddinkokbaaGreatTB8
import Derived.Test.YtfiamddinkokbaaGreatTB14
import Derived.Test.YtfiamddinkokbaaGreatTB15
import Derived.Test.YtfiamddinkokbaaGreatTB18
import Derived.Laws.IdiomArrays
import Derived.OpenShut
set_option linter.unusedVariables false
set_option linter.unusedSimpArgs false
section
namespace Go.Proofs.YtfiamddinkokbaaGreat.F
open Go.RowKit Go.Shelf Go.Proofs.YtfiamddinkokbaaGreatW.PrintWords
theorem keep9 {W0 w' : World} {a b c d e f g h i : Addr} {va vb vc vd ve vf vg vh vi : Value} (hb : Below W0.heap.size W0 w') (k : W0.cell? a=some va∧W0.cell? b=some vb∧W0.cell? c=some vc∧W0.cell? d=some vd∧W0.cell? e=some ve∧W0.cell? f=some vf∧W0.cell? g=some vg∧W0.cell? h=some vh∧W0.cell? i=some vi) :
  w'.cell? a=some va∧w'.cell? b=some vb∧w'.cell? c=some vc∧w'.cell? d=some vd∧w'.cell? e=some ve∧w'.cell? f=some vf∧w'.cell? g=some vg∧w'.cell? h=some vh∧w'.cell? i=some vi:=by
 obtain⟨h1,h2,h3,h4,h5,h6,h7,h8,h9⟩:=k
 have t:∀ {p:Addr} {v:Value},W0.cell? p=some v→w'.cell? p=some v:=fun h=>(hb.cell (World.block_lt_of_cell? W0 _ h)).trans h
 exact⟨t h1,t h2,t h3,t h4,t h5,t h6,t h7,t h8,t h9⟩
set_option maxHeartbeats 8000000 in
set_option maxRecDepth 100000 in
theorem back_no {a0 a1 a2 g0 g1 g2 : ByteArray} {st wd fv : Int} {w : World} (s0 : g0.size≤140737488351232) (s1 : g1.size≤140737488351232) (s2 : g2.size≤140737488351232) (hf : ¬ g0.size+g1.size+g2.size≤500) :
  Calls Tryz.prog 6 #[.agg #[.string a0,.string a1,.string a2],.agg #[.int .i64 st,.int .i64 wd,.int .i64 fv,.string g0,.string g1,.string g2]] w fun e w'=>e = .returned (.bool true)∧Below w.heap.size w w':=by
 have HF:=Zd (fun W=>fits_bool (st:=st) (wd:=wd) (fv:=fv) s0 s1 s2 W)
 rw [decide_eq_false hf] at HF
 have HT:=Zd (fun W=>alive_calls W)
 clear s0 s1 s2 hf
 go_enter Tryz.func6,Tryz.ntmps6
 go_wp2_with (first
  | (go_at_call 7;(with_reducible refine (HF.out _).mono ?_);rintro e w1 ⟨rfl,hb⟩;have HB:=Zd (below_step (below_alloc (below_alloc (Below.refl _ _) _) _) hb);have HT3:=Zd (af2 hb);have HH3:=Zd (af4 hb);clear hb)
  | (go_at_call 8;(with_reducible refine (HT.out _).mono ?_);rintro e w2 ⟨rfl,hb⟩;have HB2:=Zd (below_step HB.out hb);clear hb))
 go_ret
 exact⟨rfl,HB2.out⟩
theorem back_facts {x y z g0 g1 g2 : ByteArray} {st wd : Int} (ho : Okay g0 g1 g2 st wd 0) (hg : g0.size+g1.size+g2.size≤500) (sx : x.size≤250) (sy : y.size≤250) (sz : z.size≤250) :
  ∃ (k1 kp ks kc:Nat) (d:List PP) (lp rp:List SP) (cs:List SC) (t:ByteArray) (W n:Int),textsF k1 x y z g0 g1 g2 st wd 0=some (d,lp,rp,cs,t,W,n,0)∧parse_Text.f t W=some (d,0,0)∧mark_Print.f kp d W=some (t,0)∧doc_Same.f ks d d=some true∧doc_Doc_Conflicts.f kc d=some n:=by
 obtain⟨d,lp,rp,cs,t,W,n,hd,hc,e1,e2,e3,e4⟩:=ev_back ho hg sx sy sz
 obtain⟨k1,h1⟩:=e1.get
 obtain⟨kp,hp⟩:=e3.get
 obtain⟨ks,hs⟩:=(ev_doc_same d d (by omega) (by omega)).get
 obtain⟨kc,hcf⟩:=(ev_confs (d.map to106) (by rw [List.length_map];omega)).get
 rw [sameP_refl] at hs
 rw [←e4] at hcf
 exact⟨k1,kp,ks,kc,d.map to106,lp,rp,cs,t,W,n,h1,e2,hp,hs,hcf⟩
theorem texts_doc {k : Nat} {a b c g0 g1 g2 : ByteArray} {st wd fv : Int} {d : List PP} {lp rp : List SP} {cs : List SC} {t : ByteArray} {W n ec : Int} (h : textsF k a b c g0 g1 g2 st wd fv=some (d,lp,rp,cs,t,W,n,ec)) {w0 : World} (w : World) (hw : Below w0.heap.size w0 w) :
  Calls Tryz.prog 11 #[.string a,.string b,.string c,.agg #[.string g0,.string g1,.string g2,.int .i64 st,.int .i64 wd,.int .i64 fv]] w fun e w'=>∃ (A0 A1 A2 A3:Option Addr) (c0 c1 c2 c3:Nat),e = .returned (.tuple #[.agg #[.slice A0 d.length c0,.slice A1 lp.length c1,.slice A2 rp.length c2,.slice A3 cs.length c3,.string t,.int .i64 W,.int .i64 n],.int .i64 ec]) ∧
   Kd.R k124 124 w' w0.heap.size (fun _=>True) (.slice A0 d.length c0) d∧Below w.heap.size w w':=by
 refine (texts_calls k a b c g0 g1 g2 st wd fv d lp rp cs t W n ec w h).mono ?_
 rintro e w' ⟨v0,v1,v2,v3,rfl,h0,h1,h2,h3,hb⟩
 obtain⟨A0,c0,rfl⟩:=Kd.R_slice h0
 obtain⟨A1,c1,rfl⟩:=Kd.R_slice h1
 obtain⟨A2,c2,rfl⟩:=Kd.R_slice h2
 obtain⟨A3,c3,rfl⟩:=Kd.R_slice h3
 exact⟨A0,A1,A2,A3,c0,c1,c2,c3,rfl,Kd.R_mono (Kd.R_lower h0 hw.size) (fun _ _=>trivial),hb⟩
set_option maxHeartbeats 16000000 in
set_option maxRecDepth 100000 in
theorem back_yes {a0 a1 a2 g0 g1 g2 : ByteArray} {st wd fv : Int} {w : World} (s0 : g0.size≤140737488351232) (s1 : g1.size≤140737488351232) (s2 : g2.size≤140737488351232) (hf : g0.size+g1.size+g2.size≤500) :
  Calls Tryz.prog 6 #[.agg #[.string a0,.string a1,.string a2],.agg #[.int .i64 st,.int .i64 wd,.int .i64 fv,.string g0,.string g1,.string g2]] w fun e w'=>e = .returned (.bool true)∧Below w.heap.size w w':=by
 have HF:=Zd (fun W=>fits_bool (st:=st) (wd:=wd) (fv:=fv) s0 s1 s2 W)
 rw [decide_eq_true hf] at HF
 have HT:=Zd (fun W=>alive_calls W)
 obtain⟨x,hx,sx⟩:=short_f a0
 obtain⟨y,hy,sy⟩:=short_f a1
 obtain⟨z,hz,sz⟩:=short_f a2
 have HX:=Zd (fun W=>tripartitelaw12_Short.calls a0 x W hx)
 have HY:=Zd (fun W=>tripartitelaw12_Short.calls a1 y W hy)
 have HZ0:=Zd (fun W=>tripartitelaw12_Short.calls a2 z W hz)
 obtain⟨l0,l1,l2,st',wd',ho,hg,he⟩:=ev_options2 st wd fv g0 g1 g2 hf
 obtain⟨ko,hk⟩:=he.get
 have HO:=Zd (fun W=>tripartitelaw12_Options.calls ko st wd fv g0 g1 g2 l0 l1 l2 st' wd' 0 W hk)
 obtain⟨k1,kp,ks,kc,d,lp,rp,cs,t,W,n,h1,h2,h3,h4,h5⟩:=back_facts ho hg sx sy sz
 have H1':=Zd (fun (w0 V:World) (hV:Below w0.heap.size w0 V)=>texts_doc h1 V hV)
 have H2:=Zd (fun V=>parse_Text.calls t W d 0 0 V h2)
 have H3:=Zd (fun V A c (hr:Kd.C k124 V A d.length d) hc=>mark_Print.calls kp A c d W t 0 V hr hc h3)
 have H4:=Zd (fun V A c (hr:Kd.C k124 V A d.length d) hc A' c' (hr':Kd.C k124 V A' d.length d) hc'=>doc_Same.calls ks A c d A' c' d true V hr hc hr' hc' h4)
 have H5:=Zd (fun V A c (hr:Kd.C k124 V A d.length d) hc=>doc_Doc_Conflicts.calls kc A c d n V hr hc h5)
 clear s0 s1 s2 hf hx sx hy sy hz sz ho hg he hk h1 h2 h3 h4 h5
 go_enter Tryz.func6,Tryz.ntmps6
 go_upto_region 3 with (first
  | (go_at_call 7;(with_reducible refine (HF.out _).mono ?_);rintro e w1 ⟨rfl,hb⟩;have HB:=Zd (below_step (below_alloc (below_alloc (Below.refl _ _) _) _) hb);have HT3:=Zd (af2 hb);have HH3:=Zd (af4 hb);clear hb))
 have H1:=Zd (H1'.out w1)
 have hS9:w1.cell? ⟨w.heap.size,0,none⟩=some (.string a0)∧w1.cell? ⟨w.heap.size,1,none⟩=some (.string a1)∧w1.cell? ⟨w.heap.size,2,none⟩=some (.string a2)∧w1.cell? ⟨w.heap.size+1,0,none⟩=some (.int .i64 st)∧w1.cell? ⟨w.heap.size+1,1,none⟩=some (.int .i64 wd)∧w1.cell? ⟨w.heap.size+1,2,none⟩=some (.int .i64 fv)∧w1.cell? ⟨w.heap.size+1,3,none⟩=some (.string g0)∧w1.cell? ⟨w.heap.size+1,4,none⟩=some (.string g1)∧w1.cell? ⟨w.heap.size+1,5,none⟩=some (.string g2):=⟨(blk_cell HT3.out 0).trans rfl,(blk_cell HT3.out 1).trans rfl,(blk_cell HT3.out 2).trans rfl,(blk_cell HH3.out 0).trans rfl,(blk_cell HH3.out 1).trans rfl,(blk_cell HH3.out 2).trans rfl,(blk_cell HH3.out 3).trans rfl,(blk_cell HH3.out 4).trans rfl,(blk_cell HH3.out 5).trans rfl⟩
 clear HF H1'
 go_cut [5,6] (fun v5 v6 wc=>∃ (g:Nat) (A0 A1 A2 A3:Option Addr) (c0 c1 c2 c3:Nat),v5 = .pointer (some ⟨g,0,none⟩)∧v6 = .int .i64 0∧Aside0 (wc.heap[g]? = some (.cells #[.slice A0 d.length c0,.slice A1 lp.length c1,.slice A2 rp.length c2,.slice A3 cs.length c3,.string t,.int .i64 W,.int .i64 n] 38 (0,0)))∧Aside0 (Below w1.heap.size w1 wc)∧Aside0 (Kd.R k124 124 wc w1.heap.size (fun _=>True) (.slice A0 d.length c0) d))
 case first =>
  have HQ:Aside0 (Below w1.heap.size w1 w1.drew):=⟨below_drew (Below.refl _ _)⟩
  have tkX:True:=trivial
  have tkY:True:=trivial
  have tkZ:True:=trivial
  clear H2 H3 H4 H5 HT
  go_wp2
  go_region_held3 (fun w'=>w'.cell? ⟨w.heap.size,0,none⟩=some (.string a0)∧w'.cell? ⟨w.heap.size,1,none⟩=some (.string a1)∧w'.cell? ⟨w.heap.size,2,none⟩=some (.string a2)∧w'.cell? ⟨w.heap.size+1,0,none⟩=some (.int .i64 st)∧w'.cell? ⟨w.heap.size+1,1,none⟩=some (.int .i64 wd)∧w'.cell? ⟨w.heap.size+1,2,none⟩=some (.int .i64 fv)∧w'.cell? ⟨w.heap.size+1,3,none⟩=some (.string g0)∧w'.cell? ⟨w.heap.size+1,4,none⟩=some (.string g1)∧w'.cell? ⟨w.heap.size+1,5,none⟩=some (.string g2))
   (((with_reducible refine keep9 (W0:=w1) ?_ hS9);(first|(with_reducible exact HQ.out)|(with_reducible exact below_alloc HQ.out _)|(with_reducible exact below_drew (below_alloc (Below.refl _ _) _))|(refine below_set7 HQ.out ?_ _ _ _ _ _ _ _;omega))))
   (first
    | ((refine Go.Proofs.YtfiamddinkokbaaGreatW.PrintLast.goes_ Tryz.func9 (by kernel_rfl) rfl #[.string a0] (by rfl) rfl rfl (by (try simp only [List.map_toArray,List.map_cons,List.map_nil]);first|done|rfl) ?_;have _t:=tkX;refine (HX.out _).mono ?_;rintro e wa ⟨rfl,hb⟩;have hq:Below w1.heap.size w1 wa:=below_step (by first|(with_reducible exact HQ.out)|(with_reducible exact below_alloc HQ.out _)|(with_reducible exact below_drew (below_alloc (Below.refl _ _) _))) hb;have hna:w1.heap.size≤wa.heap.size:=hq.size;clear HQ;have HQ:=Zd hq;clear hq;(first|(have hz:wa.heap[_]? = some (Obj.cells #[.slice none 0 0,.slice none 0 0,.slice none 0 0,.slice none 0 0,.string (⟨#[]⟩:ByteArray),.int .i64 0,.int .i64 0] 38 (0,0)):=(by first|(with_reducible exact after_alloc_drew hb)|(with_reducible exact after_alloc hb));have HZ:=Zd hz;clear hz)|(have hz_:=Zd (after_call hb HZ.out);clear HZ;have HZ:=hz_)|skip);clear hb tkX;refine⟨_,rfl,?_⟩))
    | ((refine Go.Proofs.YtfiamddinkokbaaGreatW.PrintLast.goes_ Tryz.func9 (by kernel_rfl) rfl #[.string a1] (by rfl) rfl rfl (by (try simp only [List.map_toArray,List.map_cons,List.map_nil]);first|done|rfl) ?_;have _t:=tkY;refine (HY.out _).mono ?_;rintro e wb ⟨rfl,hb⟩;have hq:Below w1.heap.size w1 wb:=below_step (by first|(with_reducible exact HQ.out)|(with_reducible exact below_alloc HQ.out _)|(with_reducible exact below_drew (below_alloc (Below.refl _ _) _))) hb;have hnb:w1.heap.size≤wb.heap.size:=hq.size;clear HQ;have HQ:=Zd hq;clear hq;(first|(have hz:wb.heap[_]? = some (Obj.cells #[.slice none 0 0,.slice none 0 0,.slice none 0 0,.slice none 0 0,.string (⟨#[]⟩:ByteArray),.int .i64 0,.int .i64 0] 38 (0,0)):=(by first|(with_reducible exact after_alloc_drew hb)|(with_reducible exact after_alloc hb));have HZ:=Zd hz;clear hz)|(have hz_:=Zd (after_call hb HZ.out);clear HZ;have HZ:=hz_)|skip);clear hb tkY;refine⟨_,rfl,?_⟩))
    | ((refine Go.Proofs.YtfiamddinkokbaaGreatW.PrintLast.goes_ Tryz.func9 (by kernel_rfl) rfl #[.string a2] (by rfl) rfl rfl (by (try simp only [List.map_toArray,List.map_cons,List.map_nil]);first|done|rfl) ?_;have _t:=tkZ;refine (HZ0.out _).mono ?_;rintro e wc ⟨rfl,hb⟩;have hq:Below w1.heap.size w1 wc:=below_step (by first|(with_reducible exact HQ.out)|(with_reducible exact below_alloc HQ.out _)|(with_reducible exact below_drew (below_alloc (Below.refl _ _) _))) hb;have hnc:w1.heap.size≤wc.heap.size:=hq.size;clear HQ;have HQ:=Zd hq;clear hq;(first|(have hz:wc.heap[_]? = some (Obj.cells #[.slice none 0 0,.slice none 0 0,.slice none 0 0,.slice none 0 0,.string (⟨#[]⟩:ByteArray),.int .i64 0,.int .i64 0] 38 (0,0)):=(by first|(with_reducible exact after_alloc_drew hb)|(with_reducible exact after_alloc hb));have HZ:=Zd hz;clear hz)|(have hz_:=Zd (after_call hb HZ.out);clear HZ;have HZ:=hz_)|skip);clear hb tkZ;refine⟨_,rfl,?_⟩))
    | ((refine Go.Proofs.YtfiamddinkokbaaGreatW.PrintLast.goes_ Tryz.func10 (by kernel_rfl) rfl #[.agg #[.int .i64 st,.int .i64 wd,.int .i64 fv,.string g0,.string g1,.string g2]] (by rfl) rfl rfl (by (try simp only [List.map_toArray,List.map_cons,List.map_nil]);first|done|rfl) ?_;refine (HO.out _).mono ?_;rintro e we ⟨rfl,hb⟩;have hq:Below w1.heap.size w1 we:=below_step (by first|(with_reducible exact HQ.out)|(with_reducible exact below_alloc HQ.out _)|(with_reducible exact below_drew (below_alloc (Below.refl _ _) _))) hb;have hne:w1.heap.size≤we.heap.size:=hq.size;clear HQ;have HQ:=Zd hq;clear hq;(first|(have hz:we.heap[_]? = some (Obj.cells #[.slice none 0 0,.slice none 0 0,.slice none 0 0,.slice none 0 0,.string (⟨#[]⟩:ByteArray),.int .i64 0,.int .i64 0] 38 (0,0)):=(by first|(with_reducible exact after_alloc_drew hb)|(with_reducible exact after_alloc hb));have HZ:=Zd hz;clear hz)|(have hz_:=Zd (after_call hb HZ.out);clear HZ;have HZ:=hz_)|skip);clear hb;refine⟨_,rfl,?_⟩))
    | ((refine Go.Proofs.YtfiamddinkokbaaGreatW.PrintLast.goes_ Tryz.func11 (by kernel_rfl) rfl #[.string x,.string y,.string z,.agg #[.string l0,.string l1,.string l2,.int .i64 st',.int .i64 wd',.int .i64 0]] (by rfl) rfl rfl (by (try simp only [List.map_toArray,List.map_cons,List.map_nil]);first|done|rfl) ?_;refine (H1.out _ ?rel).mono ?_;(case rel=>exact (by first|(with_reducible exact HQ.out)|(with_reducible exact below_alloc HQ.out _)|(with_reducible exact below_drew (below_alloc (Below.refl _ _) _))));rintro e wf ⟨A0,A1,A2,A3,c0,c1,c2,c3,rfl,hr,hb⟩;have hq:Below w1.heap.size w1 wf:=below_step (by first|(with_reducible exact HQ.out)|(with_reducible exact below_alloc HQ.out _)|(with_reducible exact below_drew (below_alloc (Below.refl _ _) _))) hb;have hnf:w1.heap.size≤wf.heap.size:=hq.size;clear HQ;have HQ:=Zd hq;clear hq;(first|(have hz:wf.heap[_]? = some (Obj.cells #[.slice none 0 0,.slice none 0 0,.slice none 0 0,.slice none 0 0,.string (⟨#[]⟩:ByteArray),.int .i64 0,.int .i64 0] 38 (0,0)):=(by first|(with_reducible exact after_alloc_drew hb)|(with_reducible exact after_alloc hb));have HZ:=Zd hz;clear hz)|(have hz_:=Zd (after_call hb HZ.out);clear HZ;have HZ:=hz_)|skip);(first|(have z0:=(blk_cell HZ.out 0).trans (rfl:_=some (Value.slice none 0 0));have zz0:=Lib.frozen_of_heap HZ.out 0;have z1:=(blk_cell HZ.out 1).trans (rfl:_=some (Value.slice none 0 0));have zz1:=Lib.frozen_of_heap HZ.out 1;have z2:=(blk_cell HZ.out 2).trans (rfl:_=some (Value.slice none 0 0));have zz2:=Lib.frozen_of_heap HZ.out 2;have z3:=(blk_cell HZ.out 3).trans (rfl:_=some (Value.slice none 0 0));have zz3:=Lib.frozen_of_heap HZ.out 3;have z4:=(blk_cell HZ.out 4).trans (rfl:_=some (Value.string ⟨#[]⟩));have zz4:=Lib.frozen_of_heap HZ.out 4;have z5:=(blk_cell HZ.out 5).trans (rfl:_=some (Value.int .i64 0));have zz5:=Lib.frozen_of_heap HZ.out 5;have z6:=(blk_cell HZ.out 6).trans (rfl:_=some (Value.int .i64 0));have zz6:=Lib.frozen_of_heap HZ.out 6)|skip);have HRd:=Zd hr;clear hb hr;refine⟨_,rfl,?_⟩)))
  all_goals go_wp2
  all_goals go_meet
  all_goals first
   | exact⟨_,A0,A1,A2,A3,c0,c1,c2,c3,rfl,rfl,⟨block_set7 HZ.out _ _ _ _ _ _ _⟩,⟨below_set7 HQ.out (by omega) _ _ _ _ _ _ _⟩,⟨R_set7 HRd.out HZ.out (by decide) _ _ _ _ _ _ _⟩⟩
   | exact⟨_,A0,A1,A2,A3,c0,c1,c2,c3,rfl,rfl,⟨World.alloc_heap_new _ _⟩,⟨below_alloc HQ.out _⟩,⟨Kd.R_below HRd.out (below_alloc (Below.refl _ _) _)⟩⟩
 case rest =>
  obtain⟨gz,A0,A1,A2,A3,c0,c1,c2,c3,rfl,rfl,HRg,HW,HDr⟩:=hcut
  have HBg:=Zd (below_step HB.out HW.out)
  obtain⟨_,hdc,hC⟩:=Kd.R_reads' HDr.out
  have HDg:=Zd hC
  have HDc:=Zd hdc
  clear hdc hC HX HY HZ0 HO H1 hS9 HT3 HH3 HB HW HDr
  have gr0:=(blk_cell HRg.out 0).trans (rfl:_=some (Value.slice A0 d.length c0));have gr1:=(blk_cell HRg.out 1).trans (rfl:_=some (Value.slice A1 lp.length c1));have gr2:=(blk_cell HRg.out 2).trans (rfl:_=some (Value.slice A2 rp.length c2));have gr3:=(blk_cell HRg.out 3).trans (rfl:_=some (Value.slice A3 cs.length c3));have gr4:=(blk_cell HRg.out 4).trans (rfl:_=some (Value.string t));have gr5:=(blk_cell HRg.out 5).trans (rfl:_=some (Value.int .i64 W));have gr6:=(blk_cell HRg.out 6).trans (rfl:_=some (Value.int .i64 n))
  go_wp2_with (first
   | (go_at_call 32;(with_reducible refine (H2.out _).mono ?_);rintro e wh ⟨v,rfl,hr,hb⟩;obtain⟨AP,cP,rfl,hlP,hCP⟩:=Kd.R_reads hr;have HP:=Zd hCP;have HPl:=Zd hlP;have HBh:=Zd (below_step HBg.out hb);have HRh:=Zd (after_call hb HRg.out);have HDh:=Zd (Kd.C_below HDg.out hb);have hr0:=(blk_cell HRh.out 0).trans (rfl:_=some (Value.slice A0 d.length c0));have hr1:=(blk_cell HRh.out 1).trans (rfl:_=some (Value.slice A1 lp.length c1));have hr2:=(blk_cell HRh.out 2).trans (rfl:_=some (Value.slice A2 rp.length c2));have hr3:=(blk_cell HRh.out 3).trans (rfl:_=some (Value.slice A3 cs.length c3));have hr4:=(blk_cell HRh.out 4).trans (rfl:_=some (Value.string t));have hr5:=(blk_cell HRh.out 5).trans (rfl:_=some (Value.int .i64 W));have hr6:=(blk_cell HRh.out 6).trans (rfl:_=some (Value.int .i64 n));clear hb hr hlP hCP)
   | (go_at_call 34;(with_reducible refine (H3.out _ AP cP HP.out HPl.out).mono ?_);rintro e wi ⟨rfl,hb⟩;have HBi:=Zd (below_step HBh.out hb);have HRi:=Zd (after_call hb HRh.out);have HDi:=Zd (Kd.C_below HDh.out hb);have HPi:=Zd (Kd.C_below HP.out hb);have ir0:=(blk_cell HRi.out 0).trans (rfl:_=some (Value.slice A0 d.length c0));have ir1:=(blk_cell HRi.out 1).trans (rfl:_=some (Value.slice A1 lp.length c1));have ir2:=(blk_cell HRi.out 2).trans (rfl:_=some (Value.slice A2 rp.length c2));have ir3:=(blk_cell HRi.out 3).trans (rfl:_=some (Value.slice A3 cs.length c3));have ir4:=(blk_cell HRi.out 4).trans (rfl:_=some (Value.string t));have ir5:=(blk_cell HRi.out 5).trans (rfl:_=some (Value.int .i64 W));have ir6:=(blk_cell HRi.out 6).trans (rfl:_=some (Value.int .i64 n));clear hb))
  have HQ:Aside0 (Below wi.heap.size wi wi.drew):=⟨below_drew (Below.refl _ _)⟩
  have k0:=(blk_cell HRi.out 0).trans (rfl:_=some (Value.slice A0 d.length c0))
  have k4:=(blk_cell HRi.out 4).trans (rfl:_=some (Value.string t))
  have k6:=(blk_cell HRi.out 6).trans (rfl:_=some (Value.int .i64 n))
  go_region_held3 (fun w'=>w'.cell? ⟨gz,0,none⟩=some (.slice A0 d.length c0)∧w'.cell? ⟨gz,4,none⟩=some (.string t)∧w'.cell? ⟨gz,6,none⟩=some (.int .i64 n))
   ((refine (fun (hb:Below wi.heap.size wi _)=>⟨(hb.cell (World.block_lt_of_cell? wi _ k0)).trans k0,(hb.cell (World.block_lt_of_cell? wi _ k4)).trans k4,(hb.cell (World.block_lt_of_cell? wi _ k6)).trans k6⟩) ?_;exact HQ.out))
   (first
    | ((refine Go.Proofs.YtfiamddinkokbaaGreatW.PrintLast.goes_ Tryz.func8 (by kernel_rfl) rfl #[] (by rfl) rfl rfl (by (try simp only [List.map_toArray,List.map_cons,List.map_nil]);first|done|rfl) ?_;refine (HT.out _).mono ?_;rintro e wj ⟨rfl,hb⟩;have hq:Below wi.heap.size wi wj:=below_step (by first|(with_reducible exact HQ.out)|(with_reducible exact pw_below_drewN HQ.out _)) hb;clear HQ;have HQ:=Zd hq;clear hq hb;refine⟨_,rfl,?_⟩))
    | ((refine Go.Proofs.YtfiamddinkokbaaGreatW.PrintLast.goes_ Tryz.func35 (by kernel_rfl) rfl #[.slice AP d.length cP,.slice A0 d.length c0] (by rfl) rfl rfl (by (try simp only [List.map_toArray,List.map_cons,List.map_nil]);first|done|rfl) ?_;refine (H4.out _ AP cP (Kd.C_below HPi.out HQ.out) HPl.out A0 c0 (Kd.C_below HDi.out HQ.out) HDc.out).mono ?_;rintro e ws ⟨rfl,nd,rfl⟩;have hq:=pw_below_drewN HQ.out nd;clear HQ;have HQ:=Zd hq;clear hq;refine⟨_,rfl,?_⟩))
    | ((refine Go.Proofs.YtfiamddinkokbaaGreatW.PrintLast.goes_ Tryz.func36 (by kernel_rfl) rfl #[.slice AP d.length cP] (by rfl) rfl rfl (by (try simp only [List.map_toArray,List.map_cons,List.map_nil]);first|done|rfl) ?_;refine (H5.out _ AP cP (Kd.C_below HPi.out HQ.out) HPl.out).mono ?_;rintro e wk ⟨rfl,hb⟩;have hq:Below wi.heap.size wi wk:=below_step (by first|(with_reducible exact HQ.out)|(with_reducible exact pw_below_drewN HQ.out _)) hb;clear HQ;have HQ:=Zd hq;clear hq hb;refine⟨_,rfl,?_⟩)))
  all_goals go_wp2
  all_goals go_ret
  all_goals exact⟨rfl,below_step HBi.out HQ.out⟩
theorem tripartiteBack_walk (a0 a1 a2 : ByteArray) (st wd fv : Int) (g0 g1 g2 : ByteArray) (s0 : g0.size≤140737488351232) (s1 : g1.size≤140737488351232) (s2 : g2.size≤140737488351232) (w : World) :
  Calls Tryz.prog 6 #[.agg #[.string a0,.string a1,.string a2],.agg #[.int .i64 st,.int .i64 wd,.int .i64 fv,.string g0,.string g1,.string g2]] w fun e w'=>e = .returned (.bool true)∧Below w.heap.size w w':=by
 by_cases hf:g0.size+g1.size+g2.size≤500
 ·exact back_yes s0 s1 s2 hf
 ·exact back_no s0 s1 s2 hf
end Go.Proofs.YtfiamddinkokbaaGreat.F
end

section
namespace Go.Proofs.YtfiamddinkokbaaGreat.F
open Go.RowKit Go.Proofs.YtfiamddinkokbaaGreatW.PrintWords Go.ChangeShapes Go.WideShapes Go.Deep Go.Joins
section
variable {H : Type} {enc : TypeId×Value→H}
theorem back_how (W : World) (b : Nat) (sp : Nat→Bool) (hd : Bool) (st wd fv : Int) (g0 g1 g2 : ByteArray) (w0 : (Lit.int .i64 st).wf=true) (w1 : (Lit.int .i64 wd).wf=true) (w2 : (Lit.int .i64 fv).wf=true) (s0 : g0.size≤maxLen) (s1 : g1.size≤maxLen) (s2 : g2.size≤maxLen) :
  DataW.Trod enc Tryz.prog W b sp hd 24 (.agg #[.int .i64 st,.int .i64 wd,.int .i64 fv,.string g0,.string g1,.string g2]) (.agg [.lit (.int .i64 st),.lit (.int .i64 wd),.lit (.int .i64 fv),.lit (.string g0.data.toList),.lit (.string g1.data.toList),.lit (.string g2.data.toList)]) []:=by
 have h3:=Tryz.underlying3
 have h9:=Tryz.underlying9
 have c3:Tryz.prog.cellsOf 3=1:=by kernel_rfl
 have c9:Tryz.prog.cellsOf 9=1:=by kernel_rfl
 have c74:Tryz.prog.cellsOf 24=6:=by kernel_rfl
 refine⟨2,?_⟩
 simp [DataW.trod,Tryz.underlying24,h3,h9,c3,c9,c74,w0,w1,w2,s0,s1,s2,Value.cells]
theorem back_three (W : World) (b : Nat) (sp : Nat→Bool) (hd : Bool) (a0 a1 a2 : ByteArray) (s0 : a0.size≤maxLen) (s1 : a1.size≤maxLen) (s2 : a2.size≤maxLen) :
  DataW.Trod enc Tryz.prog W b sp hd 22 (.agg #[.string a0,.string a1,.string a2]) (.agg [.lit (.string a0.data.toList),.lit (.string a1.data.toList),.lit (.string a2.data.toList)]) []:=by
 have h9:=Tryz.underlying9
 have c9:Tryz.prog.cellsOf 9=1:=by kernel_rfl
 have c3:Tryz.prog.cellsOf 22=3:=by kernel_rfl
 refine⟨2,?_⟩
 simp [DataW.trod,Tryz.underlying22,h9,c9,c3,s0,s1,s2,Value.cells,List.range,List.range.loop]
set_option maxRecDepth 100000 in
theorem open_how {W : World} {b0 base : Nat} {r : Reach} {sp : Nat→Bool} {hd : Bool} {v : Value} {d : DataW H} {p : List MemPlace} {ts : List TypeId} {ds : List (DataW H)} {j : Nat}
  (hsz:(DataW.weightsEach Tryz.prog ts ds).all (· ≤ reachBytes)=true) (htj:ts[j]? = some 24) (hdj:ds[j]? = some d) (hv:Value.okWide Tryz.prog W r b0 24 v) (h:DataW.Trod enc Tryz.prog W base sp hd 24 v d p) :
  ∃ (st wd fv:Int) (g0 g1 g2:ByteArray),v = .agg #[.int .i64 st,.int .i64 wd,.int .i64 fv,.string g0,.string g1,.string g2]∧d = .agg [.lit (.int .i64 st),.lit (.int .i64 wd),.lit (.int .i64 fv),.lit (.string g0.data.toList),.lit (.string g1.data.toList),.lit (.string g2.data.toList)]∧p=[] ∧
   ((Lit.int .i64 st).wf=true∧(Lit.int .i64 wd).wf=true∧(Lit.int .i64 fv).wf=true)∧(g0.size≤140737488351232∧g1.size≤140737488351232∧g2.size≤140737488351232):=by
 have hs:=Tryz.underlying24
 have hi:=Tryz.underlying3
 have hg:=Tryz.underlying9
 obtain⟨cs,rfl,hcs⟩:=okWide_struct hs hv
 have hc6:cs.size=6:=hcs.trans (by kernel_rfl)
 obtain⟨l⟩:=cs
 match l,hc6 with
 | [c0,c1,c2,c3,c4,c5],_ =>
  obtain⟨fuel,hf⟩:=h
  obtain⟨xs,n,_,hx,_,hlen,hgt⟩:=DataW.trod_struct hs hf
  have k3:Tryz.prog.cellsOf 3=1:=by kernel_rfl
  have k9:Tryz.prog.cellsOf 9=1:=by kernel_rfl
  match xs,hlen with
  | [y0,y1,y2,y3,y4,y5],_ =>
   have t0:=hgt 0 _ rfl
   have t1:=hgt 1 _ rfl
   have t2:=hgt 2 _ rfl
   have t3:=hgt 3 _ rfl
   have t4:=hgt 4 _ rfl
   have t5:=hgt 5 _ rfl
   simp [Value.cells,k3,k9] at t0 t1 t2 t3 t4 t5
   obtain⟨st,e0,rfl,w0⟩:=DataW.trod_int hi t0
   obtain⟨wd,e1,rfl,w1⟩:=DataW.trod_int hi t1
   obtain⟨fv,e2,rfl,w2⟩:=DataW.trod_int hi t2
   obtain⟨g0,e3,rfl,s0⟩:=DataW.trod_string hg t3
   obtain⟨g1,e4,rfl,s1⟩:=DataW.trod_string hg t4
   obtain⟨g2,e5,rfl,s2⟩:=DataW.trod_string hg t5
   simp at e0 e1 e2 e3 e4 e5 hx
   subst e0 e1 e2 e3 e4 e5
   obtain⟨rfl,rfl⟩:=hx
   have hmem:∀ (q:Nat) (s:ByteArray),[(.lit (.int .i64 st):DataW H),.lit (.int .i64 wd),.lit (.int .i64 fv),.lit (.string g0.data.toList),.lit (.string g1.data.toList),.lit (.string g2.data.toList)][q]? = some (.lit (.string s.data.toList))→([3,3,3,9,9,9]:List TypeId)[q]? = some 9→s.size≤140737488351232:=by
    intro q s hq hq9
    have h1:s.data.toList.length∈DataW.weights Tryz.prog 24 (.agg [(.lit (.int .i64 st):DataW H),.lit (.int .i64 wd),.lit (.int .i64 fv),.lit (.string g0.data.toList),.lit (.string g1.data.toList),.lit (.string g2.data.toList)]):=by
     simp only [DataW.weights,hs]
     exact DataW.weights_mem_each (j:=q) (t:=9) hq9 hq _ (by simp [DataW.weights])
    have:=List.all_eq_true.1 hsz _ (DataW.weights_mem_each htj hdj _ h1)
    rw [Array.length_toList] at this
    have hr:reachBytes=140737488351232:=rfl
    simpa [hr] using this
   exact⟨st,wd,fv,g0,g1,g2,rfl,rfl,rfl,⟨w0,w1,w2⟩,hmem 3 g0 rfl rfl,hmem 4 g1 rfl rfl,hmem 5 g2 rfl rfl⟩
set_option maxRecDepth 100000 in
theorem open_three {W : World} {b0 base : Nat} {r : Reach} {sp : Nat→Bool} {hd : Bool} {v : Value} {d : DataW H} {p : List MemPlace} {ts : List TypeId} {ds : List (DataW H)} {j : Nat}
  (hsz:(DataW.weightsEach Tryz.prog ts ds).all (· ≤ reachBytes)=true) (htj:ts[j]? = some 22) (hdj:ds[j]? = some d) (hv:Value.okWide Tryz.prog W r b0 22 v) (h:DataW.Trod enc Tryz.prog W base sp hd 22 v d p) :
  ∃ (a0 a1 a2:ByteArray),v = .agg #[.string a0,.string a1,.string a2]∧d = .agg [.lit (.string a0.data.toList),.lit (.string a1.data.toList),.lit (.string a2.data.toList)]∧p=[]∧(a0.size≤140737488351232∧a1.size≤140737488351232∧a2.size≤140737488351232):=by
 have hs:=Tryz.underlying22
 have hg:=Tryz.underlying9
 have hc:∃ cs:Array Value,v = .agg cs∧cs.size=3:=by
  simp only [Value.okWide,hs] at hv
  obtain⟨cs,h1,h2,_⟩:=hv
  exact⟨cs,h1,h2.trans (by kernel_rfl)⟩
 obtain⟨cs,rfl,hc3⟩:=hc
 obtain⟨l⟩:=cs
 match l,hc3 with
 | [c0,c1,c2],_ =>
  obtain⟨fuel,hf⟩:=h
  have k9:Tryz.prog.cellsOf 9=1:=by kernel_rfl
  obtain⟨y0,y1,y2,n,hx,t0,t1,t2⟩:=trod_array3 hs k9 hf
  obtain⟨a0,e0,rfl,s0⟩:=DataW.trod_string hg t0
  obtain⟨a1,e1,rfl,s1⟩:=DataW.trod_string hg t1
  obtain⟨a2,e2,rfl,s2⟩:=DataW.trod_string hg t2
  simp at e0 e1 e2 hx
  subst e0 e1 e2
  obtain⟨rfl,rfl⟩:=hx
  have hmem:∀ s:ByteArray,(.lit (.string s.data.toList):DataW H)∈[(.lit (.string a0.data.toList):DataW H),.lit (.string a1.data.toList),.lit (.string a2.data.toList)]→s.size≤140737488351232:=by
   intro s hq
   have h1:s.data.toList.length∈DataW.weights Tryz.prog 22 (.agg [(.lit (.string a0.data.toList):DataW H),.lit (.string a1.data.toList),.lit (.string a2.data.toList)]):=by
    simp only [DataW.weights,hs]
    exact weights_all_mem _ _ hq (by simp [DataW.weights])
   have:=List.all_eq_true.1 hsz _ (DataW.weights_mem_each htj hdj _ h1)
   rw [Array.length_toList] at this
   have hr:reachBytes=140737488351232:=rfl
   simpa [hr] using this
  exact⟨a0,a1,a2,rfl,rfl,rfl,hmem a0 (by simp),hmem a1 (by simp),hmem a2 (by simp)⟩
end
end Go.Proofs.YtfiamddinkokbaaGreat.F
end
