/- Texts joined into one file (wip/tools/pack.py): Parse2, Fn32 -/
import Derived.Test.YtfiamddinkokbaaGreatTB2
import Derived.Test.YtfiamddinkokbaaGreatTB16
import Derived.Test.YtfiamddinkokbaaGreatTB9
import Derived.Test.YtfiamddinkokbaaGreatTB5
import Derived.Test.YtfiamddinkokbaaGreatTB7
import Derived.Test.YtfiamddinkokbaaGreatTB1
set_option linter.unusedVariables false
set_option linter.unusedSimpArgs false
section
namespace Go.Proofs.YtfiamddinkokbaaGreat.F
open Go.RowKit Go.Shelf Go.Proofs.YtfiamddinkokbaaGreatW.PrintWords
def parseF (s : ByteArray) (wd : Int) : Option (List S124×Int×Int) := if s.size≤10000000 then some ((parseP s wd).1.map to106,(parseP s wd).2.1,(parseP s wd).2.2) else none
theorem R_keepU {α : Type} {d : Kd α} {e base b : Nat} {ok : Nat→Prop} {v : Value} {xs : List α} {w w' : World} (hE : d.E=[]) (he1 : e≠5) (he2 : e≠124) (h : d.R e w base ok v xs) (hk : KeepU b w w') (hb : b<base) : d.R e w' base ok v xs :=
 Kd.R_reok hE (Kd.R_move (Kd.R_tight hE h) (fun k ho=>by
  obtain⟨cells,hc⟩:=Kd.R_typed h k ho.symm
  exact hk k cells _ _ hc he1 he2 (by have:=Kd.R_base h k ho.symm;omega))) (fun k ho=>h.1 k ho)
theorem rd_start (w : World) : Rd w.heap.size w.heap.size newP (w.alloc (.cells (rdC (.slice none 0 0) newP.now 0 (.pointer none) (.slice none 0 0)) 133)) :=
 ⟨_,_,_,⟨Nat.le_refl _,World.alloc_heap_new w _,rfl,rfl,.inl rfl,World.ownsRowF_nil _ _ _ _,by simp [Value.ownBlock]⟩,Kd.R_nil _ _ _ _ _⟩
theorem textSum_app (a b : List S60) : textSum (a++b)=textSum a+textSum b := by unfold textSum;rw [List.map_append,List.sum_append]
theorem sideP_le (fl : Bool) (b : List UInt8) : (sideP fl b).size≤b.length := by
 unfold sideP
 rw [←size_data,data_toB]
 split
 ·exact trimL_le b
 ·exact Nat.le_refl _
theorem markP_text {st q : PSt} {k : Int} {fl : Bool} {lb : ByteArray} (hm : markP st k fl lb=(q,0)) (hn : st.now.f4=⟨#[]⟩) : textSum q.out≤textSum st.out+st.buf.length∧q.now.f4=⟨#[]⟩ := by
 have hz:(⟨#[]⟩:ByteArray).size=0:=rfl
 have hs:=sideP_le fl st.buf
 unfold markP at hm
 split at hm
 ·injection hm with _ h2;split at h2<;>cases h2
 split at hm
 ·injection hm with _ h2;cases h2
 injection hm with h1 h2
 subst h1
 have key:textSum (putP st (sideP fl st.buf) lb).1≤textSum st.out+st.buf.length∧(putP st (sideP fl st.buf) lb).2.f4=⟨#[]⟩:=by
  unfold putP
  have t1:textSum [textP (sideP fl st.buf)]=(sideP fl st.buf).size:=by unfold textSum textP;simp
  have t3:textSum [closeP st.now (sideP fl st.buf) lb]=0:=by
   unfold textSum closeP
   simp only [List.map_cons,List.map_nil,List.sum_cons,List.sum_nil,hn];rfl
  repeat' split
  ·exact⟨by simp only [textSum_app,t1];omega,rfl⟩
  ·exact⟨Nat.le_add_right _ _,hn⟩
  ·exact⟨Nat.le_add_right _ _,hn⟩
  ·exact⟨by simp only [textSum_app,t3];omega,hn⟩
  ·exact⟨Nat.le_add_right _ _,hn⟩
 refine⟨key.1,?_⟩
 show (if _ then _ else _:S60).f4=_
 split
 ·exact key.2
 ·exact key.2
theorem cat_drop {l : List ByteArray} {i : Nat} {x : ByteArray} (h : l.drop i=x::l.drop (i+1)) : (catB (l.drop i)).size=x.size+(catB (l.drop (i+1))).size := by
 have e:(catB (l.drop i)).data.toList=x.data.toList++(catB (l.drop (i+1))).data.toList:=by rw [h];unfold catB;rw [data_toB,data_toB];simp
 rw [←size_data,e,List.length_append,size_data,size_data]
set_option maxHeartbeats 4000000 in
set_option maxRecDepth 100000 in
theorem parse_out (s : ByteArray) (wd : Int) (w : World) (h : ¬ (1≤wd∧wd≤1073741824)) : Calls Tryz.prog 32 #[.string s,.int .i64 wd] w fun e w'=>e = .returned (.tuple #[.slice none 0 0,.int .i64 4,.int .i64 0])∧Below w.heap.size w w' := by
 have HB:=Zd (Below.refl w.heap.size w)
 by_cases h1:wd<1
 ·clear h
  go_enter Tryz.func32,Tryz.ntmps32
  go_wp2
  go_ret3
  exact⟨rfl,HB.out⟩
 ·have h2:wd>1073741824:=by omega
  clear h
  go_enter Tryz.func32,Tryz.ntmps32
  go_wp2
  go_ret3
  exact⟨rfl,HB.out⟩
set_option maxHeartbeats 16000000 in
set_option maxRecDepth 100000 in
theorem parse_in (s : ByteArray) (wd : Int) (w : World) (h1 : 1≤wd) (h2 : wd≤1073741824) (hs : s.size≤10000000) : Calls Tryz.prog 32 #[.string s,.int .i64 wd] w fun e w'=>∃ v0,e = .returned (.tuple #[v0,.int .i64 (parseP s wd).2.1,.int .i64 (parseP s wd).2.2]) ∧
  Kd.R k124 124 w' w.heap.size (fun _=>True) v0 ((parseP s wd).1.map to106)∧Below w.heap.size w w':=by
 unfold parseP
 rw [if_pos ⟨h1,h2⟩]
 have HSp:=Zd (fun W=>lines_Split.calls s (splitB s) W (lines_split s (by omega)))
 have hlen:=splitB_length s
 have hcat:(catB (splitB s)).size=s.size:=by rw [cat_split]
 have hmem:=Zd (fun x hx=>splitB_mem s x hx)
 obtain⟨q,hq⟩:∃ q,readP wd (splitB s) 0 newP=q:=⟨_,rfl⟩
 rw [hq]
 generalize splitB s=l at *
 have HQ0:=Zd hq
 have n1:¬ wd<1:=by omega
 have n2:¬ wd>1073741824:=by omega
 clear hq
 go_enter Tryz.func32,Tryz.ntmps32
 go_wp2_with (first
  | (go_at_call 40;refine (HSp.out _).mono ?_;rintro e w1 ⟨v0,rfl,hR,hb⟩;obtain⟨Al,cl,rfl⟩:=Kd.R_slice hR;have HR1:=Zd hR;have HRd1:=Zd ((rd_start w).below hb);have HB1:=Zd (below_step (below_alloc (Below.refl _ _) _) hb);have hbase:Aside0 (w.heap.size<(w.alloc (.cells (rdC (.slice none 0 0) newP.now 0 (.pointer none) (.slice none 0 0)) 133)).heap.size):=⟨(Array.getElem?_eq_some_iff.1 (World.alloc_heap_new w _)).1⟩;clear hR hb))
 go_loopg [26] l.length (fun gg s26_ wr=>∃ (i:Nat) (st:PSt),i≤l.length∧l.length-i≤gg∧s26_ = .int .i64 i∧Aside0 (readP wd (l.drop i) i st=q)∧(0≤st.wh∧st.wh≤3)∧st.out.length≤i∧textSum st.out+st.buf.length+(catB (l.drop i)).size≤s.size∧st.now.f4=⟨#[]⟩∧Aside0 (Rd w.heap.size w.heap.size st wr)∧Aside0 (Below w.heap.size w wr)∧Aside0 (KeepU w.heap.size w1 wr))
 case atStart =>
  exact⟨0,newP,Nat.zero_le _,by omega,rfl,HQ0,⟨by decide,by decide⟩,Nat.le_refl _,by
   have:textSum newP.out+newP.buf.length+(catB (l.drop 0)).size=(catB l).size:=by rw [List.drop_zero];show 0+0+_=_;omega
   omega,rfl,HRd1,HB1,⟨fun _ _ _ _ _ _ _ _=>rfl⟩⟩
 case round =>
  clear HQ0 HRd1 HB1
  obtain⟨i,st,hi,hg,rfl,HQ,hwh,hol,hbl,hnow,HRd,HB,HKU⟩:=hrel
  have HR:=Zd (R_keepU rfl (by decide) (by decide) HR1.out HKU.out hbase.out)
  have HBs:Aside0 (w.heap.size≤wr.heap.size):=⟨HB.out.size⟩
  by_cases hlt:i<l.length
  ·have z0:(0:Int)≤(i:Int):=by omega
   have z1:(i:Int)<(l.length:Int):=by omega
   obtain⟨_,_,hC⟩:=Kd.R_reads' HR.out
   obtain⟨ad,rfl,cx⟩:=Kd.at_string hC (i:Int) z0 z1
   rw [Int.toNat_natCast] at cx
   have hdrop:l.drop i=l[i]::l.drop (i+1):=List.drop_eq_getElem_cons hlt
   have hxe:rdOf ByteArray.empty l (i:Int)=l[i]:=by unfold rdOf;rw [Int.toNat_natCast,List.getD_eq_getElem?_getD,List.getElem?_eq_getElem hlt];rfl
   rw [hxe] at cx
   have hxs:=hmem.out l[i] (List.getElem_mem hlt)
   have hcd:=cat_drop hdrop
   have hq:=HQ.out
   rw [hdrop] at hq
   have hci:((i+1:Nat):Int)=(i:Int)+1:=by omega
   generalize l[i]=x at cx hxs hcd hq
   clear HQ hdrop hxe hC
   obtain⟨kr,hr⟩:=(ev_mark_read x wd (by omega)).get
   rw [readP] at hq
   generalize readA x wd=ra at hr hq
   obtain⟨k,fl,lb,is,er⟩:=ra
   have HRead:=Zd (fun W=>mark_Read.calls kr x wd k fl lb is er W hr)
   simp only at hq
   clear hr
   cases is with
   | true =>
    rw [if_pos rfl] at hq
    generalize hm:markP st k fl lb=mq at hq
    obtain⟨st',e'⟩:=mq
    simp only at hq
    have HM:=Zd hm
    have HMk:=Zd (fun W (h:Rd w.heap.size w.heap.size st W) (hBW:w.heap.size≤W.heap.size)=>rd_marker k e' fl lb h hwh (by omega) (by omega) hBW hm)
    by_cases he:e'=0
    ·subst he
     rw [if_pos rfl,←hci] at hq
     have HQ:=Zd hq
     have hn:=markP_next hm
     have ht:=markP_text hm hnow
     clear hq hm
     go_wp2_with (first
      | (go_at_call 66;refine (HRead.out _).mono ?_;rintro e w2 ⟨rfl,hb2⟩;have HRd2:=Zd (HRd.out.below hb2);have HB2:=Zd (below_step HB.out hb2);have HK2:=Zd (HKU.out.trans (KeepU.of (KeepT.below hb2)));have HS2:=Zd (Nat.le_trans HBs.out hb2.size);clear hb2)
      | (go_at_call 67;refine (HMk.out _ (HRd2.out.below (below_alloc (Below.refl _ _) _)) (Nat.le_trans HS2.out (below_alloc (Below.refl _ _) _).size)).mono ?_;rintro e w3 ⟨rfl,hq3,hb3⟩;obtain⟨hr3,hk3⟩:=hq3 (by first|trivial|rfl);have HRd3:=Zd hr3;have HB3:=Zd (Below.trans (below_alloc HB2.out _) hb3);have HK3:=Zd ((HK2.out.trans (KeepU.of (KeepT.below (below_alloc (Below.refl _ _) _)))).trans hk3);clear hq3 hb3 hr3 hk3))
     go_roundg (l.length-(i+1))
     case measure=>omega
     case rel=>exact⟨i+1,st',by omega,Nat.le_refl _,by go_num,HQ,hn.1,by omega,by rw [hn.2.1];simp only [List.length_nil];omega,ht.2,HRd3,HB3,HK3⟩
    ·rw [if_neg he] at hq
     subst hq
     have hl:Aside0 (lastP l.length (st,e',(i:Int)+1)=([],e',(i:Int)+1)):=⟨by unfold lastP;rw [if_neg he]⟩
     have qe:(e'==(0:Int))=false:=beq_eq_false_iff_ne.2 he
     clear he hm
     go_wp2_with (first
      | (go_at_call 66;refine (HRead.out _).mono ?_;rintro e w2 ⟨rfl,hb2⟩;have HRd2:=Zd (HRd.out.below hb2);have HB2:=Zd (below_step HB.out hb2);have HS2:=Zd (Nat.le_trans HBs.out hb2.size);clear hb2)
      | (go_at_call 67;refine (HMk.out _ (HRd2.out.below (below_alloc (Below.refl _ _) _)) (Nat.le_trans HS2.out (below_alloc (Below.refl _ _) _).size)).mono ?_;rintro e w3 ⟨rfl,_,hb3⟩;have HB3:=Zd (Below.trans (below_alloc HB2.out _) hb3);clear hb3))
     go_ret3
     rw [hl.out]
     exact⟨_,rfl,Kd.R_nil _ _ _ _ _,HB3.out⟩
   | false =>
    rw [if_neg (by decide)] at hq
    by_cases he:er=0
    ·subst he
     rw [if_pos rfl,←hci] at hq
     have HQ:=Zd hq
     clear hq
     go_wp2_with (first
      | (go_at_call 66;refine (HRead.out _).mono ?_;rintro e w2 ⟨rfl,hb2⟩;have HRd2:=Zd (HRd.out.below hb2);have HB2:=Zd (below_step HB.out hb2);have HK2:=Zd (HKU.out.trans (KeepU.of (KeepT.below hb2)));have HS2:=Zd (Nat.le_trans HBs.out hb2.size);clear hb2)
      | (go_at_call 68;refine (rd_write x (HRd2.out.below (below_alloc (Below.refl _ _) _)) (by omega) (Nat.le_trans HS2.out (below_alloc (Below.refl _ _) _).size)).mono ?_;rintro e w3 ⟨rfl,hr3,hb3,hk3⟩;have HRd3:=Zd hr3;have HB3:=Zd (Below.trans (below_alloc HB2.out _) hb3);have HK3:=Zd ((HK2.out.trans (KeepU.of (KeepT.below (below_alloc (Below.refl _ _) _)))).trans (KeepU.of hk3));clear hr3 hb3 hk3))
     go_roundg (l.length-(i+1))
     case measure=>omega
     case rel=>exact⟨i+1,_,by omega,Nat.le_refl _,by go_num,HQ,hwh,by show st.out.length≤i+1;omega,by show textSum st.out+(st.buf++x.data.toList).length+_≤_;rw [List.length_append,size_data];omega,hnow,HRd3,HB3,HK3⟩
    ·rw [if_neg he] at hq
     subst hq
     have hl:Aside0 (lastP l.length (st,er,(i:Int)+1)=([],er,(i:Int)+1)):=⟨by unfold lastP;rw [if_neg he]⟩
     have qe:(er==(0:Int))=false:=beq_eq_false_iff_ne.2 he
     clear he
     go_wp2_with (first
      | (go_at_call 66;refine (HRead.out _).mono ?_;rintro e w2 ⟨rfl,hb2⟩;have HB2:=Zd (below_step HB.out hb2);clear hb2))
     go_ret3
     rw [hl.out]
     exact⟨_,rfl,Kd.R_nil _ _ _ _ _,below_alloc HB2.out _⟩
  ·obtain rfl:i=l.length:=by omega
   have hq:=HQ.out
   rw [List.drop_length] at hq
   rw [readP] at hq
   subst hq
   rw [List.drop_length] at hbl
   obtain⟨vo,p,v,hrd⟩:=HRd.out
   have c10:=(blk_cell hrd.bld.blk 10).trans (rfl:_=some (Value.int .i64 st.wh))
   have HRA:=Zd hrd
   clear HQ HR hrd
   by_cases hz:st.wh=0
   ·have hl:Aside0 (lastP l.length (st,(0:Int),(0:Int))=(ofP (st.out++[textP (toB st.buf)]),0,0)):=⟨by unfold lastP;rw [if_pos rfl,if_pos hz]⟩
    obtain⟨out,now,wh,buf⟩:=st
    simp only at hz hol hbl hl
    subst hz
    have htx:textSum (out++[textP (toB buf)])≤s.size:=by
     have t1:textSum [textP (toB buf)]=buf.length:=by unfold textSum textP;simp only [List.map_cons,List.map_nil,List.sum_cons,List.sum_nil];rw [←size_data,data_toB];rfl
     rw [textSum_app,t1];omega
    obtain⟨kd,hkd⟩:=(ev_doc_of (out++[textP (toB buf)]) (by simp only [List.length_append,List.length_singleton];omega) (by omega)).get
    have HOf:=Zd (fun W A c (hr:Kd.C k124 W A ((out++[textP (toB buf)]).map to106).length ((out++[textP (toB buf)]).map to106)) hc=>doc_Of.calls kd A c ((out++[textP (toB buf)]).map to106) _ W hr hc hkd)
    rw [show ((out++[textP (toB buf)]).map to106).length=out.length+1 by simp] at HOf
    obtain⟨Av,cv,hvo⟩:=Kd.R_slice HRA.out.row
    rw [List.length_map] at hvo
    subst hvo
    have HSd:=Zd (rd_sideA (w:=wr.drew) false (HRA.out.below (below_drew1 (Below.refl _ _))) (by show buf.length≤_;omega) HBs.out)
    have hlm:(out.map to106).length=out.length:=List.length_map ..
    have c0:=(blk_cell HRA.out.bld.blk 0).trans (rfl:_=some (Value.slice Av out.length cv))
    have hlo:Aside0 (w.heap.size≤w.heap.size):=⟨Nat.le_refl _⟩
    have hsz:out.length≤10000000:=by omega
    clear hkd htx hwh hnow hbl
    go_wp2
    go_region_law ((first
     | (refine Go.Proofs.YtfiamddinkokbaaGreatW.PrintLast.goes_ Tryz.func70 (by kernel_rfl) rfl #[.pointer (some ⟨w.heap.size,0,none⟩),.bool false] (by rfl) rfl rfl (by (try simp only [List.map_toArray,List.map_cons,List.map_nil]);rfl) ?_;refine HSd.out.mono ?_;rintro e w2 ⟨rfl,h3,hb3,_⟩;refine⟨_,rfl,?_⟩;have HR3:=Zd h3;have HB3:=Zd (Below.trans (below_drew1 HB.out) hb3);have HBW3:=Zd (Nat.le_trans HBs.out (show wr.heap.size≤w2.heap.size from hb3.size));have c02:=(blk_cell HR3.out.bld.blk 0).trans (rfl:_=some (Value.slice Av out.length cv));have c02o:∀ o,(w2.alloc o).cell? ⟨w.heap.size,0,none⟩=some (Value.slice Av out.length cv):=fun o=>tr1o o c02;have HFr:Aside0 (∀ j,w2.heap.size≤j→j≠w.heap.size):=⟨fun j hj e=>by have:=HR3.out.bld.lt;omega⟩;clear h3 hb3)
     | (refine Kd.R_append_step k124 (w0:=w) (W:=w2) w.heap.size (by rfl) (.tmp 66) (.tmp 70) 33 124 (.agg #[.string ⟨#[]⟩,.string ⟨#[]⟩,.string ⟨#[]⟩,.bool false,.string ⟨#[]⟩,.string ⟨#[]⟩,.string ⟨#[]⟩,.string ⟨#[]⟩,.bool false]) 128 (by rfl) Tryz.underlying33 part_inf rfl (by decide) (by omega) (.slice Av out.length cv) (out.map to106) (to106 (textP (toB buf))) [.string ⟨#[]⟩,.string ⟨#[]⟩,.string ⟨#[]⟩,.bool false,.string (toB buf),.string ⟨#[]⟩,.string ⟨#[]⟩,.string ⟨#[]⟩,.bool false] (fun j=>j≠w.heap.size) (fun _=>False) (by rfl) (by rfl) (k124_mkM _ _ _ _) (fun _ hk=>hk.elim) HFr.out HR3.out.row HB3.out HBW3.out (by omega) ?_;intro v1 w4 ho4 hb4 hg4 hat4;obtain⟨Aw,cw,hv1,hcw,hC4⟩:=Kd.R_reads ho4;rw [List.length_append,List.length_map,List.length_singleton] at hv1 hcw;subst hv1;have HC4:Aside0 (Kd.C k124 w4 Aw (out.length+1) ((out++[textP (toB buf)]).map to106)):=⟨by rw [List.length_append,List.length_map,List.length_singleton] at hC4;rw [List.map_append];exact hC4⟩;have HB4:=Zd hb4;have HCW:=Zd hcw;clear ho4 hb4 hg4 hat4 hC4 hcw)
     | (refine Go.Proofs.YtfiamddinkokbaaGreatW.PrintLast.goes_ Tryz.func69 (by kernel_rfl) rfl #[.slice Aw (out.length+1) cw] (by rfl) rfl rfl (by (try simp only [List.map_toArray,List.map_cons,List.map_nil]);rfl) ?_;refine (HOf.out w4 Aw cw HC4.out HCW.out).mono ?_;rintro e w5 ⟨v5,rfl,hr5,hb5⟩;refine⟨_,rfl,?_⟩;have HR5:=Zd (Kd.R_lower hr5 HB4.out.size);have HB5:=Zd (below_weaken HB4.out HB4.out.size hb5);clear hr5 hb5)))
    all_goals go_wp2
    all_goals go_ret3
    all_goals rw [hl.out]
    all_goals exact⟨_,rfl,HR5.out,HB5.out⟩
   ·have hl:Aside0 (lastP l.length (st,(0:Int),(0:Int))=([],10,(l.length:Int)+1)):=⟨by unfold lastP;rw [if_pos rfl,if_neg hz]⟩
    have qe:(st.wh==(0:Int))=false:=beq_eq_false_iff_ne.2 hz
    clear hz
    go_wp2
    go_ret3
    rw [hl.out]
    exact⟨_,rfl,Kd.R_nil _ _ _ _ _,HB.out⟩
theorem parse_calls (s : ByteArray) (wd : Int) (r1 : List S124) (r2 r3 : Int) (w : World) (h : parseF s wd=some (r1,r2,r3)) : Calls Tryz.prog 32 #[.string s,.int .i64 wd] w fun e w'=>∃ v0,e = .returned (.tuple #[v0,.int .i64 r2,.int .i64 r3]) ∧
  Kd.R k124 124 w' w.heap.size (fun _=>True) v0 r1∧Below w.heap.size w w':=by
 unfold parseF at h
 split at h
 ·rename_i hs
  simp only [Option.some.injEq,Prod.mk.injEq] at h
  obtain⟨rfl,rfl,rfl⟩:=h
  by_cases hw:1≤wd∧wd≤1073741824
  ·exact parse_in s wd w hw.1 hw.2 hs
  ·refine (parse_out s wd w hw).mono ?_
   rintro e w' ⟨rfl,hb⟩
   unfold parseP
   rw [if_neg hw]
   exact⟨_,rfl,Kd.R_nil _ _ _ _ _,hb⟩
 ·cases h
#print axioms parse_calls
end Go.Proofs.YtfiamddinkokbaaGreat.F
end

section
namespace Go.Proofs.YtfiamddinkokbaaGreat.F
open Go.RowKit Go.Proofs.YtfiamddinkokbaaGreatW.PrintWords Go.Proofs.YtfiamddinkokbaaGreatW.PrintLast Go.Proofs.YtfiamddinkokbaaGreatW.PrintMore
attribute [local go_sem] max2_int min2_int max_two min_two max_three min_three max_four min_four
def parse_Text.f (a0 : ByteArray) (a1 : Int) : Option ((List S124)×Int×Int) := parseF a0 a1
theorem parse_Text.calls (a0 : ByteArray) (a1 : Int) (r1 : List (S124)) (r2 : Int) (r3 : Int) (w : World) (h : parse_Text.f a0 a1=some (r1,r2,r3)) :
  Calls Tryz.prog 32 #[.string a0,.int .i64 a1] w fun e w'=>∃ v0_:Value,e = .returned (.tuple #[v0_,.int .i64 r2,.int .i64 r3])∧Kd.R k124 124 w' w.heap.size (fun _=>True) v0_ r1∧Below w.heap.size w w':=by
 exact parse_calls a0 a1 r1 r2 r3 w h
end Go.Proofs.YtfiamddinkokbaaGreat.F
end
