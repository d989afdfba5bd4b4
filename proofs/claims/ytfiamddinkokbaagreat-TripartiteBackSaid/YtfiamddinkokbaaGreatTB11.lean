/- Texts joined into one file (wip/tools/pack.py): Right, Fn71, Fits, Fn75, MarkPrint, Fn34, Fn57, Fn93, Fn58, Fn59, Fn60, Fn18, PureDoc, PureDoc2, Fn43, Fn144, Fn125, Fn157 -/
import Derived.Test.YtfiamddinkokbaaGreatTB2
import Derived.Test.YtfiamddinkokbaaGreatTB6
import Derived.Test.YtfiamddinkokbaaGreatTB10
import Derived.Test.YtfiamddinkokbaaGreatTB8
import Derived.Test.YtfiamddinkokbaaGreatTB1
import Derived.Test.YtfiamddinkokbaaGreatTB5
import Derived.Shelf.SlicesQ.IndexFunc
import Derived.Deep.RegionHeld3
import Derived.Test.YtfiamddinkokbaaGreatTB9
import Derived.Test.YtfiamddinkokbaaGreatTB4
set_option linter.unusedVariables false
set_option linter.unusedSimpArgs false
section
namespace Go.Proofs.YtfiamddinkokbaaGreat.F
open Go.RowKit Go.Shelf Go.Proofs.YtfiamddinkokbaaGreatW.PrintWords
abbrev isTextX (x : PP) : Option Bool := doc_Part_isText.f x.f0.f0 x.f0.f1 x.f0.f2 x.f1 x.f2 x.f3 x.f4 x.f5 x.f6
def rightL (n : Int) : List PP→Bool→Int→Option Bool
 | [],_,_=>some true
 | x::r,tx,i=>(isTextX x).bind fun T=>(if T=true then some true else doc_Part_isConflict.f x.f0.f0 x.f0.f1 x.f0.f2 x.f1 x.f2 x.f3 x.f4 x.f5 x.f6).bind fun C=>if C=true then (doc_Labels_Plain.f x.f0.f0 x.f0.f1 x.f0.f2).bind fun P=>if P=true then
   (if T=true then (if tx=true then some false else if x.f2.toList=([]:List UInt8) then some false else if i<n-1 then (strings_HasSuffix.f x.f2 (⟨#[10]⟩:ByteArray)).bind fun S=>(if S=true then rightL n r true (i+1) else some false) else rightL n r true (i+1)) else rightL n r false (i+1)) else some false else some false
def rightF (l : List PP) : Option Bool := if l.length≤4000000000000 then rightL l.length l false 0 else none
theorem wrap_one {n : Nat} (h : n≤4000000000000) : wrap64 ((n : Int)-1)=(n : Int)-1 := by unfold wrap64;omega
theorem cells9 {w : World} {k : Nat} {v0 v1 v2 v3 v4 v5 v6 v7 v8 : Value} {T : TypeId} (h : w.heap[k]? = some (.cells #[v0,v1,v2,v3,v4,v5,v6,v7,v8] T (0,0))) : w.cell? ⟨k,0,none⟩=some v0∧w.cell? ⟨k,1,none⟩=some v1∧w.cell? ⟨k,2,none⟩=some v2∧w.cell? ⟨k,3,none⟩=some v3∧w.cell? ⟨k,4,none⟩=some v4∧w.cell? ⟨k,5,none⟩=some v5∧w.cell? ⟨k,6,none⟩=some v6∧w.cell? ⟨k,7,none⟩=some v7∧w.cell? ⟨k,8,none⟩=some v8 :=
 ⟨(blk_cell h 0).trans rfl,(blk_cell h 1).trans rfl,(blk_cell h 2).trans rfl,(blk_cell h 3).trans rfl,(blk_cell h 4).trans rfl,(blk_cell h 5).trans rfl,(blk_cell h 6).trans rfl,(blk_cell h 7).trans rfl,(blk_cell h 8).trans rfl⟩
set_option maxHeartbeats 16000000 in
set_option maxRecDepth 100000 in
theorem right_calls (A0 : Option Addr) (c0 : Nat) (l0 : List PP) (r : Bool) (w : World) (hr0 : Kd.C k124 w A0 l0.length l0) (hc0 : l0.length≤c0) (h : rightF l0=some r) :
  Calls Tryz.prog 71 #[.slice A0 l0.length c0] w fun e w'=>e = .returned (.bool r)∧Below w.heap.size w w':=by
 unfold rightF at h
 split at h
 case isFalse=>cases h
 case isTrue hl4 =>
 have HL:=Zd h
 have HD:=Zd hr0
 clear h hr0
 go_enter Tryz.func71,Tryz.ntmps71
 go_wp2
 go_loopg [3,8] l0.length (fun gg s3_ s8_ wr=>∃ (i:Nat) (tx:Bool),i≤l0.length∧l0.length-i≤gg∧s3_ = .bool tx∧s8_ = .int .i64 i∧Aside0 (rightL l0.length (l0.drop i) tx i=some r)∧Aside0 (Below w.heap.size w wr))
 case atStart=>exact⟨0,false,Nat.zero_le _,by omega,rfl,rfl,⟨by rw [List.drop_zero];exact HL.out⟩,⟨Below.refl _ _⟩⟩
 case round =>
  clear HL
  obtain⟨i,tx,hi,hg,rfl,rfl,HL,HW⟩:=hrel
  by_cases hlt:i<l0.length
  ·have hltz:(i:Int)<(l0.length:Int):=by omega
   have hq:=HL.out
   rw [List.drop_eq_getElem_cons hlt,rightL] at hq
   obtain⟨ad,rfl,hx0,hx1,hx2,hx3,hx4,hx5,hx6,hx7,hx8⟩:=at_T124 (Kd.C_below HD.out HW.out) (i:Int) (by omega) hltz
   have hrd:rd_T124 l0 (i:Int)=l0[i]:=by unfold rd_T124;rw [Int.toNat_natCast,List.getD_eq_getElem?_getD,List.getElem?_eq_getElem hlt];rfl
   rw [Int.toNat_natCast] at hx0 hx1 hx2 hx3 hx4 hx5 hx6 hx7 hx8
   rw [hrd] at hx0 hx1 hx2 hx3 hx4 hx5 hx6 hx7 hx8
   generalize l0[i]=ch at hx0 hx1 hx2 hx3 hx4 hx5 hx6 hx7 hx8 hq
   obtain⟨⟨s0,s1,s2⟩,b1,s3,s4,s5,s6,b2⟩:=ch
   simp only [isTextX] at hx0 hx1 hx2 hx3 hx4 hx5 hx6 hx7 hx8 hq
   have hw:wrap64 ((l0.length:Int)-1)=(l0.length:Int)-1:=wrap_one hl4
   obtain⟨T,hT,hq⟩:=Option.bind_eq_some_iff.1 hq
   obtain⟨C,hC,hq⟩:=Option.bind_eq_some_iff.1 hq
   have HT:=Zd (fun W=>doc_Part_isText.calls s0 s1 s2 b1 s3 s4 s5 s6 b2 T W hT)
   clear hrd HL hT
   cases T with
   | true =>
    rw [if_pos rfl] at hC
    obtain rfl:=Option.some.inj hC
    rw [if_pos rfl] at hq
    clear hC
    obtain⟨P,hP,hq⟩:=Option.bind_eq_some_iff.1 hq
    have HP:=Zd (fun W=>doc_Labels_Plain.calls s0 s1 s2 P W hP)
    clear hP
    cases P with
    | true =>
     rw [if_pos rfl,if_pos rfl] at hq
     cases tx with
     | true =>
      rw [if_pos rfl] at hq
      obtain rfl:=Option.some.inj hq
      go_wp2_with (first
       | (go_at_call 106;(with_reducible refine (HT.out _).mono ?_);rintro e w1 ⟨rfl,hb⟩;(first|have hx:=after_call hb HX.out|have hx:=after_call hb (blk_drewN HX.out _)|have hx:=after_alloc hb);(first|have hw:=below_step HW.out hb|have hw:=below_step (below_alloc HW.out _) hb|have hw:=below_step (pw_below_drewN HW.out _) hb);(try clear HX);(try clear c0' c1 c2 c3 c4 c5 c6 c7 c8);have HX:=Zd hx;obtain⟨c0',c1,c2,c3,c4,c5,c6,c7,c8⟩:=cells9 hx;clear hx;clear HW;have HW:=Zd hw;clear hw hb)
       | (go_at_call 79;(with_reducible refine (HP.out _).mono ?_);rintro e w1 ⟨rfl,hb⟩;(first|have hx:=after_call hb HX.out|have hx:=after_call hb (blk_drewN HX.out _)|have hx:=after_alloc hb);(first|have hw:=below_step HW.out hb|have hw:=below_step (below_alloc HW.out _) hb|have hw:=below_step (pw_below_drewN HW.out _) hb);(try clear HX);(try clear c0' c1 c2 c3 c4 c5 c6 c7 c8);have HX:=Zd hx;obtain⟨c0',c1,c2,c3,c4,c5,c6,c7,c8⟩:=cells9 hx;clear hx;clear HW;have HW:=Zd hw;clear hw hb))
      go_ret
      first|exact⟨rfl,HW.out⟩|exact⟨rfl,pw_below_drewN HW.out _⟩
     | false =>
      rw [if_neg (by simp)] at hq
      by_cases he:s3.toList=([]:List UInt8)
      ·rw [if_pos he] at hq
       obtain rfl:=Option.some.inj hq
       have q1:s3.toList.isEmpty=true:=by rw [he];rfl
       go_wp2_with (first
        | (go_at_call 106;(with_reducible refine (HT.out _).mono ?_);rintro e w1 ⟨rfl,hb⟩;(first|have hx:=after_call hb HX.out|have hx:=after_call hb (blk_drewN HX.out _)|have hx:=after_alloc hb);(first|have hw:=below_step HW.out hb|have hw:=below_step (below_alloc HW.out _) hb|have hw:=below_step (pw_below_drewN HW.out _) hb);(try clear HX);(try clear c0' c1 c2 c3 c4 c5 c6 c7 c8);have HX:=Zd hx;obtain⟨c0',c1,c2,c3,c4,c5,c6,c7,c8⟩:=cells9 hx;clear hx;clear HW;have HW:=Zd hw;clear hw hb)
        | (go_at_call 79;(with_reducible refine (HP.out _).mono ?_);rintro e w1 ⟨rfl,hb⟩;(first|have hx:=after_call hb HX.out|have hx:=after_call hb (blk_drewN HX.out _)|have hx:=after_alloc hb);(first|have hw:=below_step HW.out hb|have hw:=below_step (below_alloc HW.out _) hb|have hw:=below_step (pw_below_drewN HW.out _) hb);(try clear HX);(try clear c0' c1 c2 c3 c4 c5 c6 c7 c8);have HX:=Zd hx;obtain⟨c0',c1,c2,c3,c4,c5,c6,c7,c8⟩:=cells9 hx;clear hx;clear HW;have HW:=Zd hw;clear hw hb))
       go_ret
       first|exact⟨rfl,HW.out⟩|exact⟨rfl,pw_below_drewN HW.out _⟩
      ·rw [if_neg he] at hq
       have q1:s3.toList.isEmpty=false:=by cases hs:s3.toList with|nil=>exact absurd hs he|cons a t=>rfl
       by_cases hn:(i:Int)<(l0.length:Int)-1
       ·rw [if_pos hn] at hq
        have q2:decide ((i:Int)<(l0.length:Int)-1)=true:=decide_eq_true hn
        obtain⟨S,hS,hq⟩:=Option.bind_eq_some_iff.1 hq
        have HSf:=Zd (fun W=>strings_HasSuffix.calls s3 ⟨#[10]⟩ S W hS)
        clear hS hn
        cases S with
        | true =>
         rw [if_pos rfl] at hq
         have HQ:=Zd (show rightL l0.length (l0.drop (i+1)) _ ((i+1:Nat):Int)=some r from by rw [show ((i+1:Nat):Int)=(i:Int)+1 by omega];exact hq)
         clear hq
         go_wp2_with (first
          | (go_at_call 106;(with_reducible refine (HT.out _).mono ?_);rintro e w1 ⟨rfl,hb⟩;(first|have hx:=after_call hb HX.out|have hx:=after_call hb (blk_drewN HX.out _)|have hx:=after_alloc hb);(first|have hw:=below_step HW.out hb|have hw:=below_step (below_alloc HW.out _) hb|have hw:=below_step (pw_below_drewN HW.out _) hb);(try clear HX);(try clear c0' c1 c2 c3 c4 c5 c6 c7 c8);have HX:=Zd hx;obtain⟨c0',c1,c2,c3,c4,c5,c6,c7,c8⟩:=cells9 hx;clear hx;clear HW;have HW:=Zd hw;clear hw hb)
          | (go_at_call 79;(with_reducible refine (HP.out _).mono ?_);rintro e w1 ⟨rfl,hb⟩;(first|have hx:=after_call hb HX.out|have hx:=after_call hb (blk_drewN HX.out _)|have hx:=after_alloc hb);(first|have hw:=below_step HW.out hb|have hw:=below_step (below_alloc HW.out _) hb|have hw:=below_step (pw_below_drewN HW.out _) hb);(try clear HX);(try clear c0' c1 c2 c3 c4 c5 c6 c7 c8);have HX:=Zd hx;obtain⟨c0',c1,c2,c3,c4,c5,c6,c7,c8⟩:=cells9 hx;clear hx;clear HW;have HW:=Zd hw;clear hw hb)
          | (go_at_call 109;(with_reducible refine (HSf.out _).mono ?_);rintro e w1 ⟨rfl,hd⟩;obtain⟨n1,rfl⟩:=hd.out;clear hd))
         go_roundg (l0.length-(i+1))
         case measure=>omega
         case rel=>exact⟨i+1,_,by omega,Nat.le_refl _,rfl,by go_num,HQ,HW⟩
        | false =>
         rw [if_neg (by simp)] at hq
         obtain rfl:=Option.some.inj hq
         go_wp2_with (first
          | (go_at_call 106;(with_reducible refine (HT.out _).mono ?_);rintro e w1 ⟨rfl,hb⟩;(first|have hx:=after_call hb HX.out|have hx:=after_call hb (blk_drewN HX.out _)|have hx:=after_alloc hb);(first|have hw:=below_step HW.out hb|have hw:=below_step (below_alloc HW.out _) hb|have hw:=below_step (pw_below_drewN HW.out _) hb);(try clear HX);(try clear c0' c1 c2 c3 c4 c5 c6 c7 c8);have HX:=Zd hx;obtain⟨c0',c1,c2,c3,c4,c5,c6,c7,c8⟩:=cells9 hx;clear hx;clear HW;have HW:=Zd hw;clear hw hb)
          | (go_at_call 79;(with_reducible refine (HP.out _).mono ?_);rintro e w1 ⟨rfl,hb⟩;(first|have hx:=after_call hb HX.out|have hx:=after_call hb (blk_drewN HX.out _)|have hx:=after_alloc hb);(first|have hw:=below_step HW.out hb|have hw:=below_step (below_alloc HW.out _) hb|have hw:=below_step (pw_below_drewN HW.out _) hb);(try clear HX);(try clear c0' c1 c2 c3 c4 c5 c6 c7 c8);have HX:=Zd hx;obtain⟨c0',c1,c2,c3,c4,c5,c6,c7,c8⟩:=cells9 hx;clear hx;clear HW;have HW:=Zd hw;clear hw hb)
          | (go_at_call 109;(with_reducible refine (HSf.out _).mono ?_);rintro e w1 ⟨rfl,hd⟩;obtain⟨n1,rfl⟩:=hd.out;clear hd))
         go_ret
         first|exact⟨rfl,HW.out⟩|exact⟨rfl,pw_below_drewN HW.out _⟩
       ·rw [if_neg hn] at hq
        have q2:decide ((i:Int)<(l0.length:Int)-1)=false:=decide_eq_false hn
        clear hn
        have HQ:=Zd (show rightL l0.length (l0.drop (i+1)) _ ((i+1:Nat):Int)=some r from by rw [show ((i+1:Nat):Int)=(i:Int)+1 by omega];exact hq)
        clear hq
        go_wp2_with (first
         | (go_at_call 106;(with_reducible refine (HT.out _).mono ?_);rintro e w1 ⟨rfl,hb⟩;(first|have hx:=after_call hb HX.out|have hx:=after_call hb (blk_drewN HX.out _)|have hx:=after_alloc hb);(first|have hw:=below_step HW.out hb|have hw:=below_step (below_alloc HW.out _) hb|have hw:=below_step (pw_below_drewN HW.out _) hb);(try clear HX);(try clear c0' c1 c2 c3 c4 c5 c6 c7 c8);have HX:=Zd hx;obtain⟨c0',c1,c2,c3,c4,c5,c6,c7,c8⟩:=cells9 hx;clear hx;clear HW;have HW:=Zd hw;clear hw hb)
         | (go_at_call 79;(with_reducible refine (HP.out _).mono ?_);rintro e w1 ⟨rfl,hb⟩;(first|have hx:=after_call hb HX.out|have hx:=after_call hb (blk_drewN HX.out _)|have hx:=after_alloc hb);(first|have hw:=below_step HW.out hb|have hw:=below_step (below_alloc HW.out _) hb|have hw:=below_step (pw_below_drewN HW.out _) hb);(try clear HX);(try clear c0' c1 c2 c3 c4 c5 c6 c7 c8);have HX:=Zd hx;obtain⟨c0',c1,c2,c3,c4,c5,c6,c7,c8⟩:=cells9 hx;clear hx;clear HW;have HW:=Zd hw;clear hw hb))
        go_roundg (l0.length-(i+1))
        case measure=>omega
        case rel=>exact⟨i+1,_,by omega,Nat.le_refl _,rfl,by go_num,HQ,HW⟩
    | false =>
     rw [if_neg (by simp)] at hq
     obtain rfl:=Option.some.inj hq
     go_wp2_with (first
      | (go_at_call 106;(with_reducible refine (HT.out _).mono ?_);rintro e w1 ⟨rfl,hb⟩;(first|have hx:=after_call hb HX.out|have hx:=after_call hb (blk_drewN HX.out _)|have hx:=after_alloc hb);(first|have hw:=below_step HW.out hb|have hw:=below_step (below_alloc HW.out _) hb|have hw:=below_step (pw_below_drewN HW.out _) hb);(try clear HX);(try clear c0' c1 c2 c3 c4 c5 c6 c7 c8);have HX:=Zd hx;obtain⟨c0',c1,c2,c3,c4,c5,c6,c7,c8⟩:=cells9 hx;clear hx;clear HW;have HW:=Zd hw;clear hw hb)
      | (go_at_call 79;(with_reducible refine (HP.out _).mono ?_);rintro e w1 ⟨rfl,hb⟩;(first|have hx:=after_call hb HX.out|have hx:=after_call hb (blk_drewN HX.out _)|have hx:=after_alloc hb);(first|have hw:=below_step HW.out hb|have hw:=below_step (below_alloc HW.out _) hb|have hw:=below_step (pw_below_drewN HW.out _) hb);(try clear HX);(try clear c0' c1 c2 c3 c4 c5 c6 c7 c8);have HX:=Zd hx;obtain⟨c0',c1,c2,c3,c4,c5,c6,c7,c8⟩:=cells9 hx;clear hx;clear HW;have HW:=Zd hw;clear hw hb))
     go_ret
     first|exact⟨rfl,HW.out⟩|exact⟨rfl,pw_below_drewN HW.out _⟩
   | false =>
    rw [if_neg (by simp)] at hC
    have HCf:=Zd (fun W=>doc_Part_isConflict.calls s0 s1 s2 b1 s3 s4 s5 s6 b2 C W hC)
    clear hC
    cases C with
    | false =>
     rw [if_neg (by simp)] at hq
     obtain rfl:=Option.some.inj hq
     go_wp2_with (first
      | (go_at_call 106;(with_reducible refine (HT.out _).mono ?_);rintro e w1 ⟨rfl,hb⟩;(first|have hx:=after_call hb HX.out|have hx:=after_call hb (blk_drewN HX.out _)|have hx:=after_alloc hb);(first|have hw:=below_step HW.out hb|have hw:=below_step (below_alloc HW.out _) hb|have hw:=below_step (pw_below_drewN HW.out _) hb);(try clear HX);(try clear c0' c1 c2 c3 c4 c5 c6 c7 c8);have HX:=Zd hx;obtain⟨c0',c1,c2,c3,c4,c5,c6,c7,c8⟩:=cells9 hx;clear hx;clear HW;have HW:=Zd hw;clear hw hb)
      | (go_at_call 108;(with_reducible refine (HCf.out _).mono ?_);rintro e w1 ⟨rfl,hb⟩;(first|have hx:=after_call hb HX.out|have hx:=after_call hb (blk_drewN HX.out _)|have hx:=after_alloc hb);(first|have hw:=below_step HW.out hb|have hw:=below_step (below_alloc HW.out _) hb|have hw:=below_step (pw_below_drewN HW.out _) hb);(try clear HX);(try clear c0' c1 c2 c3 c4 c5 c6 c7 c8);have HX:=Zd hx;obtain⟨c0',c1,c2,c3,c4,c5,c6,c7,c8⟩:=cells9 hx;clear hx;clear HW;have HW:=Zd hw;clear hw hb))
     go_ret
     first|exact⟨rfl,HW.out⟩|exact⟨rfl,pw_below_drewN HW.out _⟩
    | true =>
     rw [if_pos rfl] at hq
     obtain⟨P,hP,hq⟩:=Option.bind_eq_some_iff.1 hq
     have HP:=Zd (fun W=>doc_Labels_Plain.calls s0 s1 s2 P W hP)
     clear hP
     cases P with
     | true =>
      rw [if_pos rfl,if_neg (by simp)] at hq
      have HQ:=Zd (show rightL l0.length (l0.drop (i+1)) _ ((i+1:Nat):Int)=some r from by rw [show ((i+1:Nat):Int)=(i:Int)+1 by omega];exact hq)
      clear hq
      go_wp2_with (first
       | (go_at_call 106;(with_reducible refine (HT.out _).mono ?_);rintro e w1 ⟨rfl,hb⟩;(first|have hx:=after_call hb HX.out|have hx:=after_call hb (blk_drewN HX.out _)|have hx:=after_alloc hb);(first|have hw:=below_step HW.out hb|have hw:=below_step (below_alloc HW.out _) hb|have hw:=below_step (pw_below_drewN HW.out _) hb);(try clear HX);(try clear c0' c1 c2 c3 c4 c5 c6 c7 c8);have HX:=Zd hx;obtain⟨c0',c1,c2,c3,c4,c5,c6,c7,c8⟩:=cells9 hx;clear hx;clear HW;have HW:=Zd hw;clear hw hb)
       | (go_at_call 108;(with_reducible refine (HCf.out _).mono ?_);rintro e w1 ⟨rfl,hb⟩;(first|have hx:=after_call hb HX.out|have hx:=after_call hb (blk_drewN HX.out _)|have hx:=after_alloc hb);(first|have hw:=below_step HW.out hb|have hw:=below_step (below_alloc HW.out _) hb|have hw:=below_step (pw_below_drewN HW.out _) hb);(try clear HX);(try clear c0' c1 c2 c3 c4 c5 c6 c7 c8);have HX:=Zd hx;obtain⟨c0',c1,c2,c3,c4,c5,c6,c7,c8⟩:=cells9 hx;clear hx;clear HW;have HW:=Zd hw;clear hw hb)
       | (go_at_call 79;(with_reducible refine (HP.out _).mono ?_);rintro e w1 ⟨rfl,hb⟩;(first|have hx:=after_call hb HX.out|have hx:=after_call hb (blk_drewN HX.out _)|have hx:=after_alloc hb);(first|have hw:=below_step HW.out hb|have hw:=below_step (below_alloc HW.out _) hb|have hw:=below_step (pw_below_drewN HW.out _) hb);(try clear HX);(try clear c0' c1 c2 c3 c4 c5 c6 c7 c8);have HX:=Zd hx;obtain⟨c0',c1,c2,c3,c4,c5,c6,c7,c8⟩:=cells9 hx;clear hx;clear HW;have HW:=Zd hw;clear hw hb))
      go_roundg (l0.length-(i+1))
      case measure=>omega
      case rel=>exact⟨i+1,_,by omega,Nat.le_refl _,rfl,by go_num,HQ,HW⟩
     | false =>
      rw [if_neg (by simp)] at hq
      obtain rfl:=Option.some.inj hq
      go_wp2_with (first
       | (go_at_call 106;(with_reducible refine (HT.out _).mono ?_);rintro e w1 ⟨rfl,hb⟩;(first|have hx:=after_call hb HX.out|have hx:=after_call hb (blk_drewN HX.out _)|have hx:=after_alloc hb);(first|have hw:=below_step HW.out hb|have hw:=below_step (below_alloc HW.out _) hb|have hw:=below_step (pw_below_drewN HW.out _) hb);(try clear HX);(try clear c0' c1 c2 c3 c4 c5 c6 c7 c8);have HX:=Zd hx;obtain⟨c0',c1,c2,c3,c4,c5,c6,c7,c8⟩:=cells9 hx;clear hx;clear HW;have HW:=Zd hw;clear hw hb)
       | (go_at_call 108;(with_reducible refine (HCf.out _).mono ?_);rintro e w1 ⟨rfl,hb⟩;(first|have hx:=after_call hb HX.out|have hx:=after_call hb (blk_drewN HX.out _)|have hx:=after_alloc hb);(first|have hw:=below_step HW.out hb|have hw:=below_step (below_alloc HW.out _) hb|have hw:=below_step (pw_below_drewN HW.out _) hb);(try clear HX);(try clear c0' c1 c2 c3 c4 c5 c6 c7 c8);have HX:=Zd hx;obtain⟨c0',c1,c2,c3,c4,c5,c6,c7,c8⟩:=cells9 hx;clear hx;clear HW;have HW:=Zd hw;clear hw hb)
       | (go_at_call 79;(with_reducible refine (HP.out _).mono ?_);rintro e w1 ⟨rfl,hb⟩;(first|have hx:=after_call hb HX.out|have hx:=after_call hb (blk_drewN HX.out _)|have hx:=after_alloc hb);(first|have hw:=below_step HW.out hb|have hw:=below_step (below_alloc HW.out _) hb|have hw:=below_step (pw_below_drewN HW.out _) hb);(try clear HX);(try clear c0' c1 c2 c3 c4 c5 c6 c7 c8);have HX:=Zd hx;obtain⟨c0',c1,c2,c3,c4,c5,c6,c7,c8⟩:=cells9 hx;clear hx;clear HW;have HW:=Zd hw;clear hw hb))
      go_ret
      first|exact⟨rfl,HW.out⟩|exact⟨rfl,pw_below_drewN HW.out _⟩
  ·have hq:=HL.out
   rw [List.drop_of_length_le (by omega),rightL] at hq
   obtain rfl:=Option.some.inj hq
   clear hq
   go_wp2
   go_ret
   exact⟨rfl,HW.out⟩
end Go.Proofs.YtfiamddinkokbaaGreat.F
end

section
namespace Go.Proofs.YtfiamddinkokbaaGreat.F
open Go.RowKit Go.Proofs.YtfiamddinkokbaaGreatW.PrintWords Go.Proofs.YtfiamddinkokbaaGreatW.PrintLast Go.Proofs.YtfiamddinkokbaaGreatW.PrintMore
attribute [local go_sem] max2_int min2_int max_two min_two max_three min_three max_four min_four
def doc_Doc_Right.f (k : Nat) (l0 : List S124) : Option Bool := rightF l0
theorem doc_Doc_Right.mono : ∀ l0 k,LeO (doc_Doc_Right.f k l0) (doc_Doc_Right.f (k+1) l0) := fun _ _=>LeO.refl _
theorem doc_Doc_Right.calls (k : Nat) (A0 : Option Addr) (c0 : Nat) (l0 : List (S124)) (r : Bool) (w : World) (hr0 : Kd.C k124 w A0 l0.length l0) (hc0 : l0.length≤c0) (h : doc_Doc_Right.f k l0=some r) :
  Calls Tryz.prog 71 #[.slice A0 l0.length c0] w fun e w'=>e = .returned (.bool r)∧Below w.heap.size w w':=by
 exact right_calls A0 c0 l0 r w hr0 hc0 h
end Go.Proofs.YtfiamddinkokbaaGreat.F
end

section
namespace Go.Proofs.YtfiamddinkokbaaGreat.F
open Go.RowKit Go.Shelf Go.Proofs.YtfiamddinkokbaaGreatW.PrintWords
def texts106 (x : S124) : List ByteArray := [x.f2,x.f3,x.f4,x.f5]
def agg106 (x : S124) : Value := .agg #[.string x.f0.f0,.string x.f0.f1,.string x.f0.f2,.bool x.f1,.string x.f2,.string x.f3,.string x.f4,.string x.f5,.bool x.f6]
def widest (k : Nat) (x : S124) : Int := (doc_run.f k (texts106 x)).getD 0
theorem fits_lit (W : World) (n : Nat) (t : TypeId) (a b c d : ByteArray) (h : W.heap[n]? = some (.cells #[.string a,.string b,.string c,.string d] t (0,0))) : Kd.C Kd.string W (some ⟨n,0,none⟩) 4 [a,b,c,d] := by
 refine⟨rfl,by omega,fun _=>⟨_,rfl,?_⟩⟩
 intro j p hj
 refine⟨[.string p],rfl,rfl,?_⟩
 intro i u hi
 have hi0:i=0:=by
  match i,hi with
  | 0,_=>rfl
 subst hi0
 obtain rfl:Value.string p=u:=by simpa using hi
 rw [add_plain]
 have hz:(Kd.string).sz=1:=rfl
 rw [hz,Nat.mul_one,Nat.add_zero]
 have:∀ i v,(#[Value.string a,.string b,.string c,.string d]:Array Value)[i]? = some v→W.cell? ⟨n,i,none⟩=some v:=by
  intro i v hv
  exact (blk_cell h i).trans hv
 apply this
 match j,hj with
 | 0,hj=>simpa using hj
 | 1,hj=>simpa using hj
 | 2,hj=>simpa using hj
 | 3,hj=>simpa using hj
theorem fits_new (W : World) (o : Obj) : (W.alloc o).drew.heap[W.heap.size]? = some o := World.alloc_heap_new W o
theorem fits_run (k n : Nat) (t : TypeId) (a b c d : ByteArray) (r : Int) (W : World) (h : W.heap[n]? = some (.cells #[.string a,.string b,.string c,.string d] t (0,0))) (hr : doc_run.f k [a,b,c,d]=some r) :
  Calls Tryz.prog 84 #[.slice (some ⟨n,0,none⟩) 4 4] W fun e w'=>e = .returned (.int .i64 r)∧Below W.heap.size W w' :=
 doc_run.calls k (some ⟨n,0,none⟩) 4 [a,b,c,d] r W (fits_lit W n t a b c d h) (Nat.le_refl 4) hr
theorem fits_keep {w0 W w' : World} {a0 a1 a2 a3 a4 : Addr} {v0 v1 v2 v3 v4 : Value} (hb : Below W.heap.size W w')
  (h:W.cell? a0=some v0∧W.cell? a1=some v1∧W.cell? a2=some v2∧W.cell? a3=some v3∧W.cell? a4=some v4∧Below w0.heap.size w0 W) :
  w'.cell? a0=some v0∧w'.cell? a1=some v1∧w'.cell? a2=some v2∧w'.cell? a3=some v3∧w'.cell? a4=some v4∧Below w0.heap.size w0 w':=by
 obtain⟨h0,h1,h2,h3,h4,h5⟩:=h
 exact⟨(hb.cell (World.block_lt_of_cell? W _ h0)).trans h0,(hb.cell (World.block_lt_of_cell? W _ h1)).trans h1,(hb.cell (World.block_lt_of_cell? W _ h2)).trans h2,(hb.cell (World.block_lt_of_cell? W _ h3)).trans h3,
  (hb.cell (World.block_lt_of_cell? W _ h4)).trans h4,below_step h5 hb⟩
set_option maxHeartbeats 4000000 in
set_option maxRecDepth 100000 in
theorem fits_pred (k B : Nat) (lim : Int) (w W : World) (x : S124) (r : Int) (hB : B<w.heap.size) (hc : w.cell? ⟨B,0,none⟩=some (.int .i64 lim)) (hb : Below w.heap.size w W)
  (hr:doc_run.f k (texts106 x)=some r) :
  Calls Tryz.prog 113 (#[agg106 x] ++ #[.pointer (some ⟨B,0,none⟩)]) W fun e w'=>e = .returned (.bool (decide (lim≤r)))∧Below w.heap.size w w':=by
 have hW:W.cell? ⟨B,0,none⟩=some (.int .i64 lim):=(hb.cell (p:=⟨B,0,none⟩) hB).trans hc
 have hBW:B<W.heap.size:=World.block_lt_of_cell? W _ hW
 show Calls Tryz.prog 113 #[agg106 x,.pointer (some ⟨B,0,none⟩)] W _
 unfold agg106
 obtain⟨H0,hH⟩:∃ H0,W.heap.size=H0:=⟨_,rfl⟩
 clear hc hB
 obtain⟨⟨l1,l2,l3⟩,b1,s2,s3,s4,s5,b6⟩:=x
 have HX:Aside0 (doc_run.f k [s2,s3,s4,s5]=some r):=⟨hr⟩
 clear hr
 dsimp only
 go_enter Tryz.func113,Tryz.ntmps113
 go_wp2_with fail
 try rw [hH]
 have hbox:(W.alloc (Obj.cells #[Value.string l1,Value.string l2,Value.string l3,Value.bool b1,Value.string s2,Value.string s3,Value.string s4,Value.string s5,Value.bool b6] 124)).heap[H0]? = some (Obj.cells #[Value.string l1,Value.string l2,Value.string l3,Value.bool b1,Value.string s2,Value.string s3,Value.string s4,Value.string s5,Value.bool b6] 124):=by
  rw [←hH];exact World.alloc_heap_new _ _
 have hbel:Below w.heap.size w (W.alloc (Obj.cells #[Value.string l1,Value.string l2,Value.string l3,Value.bool b1,Value.string s2,Value.string s3,Value.string s4,Value.string s5,Value.bool b6] 124)):=below_alloc hb _
 have hlim:(W.alloc (Obj.cells #[Value.string l1,Value.string l2,Value.string l3,Value.bool b1,Value.string s2,Value.string s3,Value.string s4,Value.string s5,Value.bool b6] 124)).cell? ⟨B,0,none⟩=some (.int .i64 lim) :=
  ((below_alloc (Below.refl _ _) _).cell hBW).trans hW
 clear hb hW hBW hH
 generalize W.alloc (Obj.cells #[Value.string l1,Value.string l2,Value.string l3,Value.bool b1,Value.string s2,Value.string s3,Value.string s4,Value.string s5,Value.bool b6] 124)=W1 at hbox hbel hlim ⊢
 have e4:W1.cell? ⟨H0,4,none⟩=some (.string s2):=(blk_cell hbox 4).trans rfl
 have e5:W1.cell? ⟨H0,5,none⟩=some (.string s3):=(blk_cell hbox 5).trans rfl
 have e6:W1.cell? ⟨H0,6,none⟩=some (.string s4):=(blk_cell hbox 6).trans rfl
 have e7:W1.cell? ⟨H0,7,none⟩=some (.string s5):=(blk_cell hbox 7).trans rfl
 go_region_held3 (fun w'=>w'.cell? ⟨B,0,none⟩=some (.int .i64 lim)∧w'.cell? ⟨H0,4,none⟩=some (.string s2)∧w'.cell? ⟨H0,5,none⟩=some (.string s3)∧w'.cell? ⟨H0,6,none⟩=some (.string s4)∧w'.cell? ⟨H0,7,none⟩=some (.string s5)∧Below w.heap.size w w')
  ((first|exact fits_keep (by first|assumption|exact below_drew (below_alloc (Below.refl _ _) _)|exact below_alloc (Below.refl _ _) _|exact below_drew (Below.refl _ _)) (by first|assumption|(refine⟨?_,?_,?_,?_,?_,?_⟩<;>assumption))))
  (first|(go_at_call 84;refine (fits_run k _ 9 s2 s3 s4 s5 r _ (fits_new _ _) HX.out).mono ?_;rintro e w' ⟨rfl,hb'⟩))
 all_goals go_wp2
 all_goals go_ret
 all_goals (refine⟨rfl,?_⟩;first|assumption|(go_split_ands;assumption))
instance inhab106 : Inhabited S124 := ⟨z124⟩
theorem getD106 (l : List S124) (j : Nat) : l[j]! = l.getD j z124 := by rw [List.getElem!_eq_getElem?_getD,List.getD_eq_getElem?_getD];rfl
def wide (k : Nat) (lim : Int) (x : S124) : Bool := decide (lim≤widest k x)
def fitsOk (k : Nat) (l : List S124) : Bool := l.all fun x=>(doc_run.f k (texts106 x)).isSome
set_option maxHeartbeats 4000000 in
set_option maxRecDepth 100000 in
theorem fits_index (k B : Nat) (lim : Int) (A : Option Addr) (c : Nat) (l : List S124) (w : World) (hB : B<w.heap.size) (hc : w.cell? ⟨B,0,none⟩=some (.int .i64 lim))
  (hr:Kd.C k124 w A l.length l) (hok:fitsOk k l=true) :
  Calls Tryz.prog 136 #[.slice A l.length c,.func (.func 113) #[] #[.pointer (some ⟨B,0,none⟩)]] w fun e w' =>
   e = .returned (.int .i64 (Lib.idxBy (fun _ y=>wide k lim y) l z124))∧Below w.heap.size w w':=by
 have eg:∀ args w,(callFunc 113 args).run Tryz.prog w = .ok (.enter 113 args) w:=enters_of Tryz.func113 (by kernel_rfl) rfl
 have hrun:∀ x∈l,doc_run.f k (texts106 x)=some (widest k x):=by
  intro x hx
  have h1:=List.all_eq_true.1 hok x hx
  obtain⟨r,hr⟩:=Option.isSome_iff_exists.1 h1
  unfold widest
  rw [hr];rfl
 have hlen:l.length≤9223372036854775807:=hr.2.1
 have hpred:∀ (W:World) (x:S124),x∈l→Below w.heap.size w W→Calls Tryz.prog 113 (#[agg106 x] ++ #[.pointer (some ⟨B,0,none⟩)]) W fun e w'=>e = .returned (.bool (wide k lim x))∧Below w.heap.size w w' :=
  fun W x hx hb=>fits_pred k B lim w W x (widest k x) hB hc hb (hrun x hx)
 have HR0:=Zd hr
 clear hr hc hB hok hrun
 go_enter Tryz.func136,Tryz.ntmps136
 go_wp2
 go_loopg [5,8] l.length (fun gg _ s8 wr=>∃ kk:Nat,kk≤l.length∧l.length-kk≤gg∧s8 = .int .i64 kk∧Aside (Below w.heap.size w wr)∧Aside (∀ j,j<kk→wide k lim (l.getD j z124)=false))
 case atStart=>exact⟨0,Nat.zero_le _,by omega,rfl,Below.refl _ w,fun j hj=>absurd hj (Nat.not_lt_zero _)⟩
 case round =>
  obtain⟨kk,hkk,hg,rfl,BW,AA⟩:=hrel
  by_cases hlt:kk<l.length
  ·have hltz:(kk:Int)<(l.length:Int):=by omega
   obtain⟨ad,rfl,hx0,hx1,hx2,hx3,hx4,hx5,hx6,hx7,hx8⟩:=at_T124 (Kd.C_below HR0.out BW.out) (kk:Int) (by omega) hltz
   have hcall:=hpred wr (l.getD kk z124) (by rw [List.getD_eq_getElem?_getD,List.getElem?_eq_getElem hlt];exact List.getElem_mem hlt) BW.out
   have hrd:rd_T124 l (kk:Int)=l.getD kk z124:=rfl
   rw [Int.toNat_natCast] at hx0 hx1 hx2 hx3 hx4 hx5 hx6 hx7 hx8
   rw [hrd] at hx0 hx1 hx2 hx3 hx4 hx5 hx6 hx7 hx8
   clear hpred hrd
   generalize hy:l.getD kk z124=y at hx0 hx1 hx2 hx3 hx4 hx5 hx6 hx7 hx8 hcall
   have BB:Aside (l.getD kk z124=y):=hy
   clear hy
   unfold agg106 at hcall
   obtain⟨⟨l1,l2,l3⟩,b1,s2,s3,s4,s5,b6⟩:=y
   have p0:(0:Int)≤(kk:Int):=by omega
   cases hq:wide k lim ⟨⟨l1,l2,l3⟩,b1,s2,s3,s4,s5,b6⟩ with
   | true =>
    rw [hq] at hcall
    go_wp2_with (go_at_fn 113;refine hcall.mono ?_;rintro e w' ⟨rfl,hb'⟩)
    go_ret
    refine⟨?_,hb'⟩
    have hit:=Lib.idxBy_hit (fun _ y=>wide k lim y) l l.length kk z124 hlt (Nat.le_refl _) (by show wide k lim l[kk]! = true;rw [getD106,BB.out];exact hq) (fun j hj=>by show wide k lim l[j]! = false;rw [getD106];exact AA.out j hj)
    rw [List.take_length] at hit
    rw [hit];rfl
   | false =>
    rw [hq] at hcall
    go_wp2_with (go_at_fn 113;refine hcall.mono ?_;rintro e w' ⟨rfl,hb'⟩)
    go_roundg (l.length-(kk+1))
    case measure=>omega
    case rel =>
     refine⟨kk+1,by omega,by omega,by go_num,hb',(show Aside _ from fun j hj=>?_)⟩
     by_cases e:j=kk
     ·subst e
      rw [BB.out];exact hq
     ·exact AA.out j (by omega)
  ·have hltz:¬ (kk:Int)<(l.length:Int):=by omega
   have:kk=l.length:=by omega
   subst this
   go_wp2
   go_ret
   refine⟨?_,BW.out⟩
   have miss:=Lib.idxBy_miss (fun _ y=>wide k lim y) l l.length z124 (fun j hj=>by show wide k lim l[j]! = false;rw [getD106];exact AA.out j hj)
   rw [List.take_length] at miss
   rw [miss];rfl
theorem fits_contains (k B : Nat) (lim : Int) (A : Option Addr) (c : Nat) (l : List S124) (w : World) (hB : B<w.heap.size) (hc : w.cell? ⟨B,0,none⟩=some (.int .i64 lim))
  (hr:Kd.C k124 w A l.length l) (hok:fitsOk k l=true) :
  Calls Tryz.prog 112 #[.slice A l.length c,.func (.func 113) #[] #[.pointer (some ⟨B,0,none⟩)]] w fun e w' =>
   e = .returned (.bool (l.any (wide k lim)))∧Below w.heap.size w w':=by
 have hcon:=fits_index k B lim A c l w hB hc hr hok
 rw [show l.any (wide k lim)=decide (0≤Lib.idxBy (fun _ y=>wide k lim y) l z124) from (Lib.idxBy_nonneg_iff (fun _ y=>wide k lim y) l z124).symm]
 clear hr hc hok
 generalize Lib.idxBy (fun _ y=>wide k lim y) l z124=r at hcon ⊢
 go_enter Tryz.func112,Tryz.ntmps112
 go_wp2_with (go_at_call 136;refine hcon.mono ?_;rintro e w' ⟨rfl,hb'⟩)
 go_ret
 exact⟨rfl,hb'⟩
def fitsF (k : Nat) (l : List S124) (a1 : Int) : Option Bool := if 1≤a1 then (if fitsOk k l=true then some (!l.any (wide k a1)) else none) else some false
theorem fits_calls (k : Nat) (A : Option Addr) (c : Nat) (l : List S124) (a1 : Int) (r : Bool) (w : World) (hr : Kd.C k124 w A l.length l) (hc : l.length≤c) (h : fitsF k l a1=some r) :
  Calls Tryz.prog 75 #[.slice A l.length c,.int .i64 a1] w fun e w'=>e = .returned (.bool r)∧Below w.heap.size w w':=by
 unfold fitsF at h
 by_cases h1:1≤a1
 ·rw [if_pos h1] at h
  by_cases h2:fitsOk k l=true
  ·rw [if_pos h2] at h
   obtain rfl:=Option.some.inj h
   have hcon:=fits_contains k w.heap.size a1 A c l (w.alloc (.cells #[.int .i64 a1] 3)) (by simp) (by simp) (Kd.C_alloc hr _) h2
   clear hr h2
   generalize l.any (wide k a1)=q at hcon ⊢
   have h1b:decide (1≤a1)=true:=decide_eq_true h1
   have h1e:=eq_true h1
   go_enter Tryz.func75,Tryz.ntmps75
   go_wp2_with (go_at_call 112;refine hcon.mono ?_;rintro e w' ⟨rfl,hb'⟩)
   go_ret
   exact⟨rfl,below_step (below_alloc (Below.refl _ _) _) hb'⟩
  ·rw [if_neg h2] at h;cases h
 ·rw [if_neg h1] at h
  obtain rfl:=Option.some.inj h
  have h1b:decide (1≤a1)=false:=decide_eq_false h1
  have h1e:=eq_false h1
  go_enter Tryz.func75,Tryz.ntmps75
  go_wp2
  go_ret
  exact⟨rfl,below_alloc (Below.refl _ _) _⟩
theorem fits_mono : ∀ l a1 k,LeO (fitsF k l a1) (fitsF (k+1) l a1) := by
 intro l a1 k r h
 unfold fitsF at h ⊢
 by_cases h1:1≤a1
 ·rw [if_pos h1] at h ⊢
  by_cases h2:fitsOk k l=true
  ·rw [if_pos h2] at h
   have hx:∀ x∈l,doc_run.f (k+1) (texts106 x)=doc_run.f k (texts106 x):=by
    intro x hx
    obtain⟨v,hv⟩:=Option.isSome_iff_exists.1 (List.all_eq_true.1 h2 x hx)
    rw [hv,doc_run.mono _ _ _ hv]
   have h3:fitsOk (k+1) l=true:=by
    refine List.all_eq_true.2 fun x hm=>?_
    rw [hx x hm];exact List.all_eq_true.1 h2 x hm
   have h4:l.any (wide (k+1) a1)=l.any (wide k a1):=by
    rw [Bool.eq_iff_iff,List.any_eq_true,List.any_eq_true]
    constructor<;>(rintro⟨x,hm,hw⟩;refine⟨x,hm,?_⟩;unfold wide widest at hw ⊢;rw [hx x hm] at *;exact hw)
   rw [if_pos h3,h4];exact h
  ·rw [if_neg h2] at h;cases h
 ·rw [if_neg h1] at h ⊢;exact h
end Go.Proofs.YtfiamddinkokbaaGreat.F
end

section
namespace Go.Proofs.YtfiamddinkokbaaGreat.F
open Go.RowKit Go.Proofs.YtfiamddinkokbaaGreatW.PrintWords Go.Proofs.YtfiamddinkokbaaGreatW.PrintLast Go.Proofs.YtfiamddinkokbaaGreatW.PrintMore
attribute [local go_sem] max2_int min2_int max_two min_two max_three min_three max_four min_four
def doc_Doc_Fits.f (k : Nat) (l0 : List S124) (a1 : Int) : Option Bool := fitsF k l0 a1
theorem doc_Doc_Fits.mono : ∀ l0 a1 k,LeO (doc_Doc_Fits.f k l0 a1) (doc_Doc_Fits.f (k+1) l0 a1) := fits_mono
theorem doc_Doc_Fits.calls (k : Nat) (A0 : Option Addr) (c0 : Nat) (l0 : List (S124)) (a1 : Int) (r : Bool) (w : World) (hr0 : Kd.C k124 w A0 l0.length l0) (hc0 : l0.length≤c0) (h : doc_Doc_Fits.f k l0 a1=some r) :
  Calls Tryz.prog 75 #[.slice A0 l0.length c0,.int .i64 a1] w fun e w'=>e = .returned (.bool r)∧Below w.heap.size w w':=by
 exact fits_calls k A0 c0 l0 a1 r w hr0 hc0 h
end Go.Proofs.YtfiamddinkokbaaGreat.F
end

section
namespace Go.Proofs.YtfiamddinkokbaaGreat.F
open Go.RowKit Go.Shelf Go.Proofs.YtfiamddinkokbaaGreatW.PrintWords
def sufQ (s : ByteArray) : Bool := (strings_HasSuffix.f s ⟨#[10]⟩).getD false
def partL (wd : Int) (x : S124) : List UInt8 := x.f2.data.toList++(if x.f1=true then hunkL wd false x (sufQ x.f3) (sufQ x.f4) (sufQ x.f5) else [])
def printL (wd : Int) (l : List S124) : List UInt8 := l.flatMap (partL wd)
def okPart (x : S124) : Bool := decide (x.f0.f0.size≤4000000000)&&(decide (x.f0.f1.size≤4000000000)&&(decide (x.f0.f2.size≤4000000000)&&(decide (x.f2.size≤4000000000)&&(decide (x.f3.size≤4000000000)&&(decide (x.f4.size≤4000000000)&&(decide (x.f5.size≤4000000000) &&
 ((strings_HasSuffix.f x.f3 ⟨#[10]⟩).isSome&&((strings_HasSuffix.f x.f4 ⟨#[10]⟩).isSome&&(strings_HasSuffix.f x.f5 ⟨#[10]⟩).isSome))))))))
def printF (k : Nat) (l : List S124) (wd : Int) : Option (ByteArray×Int) :=
 (mark_wide.f wd).bind fun t=>if t=true then ((doc_Doc_Right.f k l).bind fun r=>if r=true then ((doc_Doc_Fits.f k l wd).bind fun g =>
  if g=true then (if l.all okPart=true∧l.length≤2000∧0≤wd∧wd≤1073741824 then some (toB (printL wd l),0) else none) else some (⟨#[]⟩,4)) else some (⟨#[]⟩,11)) else some (⟨#[]⟩,4)
theorem sufQ_some {s : ByteArray} (h : (strings_HasSuffix.f s ⟨#[10]⟩).isSome=true) : strings_HasSuffix.f s ⟨#[10]⟩=some (sufQ s) := by
 unfold sufQ
 obtain⟨q,hq⟩:=Option.isSome_iff_exists.1 h
 rw [hq];rfl
theorem pr_new (B : Nat) (wd : Int) (W : World) (hB : B≤W.heap.size) : Pr B W.heap.size wd false [] (W.alloc (.cells #[.pointer none,.slice none 0 0,.int .i64 wd,.bool false] 148)) :=
 ⟨_,_,⟨hB,World.alloc_heap_new _ _,rfl,rfl,.inl rfl,World.ownsRowF_nil _ _ _ _,by simp [Value.ownBlock]⟩⟩
set_option maxHeartbeats 4000000 in
set_option maxRecDepth 100000 in
theorem print_wide (A : Option Addr) (c n : Nat) (wd : Int) (w : World) (e0 : mark_wide.f wd=some false) :
  Calls Tryz.prog 34 #[.slice A n c,.int .i64 wd] w fun e w'=>e = .returned (.tuple #[.string ⟨#[]⟩,.int .i64 4])∧Below w.heap.size w w':=by
 have H0:=fun W=>mark_wide.calls wd false W e0
 have HB:=Zd (Below.refl w.heap.size w)
 go_enter Tryz.func34,Tryz.ntmps34
 go_wp2_with (first|(go_at_call 74;refine (H0 _).mono ?_;rintro e w1 ⟨rfl,nd,rfl⟩))
 go_ret2
 exact⟨rfl,pw_below_drewN HB.out nd⟩
set_option maxHeartbeats 4000000 in
set_option maxRecDepth 100000 in
theorem print_right (k : Nat) (A : Option Addr) (c : Nat) (l : List S124) (wd : Int) (w : World) (hr : Kd.C k124 w A l.length l) (hc : l.length≤c) (e0 : mark_wide.f wd=some true) (e1 : doc_Doc_Right.f k l=some false) :
  Calls Tryz.prog 34 #[.slice A l.length c,.int .i64 wd] w fun e w'=>e = .returned (.tuple #[.string ⟨#[]⟩,.int .i64 11])∧Below w.heap.size w w':=by
 have H0:=fun W=>mark_wide.calls wd true W e0
 have H1:=fun W (hb:Below w.heap.size w W)=>doc_Doc_Right.calls k A c l false W (Kd.C_below hr hb) hc e1
 have HB:=Zd (Below.refl w.heap.size w)
 clear hr e1 e0
 go_enter Tryz.func34,Tryz.ntmps34
 go_wp2_with (first
  | (go_at_call 74;refine (H0 _).mono ?_;rintro e w1 ⟨rfl,nd,rfl⟩;replace HB:=Zd (pw_below_drewN HB.out nd))
  | (go_at_call 71;refine (H1 _ HB.out).mono ?_;rintro e w2 ⟨rfl,hb⟩;replace HB:=Zd (below_step HB.out hb);clear hb))
 go_ret2
 exact⟨rfl,HB.out⟩
set_option maxHeartbeats 4000000 in
set_option maxRecDepth 100000 in
theorem print_fits (k : Nat) (A : Option Addr) (c : Nat) (l : List S124) (wd : Int) (w : World) (hr : Kd.C k124 w A l.length l) (hc : l.length≤c) (e0 : mark_wide.f wd=some true) (e1 : doc_Doc_Right.f k l=some true) (e2 : doc_Doc_Fits.f k l wd=some false) :
  Calls Tryz.prog 34 #[.slice A l.length c,.int .i64 wd] w fun e w'=>e = .returned (.tuple #[.string ⟨#[]⟩,.int .i64 4])∧Below w.heap.size w w':=by
 have H0:=fun W=>mark_wide.calls wd true W e0
 have H1:=fun W (hb:Below w.heap.size w W)=>doc_Doc_Right.calls k A c l true W (Kd.C_below hr hb) hc e1
 have H2:=fun W (hb:Below w.heap.size w W)=>doc_Doc_Fits.calls k A c l wd false W (Kd.C_below hr hb) hc e2
 have HB:=Zd (Below.refl w.heap.size w)
 clear hr e1 e0 e2
 go_enter Tryz.func34,Tryz.ntmps34
 go_wp2_with (first
  | (go_at_call 74;refine (H0 _).mono ?_;rintro e w1 ⟨rfl,nd,rfl⟩;replace HB:=Zd (pw_below_drewN HB.out nd))
  | (go_at_call 71;refine (H1 _ HB.out).mono ?_;rintro e w2 ⟨rfl,hb⟩;replace HB:=Zd (below_step HB.out hb);clear hb)
  | (go_at_call 75;refine (H2 _ HB.out).mono ?_;rintro e w2 ⟨rfl,hb⟩;replace HB:=Zd (below_step HB.out hb);clear hb))
 go_ret2
 exact⟨rfl,HB.out⟩
theorem pr_drew {B b : Nat} {wd : Int} {lk : Bool} {bs : List UInt8} {w : World} (h : Pr B b wd lk bs w) : Pr B b wd lk bs w.drew := h.below (below_drew1 (Below.refl _ _))
theorem partL_length (wd : Int) (w1 : wd≤1073741824) (x : S124) (h : okPart x=true) : (partL wd x).length≤45000000000 := by
 unfold okPart at h
 simp only [Bool.and_eq_true,decide_eq_true_eq] at h
 obtain⟨z0,z1,z2,ztx,z3,z4,z5,_⟩:=h
 have hz:(⟨#[]⟩:ByteArray).size=0:=rfl
 unfold partL
 rw [List.length_append,size_dataL]
 split
 ·unfold hunkL
  simp only [List.length_append]
  have a0:=lineL_length 60 false x.f0.f0 wd w1
  have a1:=sideL_length x.f3 (sufQ x.f3)
  have a3:=lineL_length 61 (if x.f6=true then lacksB x.f4 (sufQ x.f4) else lacksB x.f3 (sufQ x.f3)) ⟨#[]⟩ wd w1
  have a4:=sideL_length x.f5 (sufQ x.f5)
  have a5:=lineL_length 62 (lacksB x.f5 (sufQ x.f5)) x.f0.f2 wd w1
  have a6:(if x.f6=true then lineL 124 (lacksB x.f3 (sufQ x.f3)) x.f0.f1 wd++sideL x.f4 (sufQ x.f4) else []).length≤10000000000:=by
   split
   ·rw [List.length_append]
    have b0:=lineL_length 124 (lacksB x.f3 (sufQ x.f3)) x.f0.f1 wd w1
    have b1:=sideL_length x.f4 (sufQ x.f4)
    omega
   ·simp
  omega
 ·simp;omega
theorem printL_length (wd : Int) (w1 : wd≤1073741824) : ∀ l : List S124,(∀ x∈l,okPart x=true)→(printL wd l).length≤l.length*45000000000
 | [],_=>by simp [printL]
 | x::l,h=>by
  have h1:=partL_length wd w1 x (h x (by simp))
  have h2:=printL_length wd w1 l (fun y hy=>h y (by simp [hy]))
  have e:printL wd (x::l)=partL wd x++printL wd l:=by simp [printL]
  rw [e,List.length_append,List.length_cons]
  omega
set_option maxHeartbeats 8000000 in
set_option maxRecDepth 100000 in
theorem print_main (k : Nat) (A : Option Addr) (c : Nat) (l : List S124) (wd : Int) (w : World) (hr : Kd.C k124 w A l.length l) (hc : l.length≤c) (e0 : mark_wide.f wd=some true) (e1 : doc_Doc_Right.f k l=some true) (e2 : doc_Doc_Fits.f k l wd=some true)
  (hok:l.all okPart=true) (hn:l.length≤2000) (w0:0≤wd) (w1:wd≤1073741824) :
  Calls Tryz.prog 34 #[.slice A l.length c,.int .i64 wd] w fun e w'=>e = .returned (.tuple #[.string (toB (printL wd l)),.int .i64 0])∧Below w.heap.size w w':=by
 have H0:=fun W=>mark_wide.calls wd true W e0
 have H1:=fun W (hb:Below w.heap.size w W)=>doc_Doc_Right.calls k A c l true W (Kd.C_below hr hb) hc e1
 have H2:=fun W (hb:Below w.heap.size w W)=>doc_Doc_Fits.calls k A c l wd true W (Kd.C_below hr hb) hc e2
 have HR:=Zd hr
 have HB:=Zd (Below.refl w.heap.size w)
 clear hr e1 e0 e2
 go_enter Tryz.func34,Tryz.ntmps34
 go_wp2_with (first
  | (go_at_call 74;refine (H0 _).mono ?_;rintro e w1 ⟨rfl,nd,rfl⟩;replace HB:=Zd (pw_below_drewN HB.out nd))
  | (go_at_call 71;refine (H1 _ HB.out).mono ?_;rintro e w2 ⟨rfl,hb⟩;replace HB:=Zd (below_step HB.out hb);clear hb)
  | (go_at_call 75;refine (H2 _ HB.out).mono ?_;rintro e w2 ⟨rfl,hb⟩;replace HB:=Zd (below_step HB.out hb);clear hb))
 have HP:=Zd (pr_new w.heap.size wd w2 HB.out.size)
 replace HB:=Zd (below_step HB.out (below_alloc (Below.refl w2.heap.size w2) (.cells #[.pointer none,.slice none 0 0,.int .i64 wd,.bool false] 148)))
 clear H0 H1 H2
 generalize w2.alloc (.cells #[.pointer none,.slice none 0 0,.int .i64 wd,.bool false] 148)=W at HP HB ⊢
 generalize w2.heap.size=b at HP ⊢
 go_loopg [27] l.length (fun gg s27 wr=>∃ kk:Nat,kk≤l.length∧l.length-kk≤gg∧s27 = .int .i64 kk∧Aside0 (Below w.heap.size w wr)∧Aside0 (Pr w.heap.size b wd false (printL wd (l.take kk)) wr))
 case atStart=>exact⟨0,Nat.zero_le _,by omega,rfl,HB,HP⟩
 case round =>
  clear HB HP
  obtain⟨kk,hkk,hg,rfl,HB,HP⟩:=hrel
  by_cases hlt:kk<l.length
  ·have hltz:(kk:Int)<(l.length:Int):=by omega
   have p0:(0:Int)≤(kk:Int):=by omega
   obtain⟨ad,rfl,hx0,hx1,hx2,hx3,hx4,hx5,hx6,hx7,hx8⟩:=at_T124 (Kd.C_below HR.out HB.out) (kk:Int) p0 hltz
   have hrd:rd_T124 l (kk:Int)=l.getD kk z124:=rfl
   rw [Int.toNat_natCast] at hx0 hx1 hx2 hx3 hx4 hx5 hx6 hx7 hx8
   rw [hrd] at hx0 hx1 hx2 hx3 hx4 hx5 hx6 hx7 hx8
   generalize hy:l.getD kk z124=y at hx0 hx1 hx2 hx3 hx4 hx5 hx6 hx7 hx8
   obtain⟨⟨l0,l1,l2⟩,hk,tx,s3,s4,s5,hb⟩:=y
   have hmem:(⟨⟨l0,l1,l2⟩,hk,tx,s3,s4,s5,hb⟩:S124)∈l:=by
    rw [←hy,List.getD_eq_getElem?_getD,List.getElem?_eq_getElem hlt];exact List.getElem_mem hlt
   have ho:=List.all_eq_true.1 hok _ hmem
   unfold okPart at ho
   simp only [Bool.and_eq_true,decide_eq_true_eq] at ho
   obtain⟨z0,z1,z2,ztx,z3,z4,z5,q3,q4,q5⟩:=ho
   have hlen:=printL_length wd w1 (l.take kk) (fun x hx=>List.all_eq_true.1 hok x (List.mem_of_mem_take hx))
   have hlen2:(l.take kk).length≤2000:=by rw [List.length_take];omega
   have hlen3:(printL wd (l.take kk)).length≤2000*45000000000:=Nat.le_trans hlen (Nat.mul_le_mul_right _ hlen2)
   have hstep:printL wd (l.take (kk+1))=printL wd (l.take kk)++partL wd ⟨⟨l0,l1,l2⟩,hk,tx,s3,s4,s5,hb⟩:=by
    rw [List.take_add_one,List.getElem?_eq_getElem hlt]
    have:l[kk]=⟨⟨l0,l1,l2⟩,hk,tx,s3,s4,s5,hb⟩:=by rw [←hy,List.getD_eq_getElem?_getD,List.getElem?_eq_getElem hlt];rfl
    simp [printL,this]
   have HS:=Zd hstep
   have HQ3:=Zd (sufQ_some q3)
   have HQ4:=Zd (sufQ_some q4)
   have HQ5:=Zd (sufQ_some q5)
   generalize printL wd (l.take kk)=cur at HP hlen3 HS
   clear hstep q3 q4 q5 hlen hlen2 hmem hy hrd
   go_wp2_with fail
   have hblk:=World.alloc_heap_new wr (.cells #[.string l0,.string l1,.string l2,.bool hk,.string tx,.string s3,.string s4,.string s5,.bool hb] 124)
   have hne:wr.heap.size≠b:=by have:=HP.out.lt;omega
   replace HP:=Zd (HP.out.below (below_alloc (Below.refl wr.heap.size wr) (.cells #[.string l0,.string l1,.string l2,.bool hk,.string tx,.string s3,.string s4,.string s5,.bool hb] 124)))
   replace HB:=Zd (below_step HB.out (below_alloc (Below.refl wr.heap.size wr) (.cells #[.string l0,.string l1,.string l2,.bool hk,.string tx,.string s3,.string s4,.string s5,.bool hb] 124)))
   clear hx0 hx1 hx2 hx3 hx4 hx5 hx6 hx7 hx8
   generalize wr.alloc (.cells #[.string l0,.string l1,.string l2,.bool hk,.string tx,.string s3,.string s4,.string s5,.bool hb] 124)=W2 at *
   generalize wr.heap.size=nb at *
   have k4:=(blk_cell hblk 4).trans (rfl:_=some (Value.string tx))
   go_region_with ((first
    | (go_at_call 68;refine (pr_write (w:=W2.drew) tx (pr_drew HP.out) (by omega) HB.out.size).mono ?_;rintro e W3 ⟨rfl,hp_,hb_,hk_⟩)))
   have hblk3:=hk_.cell (show W2.drew.heap[nb]? = _ from hblk) (by decide) hne
   have j0:=(blk_cell hblk3 0).trans (rfl:_=some (Value.string l0))
   have j1:=(blk_cell hblk3 1).trans (rfl:_=some (Value.string l1))
   have j2:=(blk_cell hblk3 2).trans (rfl:_=some (Value.string l2))
   have j3:=(blk_cell hblk3 3).trans (rfl:_=some (Value.bool hk))
   have j4:=(blk_cell hblk3 4).trans (rfl:_=some (Value.string tx))
   have j5:=(blk_cell hblk3 5).trans (rfl:_=some (Value.string s3))
   have j6:=(blk_cell hblk3 6).trans (rfl:_=some (Value.string s4))
   have j7:=(blk_cell hblk3 7).trans (rfl:_=some (Value.string s5))
   have j8:=(blk_cell hblk3 8).trans (rfl:_=some (Value.bool hb))
   have HP3:=Zd hp_
   have HB3:=Zd (below_weaken HB.out (Nat.le_refl _) (pr_drawn hb_))
   clear hblk k4 hp_ hb_ hk_ HP HB hblk3
   generalize ht3:tx.data.toList=txl at HP3
   have htl:txl.length=tx.size:=by rw [←ht3];exact size_dataL tx
   cases hk with
   | false =>
    go_wp2
    go_roundg (l.length-(kk+1))
    case measure=>omega
    case rel =>
     refine⟨kk+1,by omega,by omega,by go_num,HB3,⟨?_⟩⟩
     rw [HS.out]
     have:partL wd ⟨⟨l0,l1,l2⟩,false,tx,s3,s4,s5,hb⟩=txl:=by unfold partL;simp [ht3]
     rw [this];exact HP3.out
   | true =>
    go_wp2_with (first
     | (go_at_call 76;refine (pr_hunk ⟨⟨l0,l1,l2⟩,true,tx,s3,s4,s5,hb⟩ _ _ _ HP3.out w0 w1 z0 z1 z2 z3 z4 z5 HQ3.out HQ4.out HQ5.out (by rw [List.length_append];omega) HB3.out.size).mono ?_;rintro e W4 ⟨rfl,hp4,hb4,_⟩))
    go_roundg (l.length-(kk+1))
    case measure=>omega
    case rel =>
     refine⟨kk+1,by omega,by omega,by go_num,⟨below_weaken HB3.out (Nat.le_refl _) hb4⟩,⟨?_⟩⟩
     rw [HS.out]
     have:partL wd ⟨⟨l0,l1,l2⟩,true,tx,s3,s4,s5,hb⟩=txl++hunkL wd false ⟨⟨l0,l1,l2⟩,true,tx,s3,s4,s5,hb⟩ (sufQ s3) (sufQ s4) (sufQ s5):=by unfold partL;simp [ht3]
     rw [this,←List.append_assoc];exact hp4
  ·obtain rfl:kk=l.length:=by omega
   have q1:((l.length:Int)<(l.length:Int))=False:=by simp
   rw [List.take_length] at HP
   obtain⟨p_,v_,hbld⟩:=HP.out
   have HS2:=fun hB=>bld_string hbld hB
   go_wp2_with (first
    | (go_at_call 77;refine (HS2 HB.out.size).mono ?_;rintro e W5 ⟨rfl,hb5,_⟩))
   go_ret2
   exact⟨rfl,below_weaken HB.out (Nat.le_refl _) hb5⟩
theorem print_calls (k : Nat) (A : Option Addr) (c : Nat) (l : List S124) (wd : Int) (r1 : ByteArray) (r2 : Int) (w : World) (hr : Kd.C k124 w A l.length l) (hc : l.length≤c) (h : printF k l wd=some (r1,r2)) :
  Calls Tryz.prog 34 #[.slice A l.length c,.int .i64 wd] w fun e w'=>e = .returned (.tuple #[.string r1,.int .i64 r2])∧Below w.heap.size w w':=by
 unfold printF at h
 obtain⟨t,e0,h⟩:=Option.bind_eq_some_iff.1 h
 cases t with
 | false =>
  rw [if_neg (by decide)] at h
  cases h
  exact print_wide A c l.length wd w e0
 | true =>
  rw [if_pos rfl] at h
  obtain⟨r,e1,h⟩:=Option.bind_eq_some_iff.1 h
  cases r with
  | false =>
   rw [if_neg (by decide)] at h
   cases h
   exact print_right k A c l wd w hr hc e0 e1
  | true =>
   rw [if_pos rfl] at h
   obtain⟨g,e2,h⟩:=Option.bind_eq_some_iff.1 h
   cases g with
   | false =>
    rw [if_neg (by decide)] at h
    cases h
    exact print_fits k A c l wd w hr hc e0 e1 e2
   | true =>
    rw [if_pos rfl] at h
    split at h
    ·rename_i hx
     cases h
     exact print_main k A c l wd w hr hc e0 e1 e2 hx.1 hx.2.1 hx.2.2.1 hx.2.2.2
    ·cases h
theorem print_mono : ∀ l wd k,LeO (printF k l wd) (printF (k+1) l wd) := by
 intro l wd k
 unfold printF
 refine LeO.bind (LeO.refl _) (fun _=>?_)
 refine LeO.ite ?_ (LeO.refl _)
 refine LeO.bind (doc_Doc_Right.mono _ _) (fun _=>?_)
 refine LeO.ite ?_ (LeO.refl _)
 refine LeO.bind (doc_Doc_Fits.mono _ _ _) (fun _=>LeO.refl _)
#print axioms print_calls
end Go.Proofs.YtfiamddinkokbaaGreat.F
end

section
namespace Go.Proofs.YtfiamddinkokbaaGreat.F
open Go.RowKit Go.Proofs.YtfiamddinkokbaaGreatW.PrintWords Go.Proofs.YtfiamddinkokbaaGreatW.PrintLast Go.Proofs.YtfiamddinkokbaaGreatW.PrintMore
attribute [local go_sem] max2_int min2_int max_two min_two max_three min_three max_four min_four
def mark_Print.f (k : Nat) (l0 : List S124) (a1 : Int) : Option (ByteArray×Int) := printF k l0 a1
theorem mark_Print.mono : ∀ l0 a1 k,LeO (mark_Print.f k l0 a1) (mark_Print.f (k+1) l0 a1) := print_mono
theorem mark_Print.calls (k : Nat) (A0 : Option Addr) (c0 : Nat) (l0 : List (S124)) (a1 : Int) (r1 : ByteArray) (r2 : Int) (w : World) (hr0 : Kd.C k124 w A0 l0.length l0) (hc0 : l0.length≤c0) (h : mark_Print.f k l0 a1=some (r1,r2)) :
  Calls Tryz.prog 34 #[.slice A0 l0.length c0,.int .i64 a1] w fun e w'=>e = .returned (.tuple #[.string r1,.int .i64 r2])∧Below w.heap.size w w':=by
 exact print_calls k A0 c0 l0 a1 r1 r2 w hr0 hc0 h

end Go.Proofs.YtfiamddinkokbaaGreat.F
end

section
namespace Go.Proofs.YtfiamddinkokbaaGreat.F
open Go.RowKit Go.Proofs.YtfiamddinkokbaaGreatW.PrintWords Go.Proofs.YtfiamddinkokbaaGreatW.PrintLast Go.Proofs.YtfiamddinkokbaaGreatW.PrintMore
attribute [local go_sem] max2_int min2_int max_two min_two max_three min_three max_four min_four
attribute [local go_sem high] eqA60

end Go.Proofs.YtfiamddinkokbaaGreat.F
end

section
namespace Go.Proofs.YtfiamddinkokbaaGreat.F
open Go.RowKit Go.Proofs.YtfiamddinkokbaaGreatW.PrintWords Go.Proofs.YtfiamddinkokbaaGreatW.PrintLast Go.Proofs.YtfiamddinkokbaaGreatW.PrintMore
attribute [local go_sem] max2_int min2_int max_two min_two max_three min_three max_four min_four




end Go.Proofs.YtfiamddinkokbaaGreat.F
end

section
namespace Go.Proofs.YtfiamddinkokbaaGreat.F
open Go.RowKit Go.Proofs.YtfiamddinkokbaaGreatW.PrintWords Go.Proofs.YtfiamddinkokbaaGreatW.PrintLast Go.Proofs.YtfiamddinkokbaaGreatW.PrintMore
def confP (x : S60) : Bool := x.f3&&(x.f4.toList.isEmpty&&(x.f8||(x.f6.toList.isEmpty&&x.f1.toList.isEmpty)))
def oneP (x : S60) : Bool := isTextP x||confP x
def plainP (x : S60) : Bool := !lineless x.f0&&(!lineless x.f1 && !lineless x.f2)
def rightP : Bool→List S60→Bool
 | _,[]=>true
 | tx,x::r=>oneP x&&(plainP x&&((!isTextP x||(!tx&&(!x.f4.toList.isEmpty&&(r.isEmpty||endsL x.f4.data.toList))))&&rightP (isTextP x) r))
theorem rightP_cons (tx : Bool) (x : S60) (r : List S60) : rightP tx (x::r)=(oneP x&&(plainP x&&((!isTextP x||(!tx&&(!x.f4.toList.isEmpty&&(r.isEmpty||endsL x.f4.data.toList))))&&rightP (isTextP x) r))) := by rw [rightP]
theorem text_hunk (x : S60) (h : isTextP x=true) : x.f3=false := by
 unfold isTextP at h
 simp only [Bool.and_eq_true,Bool.not_eq_true'] at h
 exact h.2.2.2.1
theorem one_hunk (x : S60) (h : oneP x=true) : isTextP x = !x.f3 := by
 unfold oneP at h
 cases ht:isTextP x with
 | true=>rw [text_hunk x ht];rfl
 | false =>
  rw [ht] at h
  unfold confP at h
  simp only [Bool.false_or,Bool.and_eq_true] at h
  rw [h.1];rfl
theorem isText_f (x : S60) : doc_Part_isText.f (to106 x).f0.f0 (to106 x).f0.f1 (to106 x).f0.f2 (to106 x).f1 (to106 x).f2 (to106 x).f3 (to106 x).f4 (to106 x).f5 (to106 x).f6=some (isTextP x) := by
 unfold doc_Part_isText.f isTextP to106
 congr 1
 simp only [Bool.and_assoc]
theorem isEmpty_iff {l : List UInt8} : l.isEmpty=true↔l=[] := List.isEmpty_iff
theorem toList_empty (s : ByteArray) : (s.toList==([] : List UInt8))=s.toList.isEmpty := by
 cases s.toList<;>rfl
theorem isConf_f (x : S60) (hs : x.f6.size+x.f1.size≤4000000000) : doc_Part_isConflict.f (to106 x).f0.f0 (to106 x).f0.f1 (to106 x).f0.f2 (to106 x).f1 (to106 x).f2 (to106 x).f3 (to106 x).f4 (to106 x).f5 (to106 x).f6=some (confP x) := by
 unfold doc_Part_isConflict.f confP to106
 simp only
 cases x.f3 with
 | false=>rw [if_neg (by simp)];rfl
 | true =>
  rw [if_pos rfl]
  by_cases h4:x.f4.toList=([]:List UInt8)
  ·rw [if_pos h4,h4]
   cases x.f8 with
   | true=>rw [if_pos rfl];rfl
   | false =>
    rw [if_neg (by simp),if_pos (by omega),toList_empty,bytes_toList,ByteArray.data_append,Array.toList_append,bytes_toList,bytes_toList]
    cases x.f6.data.toList<;>rfl
  ·rw [if_neg h4]
   have:x.f4.toList.isEmpty=false:=by cases hx:x.f4.toList with|nil=>exact absurd hx h4|cons a t=>rfl
   rw [this];rfl
theorem lineless_app (a b : ByteArray) : lineless (a++b)=(lineless a||lineless b) := by
 rw [lineless_iff,lineless_iff,lineless_iff,ByteArray.data_append,Array.toList_append]
 by_cases h1:(10:UInt8)∈a.data.toList<;>by_cases h2:(10:UInt8)∈b.data.toList<;>simp [h1,h2]
theorem labels_plain (a b c : ByteArray) (hs : a.size+b.size+c.size≤4000000000) : doc_Labels_Plain.f a b c=some (!lineless a&&(!lineless b && !lineless c)) := by
 unfold doc_Labels_Plain.f
 rw [if_pos (by omega),if_pos (by rw [ByteArray.size_append];omega)]
 unfold strings_Contains.f
 rw [if_pos (show (⟨#[10]⟩:ByteArray).size=1 from rfl)]
 show some (!lineless (a++b++c))=_
 rw [lineless_app,lineless_app]
 cases lineless a<;>cases lineless b<;>cases lineless c<;>rfl
theorem sizes_le {x : S60} {M : Nat} (h : sizesP x≤M) : x.f0.size≤M∧x.f1.size≤M∧x.f2.size≤M∧x.f4.size≤M∧x.f5.size≤M∧x.f6.size≤M∧x.f7.size≤M∧x.f0.size+x.f1.size+x.f2.size≤M∧x.f6.size+x.f1.size≤M := by
 unfold sizesP at h;omega
theorem doc_right_in (n : Int) : ∀ (l : List S60) (tx : Bool) (i : Int),i+l.length=n→(∀ x∈l,sizesP x≤1000000000)→rightL n (l.map to106) tx i=some (rightP tx l)
 | [],tx,i,hi,hs=>rfl
 | x::rest,tx,i,hi,hs=>by
  have hx:=sizes_le (hs x (List.mem_cons_self ..))
  have next:=fun tx'=>doc_right_in n rest tx' (i+1) (by simp at hi;omega) (fun y hy=>hs y (List.mem_cons_of_mem _ hy))
  have e0:isTextX (to106 x)=some (isTextP x):=isText_f x
  have e1:=isConf_f x (by omega)
  have e2:doc_Labels_Plain.f (to106 x).f0.f0 (to106 x).f0.f1 (to106 x).f0.f2=some (plainP x):=labels_plain _ _ _ (by show x.f0.size+x.f1.size+x.f2.size≤_;omega)
  have e3:strings_HasSuffix.f (to106 x).f2 ⟨#[10]⟩=some (endsL x.f4.data.toList):=sufx x.f4 (by omega)
  have e4:(to106 x).f2=x.f4:=rfl
  have c:(if isTextP x=true then some true else some (confP x))=some (oneP x):=by unfold oneP;cases isTextP x<;>rfl
  rw [List.map,rightL,rightP,e0,Option.bind_some,e1,c,Option.bind_some,e2,e3,e4]
  cases oneP x with
  | false=>rfl
  | true =>
   rw [if_pos rfl,Option.bind_some]
   cases plainP x with
   | false=>rfl
   | true =>
    rw [if_pos rfl]
    cases ht:isTextP x with
    | false=>rw [if_neg (by simp),next];simp
    | true =>
     rw [if_pos rfl]
     cases tx with
     | true=>rfl
     | false =>
      rw [if_neg (by simp)]
      by_cases he:x.f4.toList=([]:List UInt8)
      ·rw [if_pos he,he];rfl
      ·have he2:x.f4.toList.isEmpty=false:=by cases hx:x.f4.toList with|nil=>exact absurd hx he|cons a t=>rfl
       rw [if_neg he,he2,next]
       cases rest with
       | nil=>rw [if_neg (by simp at hi;omega)];rfl
       | cons y rest =>
        rw [if_pos (by simp at hi;omega),Option.bind_some]
        cases endsL x.f4.data.toList<;>simp
theorem ev_doc_right (l : List S60) (hn : l.length≤4000000000) (hs : ∀ x∈l,sizesP x≤1000000000) : Ev (fun k=>doc_Doc_Right.f k (l.map to106)) (rightP false l) := by
 refine Ev.const ?_
 show rightF (l.map to106)=_
 unfold rightF
 rw [if_pos (by simp;omega),List.length_map]
 exact doc_right_in _ l false 0 (by simp) hs
def narrowerP (w : Int) (x : S60) : Bool := decide (textRun x.f4<w)&&(decide (textRun x.f5<w)&&(decide (textRun x.f6<w)&&decide (textRun x.f7<w)))
def fitsP (l : List S60) (w : Int) : Bool := decide (1≤w)&&l.all (narrowerP w)
theorem texts_to (x : S60) : texts106 (to106 x)=[x.f4,x.f5,x.f6,x.f7] := rfl
theorem runAll_four (w : Int) (x : S60) : decide (w≤runAll [x.f4,x.f5,x.f6,x.f7] 0)=(decide (w≤0) || !narrowerP w x) := by
 have h1:=(textRun_bound x.f4).1
 have h2:=(textRun_bound x.f5).1
 have h3:=(textRun_bound x.f6).1
 have h4:=(textRun_bound x.f7).1
 have e:runAll [x.f4,x.f5,x.f6,x.f7] 0=mx (mx (mx (mx 0 (textRun x.f4)) (textRun x.f5)) (textRun x.f6)) (textRun x.f7):=rfl
 rw [e]
 unfold narrowerP
 have a1:=mx_cases 0 (textRun x.f4)
 have a2:=mx_cases (mx 0 (textRun x.f4)) (textRun x.f5)
 have a3:=mx_cases (mx (mx 0 (textRun x.f4)) (textRun x.f5)) (textRun x.f6)
 have a4:=mx_cases (mx (mx (mx 0 (textRun x.f4)) (textRun x.f5)) (textRun x.f6)) (textRun x.f7)
 rw [Bool.eq_iff_iff]
 simp only [decide_eq_true_eq,Bool.or_eq_true,Bool.not_eq_true',Bool.and_eq_false_iff,decide_eq_false_iff_not]
 omega
theorem fits_rounds (w : Int) : ∀ (l : List S60),(∀ x∈l,sizesP x≤1000000000)→∃ K,∀ k,K≤k→fitsOk k (l.map to106)=true∧(l.map to106).any (wide k w)=l.any (fun x=>decide (w≤runAll [x.f4,x.f5,x.f6,x.f7] 0))
 | [],_=>⟨0,fun k _=>⟨rfl,rfl⟩⟩
 | x::l,hs=>by
  obtain⟨K,hK⟩:=fits_rounds w l (fun y hy=>hs y (by simp [hy]))
  have hx:=sizes_le (hs x (by simp))
  obtain⟨L,hL⟩:=ev_doc_run [x.f4,x.f5,x.f6,x.f7] (by simp) (by intro s hm;simp at hm;rcases hm with rfl|rfl|rfl|rfl<;>omega)
  refine⟨max K L,fun k hk=>?_⟩
  obtain⟨h1,h2⟩:=hK k (by omega)
  have h3:doc_run.f k [x.f4,x.f5,x.f6,x.f7]=some (runAll [x.f4,x.f5,x.f6,x.f7] 0):=hL k (by omega)
  simp only [List.map_cons,List.any_cons]
  refine⟨?_,?_⟩
  ·unfold fitsOk at h1 ⊢
   rw [List.all_cons,h1,texts_to,h3];rfl
  ·rw [h2]
   unfold wide widest
   rw [texts_to,h3];rfl
theorem any_all (w : Int) (h1 : 1≤w) : ∀ l : List S60,(!l.any (fun x=>decide (w≤runAll [x.f4,x.f5,x.f6,x.f7] 0)))=l.all (narrowerP w)
 | []=>rfl
 | x::l=>by
  rw [List.any_cons,List.all_cons,Bool.not_or,any_all w h1 l,runAll_four]
  rw [decide_eq_false (show ¬ w≤0 by omega)]
  simp
theorem ev_doc_fits (l : List S60) (w : Int) (hs : ∀ x∈l,sizesP x≤1000000000) : Ev (fun k=>doc_Doc_Fits.f k (l.map to106) w) (fitsP l w) := by
 obtain⟨K,hK⟩:=fits_rounds w l hs
 refine⟨K,fun k hk=>?_⟩
 obtain⟨h1,h2⟩:=hK k hk
 show fitsF k (l.map to106) w=_
 unfold fitsF fitsP
 by_cases hw:1≤w
 ·rw [if_pos hw,if_pos h1,h2,any_all w hw,decide_eq_true hw,Bool.true_and]
 ·rw [if_neg hw,decide_eq_false hw,Bool.false_and]
def printP (l : List S60) (w : Int) : ByteArray×Int :=
 if 1≤w∧w≤1073741824 then (if rightP false l=true then (if fitsP l w=true then (toB (printL w (l.map to106)),0) else (⟨#[]⟩,4)) else (⟨#[]⟩,11)) else (⟨#[]⟩,4)
theorem printP_in {l : List S60} {w : Int} (h1 : 1≤w) (h2 : w≤1073741824) : printP l w=(if rightP false l=true then (if fitsP l w=true then (toB (printL w (l.map to106)),0) else (⟨#[]⟩,4)) else (⟨#[]⟩,11)) := if_pos ⟨h1,h2⟩
theorem printP_out {l : List S60} {w : Int} (h : ¬ (1≤w∧w≤1073741824)) : printP l w=(⟨#[]⟩,4) := if_neg h
theorem okPart_to (x : S60) (h : sizesP x≤1000000000) : okPart (to106 x)=true := by
 have hx:=sizes_le h
 unfold okPart
 have e1:(to106 x).f3=x.f5:=rfl
 have e2:(to106 x).f4=x.f6:=rfl
 have e3:(to106 x).f5=x.f7:=rfl
 rw [e1,e2,e3,sufx x.f5 (by omega),sufx x.f6 (by omega),sufx x.f7 (by omega)]
 simp only [Bool.and_eq_true,decide_eq_true_eq]
 exact⟨by show x.f0.size≤_;omega,by show x.f1.size≤_;omega,by show x.f2.size≤_;omega,by show x.f4.size≤_;omega,by omega,by omega,by omega,rfl,rfl,rfl⟩
theorem ev_mark_print (l : List S60) (w : Int) (hn : l.length≤2000) (hs : ∀ x∈l,sizesP x≤1000000000) : Ev (fun k=>mark_Print.f k (l.map to106) w) (printP l w) := by
 show Ev (fun k=>printF k (l.map to106) w) (printP l w)
 unfold printF mark_wide.f
 by_cases h1:w≥1
 ·rw [if_pos h1]
  by_cases h2:w≤1073741824
  ·rw [decide_eq_true h2,printP_in h1 h2]
   refine Ev.bind (Ev.const rfl) (Ev.pos rfl (Ev.bind (ev_doc_right l (by omega) hs) ?_))
   have hok:(l.map to106).all okPart=true:=by
    refine List.all_eq_true.2 (fun y hy=>?_)
    obtain⟨x,hx,rfl⟩:=List.mem_map.1 hy
    exact okPart_to x (hs x hx)
   by_cases h3:rightP false l=true
   ·refine Ev.cast (Ev.pos h3 (Ev.bind (ev_doc_fits l w hs) ?_)) (if_pos h3).symm
    by_cases h4:fitsP l w=true
    ·exact Ev.cast (Ev.pos h4 (Ev.pos ⟨hok,by rw [List.length_map];exact hn,by omega,h2⟩ (Ev.val rfl))) (if_pos h4).symm
    ·exact Ev.cast (Ev.neg h4 (Ev.val rfl)) (if_neg h4).symm
   ·exact Ev.cast (Ev.neg h3 (Ev.val rfl)) (if_neg h3).symm
  ·rw [decide_eq_false h2,printP_out (fun h=>h2 h.2)]
   exact Ev.bind (Ev.const rfl) (Ev.neg (by simp) (Ev.val rfl))
 ·rw [if_neg h1,printP_out (fun h=>h1 h.1)]
  exact Ev.bind (Ev.const rfl) (Ev.neg (by simp) (Ev.val rfl))
theorem sufQ_eq (s : ByteArray) (h : s.size≤4000000000) : sufQ s=endsL s.data.toList := by unfold sufQ;rw [sufx s h];rfl
theorem lineL_eq (c : UInt8) (fl : Bool) (lb : ByteArray) (w : Int) : lineL (c.toNat : Int) fl lb w=markL c fl lb.data.toList w.toNat := by
 unfold lineL;rw [lineB_markL,data_toB,Int.toNat_natCast];simp
end Go.Proofs.YtfiamddinkokbaaGreat.F
end

section
namespace Go.Proofs.YtfiamddinkokbaaGreat.F
open Go.RowKit Go.Proofs.YtfiamddinkokbaaGreatW.PrintWords Go.Proofs.YtfiamddinkokbaaGreatW.PrintLast Go.Proofs.YtfiamddinkokbaaGreatW.PrintMore
attribute [local go_sem] max2_int min2_int max_two min_two max_three min_three max_four min_four
def chunk_Of.f (k : Nat) (a0 : Int) (a1 : Int) (a2 : Int) (l3 : List S94) (l4 : List S94) : Option ((List S121)×Int) := ofF k a0 a1 a2 l3 l4
theorem chunk_Of.mono : ∀ a0 a1 a2 l3 l4 k,LeO (chunk_Of.f k a0 a1 a2 l3 l4) (chunk_Of.f (k+1) a0 a1 a2 l3 l4) := of_mono
theorem chunk_Of.calls (k : Nat) (a0 : Int) (a1 : Int) (a2 : Int) (A3 : Option Addr) (c3 : Nat) (l3 : List (S94)) (A4 : Option Addr) (c4 : Nat) (l4 : List (S94)) (r1 : List (S121)) (r2 : Int) (w : World) (hr3 : Kd.C k94 w A3 l3.length l3) (hc3 : l3.length≤c3) (hr4 : Kd.C k94 w A4 l4.length l4) (hc4 : l4.length≤c4) (h : chunk_Of.f k a0 a1 a2 l3 l4=some (r1,r2)) :
  Calls Tryz.prog 43 #[.int .i64 a0,.int .i64 a1,.int .i64 a2,.slice A3 l3.length c3,.slice A4 l4.length c4] w fun e w'=>∃ v0_:Value,e = .returned (.tuple #[v0_,.int .i64 r2])∧Kd.R k121 121 w' w.heap.size (fun _=>True) v0_ r1∧Below w.heap.size w w':=by
 exact of_calls k a0 a1 a2 A3 c3 l3 A4 c4 l4 r1 r2 w hr3 hc3 hr4 hc4 h
def slices_Clone_string_string.f (l0 : List ByteArray) : Option (List ByteArray) := if l0.length≤4000000000 then some l0 else none
theorem slices_Clone_string_string.calls (A0 : Option Addr) (c0 : Nat) (l0 : List ByteArray) (r : List ByteArray) (w : World) (hr0 : Kd.C Kd.string w A0 l0.length l0) (hc0 : l0.length≤c0) (h : slices_Clone_string_string.f l0=some r) :
  Calls Tryz.prog 144 #[.slice A0 l0.length c0] w fun e w'=>∃ v0_:Value,e = .returned (v0_)∧Kd.R Kd.string 9 w' w.heap.size (fun _=>True) v0_ r∧Below w.heap.size w w':=by
 exact ext_clone A0 c0 l0 r w hr0 hc0 h
def chunk_Span_Cut.f (a0_0 : Int) (a0_1 : Int) (l1 : List ByteArray) : Option (List ByteArray) := if a0_0<0 then (some ([] : List ByteArray)) else (if a0_1>(l1.length : Int) then (some ([] : List ByteArray)) else (if a0_1<a0_0 then (some ([] : List ByteArray)) else (if 0≤a0_0 then (if a0_0≤a0_1 then (if a0_1≤(l1.length : Int) then ((slices_Clone_string_string.f ((l1.take (a0_1 : Int).toNat).drop (a0_0 : Int).toNat)).bind fun t144=>(some t144)) else (none)) else (none)) else (none))))
set_option maxHeartbeats 8000000 in
set_option maxRecDepth 100000 in
theorem chunk_Span_Cut.calls (a0_0 : Int) (a0_1 : Int) (A1 : Option Addr) (c1 : Nat) (l1 : List ByteArray) (r : List ByteArray) (w : World) (hr1 : Kd.C Kd.string w A1 l1.length l1) (hc1 : l1.length≤c1) (h : chunk_Span_Cut.f a0_0 a0_1 l1=some r) :
  Calls Tryz.prog 125 #[.agg #[.int .i64 a0_0,.int .i64 a0_1],.slice A1 l1.length c1] w fun e w'=>∃ v0_:Value,e = .returned (v0_)∧Kd.R Kd.string 9 w' w.heap.size (fun _=>True) v0_ r∧Below w.heap.size w w':=by
 have hu119:=Tryz.underlying119
 have HR1:=Zd hr1
 have HC1:=Zd hc1
 clear hr1 hc1
 have HB:=Zd (Below.refl w.heap.size w)
 have H:(if a0_0<0 then (some ([]:List ByteArray)) else (if a0_1>(l1.length:Int) then (some ([]:List ByteArray)) else (if a0_1<a0_0 then (some ([]:List ByteArray)) else (if 0≤a0_0 then (if a0_0≤a0_1 then (if a0_1≤(l1.length:Int) then ((slices_Clone_string_string.f ((l1.take (a0_1:Int).toNat).drop (a0_0:Int).toNat)).bind fun t144=>(some t144)) else (none)) else (none)) else (none)))))=some r:=h
 clear h
 by_cases c3:a0_0<0
 ·rw [if_pos c3] at H
  have c3b0:decide (a0_0<0)=true:=decide_eq_true c3
  clear c3
  obtain rfl:=Option.some.inj H
  go_enter Tryz.func125,Tryz.ntmps125
  go_wp2_with (first|((with_reducible refine gate_dst (N:=2) rfl ?_);(try (refine gate_guard (by rfl) ?_;dsimp only));refine box_event ?hg (N:=2) ?hd (cs:=#[.int .i64 a0_0,.int .i64 a0_1]) (t:=119) ?hr ?_;(case hd=>rfl);(case hg=>rfl);(case hr=>first|(go_simp;done)|(go_simp;rfl));intro gb142 hg w4 hbox hb;have n0_:=Zd (below_step Zb hb);have n1_:=Zd (hbox);have n2_:=Zd ((Zg hg:w.heap.size≤gb142));have n3_:=Zd ((Zg hg:w.heap.size≤gb142));clear HB;have HB:=n0_;have BK142:=n1_;have GW142:=n2_;have GE142:=n3_;clear n0_ n1_ n2_ n3_;clear hb hbox hg;obtain⟨hcz5_0,hcz5_1,hfz5_0,hfz5_1⟩:=Zc2 BK142.out))
  go_ret
  exact⟨_,by first|rfl|(simp [errW_none,errW_some]<;>rfl)|(simp [*,errW_none,errW_some]<;>rfl),by first|exact Kd.R_nil _ _ _ _ _|exact Kd.N_nil _ _ _ _ _|exact Kd.V_nil _ _ _ _ _|exact Kd.Q_nil _ _ _ _ _|exact Kd.S_nil _ _ _ _ _,by repeat (first|(with_reducible first|exact HB.out|apply below_alloc|apply pw_below_drewN|apply below_drew1|refine below_set ?_ GE142.out)|exact HB.out)⟩
 ·rw [if_neg c3] at H
  have c3b0:decide (a0_0<0)=false:=decide_eq_false c3
  clear c3
  by_cases c6:a0_1>(l1.length:Int)
  ·rw [if_pos c6] at H
   have c6b0:decide ((l1.length:Int)<a0_1)=true:=decide_eq_true c6
   clear c6
   obtain rfl:=Option.some.inj H
   go_enter Tryz.func125,Tryz.ntmps125
   go_wp2_with (first|((with_reducible refine gate_dst (N:=2) rfl ?_);(try (refine gate_guard (by rfl) ?_;dsimp only));refine box_event ?hg (N:=2) ?hd (cs:=#[.int .i64 a0_0,.int .i64 a0_1]) (t:=119) ?hr ?_;(case hd=>rfl);(case hg=>rfl);(case hr=>first|(go_simp;done)|(go_simp;rfl));intro gb142 hg w7 hbox hb;have n0_:=Zd (below_step Zb hb);have n1_:=Zd (hbox);have n2_:=Zd ((Zg hg:w.heap.size≤gb142));have n3_:=Zd ((Zg hg:w.heap.size≤gb142));clear HB;have HB:=n0_;have BK142:=n1_;have GW142:=n2_;have GE142:=n3_;clear n0_ n1_ n2_ n3_;clear hb hbox hg;obtain⟨hcz8_0,hcz8_1,hfz8_0,hfz8_1⟩:=Zc2 BK142.out))
   go_ret
   exact⟨_,by first|rfl|(simp [errW_none,errW_some]<;>rfl)|(simp [*,errW_none,errW_some]<;>rfl),by first|exact Kd.R_nil _ _ _ _ _|exact Kd.N_nil _ _ _ _ _|exact Kd.V_nil _ _ _ _ _|exact Kd.Q_nil _ _ _ _ _|exact Kd.S_nil _ _ _ _ _,by repeat (first|(with_reducible first|exact HB.out|apply below_alloc|apply pw_below_drewN|apply below_drew1|refine below_set ?_ GE142.out)|exact HB.out)⟩
  ·rw [if_neg c6] at H
   have c6b0:decide ((l1.length:Int)<a0_1)=false:=decide_eq_false c6
   clear c6
   by_cases c9:a0_1<a0_0
   ·rw [if_pos c9] at H
    have c9b0:decide (a0_1<a0_0)=true:=decide_eq_true c9
    clear c9
    obtain rfl:=Option.some.inj H
    go_enter Tryz.func125,Tryz.ntmps125
    go_wp2_with (first|((with_reducible refine gate_dst (N:=2) rfl ?_);(try (refine gate_guard (by rfl) ?_;dsimp only));refine box_event ?hg (N:=2) ?hd (cs:=#[.int .i64 a0_0,.int .i64 a0_1]) (t:=119) ?hr ?_;(case hd=>rfl);(case hg=>rfl);(case hr=>first|(go_simp;done)|(go_simp;rfl));intro gb142 hg w10 hbox hb;have n0_:=Zd (below_step Zb hb);have n1_:=Zd (hbox);have n2_:=Zd ((Zg hg:w.heap.size≤gb142));have n3_:=Zd ((Zg hg:w.heap.size≤gb142));clear HB;have HB:=n0_;have BK142:=n1_;have GW142:=n2_;have GE142:=n3_;clear n0_ n1_ n2_ n3_;clear hb hbox hg;obtain⟨hcz11_0,hcz11_1,hfz11_0,hfz11_1⟩:=Zc2 BK142.out))
    go_ret
    exact⟨_,by first|rfl|(simp [errW_none,errW_some]<;>rfl)|(simp [*,errW_none,errW_some]<;>rfl),by first|exact Kd.R_nil _ _ _ _ _|exact Kd.N_nil _ _ _ _ _|exact Kd.V_nil _ _ _ _ _|exact Kd.Q_nil _ _ _ _ _|exact Kd.S_nil _ _ _ _ _,by repeat (first|(with_reducible first|exact HB.out|apply below_alloc|apply pw_below_drewN|apply below_drew1|refine below_set ?_ GE142.out)|exact HB.out)⟩
   ·rw [if_neg c9] at H
    have c9b0:decide (a0_1<a0_0)=false:=decide_eq_false c9
    clear c9
    by_cases c12:0≤a0_0
    ·rw [if_pos c12] at H
     have c12b0:=eq_true c12
     have c12b1:decide (0≤a0_0)=true:=decide_eq_true c12
     clear c12
     by_cases c13:a0_0≤a0_1
     ·rw [if_pos c13] at H
      have c13b0:=eq_true c13
      have c13b1:decide (a0_0≤a0_1)=true:=decide_eq_true c13
      clear c13
      by_cases c14:a0_1≤(l1.length:Int)
      ·rw [if_pos c14] at H
       have c14b0:=eq_true c14
       have c14b1:decide (a0_1≤(l1.length:Int))=true:=decide_eq_true c14
       clear c14
       replace H:=Option.bind_eq_some_iff.mp H
       obtain⟨t144,A150,H⟩:=H
       replace H:(some t144)=some r:=H
       have A15:=Zd A150
       clear A150
       obtain rfl:=Option.some.inj H
       go_enter Tryz.func125,Tryz.ntmps125
       go_wp2_with (first|((with_reducible refine gate_dst (N:=2) rfl ?_);(try (refine gate_guard (by rfl) ?_;dsimp only));refine box_event ?hg (N:=2) ?hd (cs:=#[.int .i64 a0_0,.int .i64 a0_1]) (t:=119) ?hr ?_;(case hd=>rfl);(case hg=>rfl);(case hr=>first|(go_simp;done)|(go_simp;rfl));intro gb142 hg w16 hbox hb;have n0_:=Zd (below_step Zb hb);have n1_:=Zd (hbox);have n2_:=Zd ((Zg hg:w.heap.size≤gb142));have n3_:=Zd ((Zg hg:w.heap.size≤gb142));clear HB;have HB:=n0_;have BK142:=n1_;have GW142:=n2_;have GE142:=n3_;clear n0_ n1_ n2_ n3_;clear hb hbox hg;obtain⟨hcz17_0,hcz17_1,hfz17_0,hfz17_1⟩:=Zc2 BK142.out;obtain⟨i018,hi018,_,hsz18,_⟩:=info_parts info9;obtain⟨A18,hcut18,hA18,hC18⟩:=print_mid_of (P:=Tryz.prog) Value.string (⟨#[]⟩:ByteArray) 42 9 .i64 .i64 Tryz.underlying42 hi018 hsz18 A1 c1 l1 a0_0 a0_1 (Zo) (by first|omega|exact Zo) (Zo) HC1.out;have HR143:=Zd (Kd.C_of_reads (h1:=fun _=>rfl) (hA18 _ (Kd.reads_of_C HR1.out)));have HC143:=Zd hC18;clear hA18 hC18 hi018 hsz18)|((with_reducible refine gate_callee (f:=144) rfl ?_);refine goesL_ (some 28) rfl rfl Tryz.func144 (by kernel_rfl) rfl #[.slice A18 ((l1.take (a0_1:Int).toNat).drop (a0_0:Int).toNat).length (c1-a0_0.toNat)] rfl (by (try simp only [List.map_toArray,List.map_cons,List.map_nil]);first|done|(rw [show ((l1.take (a0_1:Int).toNat).drop (a0_0:Int).toNat).length=(a0_1.toNat-a0_0.toNat) from (by rw [List.length_drop,List.length_take];have h_:(a0_1:Int)≤(l1.length:Int):=Zo;omega)]<;>rfl)|rfl|(simp only [List.length_drop,List.length_take];rfl)) ?_;(with_reducible refine (slices_Clone_string_string.calls _ _ ((l1.take (a0_1:Int).toNat).drop (a0_0:Int).toNat) t144 _ ?side1 ?side2 A15.out).mono ?_);(case side1=>repeat (first|exact (Kd.C_below HR143.out HB.out)|(with_reducible refine Kd.C_alloc ?_ _)|(with_reducible refine Kd.C_drewN ?_ _)|(with_reducible refine Kd.C_drew ?_)));(case side2=>exact HC143.out);rintro e w19 ⟨v145,rfl,ho0,hb⟩;refine⟨_,rfl,?_⟩;have n0_:=Zd (Kd.R_lower ho0 (below_size Zb));have n1_:=Zd (blk_below (g:=gb142) (o := .cells #[.int .i64 a0_0,.int .i64 a0_1] 119 (0,0)) (Zk BK142.out) hb);have n2_:=Zd (below_step Zb hb);clear BK142;clear HB;have HO146:=n0_;have BK142:=n1_;have HB:=n2_;clear n0_ n1_ n2_;(try clear hb);(try clear hb2);(try clear hk);(try clear hi);(try clear ho0)))
       go_ret
       exact⟨_,by first|rfl|(simp [errW_none,errW_some]<;>rfl)|(simp [*,errW_none,errW_some]<;>rfl),by refine Zr ?_;exact HO146.out,by repeat (first|(with_reducible first|exact HB.out|apply below_alloc|apply pw_below_drewN|apply below_drew1|refine below_set ?_ GE142.out)|exact HB.out)⟩
      ·rw [if_neg c14] at H
       exact absurd H (by simp)
     ·rw [if_neg c13] at H
      exact absurd H (by simp)
    ·rw [if_neg c12] at H
     exact absurd H (by simp)
def slices_Equal_string_string.l0 : Nat→List ByteArray→List ByteArray→Int→Int→Option (Bool)
 | 0,_,_,_,_=>none
 | k+1,x0,x1,x12,x13=>if x13<x12 then (if 0≤x13 then (if x13<(x0.length:Int) then (if x13<(x1.length:Int) then (if (rdOf ByteArray.empty x0 x13).toList=(rdOf ByteArray.empty x1 x13).toList then (slices_Equal_string_string.l0 k x0 x1 x12 (wrap64 (x13+1))) else (some false)) else (none)) else (none)) else (none)) else (some true)
def slices_Equal_string_string.f (k : Nat) (l0 : List ByteArray) (l1 : List ByteArray) : Option (Bool) := if (l0.length : Int)=(l1.length : Int) then (slices_Equal_string_string.l0 k l0 l1 (l0.length : Int) 0) else (some false)
theorem slices_Equal_string_string.mono_l : ∀ k,(∀ y0 y1 y2 y3,LeO (slices_Equal_string_string.l0 k y0 y1 y2 y3) (slices_Equal_string_string.l0 (k+1) y0 y1 y2 y3))
 | 0=>fun _ _ _ _ r h=>by simp [slices_Equal_string_string.l0] at h
 | k+1=>by
  have ih0:=slices_Equal_string_string.mono_l k
  ·intro y0 y1 y2 y3
   unfold slices_Equal_string_string.l0
   repeat' first
   | (with_reducible exact ih0 _ _ _ _)
   | (with_reducible exact LeO.refl _)
   | (with_reducible exact LeO.none _)
   | (with_reducible refine LeO.ite ?_ ?_)
   | (with_reducible refine LeO.bind ?_ (fun _=>?_))
   | exact ih0 _ _ _ _
   | exact LeO.none _
   | refine LeO.ite ?_ ?_
   | refine LeO.bind ?_ (fun _=>?_)
theorem slices_Equal_string_string.mono : ∀ a0 a1 k,LeO (slices_Equal_string_string.f k a0 a1) (slices_Equal_string_string.f (k+1) a0 a1) := by
 intro a0 a1 k
 have ih0:=slices_Equal_string_string.mono_l k
 unfold slices_Equal_string_string.f
 repeat' first
   | (with_reducible exact ih0 _ _ _ _)
   | (with_reducible exact LeO.refl _)
   | (with_reducible exact LeO.none _)
   | (with_reducible refine LeO.ite ?_ ?_)
   | (with_reducible refine LeO.bind ?_ (fun _=>?_))
   | exact ih0 _ _ _ _
   | exact LeO.none _
   | refine LeO.ite ?_ ?_
   | refine LeO.bind ?_ (fun _=>?_)
set_option maxHeartbeats 8000000 in
set_option maxRecDepth 100000 in
theorem slices_Equal_string_string.calls (k : Nat) (A0 : Option Addr) (c0 : Nat) (l0 : List ByteArray) (A1 : Option Addr) (c1 : Nat) (l1 : List ByteArray) (r : Bool) (w : World) (hr0 : Kd.C Kd.string w A0 l0.length l0) (hc0 : l0.length≤c0) (hr1 : Kd.C Kd.string w A1 l1.length l1) (hc1 : l1.length≤c1) (h : slices_Equal_string_string.f k l0 l1=some r) :
  Calls Tryz.prog 157 #[.slice A0 l0.length c0,.slice A1 l1.length c1] w fun e w'=>e = .returned (.bool r)∧Drawn0 w w':=by
 have HR0:=Zd hr0
 have HC0:=Zd hc0
 clear hr0 hc0
 have HR1:=Zd hr1
 have HC1:=Zd hc1
 clear hr1 hc1
 have H:(if (l0.length:Int)=(l1.length:Int) then (slices_Equal_string_string.l0 k l0 l1 (l0.length:Int) 0) else (some false))=some r:=h
 clear h
 by_cases c3:(l0.length:Int)=(l1.length:Int)
 ·rw [if_pos c3] at H
  have c3b0:((l0.length:Int)==(l1.length:Int))=true:=beq_iff_eq.mpr c3
  have c3b1:((l0.length:Int) != (l1.length:Int))=false:=bne_eq_false_iff_eq.mpr c3
  have c3b2:(l0.length==l1.length)=true:=by first|simpa using c3|(simp at c3 ⊢;omega)
  clear c3
  have H':=Zd H
  clear H
  go_enter Tryz.func157,Tryz.ntmps157
  go_wp2
  repeat (go_quiet (fail);try go_wp2)
  go_loopg [13] k (fun kq v13 w'=>∃ (x13_1:Int),v13 = .int .i64 x13_1∧Aside0 (slices_Equal_string_string.l0 kq l0 l1 (l0.length:Int) x13_1=some r)∧Aside0 (kq≤k)∧Drawn0 w w')
  case atStart=>exact⟨(0),(by first|rfl|(simp;done)|(simp [*];done)),H',⟨Nat.le_refl _⟩,by repeat (first|exact Drawn0.refl _|apply Drawn0.step)⟩
  case round =>
   clear H'
   try clear c1
   try clear p2
   try clear c3
   try clear c3b0
   try clear c3b1
   try clear c3b2
   obtain⟨x13_1,rfl,HA,HK1,⟨m1,rfl⟩⟩:=hrel
   cases gk with
   | zero=>exact absurd HA.out (by simp [slices_Equal_string_string.l0])
   | succ k1 =>
    have H:=HA.out
    clear HA
    simp only [slices_Equal_string_string.l0] at H
    by_cases c4:x13_1<(l0.length:Int)
    ·rw [if_pos c4] at H
     have c4b0:decide (x13_1<(l0.length:Int))=true:=decide_eq_true c4
     clear c4
     by_cases c5:0≤x13_1
     ·rw [if_pos c5] at H
      have c5b0:decide (0≤x13_1)=true:=decide_eq_true c5
      clear c5
      by_cases c6:x13_1<(l0.length:Int)
      ·rw [if_pos c6] at H
       have c6b0:decide (x13_1<(l0.length:Int))=true:=decide_eq_true c6
       clear c6
       by_cases c7:x13_1<(l1.length:Int)
       ·rw [if_pos c7] at H
        have c7b0:decide (x13_1<(l1.length:Int))=true:=decide_eq_true c7
        clear c7
        by_cases c8:(rdOf ByteArray.empty l0 x13_1).toList=(rdOf ByteArray.empty l1 x13_1).toList
        ·rw [if_pos c8] at H
         have c8b0:((rdOf ByteArray.empty l0 x13_1).toList==(rdOf ByteArray.empty l1 x13_1).toList)=true:=beq_iff_eq.mpr c8
         have c8b1:((rdOf ByteArray.empty l0 x13_1).toList != (rdOf ByteArray.empty l1 x13_1).toList)=false:=bne_eq_false_iff_eq.mpr c8
         clear c8
         have H':=Zd H
         clear H
         have p147:0≤(x13_1:Int):=Zo
         have q147:x13_1<(l0.length:Int):=Zo
         obtain⟨ad147,e147,hx147_0⟩:=Kd.at_string HR0.out x13_1 p147 q147
         cases e147
         replace p147:=eq_true p147
         replace q147:=eq_true q147
         have p148:0≤(x13_1:Int):=Zo
         have q148:x13_1<(l1.length:Int):=Zo
         obtain⟨ad148,e148,hx148_0⟩:=Kd.at_string HR1.out x13_1 p148 q148
         cases e148
         replace p148:=eq_true p148
         replace q148:=eq_true q148
         go_wp2
         repeat (go_quiet (fail);try go_wp2)
         go_roundg k1
         case measure=>have:=HK1.out;omega
         case rel=>exact⟨(wrap64 (x13_1+1)),(by first|rfl|(simp;done)|(simp [*];done)),H',⟨by have:=HK1.out;omega⟩,by repeat (first|exact Drawn0.refl _|apply Drawn0.step)⟩
        ·rw [if_neg c8] at H
         have c8b0:((rdOf ByteArray.empty l0 x13_1).toList==(rdOf ByteArray.empty l1 x13_1).toList)=false:=beq_eq_false_iff_ne.mpr c8
         have c8b1:((rdOf ByteArray.empty l0 x13_1).toList != (rdOf ByteArray.empty l1 x13_1).toList)=true:=bne_iff_ne.mpr c8
         obtain rfl:=Option.some.inj H
         have p147:0≤(x13_1:Int):=Zo
         have q147:x13_1<(l0.length:Int):=Zo
         obtain⟨ad147,e147,hx147_0⟩:=Kd.at_string HR0.out x13_1 p147 q147
         cases e147
         replace p147:=eq_true p147
         replace q147:=eq_true q147
         have p148:0≤(x13_1:Int):=Zo
         have q148:x13_1<(l1.length:Int):=Zo
         obtain⟨ad148,e148,hx148_0⟩:=Kd.at_string HR1.out x13_1 p148 q148
         cases e148
         replace p148:=eq_true p148
         replace q148:=eq_true q148
         go_wp2
         repeat (go_quiet (fail);try go_wp2)
         go_ret
         exact⟨by first|rfl|(simp;done)|(simp [*];done),by repeat (first|exact Drawn0.refl _|apply Drawn0.step)⟩
       ·rw [if_neg c7] at H
        exact absurd H (by simp)
      ·rw [if_neg c6] at H
       exact absurd H (by simp)
     ·rw [if_neg c5] at H
      exact absurd H (by simp)
    ·rw [if_neg c4] at H
     have c4b0:decide (x13_1<(l0.length:Int))=false:=decide_eq_false c4
     clear c4
     obtain rfl:=Option.some.inj H
     go_wp2
     repeat (go_quiet (fail);try go_wp2)
     go_ret
     exact⟨by first|rfl|(simp;done)|(simp [*];done),by repeat (first|exact Drawn0.refl _|apply Drawn0.step)⟩
 ·rw [if_neg c3] at H
  have c3b0:((l0.length:Int)==(l1.length:Int))=false:=beq_eq_false_iff_ne.mpr c3
  have c3b1:((l0.length:Int) != (l1.length:Int))=true:=bne_iff_ne.mpr c3
  have c3b2:(l0.length==l1.length)=false:=by first|simpa using c3|(simp at c3 ⊢;omega)
  obtain rfl:=Option.some.inj H
  go_enter Tryz.func157,Tryz.ntmps157
  go_wp2
  repeat (go_quiet (fail);try go_wp2)
  go_ret
  exact⟨by first|rfl|(simp;done)|(simp [*];done),by repeat (first|exact Drawn0.refl _|apply Drawn0.step)⟩
end Go.Proofs.YtfiamddinkokbaaGreat.F
end
