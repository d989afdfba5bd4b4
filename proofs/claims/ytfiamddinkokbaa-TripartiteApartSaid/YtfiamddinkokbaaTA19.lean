/- Texts joined into one file (wip/tools/pack.py): BuildConf0, Right, Fn72 -/
import Derived.Test.YtfiamddinkokbaaTA17
import Derived.Test.YtfiamddinkokbaaTA18
import Derived.Test.YtfiamddinkokbaaTA14
import Derived.Test.YtfiamddinkokbaaTA16
import Derived.Test.YtfiamddinkokbaaTA3
set_option linter.unusedVariables false
set_option linter.unusedSimpArgs false
section
namespace Go.Proofs.Ytfiamddinkokbaa.F
open Go.RowKit Go.Shelf Go.Proofs.YtfiamddinkokbaaW.PrintWords
def midS (xs : List ByteArray) (n m : Nat) : List ByteArray := (xs.take (xs.length-m)).drop n
theorem str_info : (Try.prog.info? 9).map (fun i=>(i.zero,i.size,i.bytes))=some (some (.string ⟨#[]⟩),1,16) := by kernel_rfl
theorem cut_CSm {w : World} {A : Option Addr} {c : Nat} {xs : List ByteArray} (h : Kd.C Kd.string w A xs.length xs) (hc : xs.length≤c) (n m : Nat) (h0 : n+m≤xs.length) :
  ∃ (A':Option Addr) (n':Nat),n'=(midS xs n m).length∧(∀ W:World,(Instr.slice 36 (.slice A xs.length c) (some (.int .i64 (n:Int))) (some (.int .i64 ((xs.length:Int)-(m:Int)))) none).run Try.prog W = .ok (.slice A' n' (c-n)) W)∧Kd.C Kd.string w A' n' (midS xs n m)∧n'≤c-n:=by
 obtain⟨i0,hi,hz0,hz1,hz2⟩:=info_parts str_info
 have hcut:=cut_mid (P:=Try.prog) 36 9 .i64 .i64 Try.underlying36 hi 1 hz1 A xs.length c (n:Int) ((xs.length:Int)-(m:Int)) (by omega) (by omega) (by omega) hc
 have hm:=Kd.C_mid (lo:=n) (hi:=xs.length-m) h (by omega) (by omega) hc
 have hl:((xs.length:Int)-(m:Int)).toNat-(n:Int).toNat=(midS xs n m).length:=by unfold midS;rw [List.length_drop,List.length_take];omega
 refine⟨if c=n then A else A.map (·.add (n*1)),_,rfl,fun W=>?_,?_,?_⟩
 ·rw [hcut W,hl,Int.toNat_natCast]
 ·exact hm
 ·rw [←hl];omega
theorem cut_CSt {w : World} {A : Option Addr} {c : Nat} {xs : List ByteArray} (h : Kd.C Kd.string w A xs.length xs) (hc : xs.length≤c) (n : Nat) (h0 : n≤xs.length) :
  (∀ W:World,(Instr.slice 36 (.slice A xs.length c) none (some (.int .i64 (n:Int))) none).run Try.prog W = .ok (.slice A (xs.take n).length c) W)∧Kd.C Kd.string w A (xs.take n).length (xs.take n)∧(xs.take n).length≤c:=by
 obtain⟨i0,hi,hz0,hz1,hz2⟩:=info_parts str_info
 have hcut:=cut_to (P:=Try.prog) 36 9 .i64 Try.underlying36 hi A xs.length c (n:Int) (by omega) (by omega) hc
 have hl:(xs.take n).length=n:=by rw [List.length_take];omega
 refine⟨fun W=>by rw [hcut W,hl,Int.toNat_natCast],?_,by omega⟩
 have:=Kd.C_take h h0
 exact this
theorem cut_CSf {K : World→Prop} {A : Option Addr} {c : Nat} {xs : List ByteArray} (h : ∀ w,K w→Kd.C Kd.string w A xs.length xs) (hc : xs.length≤c) (m : Nat) (h0 : m≤xs.length) :
  ∃ A':Option Addr,(∀ W:World,(Instr.slice 36 (.slice A xs.length c) (some (.int .i64 ((xs.length:Int)-(m:Int)))) none none).run Try.prog W = .ok (.slice A' (xs.drop (xs.length-m)).length (c-(xs.length-m))) W)∧(∀ w,K w→Kd.C Kd.string w A' (xs.drop (xs.length-m)).length (xs.drop (xs.length-m)))∧(xs.drop (xs.length-m)).length≤c-(xs.length-m):=by
 obtain⟨i0,hi,hz0,hz1,hz2⟩:=info_parts str_info
 have hcut:=cut_from (P:=Try.prog) 36 9 .i64 Try.underlying36 hi 1 hz1 A xs.length c ((xs.length:Int)-(m:Int)) (by omega) (by omega)
 have hl:xs.length-((xs.length:Int)-(m:Int)).toNat=(xs.drop (xs.length-m)).length:=by rw [List.length_drop];omega
 have ht:((xs.length:Int)-(m:Int)).toNat=xs.length-m:=by omega
 refine⟨if c=xs.length-m then A else A.map (·.add ((xs.length-m)*1)),fun W=>?_,fun w hk=>?_,?_⟩
 ·rw [hcut W,hl,ht]
 ·exact Kd.C_drop (m:=xs.length-m) (h w hk) (by omega) hc
 ·rw [List.length_drop];omega
theorem ends_le' (xs ys : List ByteArray) : endsN xs ys+endsM xs ys≤xs.length∧endsN xs ys+endsM xs ys≤ys.length := by
 have h1:=pre_le xs ys
 have h2:=pre_le (xs.drop (pre xs ys)).reverse (ys.drop (pre xs ys)).reverse
 rw [List.length_reverse,List.length_reverse,List.length_drop,List.length_drop] at h2
 unfold endsN endsM
 omega
def hoN (st : Int) (xs ys : List ByteArray) : Nat := if st=2 then endsN xs ys else 0
def hoM (st : Int) (xs ys : List ByteArray) : Nat := if st=2 then endsM xs ys else 0
theorem Bld.c0 {B f X : Nat} {g0 g1 g2 : ByteArray} {st fv : Int} {l : List PP} {w : World} (h : Bld B f X g0 g1 g2 st fv l w) : w.cell? ⟨f,0,none⟩=some (.string g0) := by obtain⟨v,_,h,_⟩ := h;exact (blk_cell h 0).trans rfl
theorem Bld.c1 {B f X : Nat} {g0 g1 g2 : ByteArray} {st fv : Int} {l : List PP} {w : World} (h : Bld B f X g0 g1 g2 st fv l w) : w.cell? ⟨f,1,none⟩=some (.string g1) := by obtain⟨v,_,h,_⟩ := h;exact (blk_cell h 1).trans rfl
theorem Bld.c2 {B f X : Nat} {g0 g1 g2 : ByteArray} {st fv : Int} {l : List PP} {w : World} (h : Bld B f X g0 g1 g2 st fv l w) : w.cell? ⟨f,2,none⟩=some (.string g2) := by obtain⟨v,_,h,_⟩ := h;exact (blk_cell h 2).trans rfl
theorem Bld.c3 {B f X : Nat} {g0 g1 g2 : ByteArray} {st fv : Int} {l : List PP} {w : World} (h : Bld B f X g0 g1 g2 st fv l w) : w.cell? ⟨f,3,none⟩=some (.int .i64 st) := by obtain⟨v,_,h,_⟩ := h;exact (blk_cell h 3).trans rfl
theorem Bld.c4 {B f X : Nat} {g0 g1 g2 : ByteArray} {st fv : Int} {l : List PP} {w : World} (h : Bld B f X g0 g1 g2 st fv l w) : w.cell? ⟨f,4,none⟩=some (.int .i64 fv) := by obtain⟨v,_,h,_⟩ := h;exact (blk_cell h 4).trans rfl
theorem ho_le (st : Int) (xs ys : List ByteArray) : hoN st xs ys+hoM st xs ys≤xs.length∧hoN st xs ys+hoM st xs ys≤ys.length := by
 unfold hoN hoM
 by_cases h:st=2
 ·rw [if_pos h,if_pos h];exact ends_le' xs ys
 ·rw [if_neg h,if_neg h];omega
theorem keep5 {W0 W w' : World} {a b c d e : Addr} {va vb vc vd ve : Value} (hb : Below W.heap.size W w') (h : W.cell? a=some va∧W.cell? b=some vb∧W.cell? c=some vc∧W.cell? d=some vd∧W.cell? e=some ve∧Below W0.heap.size W0 W) :
  w'.cell? a=some va∧w'.cell? b=some vb∧w'.cell? c=some vc∧w'.cell? d=some vd∧w'.cell? e=some ve∧Below W0.heap.size W0 w':=by
 obtain⟨h1,h2,h3,h4,h5,h6⟩:=h
 exact⟨(hb.cell (World.block_lt_of_cell? W _ h1)).trans h1,(hb.cell (World.block_lt_of_cell? W _ h2)).trans h2,(hb.cell (World.block_lt_of_cell? W _ h3)).trans h3,(hb.cell (World.block_lt_of_cell? W _ h4)).trans h4,(hb.cell (World.block_lt_of_cell? W _ h5)).trans h5,below_step h6 hb⟩
theorem below_set9 {B k : Nat} {W0 W : World} (hb : Below B W0 W) (hk : B≤k) (v0 v1 v2 v3 v4 v5 v6 v7 v8 : Value) : Below B W0 (((((((((W.setCell ⟨k,0,none⟩ v0).setCell ⟨k,1,none⟩ v1).setCell ⟨k,2,none⟩ v2).setCell ⟨k,3,none⟩ v3).setCell ⟨k,4,none⟩ v4).setCell ⟨k,5,none⟩ v5).setCell ⟨k,6,none⟩ v6).setCell ⟨k,7,none⟩ v7).setCell ⟨k,8,none⟩ v8) := (((((((((hb.setCell (p := ⟨k,0,none⟩) hk v0).setCell (p := ⟨k,1,none⟩) hk v1).setCell (p := ⟨k,2,none⟩) hk v2).setCell (p := ⟨k,3,none⟩) hk v3).setCell (p := ⟨k,4,none⟩) hk v4).setCell (p := ⟨k,5,none⟩) hk v5).setCell (p := ⟨k,6,none⟩) hk v6).setCell (p := ⟨k,7,none⟩) hk v7).setCell (p := ⟨k,8,none⟩) hk v8)
theorem block_set9 {k : Nat} {T : TypeId} {W : World} {u0 u1 u2 u3 u4 u5 u6 u7 u8 : Value} (h : W.heap[k]? = some (.cells #[u0,u1,u2,u3,u4,u5,u6,u7,u8] T (0,0))) (v0 v1 v2 v3 v4 v5 v6 v7 v8 : Value) : (((((((((W.setCell ⟨k,0,none⟩ v0).setCell ⟨k,1,none⟩ v1).setCell ⟨k,2,none⟩ v2).setCell ⟨k,3,none⟩ v3).setCell ⟨k,4,none⟩ v4).setCell ⟨k,5,none⟩ v5).setCell ⟨k,6,none⟩ v6).setCell ⟨k,7,none⟩ v7).setCell ⟨k,8,none⟩ v8).heap[k]? = some (.cells #[v0,v1,v2,v3,v4,v5,v6,v7,v8] T (0,0)) := by
 simp [World.setCell,Array.getElem?_modify,h]
theorem after_alloc {W w1 : World} {cs : Array Value} {t : TypeId} (hb : Below (W.alloc (.cells cs t)).heap.size (W.alloc (.cells cs t)) w1) : w1.heap[W.heap.size]? = some (.cells cs t (0,0)) :=
 (hb.block _ (by rw [World.size_alloc];omega)).trans (World.alloc_heap_new W _)
theorem after_alloc_drew {W w1 : World} {cs : Array Value} {t : TypeId} (hb : Below (W.alloc (.cells cs t)).drew.heap.size (W.alloc (.cells cs t)).drew w1) : w1.heap[W.heap.size]? = some (.cells cs t (0,0)) := after_alloc (W := W) (w1 := w1) (below_step (below_drew1 (Below.refl _ _)) hb)
theorem after_call {W w1 : World} {k : Nat} {o : Obj} (hb : Below W.heap.size W w1) (h : W.heap[k]? = some o) : w1.heap[k]? = some o :=
 (hb.block _ (Array.getElem?_eq_some_iff.1 h).1).trans h
theorem zero_facts {w : World} {k : Nat} (h : w.heap[k]? = some (.cells #[.string ⟨#[]⟩,.string ⟨#[]⟩,.string ⟨#[]⟩,.bool false,.string ⟨#[]⟩,.string ⟨#[]⟩,.string ⟨#[]⟩,.string ⟨#[]⟩,.bool false] 106 (0,0))) : w.cell? ⟨k,0,none⟩=some (.string ⟨#[]⟩)∧w.cell? ⟨k,1,none⟩=some (.string ⟨#[]⟩)∧w.cell? ⟨k,2,none⟩=some (.string ⟨#[]⟩)∧w.cell? ⟨k,3,none⟩=some (.bool false)∧w.cell? ⟨k,4,none⟩=some (.string ⟨#[]⟩)∧w.cell? ⟨k,5,none⟩=some (.string ⟨#[]⟩)∧w.cell? ⟨k,6,none⟩=some (.string ⟨#[]⟩)∧w.cell? ⟨k,7,none⟩=some (.string ⟨#[]⟩)∧w.cell? ⟨k,8,none⟩=some (.bool false)∧w.frozen? ⟨k,0,none⟩=false∧w.frozen? ⟨k,1,none⟩=false∧w.frozen? ⟨k,2,none⟩=false∧w.frozen? ⟨k,3,none⟩=false∧w.frozen? ⟨k,4,none⟩=false∧w.frozen? ⟨k,5,none⟩=false∧w.frozen? ⟨k,6,none⟩=false∧w.frozen? ⟨k,7,none⟩=false∧w.frozen? ⟨k,8,none⟩=false :=
 ⟨(blk_cell h 0).trans rfl,(blk_cell h 1).trans rfl,(blk_cell h 2).trans rfl,(blk_cell h 3).trans rfl,(blk_cell h 4).trans rfl,(blk_cell h 5).trans rfl,(blk_cell h 6).trans rfl,(blk_cell h 7).trans rfl,(blk_cell h 8).trans rfl,Lib.frozen_of_heap h 0,Lib.frozen_of_heap h 1,Lib.frozen_of_heap h 2,Lib.frozen_of_heap h 3,Lib.frozen_of_heap h 4,Lib.frozen_of_heap h 5,Lib.frozen_of_heap h 6,Lib.frozen_of_heap h 7,Lib.frozen_of_heap h 8⟩
abbrev isTextX (x : PP) : Option Bool := doc_Part_isText.f x.f0.f0 x.f0.f1 x.f0.f2 x.f1 x.f2 x.f3 x.f4 x.f5 x.f6
def rightL (n : Int) : List PP→Bool→Int→Option Bool
 | [],_,_=>some true
 | x::r,tx,i=>(isTextX x).bind fun T=>(if T=true then some true else doc_Part_isConflict.f x.f0.f0 x.f0.f1 x.f0.f2 x.f1 x.f2 x.f3 x.f4 x.f5 x.f6).bind fun C=>if C=true then (doc_Labels_Plain.f x.f0.f0 x.f0.f1 x.f0.f2).bind fun P=>if P=true then
   (if T=true then (if tx=true then some false else if x.f2.toList=([]:List UInt8) then some false else if i<n-1 then (strings_HasSuffix.f x.f2 (⟨#[10]⟩:ByteArray)).bind fun S=>(if S=true then rightL n r true (i+1) else some false) else rightL n r true (i+1)) else rightL n r false (i+1)) else some false else some false
def rightF (l : List PP) : Option Bool := if l.length≤4000000000000 then rightL l.length l false 0 else none
theorem wrap_one {n : Nat} (h : n≤4000000000000) : wrap64 ((n : Int)-1)=(n : Int)-1 := by unfold wrap64;omega
theorem cells9 {w : World} {k : Nat} {v0 v1 v2 v3 v4 v5 v6 v7 v8 : Value} {T : TypeId} (h : w.heap[k]? = some (.cells #[v0,v1,v2,v3,v4,v5,v6,v7,v8] T (0,0))) : w.cell? ⟨k,0,none⟩=some v0∧w.cell? ⟨k,1,none⟩=some v1∧w.cell? ⟨k,2,none⟩=some v2∧w.cell? ⟨k,3,none⟩=some v3∧w.cell? ⟨k,4,none⟩=some v4∧w.cell? ⟨k,5,none⟩=some v5∧w.cell? ⟨k,6,none⟩=some v6∧w.cell? ⟨k,7,none⟩=some v7∧w.cell? ⟨k,8,none⟩=some v8 :=
 ⟨(blk_cell h 0).trans rfl,(blk_cell h 1).trans rfl,(blk_cell h 2).trans rfl,(blk_cell h 3).trans rfl,(blk_cell h 4).trans rfl,(blk_cell h 5).trans rfl,(blk_cell h 6).trans rfl,(blk_cell h 7).trans rfl,(blk_cell h 8).trans rfl⟩
set_option maxHeartbeats 16000000 in
set_option maxRecDepth 100000 in
theorem right_calls (A0 : Option Addr) (c0 : Nat) (l0 : List PP) (r : Bool) (w : World) (hr0 : Kd.C k106 w A0 l0.length l0) (hc0 : l0.length≤c0) (h : rightF l0=some r) :
  Calls Try.prog 72 #[.slice A0 l0.length c0] w fun e w'=>e = .returned (.bool r)∧Below w.heap.size w w':=by
 unfold rightF at h
 split at h
 case isFalse=>cases h
 case isTrue hl4 =>
 have HL:=Aside0.mk h
 have HD:=Aside0.mk hr0
 clear h hr0
 go_enter Try.func72,Try.ntmps72
 go_wp2
 go_loopg [3,8] l0.length (fun gg s3_ s8_ wr=>∃ (i:Nat) (tx:Bool),i≤l0.length∧l0.length-i≤gg∧s3_ = .bool tx∧s8_ = .int .i64 i∧Aside0 (rightL l0.length (l0.drop i) tx i=some r)∧Aside0 (Below w.heap.size w wr))
 case atStart=>exact⟨0,false,Nat.zero_le _,by omega,rfl,rfl,⟨by rw [List.drop_zero];exact HL.out⟩,⟨Below.refl _ _⟩⟩
 case round =>
  clear HL
  obtain⟨i,tx,hi,hg,rfl,rfl,HL,HW⟩:=hrel
  by_cases hlt:i<l0.length
  ·have hltz:(i:Int)<(l0.length:Int):=by omega
   have hq:=HL.out
   rw [List.drop_eq_getElem_cons hlt,rightL] at hq
   obtain⟨ad,rfl,hx0,hx1,hx2,hx3,hx4,hx5,hx6,hx7,hx8⟩:=at_T106 (Kd.C_below HD.out HW.out) (i:Int) (by omega) hltz
   have hrd:rd_T106 l0 (i:Int)=l0[i]:=by unfold rd_T106;rw [Int.toNat_natCast,List.getD_eq_getElem?_getD,List.getElem?_eq_getElem hlt];rfl
   rw [Int.toNat_natCast] at hx0 hx1 hx2 hx3 hx4 hx5 hx6 hx7 hx8
   rw [hrd] at hx0 hx1 hx2 hx3 hx4 hx5 hx6 hx7 hx8
   generalize l0[i]=ch at hx0 hx1 hx2 hx3 hx4 hx5 hx6 hx7 hx8 hq
   obtain⟨⟨s0,s1,s2⟩,b1,s3,s4,s5,s6,b2⟩:=ch
   simp only [isTextX] at hx0 hx1 hx2 hx3 hx4 hx5 hx6 hx7 hx8 hq
   have hw:wrap64 ((l0.length:Int)-1)=(l0.length:Int)-1:=wrap_one hl4
   obtain⟨T,hT,hq⟩:=Option.bind_eq_some_iff.1 hq
   obtain⟨C,hC,hq⟩:=Option.bind_eq_some_iff.1 hq
   have HT:=Aside0.mk (fun W=>doc_Part_isText.calls s0 s1 s2 b1 s3 s4 s5 s6 b2 T W hT)
   clear hrd HL hT
   cases T with
   | true =>
    rw [if_pos rfl] at hC
    obtain rfl:=Option.some.inj hC
    rw [if_pos rfl] at hq
    clear hC
    obtain⟨P,hP,hq⟩:=Option.bind_eq_some_iff.1 hq
    have HP:=Aside0.mk (fun W=>doc_Labels_Plain.calls s0 s1 s2 P W hP)
    clear hP
    cases P with
    | true =>
     rw [if_pos rfl,if_pos rfl] at hq
     cases tx with
     | true =>
      rw [if_pos rfl] at hq
      obtain rfl:=Option.some.inj hq
      go_wp2_with (first
       | (go_at_call 75;(with_reducible refine (HT.out _).mono ?_);rintro e w1 ⟨rfl,hb⟩;(first|have hx:=after_call hb HX.out|have hx:=after_call hb (blk_drewN HX.out _)|have hx:=after_alloc hb);(first|have hw:=below_step HW.out hb|have hw:=below_step (below_alloc HW.out _) hb|have hw:=below_step (pw_below_drewN HW.out _) hb);(try clear HX);(try clear c0' c1 c2 c3 c4 c5 c6 c7 c8);have HX:=Aside0.mk hx;obtain⟨c0',c1,c2,c3,c4,c5,c6,c7,c8⟩:=cells9 hx;clear hx;clear HW;have HW:=Aside0.mk hw;clear hw hb)
       | (go_at_call 114;(with_reducible refine (HP.out _).mono ?_);rintro e w1 ⟨rfl,hb⟩;(first|have hx:=after_call hb HX.out|have hx:=after_call hb (blk_drewN HX.out _)|have hx:=after_alloc hb);(first|have hw:=below_step HW.out hb|have hw:=below_step (below_alloc HW.out _) hb|have hw:=below_step (pw_below_drewN HW.out _) hb);(try clear HX);(try clear c0' c1 c2 c3 c4 c5 c6 c7 c8);have HX:=Aside0.mk hx;obtain⟨c0',c1,c2,c3,c4,c5,c6,c7,c8⟩:=cells9 hx;clear hx;clear HW;have HW:=Aside0.mk hw;clear hw hb))
      go_ret
      first|exact⟨rfl,HW.out⟩|exact⟨rfl,pw_below_drewN HW.out _⟩
     | false =>
      rw [if_neg (by simp)] at hq
      by_cases he:s3.toList=([]:List UInt8)
      ·rw [if_pos he] at hq
       obtain rfl:=Option.some.inj hq
       have q1:s3.toList.isEmpty=true:=by rw [he];rfl
       go_wp2_with (first
        | (go_at_call 75;(with_reducible refine (HT.out _).mono ?_);rintro e w1 ⟨rfl,hb⟩;(first|have hx:=after_call hb HX.out|have hx:=after_call hb (blk_drewN HX.out _)|have hx:=after_alloc hb);(first|have hw:=below_step HW.out hb|have hw:=below_step (below_alloc HW.out _) hb|have hw:=below_step (pw_below_drewN HW.out _) hb);(try clear HX);(try clear c0' c1 c2 c3 c4 c5 c6 c7 c8);have HX:=Aside0.mk hx;obtain⟨c0',c1,c2,c3,c4,c5,c6,c7,c8⟩:=cells9 hx;clear hx;clear HW;have HW:=Aside0.mk hw;clear hw hb)
        | (go_at_call 114;(with_reducible refine (HP.out _).mono ?_);rintro e w1 ⟨rfl,hb⟩;(first|have hx:=after_call hb HX.out|have hx:=after_call hb (blk_drewN HX.out _)|have hx:=after_alloc hb);(first|have hw:=below_step HW.out hb|have hw:=below_step (below_alloc HW.out _) hb|have hw:=below_step (pw_below_drewN HW.out _) hb);(try clear HX);(try clear c0' c1 c2 c3 c4 c5 c6 c7 c8);have HX:=Aside0.mk hx;obtain⟨c0',c1,c2,c3,c4,c5,c6,c7,c8⟩:=cells9 hx;clear hx;clear HW;have HW:=Aside0.mk hw;clear hw hb))
       go_ret
       first|exact⟨rfl,HW.out⟩|exact⟨rfl,pw_below_drewN HW.out _⟩
      ·rw [if_neg he] at hq
       have q1:s3.toList.isEmpty=false:=by cases hs:s3.toList with|nil=>exact absurd hs he|cons a t=>rfl
       by_cases hn:(i:Int)<(l0.length:Int)-1
       ·rw [if_pos hn] at hq
        have q2:decide ((i:Int)<(l0.length:Int)-1)=true:=decide_eq_true hn
        obtain⟨S,hS,hq⟩:=Option.bind_eq_some_iff.1 hq
        have HSf:=Aside0.mk (fun W=>strings_HasSuffix.calls s3 ⟨#[10]⟩ S W hS)
        clear hS hn
        cases S with
        | true =>
         rw [if_pos rfl] at hq
         have HQ:=Aside0.mk (show rightL l0.length (l0.drop (i+1)) _ ((i+1:Nat):Int)=some r from by rw [show ((i+1:Nat):Int)=(i:Int)+1 by omega];exact hq)
         clear hq
         go_wp2_with (first
          | (go_at_call 75;(with_reducible refine (HT.out _).mono ?_);rintro e w1 ⟨rfl,hb⟩;(first|have hx:=after_call hb HX.out|have hx:=after_call hb (blk_drewN HX.out _)|have hx:=after_alloc hb);(first|have hw:=below_step HW.out hb|have hw:=below_step (below_alloc HW.out _) hb|have hw:=below_step (pw_below_drewN HW.out _) hb);(try clear HX);(try clear c0' c1 c2 c3 c4 c5 c6 c7 c8);have HX:=Aside0.mk hx;obtain⟨c0',c1,c2,c3,c4,c5,c6,c7,c8⟩:=cells9 hx;clear hx;clear HW;have HW:=Aside0.mk hw;clear hw hb)
          | (go_at_call 114;(with_reducible refine (HP.out _).mono ?_);rintro e w1 ⟨rfl,hb⟩;(first|have hx:=after_call hb HX.out|have hx:=after_call hb (blk_drewN HX.out _)|have hx:=after_alloc hb);(first|have hw:=below_step HW.out hb|have hw:=below_step (below_alloc HW.out _) hb|have hw:=below_step (pw_below_drewN HW.out _) hb);(try clear HX);(try clear c0' c1 c2 c3 c4 c5 c6 c7 c8);have HX:=Aside0.mk hx;obtain⟨c0',c1,c2,c3,c4,c5,c6,c7,c8⟩:=cells9 hx;clear hx;clear HW;have HW:=Aside0.mk hw;clear hw hb)
          | (go_at_call 115;(with_reducible refine (HSf.out _).mono ?_);rintro e w1 ⟨rfl,hd⟩;obtain⟨n1,rfl⟩:=hd.out;clear hd))
         go_roundg (l0.length-(i+1))
         case measure=>omega
         case rel=>exact⟨i+1,_,by omega,Nat.le_refl _,rfl,by go_num,HQ,HW⟩
        | false =>
         rw [if_neg (by simp)] at hq
         obtain rfl:=Option.some.inj hq
         go_wp2_with (first
          | (go_at_call 75;(with_reducible refine (HT.out _).mono ?_);rintro e w1 ⟨rfl,hb⟩;(first|have hx:=after_call hb HX.out|have hx:=after_call hb (blk_drewN HX.out _)|have hx:=after_alloc hb);(first|have hw:=below_step HW.out hb|have hw:=below_step (below_alloc HW.out _) hb|have hw:=below_step (pw_below_drewN HW.out _) hb);(try clear HX);(try clear c0' c1 c2 c3 c4 c5 c6 c7 c8);have HX:=Aside0.mk hx;obtain⟨c0',c1,c2,c3,c4,c5,c6,c7,c8⟩:=cells9 hx;clear hx;clear HW;have HW:=Aside0.mk hw;clear hw hb)
          | (go_at_call 114;(with_reducible refine (HP.out _).mono ?_);rintro e w1 ⟨rfl,hb⟩;(first|have hx:=after_call hb HX.out|have hx:=after_call hb (blk_drewN HX.out _)|have hx:=after_alloc hb);(first|have hw:=below_step HW.out hb|have hw:=below_step (below_alloc HW.out _) hb|have hw:=below_step (pw_below_drewN HW.out _) hb);(try clear HX);(try clear c0' c1 c2 c3 c4 c5 c6 c7 c8);have HX:=Aside0.mk hx;obtain⟨c0',c1,c2,c3,c4,c5,c6,c7,c8⟩:=cells9 hx;clear hx;clear HW;have HW:=Aside0.mk hw;clear hw hb)
          | (go_at_call 115;(with_reducible refine (HSf.out _).mono ?_);rintro e w1 ⟨rfl,hd⟩;obtain⟨n1,rfl⟩:=hd.out;clear hd))
         go_ret
         first|exact⟨rfl,HW.out⟩|exact⟨rfl,pw_below_drewN HW.out _⟩
       ·rw [if_neg hn] at hq
        have q2:decide ((i:Int)<(l0.length:Int)-1)=false:=decide_eq_false hn
        clear hn
        have HQ:=Aside0.mk (show rightL l0.length (l0.drop (i+1)) _ ((i+1:Nat):Int)=some r from by rw [show ((i+1:Nat):Int)=(i:Int)+1 by omega];exact hq)
        clear hq
        go_wp2_with (first
         | (go_at_call 75;(with_reducible refine (HT.out _).mono ?_);rintro e w1 ⟨rfl,hb⟩;(first|have hx:=after_call hb HX.out|have hx:=after_call hb (blk_drewN HX.out _)|have hx:=after_alloc hb);(first|have hw:=below_step HW.out hb|have hw:=below_step (below_alloc HW.out _) hb|have hw:=below_step (pw_below_drewN HW.out _) hb);(try clear HX);(try clear c0' c1 c2 c3 c4 c5 c6 c7 c8);have HX:=Aside0.mk hx;obtain⟨c0',c1,c2,c3,c4,c5,c6,c7,c8⟩:=cells9 hx;clear hx;clear HW;have HW:=Aside0.mk hw;clear hw hb)
         | (go_at_call 114;(with_reducible refine (HP.out _).mono ?_);rintro e w1 ⟨rfl,hb⟩;(first|have hx:=after_call hb HX.out|have hx:=after_call hb (blk_drewN HX.out _)|have hx:=after_alloc hb);(first|have hw:=below_step HW.out hb|have hw:=below_step (below_alloc HW.out _) hb|have hw:=below_step (pw_below_drewN HW.out _) hb);(try clear HX);(try clear c0' c1 c2 c3 c4 c5 c6 c7 c8);have HX:=Aside0.mk hx;obtain⟨c0',c1,c2,c3,c4,c5,c6,c7,c8⟩:=cells9 hx;clear hx;clear HW;have HW:=Aside0.mk hw;clear hw hb))
        go_roundg (l0.length-(i+1))
        case measure=>omega
        case rel=>exact⟨i+1,_,by omega,Nat.le_refl _,rfl,by go_num,HQ,HW⟩
    | false =>
     rw [if_neg (by simp)] at hq
     obtain rfl:=Option.some.inj hq
     go_wp2_with (first
      | (go_at_call 75;(with_reducible refine (HT.out _).mono ?_);rintro e w1 ⟨rfl,hb⟩;(first|have hx:=after_call hb HX.out|have hx:=after_call hb (blk_drewN HX.out _)|have hx:=after_alloc hb);(first|have hw:=below_step HW.out hb|have hw:=below_step (below_alloc HW.out _) hb|have hw:=below_step (pw_below_drewN HW.out _) hb);(try clear HX);(try clear c0' c1 c2 c3 c4 c5 c6 c7 c8);have HX:=Aside0.mk hx;obtain⟨c0',c1,c2,c3,c4,c5,c6,c7,c8⟩:=cells9 hx;clear hx;clear HW;have HW:=Aside0.mk hw;clear hw hb)
      | (go_at_call 114;(with_reducible refine (HP.out _).mono ?_);rintro e w1 ⟨rfl,hb⟩;(first|have hx:=after_call hb HX.out|have hx:=after_call hb (blk_drewN HX.out _)|have hx:=after_alloc hb);(first|have hw:=below_step HW.out hb|have hw:=below_step (below_alloc HW.out _) hb|have hw:=below_step (pw_below_drewN HW.out _) hb);(try clear HX);(try clear c0' c1 c2 c3 c4 c5 c6 c7 c8);have HX:=Aside0.mk hx;obtain⟨c0',c1,c2,c3,c4,c5,c6,c7,c8⟩:=cells9 hx;clear hx;clear HW;have HW:=Aside0.mk hw;clear hw hb))
     go_ret
     first|exact⟨rfl,HW.out⟩|exact⟨rfl,pw_below_drewN HW.out _⟩
   | false =>
    rw [if_neg (by simp)] at hC
    have HCf:=Aside0.mk (fun W=>doc_Part_isConflict.calls s0 s1 s2 b1 s3 s4 s5 s6 b2 C W hC)
    clear hC
    cases C with
    | false =>
     rw [if_neg (by simp)] at hq
     obtain rfl:=Option.some.inj hq
     go_wp2_with (first
      | (go_at_call 75;(with_reducible refine (HT.out _).mono ?_);rintro e w1 ⟨rfl,hb⟩;(first|have hx:=after_call hb HX.out|have hx:=after_call hb (blk_drewN HX.out _)|have hx:=after_alloc hb);(first|have hw:=below_step HW.out hb|have hw:=below_step (below_alloc HW.out _) hb|have hw:=below_step (pw_below_drewN HW.out _) hb);(try clear HX);(try clear c0' c1 c2 c3 c4 c5 c6 c7 c8);have HX:=Aside0.mk hx;obtain⟨c0',c1,c2,c3,c4,c5,c6,c7,c8⟩:=cells9 hx;clear hx;clear HW;have HW:=Aside0.mk hw;clear hw hb)
      | (go_at_call 113;(with_reducible refine (HCf.out _).mono ?_);rintro e w1 ⟨rfl,hb⟩;(first|have hx:=after_call hb HX.out|have hx:=after_call hb (blk_drewN HX.out _)|have hx:=after_alloc hb);(first|have hw:=below_step HW.out hb|have hw:=below_step (below_alloc HW.out _) hb|have hw:=below_step (pw_below_drewN HW.out _) hb);(try clear HX);(try clear c0' c1 c2 c3 c4 c5 c6 c7 c8);have HX:=Aside0.mk hx;obtain⟨c0',c1,c2,c3,c4,c5,c6,c7,c8⟩:=cells9 hx;clear hx;clear HW;have HW:=Aside0.mk hw;clear hw hb))
     go_ret
     first|exact⟨rfl,HW.out⟩|exact⟨rfl,pw_below_drewN HW.out _⟩
    | true =>
     rw [if_pos rfl] at hq
     obtain⟨P,hP,hq⟩:=Option.bind_eq_some_iff.1 hq
     have HP:=Aside0.mk (fun W=>doc_Labels_Plain.calls s0 s1 s2 P W hP)
     clear hP
     cases P with
     | true =>
      rw [if_pos rfl,if_neg (by simp)] at hq
      have HQ:=Aside0.mk (show rightL l0.length (l0.drop (i+1)) _ ((i+1:Nat):Int)=some r from by rw [show ((i+1:Nat):Int)=(i:Int)+1 by omega];exact hq)
      clear hq
      go_wp2_with (first
       | (go_at_call 75;(with_reducible refine (HT.out _).mono ?_);rintro e w1 ⟨rfl,hb⟩;(first|have hx:=after_call hb HX.out|have hx:=after_call hb (blk_drewN HX.out _)|have hx:=after_alloc hb);(first|have hw:=below_step HW.out hb|have hw:=below_step (below_alloc HW.out _) hb|have hw:=below_step (pw_below_drewN HW.out _) hb);(try clear HX);(try clear c0' c1 c2 c3 c4 c5 c6 c7 c8);have HX:=Aside0.mk hx;obtain⟨c0',c1,c2,c3,c4,c5,c6,c7,c8⟩:=cells9 hx;clear hx;clear HW;have HW:=Aside0.mk hw;clear hw hb)
       | (go_at_call 113;(with_reducible refine (HCf.out _).mono ?_);rintro e w1 ⟨rfl,hb⟩;(first|have hx:=after_call hb HX.out|have hx:=after_call hb (blk_drewN HX.out _)|have hx:=after_alloc hb);(first|have hw:=below_step HW.out hb|have hw:=below_step (below_alloc HW.out _) hb|have hw:=below_step (pw_below_drewN HW.out _) hb);(try clear HX);(try clear c0' c1 c2 c3 c4 c5 c6 c7 c8);have HX:=Aside0.mk hx;obtain⟨c0',c1,c2,c3,c4,c5,c6,c7,c8⟩:=cells9 hx;clear hx;clear HW;have HW:=Aside0.mk hw;clear hw hb)
       | (go_at_call 114;(with_reducible refine (HP.out _).mono ?_);rintro e w1 ⟨rfl,hb⟩;(first|have hx:=after_call hb HX.out|have hx:=after_call hb (blk_drewN HX.out _)|have hx:=after_alloc hb);(first|have hw:=below_step HW.out hb|have hw:=below_step (below_alloc HW.out _) hb|have hw:=below_step (pw_below_drewN HW.out _) hb);(try clear HX);(try clear c0' c1 c2 c3 c4 c5 c6 c7 c8);have HX:=Aside0.mk hx;obtain⟨c0',c1,c2,c3,c4,c5,c6,c7,c8⟩:=cells9 hx;clear hx;clear HW;have HW:=Aside0.mk hw;clear hw hb))
      go_roundg (l0.length-(i+1))
      case measure=>omega
      case rel=>exact⟨i+1,_,by omega,Nat.le_refl _,rfl,by go_num,HQ,HW⟩
     | false =>
      rw [if_neg (by simp)] at hq
      obtain rfl:=Option.some.inj hq
      go_wp2_with (first
       | (go_at_call 75;(with_reducible refine (HT.out _).mono ?_);rintro e w1 ⟨rfl,hb⟩;(first|have hx:=after_call hb HX.out|have hx:=after_call hb (blk_drewN HX.out _)|have hx:=after_alloc hb);(first|have hw:=below_step HW.out hb|have hw:=below_step (below_alloc HW.out _) hb|have hw:=below_step (pw_below_drewN HW.out _) hb);(try clear HX);(try clear c0' c1 c2 c3 c4 c5 c6 c7 c8);have HX:=Aside0.mk hx;obtain⟨c0',c1,c2,c3,c4,c5,c6,c7,c8⟩:=cells9 hx;clear hx;clear HW;have HW:=Aside0.mk hw;clear hw hb)
       | (go_at_call 113;(with_reducible refine (HCf.out _).mono ?_);rintro e w1 ⟨rfl,hb⟩;(first|have hx:=after_call hb HX.out|have hx:=after_call hb (blk_drewN HX.out _)|have hx:=after_alloc hb);(first|have hw:=below_step HW.out hb|have hw:=below_step (below_alloc HW.out _) hb|have hw:=below_step (pw_below_drewN HW.out _) hb);(try clear HX);(try clear c0' c1 c2 c3 c4 c5 c6 c7 c8);have HX:=Aside0.mk hx;obtain⟨c0',c1,c2,c3,c4,c5,c6,c7,c8⟩:=cells9 hx;clear hx;clear HW;have HW:=Aside0.mk hw;clear hw hb)
       | (go_at_call 114;(with_reducible refine (HP.out _).mono ?_);rintro e w1 ⟨rfl,hb⟩;(first|have hx:=after_call hb HX.out|have hx:=after_call hb (blk_drewN HX.out _)|have hx:=after_alloc hb);(first|have hw:=below_step HW.out hb|have hw:=below_step (below_alloc HW.out _) hb|have hw:=below_step (pw_below_drewN HW.out _) hb);(try clear HX);(try clear c0' c1 c2 c3 c4 c5 c6 c7 c8);have HX:=Aside0.mk hx;obtain⟨c0',c1,c2,c3,c4,c5,c6,c7,c8⟩:=cells9 hx;clear hx;clear HW;have HW:=Aside0.mk hw;clear hw hb))
      go_ret
      first|exact⟨rfl,HW.out⟩|exact⟨rfl,pw_below_drewN HW.out _⟩
  ·have hq:=HL.out
   rw [List.drop_of_length_le (by omega),rightL] at hq
   obtain rfl:=Option.some.inj hq
   clear hq
   go_wp2
   go_ret
   exact⟨rfl,HW.out⟩
end Go.Proofs.Ytfiamddinkokbaa.F
end

section
namespace Go.Proofs.Ytfiamddinkokbaa.F
open Go.RowKit Go.Proofs.YtfiamddinkokbaaW.PrintWords Go.Proofs.YtfiamddinkokbaaW.PrintLast Go.Proofs.YtfiamddinkokbaaW.PrintMore
attribute [local go_sem] max2_int min2_int max_two min_two max_three min_three max_four min_four
def doc_Doc_Right.f (k : Nat) (l0 : List S106) : Option Bool := rightF l0
theorem doc_Doc_Right.mono : ∀ l0 k,LeO (doc_Doc_Right.f k l0) (doc_Doc_Right.f (k+1) l0) := fun _ _=>LeO.refl _
theorem doc_Doc_Right.calls (k : Nat) (A0 : Option Addr) (c0 : Nat) (l0 : List (S106)) (r : Bool) (w : World) (hr0 : Kd.C k106 w A0 l0.length l0) (hc0 : l0.length≤c0) (h : doc_Doc_Right.f k l0=some r) :
  Calls Try.prog 72 #[.slice A0 l0.length c0] w fun e w'=>e = .returned (.bool r)∧Below w.heap.size w w':=by
 exact right_calls A0 c0 l0 r w hr0 hc0 h
end Go.Proofs.Ytfiamddinkokbaa.F
end
