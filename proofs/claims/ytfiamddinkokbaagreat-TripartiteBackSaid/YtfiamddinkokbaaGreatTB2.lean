/- Texts joined into one file (wip/tools/pack.py): Sq, Builder, Keep, Same, Fn162, Forth, NewRun -/
import Derived.Test.YtfiamddinkokbaaGreatTB1
import Derived.Shelf.RegionOpenPlain
import Derived.Lib.Strings
import Derived.Lib.Slices
import Derived.Lib.Walk
import Derived.Lib.Builder
import Derived.Lib.AppendStr
import Derived.Lib.FrozenHead
import Derived.Lib.UnsafeStr
import Derived.Lib.MakeNoZero
import Derived.WalkKit
import Derived.Laws.Externs
import Derived.Laws.IdiomCopy
import Derived.Laws.BitsLemmas
import Derived.Shelf.Abstract
import Derived.Test.YtfiamddinkokbaaGreatProg
import Derived.Deep.RegionHeld3
import Derived.BigQuiet
import Derived.Deep.DeepCutAuto
set_option linter.unusedVariables false
set_option linter.unusedSimpArgs false
section
namespace Go.Proofs.YtfiamddinkokbaaGreat.F
open Go.RowKit Go.Proofs.YtfiamddinkokbaaGreatW.PrintWords Go.Proofs.YtfiamddinkokbaaGreatW.PrintLast Go.Proofs.YtfiamddinkokbaaGreatW.PrintMore
theorem Zb {p : Prop} (h:p:=by repeat (first|(with_reducible first|exact HB.out|apply below_alloc|apply pw_below_drewN|apply below_drew1|refine below_set ?_ (Aside0.out (by assumption)))|exact HB.out)) : p:=h
theorem Zg {g : Nat} {w W : World} (hg:g=W.heap.size) (h:Below w.heap.size w W:=by repeat (first|(with_reducible first|exact HB.out|apply below_alloc|apply pw_below_drewN|apply below_drew1|refine below_set ?_ (Aside0.out (by assumption)))|exact HB.out)) : w.heap.size≤g:=hg▸below_size h
theorem Zk {p q : Prop} (h:q) (f:q→p:=by intro h_;(with_reducible repeat (first|refine blk_drewN ?_ _|refine blk_drew ?_|refine blk_alloc ?_ _));exact h_) : p:=f h
theorem Zr {p q : Prop} (h:q) (f:q→p:=by intro h_;(with_reducible repeat (first|apply Kd.R_alloc|apply Kd.R_drewN|apply Kd.R_drew));exact h_) : p:=f h
theorem Zx {n : Nat} {w W : World} {p : Addr} {v : Value} (H:Aside0 (Below n w W)) (e:w.heap.size=n) (h:w.cell? p=some v) : W.cell? p=some v:=(H.out.cell (e▸World.block_lt_of_cell? w _ h)).trans h
theorem Zo {p : Prop} [Decidable p] (h:decide p=true:=by first|(with_reducible assumption)|assumption) : p:=of_decide_eq_true h
theorem Zl {p : Prop} (h:p:=by (try simp only [List.map_toArray,List.map_cons,List.map_nil]);first|done|rfl|(simp only [List.length_drop,List.length_take];rfl)) : p:=h
theorem Zd {p : Prop} (h:p) : Aside0 p:=⟨h⟩
theorem Zc2 {w : World} {g : Nat} {t : TypeId} {a0 a1 : Value} (h:w.heap[g]?=some (.cells #[a0,a1] t (0,0))) : w.cell? ⟨g,0,none⟩=some a0∧w.cell? ⟨g,1,none⟩=some a1∧w.frozen? ⟨g,0,none⟩=false∧w.frozen? ⟨g,1,none⟩=false:=by refine⟨?_,?_,?_,?_⟩<;>first|exact blk_frozen h _|exact (blk_cell h _).trans rfl
theorem Zc3 {w : World} {g : Nat} {t : TypeId} {a0 a1 a2 : Value} (h:w.heap[g]?=some (.cells #[a0,a1,a2] t (0,0))) : w.cell? ⟨g,0,none⟩=some a0∧w.cell? ⟨g,1,none⟩=some a1∧w.cell? ⟨g,2,none⟩=some a2∧w.frozen? ⟨g,0,none⟩=false∧w.frozen? ⟨g,1,none⟩=false∧w.frozen? ⟨g,2,none⟩=false:=by refine⟨?_,?_,?_,?_,?_,?_⟩<;>first|exact blk_frozen h _|exact (blk_cell h _).trans rfl
theorem Zc6 {w : World} {g : Nat} {t : TypeId} {a0 a1 a2 a3 a4 a5 : Value} (h:w.heap[g]?=some (.cells #[a0,a1,a2,a3,a4,a5] t (0,0))) : w.cell? ⟨g,0,none⟩=some a0∧w.cell? ⟨g,1,none⟩=some a1∧w.cell? ⟨g,2,none⟩=some a2∧w.cell? ⟨g,3,none⟩=some a3∧w.cell? ⟨g,4,none⟩=some a4∧w.cell? ⟨g,5,none⟩=some a5∧w.frozen? ⟨g,0,none⟩=false∧w.frozen? ⟨g,1,none⟩=false∧w.frozen? ⟨g,2,none⟩=false∧w.frozen? ⟨g,3,none⟩=false∧w.frozen? ⟨g,4,none⟩=false∧w.frozen? ⟨g,5,none⟩=false:=by refine⟨?_,?_,?_,?_,?_,?_,?_,?_,?_,?_,?_,?_⟩<;>first|exact blk_frozen h _|exact (blk_cell h _).trans rfl
theorem Zc7 {w : World} {g : Nat} {t : TypeId} {a0 a1 a2 a3 a4 a5 a6 : Value} (h:w.heap[g]?=some (.cells #[a0,a1,a2,a3,a4,a5,a6] t (0,0))) : w.cell? ⟨g,0,none⟩=some a0∧w.cell? ⟨g,1,none⟩=some a1∧w.cell? ⟨g,2,none⟩=some a2∧w.cell? ⟨g,3,none⟩=some a3∧w.cell? ⟨g,4,none⟩=some a4∧w.cell? ⟨g,5,none⟩=some a5∧w.cell? ⟨g,6,none⟩=some a6∧w.frozen? ⟨g,0,none⟩=false∧w.frozen? ⟨g,1,none⟩=false∧w.frozen? ⟨g,2,none⟩=false∧w.frozen? ⟨g,3,none⟩=false∧w.frozen? ⟨g,4,none⟩=false∧w.frozen? ⟨g,5,none⟩=false∧w.frozen? ⟨g,6,none⟩=false:=by refine⟨?_,?_,?_,?_,?_,?_,?_,?_,?_,?_,?_,?_,?_,?_⟩<;>first|exact blk_frozen h _|exact (blk_cell h _).trans rfl
theorem Zc9 {w : World} {g : Nat} {t : TypeId} {a0 a1 a2 a3 a4 a5 a6 a7 a8 : Value} (h:w.heap[g]?=some (.cells #[a0,a1,a2,a3,a4,a5,a6,a7,a8] t (0,0))) : w.cell? ⟨g,0,none⟩=some a0∧w.cell? ⟨g,1,none⟩=some a1∧w.cell? ⟨g,2,none⟩=some a2∧w.cell? ⟨g,3,none⟩=some a3∧w.cell? ⟨g,4,none⟩=some a4∧w.cell? ⟨g,5,none⟩=some a5∧w.cell? ⟨g,6,none⟩=some a6∧w.cell? ⟨g,7,none⟩=some a7∧w.cell? ⟨g,8,none⟩=some a8∧w.frozen? ⟨g,0,none⟩=false∧w.frozen? ⟨g,1,none⟩=false∧w.frozen? ⟨g,2,none⟩=false∧w.frozen? ⟨g,3,none⟩=false∧w.frozen? ⟨g,4,none⟩=false∧w.frozen? ⟨g,5,none⟩=false∧w.frozen? ⟨g,6,none⟩=false∧w.frozen? ⟨g,7,none⟩=false∧w.frozen? ⟨g,8,none⟩=false:=by refine⟨?_,?_,?_,?_,?_,?_,?_,?_,?_,?_,?_,?_,?_,?_,?_,?_,?_,?_⟩<;>first|exact blk_frozen h _|exact (blk_cell h _).trans rfl
end Go.Proofs.YtfiamddinkokbaaGreat.F
end

section
namespace Go.Proofs.YtfiamddinkokbaaGreat
open Go.RowKit Go.Lib
set_option maxHeartbeats 2000000 in
set_option maxRecDepth 100000 in
theorem bld_used (b o : Nat) (w : World) (h0 : w.cell? ⟨b,o,none⟩=some (.pointer (some ⟨b,o,none⟩))) :
  Calls Tryz.prog 105 #[.pointer (some ⟨b,o,none⟩)] w fun e w'=>e = .returned (.tuple #[])∧w'=w:=by
 obtain⟨j,hj,_⟩:=Option.map_eq_some_iff.1 (show (Tryz.prog.info? 131).map (·.size)=some 2 by kernel_rfl)
 have hu:=Tryz.underlying128
 have hu2:=Tryz.underlying131
 go_enter Tryz.func105,Tryz.ntmps105
 go_wp2
 rw [Lib.run_neq_ptr_same w _ hu hj]
 go_wp2
 go_end0
 exact⟨rfl,rfl⟩
set_option maxHeartbeats 2000000 in
set_option maxRecDepth 100000 in
theorem bld_fresh (b o : Nat) (T : TypeId) (n : Nat) (w : World) (h0 : w.cell? ⟨b,o,none⟩=some (.pointer none)) (hsh : w.shape? b=some (T,n)) (hon : o<n) (hfz : w.frozen? ⟨b,o,none⟩=false)
  (hlies:liesAt Tryz.prog Tryz.prog.depth T (n / Tryz.prog.cellsOf T) o 131 1=true) :
  Calls Tryz.prog 105 #[.pointer (some ⟨b,o,none⟩)] w fun e w'=>e = .returned (.tuple #[])∧w'=w.setCell ⟨b,o,none⟩ (.pointer (some ⟨b,o,none⟩)):=by
 obtain⟨j,hj,hjs⟩:=Option.map_eq_some_iff.1 (show (Tryz.prog.info? 131).map (·.size)=some 2 by kernel_rfl)
 have hu:=Tryz.underlying128
 have hu2:=Tryz.underlying131
 have hu3:=Tryz.underlying204
 go_enter Tryz.func105,Tryz.ntmps105
 go_wp2
 rw [Lib.run_to_unsafe w ⟨b,o,none⟩ hu hu3 hj (by rw [hjs];decide) hsh hon]
 simp only [Result.andThen]
 rw [Oper.upon_value]
 try rw [Oper.upon_value]
 go_wp2
 rw [run_callFunc_extern Tryz.func132 (by kernel_rfl) (by kernel_rfl) (by kernel_rfl) (e:=Extern.AbiNoEscape.same) (by kernel_rfl)]
 rw [Lib.run_noEscape]
 simp only [Result.andThen]
 rw [Oper.upon_value]
 go_wp2
 rw [Lib.run_from_unsafe w ⟨b,o,none⟩ hu3 hu hj hsh hlies]
 simp only [Result.andThen]
 rw [Oper.upon_value]
 go_wp2
 go_end0
 exact⟨rfl,rfl⟩
structure BldAt (T : TypeId) (o : Nat) (B b : Nat) (cs : Array Value) (p v : Value) (bs : List UInt8) (w : World) : Prop where
 lo:B≤b
 blk:w.heap[b]? = some (.cells cs T (0,0))
 at0:cs[o]? = some p
 at1:cs[o+1]? = some v
 ptr:p = .pointer none∨p = .pointer (some ⟨b,o,none⟩)
 own:w.ownsRowF B 5 1 v bs.length (Lib.byteCells bs)
 ne:v.ownBlock≠some b
theorem BldAt.lt {T : TypeId} {o B b : Nat} {cs : Array Value} {p v : Value} {bs : List UInt8} {w : World} (h : BldAt T o B b cs p v bs w) : b<w.heap.size := (Array.getElem?_eq_some_iff.1 h.blk).1
theorem ownF_move {w w1 : World} {base : Nat} {e : TypeId} {size n : Nat} {v : Value} {xs : List Value} (h : w.ownsRowF base e size v n xs) (hm : ∀ k,v.ownBlock=some k→w1.heap[k]? = w.heap[k]?) : w1.ownsRowF base e size v n xs := by
 refine⟨h.1,?_⟩
 rcases h.2 with hn|⟨g,cap,cur,fz,rfl,hb,hg,rest⟩
 ·exact .inl hn
 ·exact .inr ⟨g,cap,cur,fz,rfl,hb,(hm g rfl).trans hg,rest⟩
theorem ownF_typed {w : World} {base : Nat} {e : TypeId} {size n : Nat} {v : Value} {xs : List Value} (h : w.ownsRowF base e size v n xs) (k : Nat) (hk : v.ownBlock=some k) : ∃ cells fz,w.heap[k]? = some (.cells cells e fz) := by
 rcases h.2 with ⟨rfl,_⟩|⟨g,cap,cur,fz,rfl,hb,hg,rest⟩
 ·simp [Value.ownBlock] at hk
 ·simp [Value.ownBlock] at hk
  subst hk;exact⟨cur,fz,hg⟩
theorem BldAt.move {T : TypeId} {o B b : Nat} {cs : Array Value} {p v : Value} {bs : List UInt8} {w w' : World} (h : BldAt T o B b cs p v bs w) (hb : w'.heap[b]? = w.heap[b]?) (hm : ∀ k,v.ownBlock=some k→w'.heap[k]? = w.heap[k]?) : BldAt T o B b cs p v bs w' :=
 ⟨h.lo,hb.trans h.blk,h.at0,h.at1,h.ptr,ownF_move h.own hm,h.ne⟩
theorem BldAt.freeze {T : TypeId} {o B b : Nat} {cs : Array Value} {p v : Value} {bs : List UInt8} {w : World} (h : BldAt T o B b cs p v bs w) {g cap : Nat} (hv : v = .slice (some ⟨g,0,none⟩) bs.length cap) : BldAt T o B b cs p v bs (w.freeze ⟨g,0,none⟩ bs.length) := by
 have hgb:g≠b:=fun e=>h.ne (by rw [hv,e];rfl)
 rcases h.own.2 with ⟨hv2,_⟩|⟨g2,cap2,cur,fz,hv2,hb,hg,hfz,rest⟩
 ·rw [hv] at hv2;cases hv2
 ·have e:(⟨g,0,none⟩:Addr)=⟨g2,0,none⟩:=by
   rw [hv] at hv2
   injection hv2 with e1 e2 e3
   exact Option.some.inj e1
  obtain rfl:g=g2:=congrArg Addr.block e
  have hne2:v.ownBlock=some g:=by rw [hv];rfl
  by_cases h0:bs.length=0
  ·have:w.freeze ⟨g,0,none⟩ bs.length=w:=by unfold World.freeze;rw [if_pos h0]
   rw [this];exact h
  ·refine⟨h.lo,?_,h.at0,h.at1,h.ptr,⟨h.own.1,.inr ⟨g,cap2,cur,(if (fz.1==fz.2)=true then (0,0+bs.length) else (min fz.1 0,max fz.2 (0+bs.length))),hv2,hb,?_,?_,rest⟩⟩,h.ne⟩
   ·unfold World.freeze
    rw [if_neg h0]
    simp [Array.getElem?_modify,hgb,h.blk]
   ·unfold World.freeze
    rw [if_neg h0]
    simp [Array.getElem?_modify,hg]
   ·split
    ·show 0+bs.length≤_;omega
    ·show max fz.2 (0+bs.length)≤_;omega
theorem bld_check {T : TypeId} {o B b : Nat} {cs : Array Value} {p v : Value} {bs : List UInt8} {w : World} (h : BldAt T o B b cs p v bs w)
  (hlies:liesAt Tryz.prog Tryz.prog.depth T (cs.size / Tryz.prog.cellsOf T) o 131 1=true) :
  Calls Tryz.prog 105 #[.pointer (some ⟨b,o,none⟩)] w fun e w'=>e = .returned (.tuple #[]) ∧
   BldAt T o B b (cs.setIfInBounds o (.pointer (some ⟨b,o,none⟩))) (.pointer (some ⟨b,o,none⟩)) v bs w'∧Below B w w'∧w'.heap.size=w.heap.size∧(∀ k,k≠b→w'.heap[k]? = w.heap[k]?):=by
 have ho:o<cs.size:=(Array.getElem?_eq_some_iff.1 h.at0).1
 have hcell:w.cell? ⟨b,o,none⟩=some p:=(Lib.cell_of_heap h.blk o).trans h.at0
 have hc1:(cs.setIfInBounds o (.pointer (some ⟨b,o,none⟩)))[o]? = some (.pointer (some ⟨b,o,none⟩)):=by
  rw [Array.getElem?_setIfInBounds_self];simp [ho]
 have hc2:(cs.setIfInBounds o (.pointer (some ⟨b,o,none⟩)))[o+1]? = some v:=by
  rw [Array.getElem?_setIfInBounds_ne (by omega)];exact h.at1
 rcases h.ptr with hp|hp
 ·rw [hp] at hcell
  refine (bld_fresh b o T cs.size w hcell (by simp [World.shape?,h.blk]) ho (Lib.frozen_of_heap h.blk o) hlies).mono ?_
  rintro e w' ⟨rfl,rfl⟩
  have hb':(w.setCell ⟨b,o,none⟩ (.pointer (some ⟨b,o,none⟩))).heap[b]? = some (.cells (cs.setIfInBounds o (.pointer (some ⟨b,o,none⟩))) T (0,0)):=by
   simp [World.setCell,Array.getElem?_modify,h.blk]
  refine⟨rfl,⟨h.lo,hb',hc1,hc2,.inr rfl,?_,h.ne⟩,(Below.refl B w).setCell (p:=⟨b,o,none⟩) h.lo _,by simp [World.setCell],fun k hk=>Below.heap_setCell _ _ _ _ hk⟩
  exact h.own.kept (row:=some b) ⟨rfl,rfl,rfl,by simp [World.setCell],fun k _ hk=>Below.heap_setCell _ _ _ _ (fun e=>hk (by simp [e]))⟩ (Or.inr h.ne)
 ·rw [hp] at hcell
  refine (bld_used b o w hcell).mono ?_
  rintro e w' ⟨rfl,rfl⟩
  have hid:cs.setIfInBounds o (.pointer (some ⟨b,o,none⟩))=cs:=by
   apply Array.ext_getElem?
   intro i
   by_cases hi:i=o
   ·subst hi;rw [hc1,h.at0,hp]
   ·rw [Array.getElem?_setIfInBounds_ne (by omega)]
  rw [hid]
  exact⟨rfl,⟨h.lo,h.blk,hp▸h.at0,h.at1,.inr rfl,h.own,h.ne⟩,Below.refl B _,rfl,fun k _=>rfl⟩
theorem byteCells_append (a b : List UInt8) : Lib.byteCells (a++b)=Lib.byteCells a++Lib.byteCells b := by simp [Lib.byteCells]
set_option maxHeartbeats 4000000 in
set_option maxRecDepth 100000 in
theorem bld_write {T : TypeId} {o B b : Nat} {cs : Array Value} {p v : Value} {bs : List UInt8} {w : World} (s : ByteArray) (h : BldAt T o B b cs p v bs w)
  (hlies:liesAt Tryz.prog Tryz.prog.depth T (cs.size / Tryz.prog.cellsOf T) o 131 1=true) (hT:T≠5) (hlen:bs.length+s.size≤140737488355328) (hBw:B≤w.heap.size) :
  Calls Tryz.prog 68 #[.pointer (some ⟨b,o,none⟩),.string s] w fun e w'=>e = .returned (.tuple #[.int .i64 s.size,.nilIface]) ∧
   ∃ v',BldAt T o B b ((cs.setIfInBounds o (.pointer (some ⟨b,o,none⟩))).setIfInBounds (o+1) v') (.pointer (some ⟨b,o,none⟩)) v' (bs++s.data.toList) w'∧Below B w w' ∧
    (∀ k,k<w.heap.size→k≠b→some k≠v.ownBlock→w'.heap[k]? = w.heap[k]?):=by
 have hu:=Tryz.underlying128
 have hu2:=Tryz.underlying131
 have hu3:=Tryz.underlying129
 have hu4:=Tryz.underlying9
 obtain⟨i0,hi,hz0,hz1,hz2⟩:=info_parts (show (Tryz.prog.info? 5).map (fun i=>(i.zero,i.size,i.bytes))=some (some (.int .u8 0),1,1) by kernel_rfl)
 have hcon:=bld_check h hlies
 have ho:o<cs.size:=(Array.getElem?_eq_some_iff.1 h.at0).1
 have ho1:o+1<cs.size:=(Array.getElem?_eq_some_iff.1 h.at1).1
 generalize hcs:cs.setIfInBounds o (.pointer (some ⟨b,o,none⟩))=cs1 at hcon ⊢
 have hs1:cs1.size=cs.size:=by rw [←hcs];simp
 clear hcs
 go_enter Tryz.func68,Tryz.ntmps68
 go_wp2_with (go_at_call 105;refine hcon.mono ?_)
 rintro e w1 ⟨rfl,h1,hb1,hz,hk1⟩
 have c1:w1.cell? ⟨b,o+1,none⟩=some v:=(Lib.cell_of_heap h1.blk _).trans h1.at1
 have hcl:(Lib.byteCells bs).length=bs.length:=Lib.byteCells_length bs
 have hown:=h1.own
 go_wp2_with (at_builtin;refine Lib.wpList_append_own_stringF _ rfl _ _ 129 9 rfl B 5 i0 hu3 hu4 hi hz0 hz1 hz2 _ _ _ rfl hown s rfl ?c3 ?c4 ?c5 ?_)
 case c3=>unfold maxLen;omega
 case c4=>omega
 case c5=>have:=hb1.size;omega
 intro v' w2 hown' hgrow _
 have hb2:w2.heap[b]? = some (.cells cs1 T (0,0)):=by
  rw [hgrow.block b h1.lt (fun e=>h1.ne e.symm)]
  exact h1.blk
 have d1:w2.cell? ⟨b,o+1,none⟩=some v:=(Lib.cell_of_heap hb2 _).trans h1.at1
 have f1:w2.frozen? ⟨b,o+1,none⟩=false:=Lib.frozen_of_heap hb2 (o+1)
 obtain⟨ao,n',cap,rfl⟩:∃ ao n' cap,v' = .slice ao n' cap:=by
  rcases hown'.2 with ⟨hv,_⟩|⟨g,cap,cur,fz,hv,_⟩
  ·exact⟨_,_,_,hv⟩
  ·exact⟨_,_,_,hv⟩
 go_wp2
 go_ret2
 have hlen2:(bs++s.data.toList).length=bs.length+s.size:=by rw [List.length_append,Array.length_toList];rfl
 have hcells:Lib.byteCells (bs++s.data.toList)=Lib.byteCells bs++Lib.strCells s:=by rw [byteCells_append];rfl
 have hne:(Value.slice ao n' cap).ownBlock≠some b:=Lib.ownBlock_neF hown' hb2 hT
 refine⟨rfl,_,⟨h.lo,?_,?_,?_,.inr rfl,?_,hne⟩,(hb1.grown hgrow (by have:=hb1.size;omega) (fun k hk=>(hown.lt k hk).1)).setCell (p:=⟨b,o+1,none⟩) h.lo _,?_⟩
 ·simp [World.setCell,Array.getElem?_modify,hb2]
 ·rw [Array.getElem?_setIfInBounds_ne (by omega)];exact h1.at0
 ·rw [Array.getElem?_setIfInBounds_self];simp [hs1,ho1]
 ·rw [hlen2,hcells]
  exact hown'.kept (row:=some b) ⟨rfl,rfl,rfl,by simp [World.setCell],fun k _ hk=>Below.heap_setCell _ _ _ _ (fun e=>hk (by simp [e]))⟩ (Or.inr hne)
 ·intro k hk hkb hkv
  rw [Below.heap_setCell _ _ _ _ hkb,hgrow.block k (by omega) hkv,hk1 k hkb]
theorem bld_freeze_old (w : World) (g k n : Nat) (h : k≠g) : (w.freeze ⟨g,0,none⟩ n).heap[k]? = w.heap[k]? := by
 unfold World.freeze
 split
 ·rfl
 ·simp [Array.getElem?_modify,Ne.symm h]
theorem bld_unsafeNone (W : World) (q : Option Addr) : (Builtin.unsafeString_ #[188,3] 9 #[.pointer q,.int .i64 0]).run Tryz.prog W = .ok (.string .empty) W := Lib.run_unsafeString_none W _ _ _ q
set_option maxHeartbeats 4000000 in
set_option maxRecDepth 100000 in
theorem bld_string {T : TypeId} {o B b : Nat} {cs : Array Value} {p v : Value} {bs : List UInt8} {w : World} (h : BldAt T o B b cs p v bs w) (hBw : B≤w.heap.size) :
  Calls Tryz.prog 77 #[.pointer (some ⟨b,o,none⟩)] w fun e w'=>e = .returned (.string (toB bs))∧Below B w w'∧(∀ k,k<w.heap.size→some k≠v.ownBlock→w'.heap[k]? = w.heap[k]?)∧BldAt T o B b cs p v bs w':=by
 have hu:=Tryz.underlying128
 have hu2:=Tryz.underlying131
 have hu3:=Tryz.underlying129
 have hu4:=Tryz.underlying188
 have hlt:=h.lt
 have hUS:=bld_unsafeNone
 have mixed:Tryz.prog.follows .mixedOrders=true:=by kernel_rfl
 have HA:=PLift.up h
 rcases h.own.2 with ⟨hv,hz⟩|⟨g,cap,cur,fz,hv,hbg,hg,hfz,hnc,hcm,hcs,htake⟩
 ·subst hv
  have hbs:bs=[]:=List.length_eq_zero_iff.1 hz
  subst hbs
  have c1:w.drew.cell? ⟨b,o+1,none⟩=some (.slice none 0 0):=(Lib.cell_of_heap (show w.drew.heap[b]? = some (.cells cs T (0,0)) from h.blk) _).trans h.at1
  have hSD:(Builtin.unsafeSliceData_ #[129] 188 #[.slice none 0 0]).run Tryz.prog w.drew = .ok (.pointer none) w.drew:=rfl
  clear h
  go_enter Tryz.func77,Tryz.ntmps77
  go_wp2
  go_region_o
  all_goals (go_wp2;go_ret;exact⟨rfl,Below.drew (Below.refl B w),fun _ _ _=>rfl,HA.down.move rfl (fun _ _=>rfl)⟩)
 ·subst hv
  by_cases h0:bs=[]
  ·subst h0
   by_cases hc0:cap=0
   ·subst hc0
    have c1:w.drew.cell? ⟨b,o+1,none⟩=some (.slice (some ⟨g,0,none⟩) 0 0):=(Lib.cell_of_heap (show w.drew.heap[b]? = some (.cells cs T (0,0)) from h.blk) _).trans h.at1
    have hSD:(Builtin.unsafeSliceData_ #[129] 188 #[.slice (some ⟨g,0,none⟩) 0 0]).run Tryz.prog w.drew = .ok (.pointer (some ⟨w.drew.heap.size,0,none⟩)) (w.drew.alloc (.view ⟨g,0,none⟩ 5)) :=
     Lib.run_unsafeSliceData_zero w.drew _ _ 5 hu4 ⟨g,0,none⟩ 0 (5,cur.size) (by have hg':w.drew.heap[g]? = some (.cells cur 5 fz):=hg;simp [World.shape?,hg'])
    have c2:(w.drew.alloc (.view ⟨g,0,none⟩ 5)).cell? ⟨b,o+1,none⟩=some (.slice (some ⟨g,0,none⟩) 0 0):=(Lib.cell_of_heap (show (w.drew.alloc (.view ⟨g,0,none⟩ 5)).heap[b]? = some (.cells cs T (0,0)) from (Lib.alloc_old w.drew _ b hlt).trans h.blk) _).trans h.at1
    have c3:(w.alloc (.view ⟨g,0,none⟩ 5)).drew.cell? ⟨b,o+1,none⟩=some (.slice (some ⟨g,0,none⟩) 0 0):=c2
    have c0:w.cell? ⟨b,o+1,none⟩=some (.slice (some ⟨g,0,none⟩) 0 0):=c1
    clear h
    go_enter Tryz.func77,Tryz.ntmps77
    go_wp2
    go_region_o
    all_goals (go_wp2;go_ret;exact⟨rfl,(Below.drew (Below.refl B w)).alloc hBw _,fun k hk _=>Lib.alloc_old w _ k hk,HA.down.move (Lib.alloc_old w _ b HA.down.lt) (fun k hk=>Lib.alloc_old w _ k (HA.down.own.lt k hk).2)⟩)
   ·have c1:w.drew.cell? ⟨b,o+1,none⟩=some (.slice (some ⟨g,0,none⟩) 0 cap):=(Lib.cell_of_heap (show w.drew.heap[b]? = some (.cells cs T (0,0)) from h.blk) _).trans h.at1
    have hSD:(Builtin.unsafeSliceData_ #[129] 188 #[.slice (some ⟨g,0,none⟩) 0 cap]).run Tryz.prog w.drew = .ok (.pointer (some ⟨g,0,none⟩)) w.drew :=
     Lib.run_unsafeSliceData_row _ _ _ _ _ _ hc0
    clear h hc0
    go_enter Tryz.func77,Tryz.ntmps77
    go_wp2
    go_region_o
    all_goals (go_wp2;go_ret;exact⟨rfl,Below.drew (Below.refl B w),fun _ _ _=>rfl,HA.down.move rfl (fun _ _=>rfl)⟩)
  ·have hl0:bs.length≠0:=by simpa using h0
   have c1:w.drew.cell? ⟨b,o+1,none⟩=some (.slice (some ⟨g,0,none⟩) bs.length cap):=(Lib.cell_of_heap (show w.drew.heap[b]? = some (.cells cs T (0,0)) from h.blk) _).trans h.at1
   have hSD:(Builtin.unsafeSliceData_ #[129] 188 #[.slice (some ⟨g,0,none⟩) bs.length cap]).run Tryz.prog w.drew = .ok (.pointer (some ⟨g,0,none⟩)) w.drew :=
    Lib.run_unsafeSliceData_row _ _ _ _ _ _ (by omega)
   have hown:=h.own
   have hUS2:(Builtin.unsafeString_ #[188,3] 9 #[.pointer (some ⟨g,0,none⟩),.int .i64 bs.length]).run Tryz.prog w.drew = .ok (.string (toB bs)) (w.drew.freeze ⟨g,0,none⟩ bs.length):=by
    refine Lib.run_unsafeString_row w.drew 188 3 9 5 hu4 (by kernel_rfl) g cur.size (by have hg':w.drew.heap[g]? = some (.cells cur 5 fz):=hg;simp [World.shape?,hg']) bs h0 (by omega) (by unfold maxLen at hcm;omega) ?_
    intro j x hx
    have:=hown.cells (g:=g) rfl j (.int .u8 x.toNat) (by simp [Lib.byteCells,hx])
    exact this
   clear hUS
   go_enter Tryz.func77,Tryz.ntmps77
   go_wp2
   go_region_o
   all_goals (go_wp2;go_ret;refine⟨rfl,Lib.below_freeze (Below.drew (Below.refl B w)) (p:=⟨g,0,none⟩) hbg _,fun k _ hk=>?_,BldAt.freeze (w:=w.drew) (HA.down.move rfl (fun _ _=>rfl)) rfl⟩)
   all_goals exact bld_freeze_old w.drew g k bs.length (fun e=>hk (by simp [Value.ownBlock,e]))
end Go.Proofs.YtfiamddinkokbaaGreat
end

section
namespace Go.Proofs.YtfiamddinkokbaaGreat.F
open Go.RowKit Go.Shelf Go.Proofs.YtfiamddinkokbaaGreatW.PrintWords
def Keeps (T b : Nat) (w w' : World) : Prop := ∀ k cs t fr,w.heap[k]? = some (.cells cs t fr)→t≠T→k≠b→w'.heap[k]? = w.heap[k]?
theorem Keeps.refl (T b : Nat) (w : World) : Keeps T b w w := fun _ _ _ _ _ _ _=>rfl
theorem Keeps.trans {T b : Nat} {w w1 w2 : World} (h : Keeps T b w w1) (g : Keeps T b w1 w2) : Keeps T b w w2 := fun k cs t fr hk ht hb=>by
 have h1:=h k cs t fr hk ht hb
 rw [g k cs t fr (h1.trans hk) ht hb,h1]
theorem Keeps.below {T b : Nat} {w w' : World} (h : Below w.heap.size w w') : Keeps T b w w' := fun k cs t fr hk _ _=>h.block k (Array.getElem?_eq_some_iff.1 hk).1
theorem Keeps.grown {T b : Nat} {w w1 w' : World} {v : Value} (h : Keeps T b w w1) (hg : w1.grownBy w' v.ownBlock) (hv : ∀ k,v.ownBlock=some k→∃ cells,w1.heap[k]? = some (.cells cells T (0,0))) : Keeps T b w w' := fun k cs t fr hk ht hb=>by
 have h1:=h k cs t fr hk ht hb
 have h2:=h1.trans hk
 rw [hg.block k (Array.getElem?_eq_some_iff.1 h2).1 (fun e=>?_),h1]
 obtain⟨cells,hc⟩:=hv k e.symm
 rw [h2] at hc
 injection hc with hc
 injection hc with _ hc _
 exact ht hc
theorem Keeps.set {T b : Nat} {w w' : World} (h : Keeps T b w w') (i : Nat) (v : Value) : Keeps T b w (w'.setCell ⟨b,i,none⟩ v) := fun k cs t fr hk ht hb=>by
 rw [Below.heap_setCell _ _ _ _ hb];exact h k cs t fr hk ht hb
theorem Keeps.drewN {T b : Nat} {w w' : World} (h : Keeps T b w w') (n : Nat) : Keeps T b w (w'.drewN n) := fun k cs t fr hk ht hb=>(h k cs t fr hk ht hb)
theorem Keeps.alloc {T b : Nat} {w w' : World} (h : Keeps T b w w') (o : Obj) : Keeps T b w (w'.alloc o) := h.trans (Keeps.below (below_alloc (Below.refl _ _) o))
theorem Keeps.cell {T b : Nat} {w w' : World} (h : Keeps T b w w') {k : Nat} {cs : Array Value} {t : TypeId} (hk : w.heap[k]? = some (.cells cs t (0,0))) (ht : t≠T) (hb : k≠b) : w'.heap[k]? = some (.cells cs t (0,0)) :=
 (h k cs t (0,0) hk ht hb).trans hk
abbrev SP := S94
def Fin (B f : Nat) (x y : Value) (l : List SP) (w : World) : Prop :=
 ∃ v,B≤f∧w.heap[f]? = some (.cells #[x,y,v] 195 (0,0))∧Kd.R k94 94 w B (fun k=>k≠f) v l
theorem Fin.below {B f : Nat} {x y : Value} {l : List SP} {w w' : World} (h : Fin B f x y l w) (hb : Below w.heap.size w w') : Fin B f x y l w' := by
 obtain⟨v,h0,h1,h2⟩:=h
 exact⟨v,h0,(hb.block f (Array.getElem?_eq_some_iff.1 h1).1).trans h1,Kd.R_below h2 hb⟩
theorem Fin.lo {B f : Nat} {x y : Value} {l : List SP} {w : World} (h : Fin B f x y l w) : B≤f := by obtain⟨v,h,_⟩ := h;exact h
theorem Fin.lt {B f : Nat} {x y : Value} {l : List SP} {w : World} (h : Fin B f x y l w) : f<w.heap.size := by obtain⟨v,_,h,_⟩ := h;exact (Array.getElem?_eq_some_iff.1 h).1
theorem Fin.c0 {B f : Nat} {x y : Value} {l : List SP} {w : World} (h : Fin B f x y l w) : w.cell? ⟨f,0,none⟩=some x := by obtain⟨v,_,h,_⟩ := h;exact (blk_cell h 0).trans rfl
theorem Fin.c1 {B f : Nat} {x y : Value} {l : List SP} {w : World} (h : Fin B f x y l w) : w.cell? ⟨f,1,none⟩=some y := by obtain⟨v,_,h,_⟩ := h;exact (blk_cell h 1).trans rfl
def diagP (a b : Int) (n : Nat) : List SP := (List.range n).map fun (i : Nat)=>(⟨a+(i : Int),b+(i : Int)⟩ : SP)
theorem diagP_succ (a b : Int) (n : Nat) : diagP a b (n+1)=diagP a b n++[⟨a+(n : Int),b+(n : Int)⟩] := by simp [diagP,List.range_succ]
theorem diagP_length (a b : Int) (n : Nat) : (diagP a b n).length=n := by simp [diagP]
theorem fin_info : (Tryz.prog.info? 94).map (fun i=>(i.zero,i.size,i.bytes))=some (some (.agg #[.int .i64 0,.int .i64 0]),2,16) := by kernel_rfl
theorem fin_put {B f : Nat} {x y v v1 : Value} {l l1 : List SP} {W w1 : World} (h0 : B≤f) (h1 : W.heap[f]? = some (.cells #[x,y,v] 195 (0,0))) (hR : Kd.R k94 94 W B (fun k=>k≠f) v l)
  (hR1:Kd.R k94 94 w1 B (fun k=>k≠f) v1 l1) (hg:W.grownBy w1 v.ownBlock):w1.heap[f]? = some (.cells #[x,y,v] 195 (0,0))∧Fin B f x y l1 (w1.setCell ⟨f,2,none⟩ v1):=by
 have hf:w1.heap[f]? = some (.cells #[x,y,v] 195 (0,0)):=(hg.block f (Array.getElem?_eq_some_iff.1 h1).1 (fun e=>hR.1 f e.symm rfl)).trans h1
 refine⟨hf,v1,h0,?_,?_⟩
 ·simp [World.setCell,Array.getElem?_modify,hf]
 ·exact Kd.R_step hR1 (fun k hk _=>Below.heap_setCell _ _ _ _ hk)
set_option maxHeartbeats 4000000 in
set_option maxRecDepth 100000 in
theorem same_calls {B f : Nat} {x y : Value} {l : List SP} {w : World} (a b : Int) (n : Nat) (h : Fin B f x y l w) (ha0 : 0≤a) (ha1 : a≤8000000000) (hb0 : 0≤b) (hb1 : b≤8000000000) (hn : n≤8000000000) (hl : l.length≤8000000000) (hBw : B≤w.heap.size) :
  Calls Tryz.prog 140 #[.pointer (some ⟨f,0,none⟩),.int .i64 a,.int .i64 b,.int .i64 n] w fun e w'=>e = .returned (.tuple #[])∧Fin B f x y (l++diagP a b n) w'∧Below B w w'∧Keeps 94 f w w':=by
 have HF:=Zd h
 have HBw:=Zd hBw
 clear h hBw
 go_enter Tryz.func140,Tryz.ntmps140
 go_wp2
 go_loopg [10] n (fun gg s10 wr=>∃ kk:Nat,kk≤n∧n-kk≤gg∧s10 = .int .i64 kk∧Aside0 (Fin B f x y (l++diagP a b kk) wr)∧Aside0 (Below B w wr)∧Aside0 (Keeps 94 f w wr))
 case atStart=>exact⟨0,Nat.zero_le _,by omega,rfl,⟨by simpa [diagP] using HF.out⟩,⟨Below.refl _ _⟩,⟨Keeps.refl _ _ _⟩⟩
 case round =>
  clear HF
  obtain⟨kk,hkk,hg,rfl,HF,HB,HK⟩:=hrel
  by_cases hlt:kk<n
  ·have hltz:(kk:Int)<(n:Int):=by omega
   have hlen:(l++diagP a b kk).length≤16000000000:=by rw [List.length_append,diagP_length];omega
   obtain⟨v,h0,h1,hR⟩:=HF.out
   have HR:=Zd hR
   have c2:=(blk_cell h1 2).trans (rfl:_=some v)
   have HS:=Zd h1
   have HF0:=Zd h0
   have HBr:=Zd (Nat.le_trans HBw.out HB.out.size)
   have a0:0≤(kk:Int):=by omega
   have HFr:Aside0 (∀ k,wr.heap.size≤k→k≠f):=⟨fun k hk e=>by have:=(Array.getElem?_eq_some_iff.1 HS.out).1;omega⟩
   clear hR h1 HF
   go_wp2_with (first|(at_builtin;refine Kd.R_append k94 (w0:=w) B rfl (.tmp 17) (.tmp 25) 35 94 (.agg #[.int .i64 0,.int .i64 0]) 16 rfl Tryz.underlying35 fin_info rfl (by decide) (by omega) v (l++diagP a b kk) ⟨a+(kk:Int),b+(kk:Int)⟩ [.int .i64 (a+(kk:Int)),.int .i64 (b+(kk:Int))] (fun k=>k≠f) (fun _=>False) rfl rfl (k94_mkM _ _ _ _) (fun _ hk=>hk.elim) HFr.out HR.out HB.out HBr.out (by omega) ?_;intro v1 w1 ho hb hg1 hat;obtain⟨Av,cv,rfl⟩:=Kd.R_slice ho;obtain⟨hf1,hfin⟩:=fin_put HF0.out HS.out HR.out ho hg1;have f2:=Lib.frozen_of_heap hf1 2;have d2:=(blk_cell hf1 2).trans (rfl:_=some v);have HF2:=Zd hfin;have HB2:=Zd hb;have HK2:=Zd (HK.out.grown hg1 (Kd.R_typed HR.out));clear ho hb hg1 hat hfin hf1))
   go_roundg (n-(kk+1))
   case measure=>omega
   case rel =>
    refine⟨kk+1,by omega,by omega,by go_num,⟨?_⟩,⟨HB2.out.setCell (p:=⟨f,2,none⟩) HF0.out _⟩,⟨HK2.out.set 2 _⟩⟩
    rw [diagP_succ,←List.append_assoc,show l.length+((diagP a b kk).length+1)=(l++diagP a b kk++[(⟨a+(kk:Int),b+(kk:Int)⟩:SP)]).length by simp only [List.length_append,List.length_singleton,Nat.add_assoc]];exact HF2.out
  ·obtain rfl:kk=n:=by omega
   have q1:((kk:Int)<(kk:Int))=False:=by simp
   go_wp2
   go_end0
   exact⟨rfl,HF.out,HB.out,HK.out⟩
end Go.Proofs.YtfiamddinkokbaaGreat.F
end

section
namespace Go.Proofs.YtfiamddinkokbaaGreat.F
open Go.RowKit Go.Proofs.YtfiamddinkokbaaGreatW.PrintWords Go.Proofs.YtfiamddinkokbaaGreatW.PrintLast Go.Proofs.YtfiamddinkokbaaGreatW.PrintMore
attribute [local go_sem] max2_int min2_int max_two min_two max_three min_three max_four min_four
def lcs_run_begin.f (l0_0 : List Int) (a0_1 : Int) (a1 : Int) (a2 : Int) : Option (Int) := if a1=(wrap64 (-a2)) then (if 0≤(wrap64 ((wrap64 (a0_1+a1))+1)) then (if (wrap64 ((wrap64 (a0_1+a1))+1))<(l0_0.length : Int) then (some (rd l0_0 (wrap64 ((wrap64 (a0_1+a1))+1)))) else (none)) else (none)) else (if a1=a2 then (if 0≤(wrap64 ((wrap64 (a0_1+a1))-1)) then (if (wrap64 ((wrap64 (a0_1+a1))-1))<(l0_0.length : Int) then (some (wrap64 ((rd l0_0 (wrap64 ((wrap64 (a0_1+a1))-1)))+1))) else (none)) else (none)) else (if 0≤(wrap64 ((wrap64 (a0_1+a1))-1)) then (if (wrap64 ((wrap64 (a0_1+a1))-1))<(l0_0.length : Int) then (if 0≤(wrap64 ((wrap64 (a0_1+a1))+1)) then (if (wrap64 ((wrap64 (a0_1+a1))+1))<(l0_0.length : Int) then (if (rd l0_0 (wrap64 ((wrap64 (a0_1+a1))-1)))<(rd l0_0 (wrap64 ((wrap64 (a0_1+a1))+1))) then (some (rd l0_0 (wrap64 ((wrap64 (a0_1+a1))+1)))) else (some (wrap64 ((rd l0_0 (wrap64 ((wrap64 (a0_1+a1))-1)))+1)))) else (none)) else (none)) else (none)) else (none)))
set_option maxHeartbeats 8000000 in
set_option maxRecDepth 100000 in
theorem lcs_run_begin.calls (A0_0 : Option Addr) (c0_0 : Nat) (l0_0 : List Int) (a0_1 : Int) (a1 : Int) (a2 : Int) (r : Int) (w : World) (hr0_0 : Kd.C (Kd.int .i64) w A0_0 l0_0.length l0_0) (hc0_0 : l0_0.length≤c0_0) (h : lcs_run_begin.f l0_0 a0_1 a1 a2=some r) :
  Calls Tryz.prog 162 #[.agg #[.slice A0_0 l0_0.length c0_0,.int .i64 a0_1],.int .i64 a1,.int .i64 a2] w fun e w'=>e = .returned (.int .i64 r)∧Below w.heap.size w w':=by
 have hu222:=Tryz.underlying222
 have HR0_0:=Zd hr0_0
 have HC0_0:=Zd hc0_0
 clear hr0_0 hc0_0
 have HB:=Zd (Below.refl w.heap.size w)
 have H:(if a1=(wrap64 (-a2)) then (if 0≤(wrap64 ((wrap64 (a0_1+a1))+1)) then (if (wrap64 ((wrap64 (a0_1+a1))+1))<(l0_0.length:Int) then (some (rd l0_0 (wrap64 ((wrap64 (a0_1+a1))+1)))) else (none)) else (none)) else (if a1=a2 then (if 0≤(wrap64 ((wrap64 (a0_1+a1))-1)) then (if (wrap64 ((wrap64 (a0_1+a1))-1))<(l0_0.length:Int) then (some (wrap64 ((rd l0_0 (wrap64 ((wrap64 (a0_1+a1))-1)))+1))) else (none)) else (none)) else (if 0≤(wrap64 ((wrap64 (a0_1+a1))-1)) then (if (wrap64 ((wrap64 (a0_1+a1))-1))<(l0_0.length:Int) then (if 0≤(wrap64 ((wrap64 (a0_1+a1))+1)) then (if (wrap64 ((wrap64 (a0_1+a1))+1))<(l0_0.length:Int) then (if (rd l0_0 (wrap64 ((wrap64 (a0_1+a1))-1)))<(rd l0_0 (wrap64 ((wrap64 (a0_1+a1))+1))) then (some (rd l0_0 (wrap64 ((wrap64 (a0_1+a1))+1)))) else (some (wrap64 ((rd l0_0 (wrap64 ((wrap64 (a0_1+a1))-1)))+1)))) else (none)) else (none)) else (none)) else (none))))=some r:=h
 clear h
 by_cases c4:a1=(wrap64 (-a2))
 ·rw [if_pos c4] at H
  have c4b0:(a1==(wrap64 (-a2)))=true:=beq_iff_eq.mpr c4
  have c4b1:(a1 != (wrap64 (-a2)))=false:=bne_eq_false_iff_eq.mpr c4
  clear c4
  obtain⟨ji5,hji5⟩:∃ j_:Int,(wrap64 ((wrap64 (a0_1+a1))+1))=j_:=⟨_,rfl⟩
  replace H:(if 0≤(ji5) then (if (ji5)<(l0_0.length:Int) then (some (rd l0_0 (ji5))) else (none)) else (none))=some r:=by first|(rw [hji5] at H;exact H)|(simp only [hji5] at H ⊢;exact H)
  have hji5w:(IntKind.i64.wrap ((wrap64 (a0_1+a1))+1))=ji5:=(i64_w _).trans hji5
  by_cases c6:0≤(ji5)
  ·rw [if_pos c6] at H
   have c6b0:decide (0≤(ji5))=true:=decide_eq_true c6
   clear c6
   by_cases c7:(ji5)<(l0_0.length:Int)
   ·rw [if_pos c7] at H
    have c7b0:decide ((ji5)<(l0_0.length:Int))=true:=decide_eq_true c7
    clear c7
    obtain rfl:=Option.some.inj H
    go_enter Tryz.func162,Tryz.ntmps162
    go_wp2_with (first|((with_reducible refine gate_dst (N:=3) rfl ?_);refine box_event ?hg (N:=3) ?hd (cs:=#[.slice A0_0 l0_0.length c0_0,.int .i64 a0_1]) (t:=222) ?hr ?_;(case hd=>rfl);(case hg=>rfl);(case hr=>first|(go_simp;done)|(go_simp;rfl));intro gb108 hg w8 hbox hb;have n0_:=Zd (below_step Zb hb);have n1_:=Zd (hbox);have n2_:=Zd ((Zg hg:w.heap.size≤gb108));have n3_:=Zd ((Zg hg:w.heap.size≤gb108));clear HB;have HB:=n0_;have BK108:=n1_;have GW108:=n2_;have GE108:=n3_;clear n0_ n1_ n2_ n3_;clear hb hbox hg;obtain⟨hcz9_0,hcz9_1,hfz9_0,hfz9_1⟩:=Zc2 BK108.out;have p109:0≤((ji5):Int):=Zo;have q109:(ji5)<(l0_0.length:Int):=Zo;obtain⟨ad109,e109,hx109_0⟩:=Kd.at_int HR0_0.out (ji5) p109 q109;cases e109;replace hx109_0:=Zx HB rfl hx109_0;replace p109:=eq_true p109;replace q109:=eq_true q109))
    repeat (go_quiet (first|((with_reducible refine gate_dst (N:=3) rfl ?_);refine box_event ?hg (N:=3) ?hd (cs:=#[.slice A0_0 l0_0.length c0_0,.int .i64 a0_1]) (t:=222) ?hr ?_;(case hd=>rfl);(case hg=>rfl);(case hr=>first|(go_simp;done)|(go_simp;rfl));intro gb108 hg w8 hbox hb;have n0_:=Zd (below_step Zb hb);have n1_:=Zd (hbox);have n2_:=Zd ((Zg hg:w.heap.size≤gb108));have n3_:=Zd ((Zg hg:w.heap.size≤gb108));clear HB;have HB:=n0_;have BK108:=n1_;have GW108:=n2_;have GE108:=n3_;clear n0_ n1_ n2_ n3_;clear hb hbox hg;obtain⟨hcz9_0,hcz9_1,hfz9_0,hfz9_1⟩:=Zc2 BK108.out;have p109:0≤((ji5):Int):=Zo;have q109:(ji5)<(l0_0.length:Int):=Zo;obtain⟨ad109,e109,hx109_0⟩:=Kd.at_int HR0_0.out (ji5) p109 q109;cases e109;replace hx109_0:=Zx HB rfl hx109_0;replace p109:=eq_true p109;replace q109:=eq_true q109));try go_wp2_with (first|((with_reducible refine gate_dst (N:=3) rfl ?_);refine box_event ?hg (N:=3) ?hd (cs:=#[.slice A0_0 l0_0.length c0_0,.int .i64 a0_1]) (t:=222) ?hr ?_;(case hd=>rfl);(case hg=>rfl);(case hr=>first|(go_simp;done)|(go_simp;rfl));intro gb108 hg w8 hbox hb;have n0_:=Zd (below_step Zb hb);have n1_:=Zd (hbox);have n2_:=Zd ((Zg hg:w.heap.size≤gb108));have n3_:=Zd ((Zg hg:w.heap.size≤gb108));clear HB;have HB:=n0_;have BK108:=n1_;have GW108:=n2_;have GE108:=n3_;clear n0_ n1_ n2_ n3_;clear hb hbox hg;obtain⟨hcz9_0,hcz9_1,hfz9_0,hfz9_1⟩:=Zc2 BK108.out;have p109:0≤((ji5):Int):=Zo;have q109:(ji5)<(l0_0.length:Int):=Zo;obtain⟨ad109,e109,hx109_0⟩:=Kd.at_int HR0_0.out (ji5) p109 q109;cases e109;replace hx109_0:=Zx HB rfl hx109_0;replace p109:=eq_true p109;replace q109:=eq_true q109)))
    go_ret
    exact⟨by first|rfl|(simp [errW_none,errW_some]<;>rfl)|(simp only [←hji5];first|rfl|(simp [errW_none,errW_some]<;>rfl))|(simp [*,errW_none,errW_some]<;>rfl),by repeat (first|(with_reducible first|exact HB.out|apply below_alloc|apply pw_below_drewN|apply below_drew1|refine below_set ?_ GE108.out)|exact HB.out)⟩
   ·rw [if_neg c7] at H
    exact absurd H (by simp)
  ·rw [if_neg c6] at H
   exact absurd H (by simp)
 ·rw [if_neg c4] at H
  have c4b0:(a1==(wrap64 (-a2)))=false:=beq_eq_false_iff_ne.mpr c4
  have c4b1:(a1 != (wrap64 (-a2)))=true:=bne_iff_ne.mpr c4
  by_cases c10:a1=a2
  ·rw [if_pos c10] at H
   have c10b0:(a1==a2)=true:=beq_iff_eq.mpr c10
   have c10b1:(a1 != a2)=false:=bne_eq_false_iff_eq.mpr c10
   clear c10
   obtain⟨ji11,hji11⟩:∃ j_:Int,(wrap64 ((wrap64 (a0_1+a1))-1))=j_:=⟨_,rfl⟩
   replace H:(if 0≤(ji11) then (if (ji11)<(l0_0.length:Int) then (some (wrap64 ((rd l0_0 (ji11))+1))) else (none)) else (none))=some r:=by first|(rw [hji11] at H;exact H)|(simp only [hji11] at H ⊢;exact H)
   have hji11w:(IntKind.i64.wrap ((wrap64 (a0_1+a1))-1))=ji11:=(i64_w _).trans hji11
   by_cases c12:0≤(ji11)
   ·rw [if_pos c12] at H
    have c12b0:decide (0≤(ji11))=true:=decide_eq_true c12
    clear c12
    by_cases c13:(ji11)<(l0_0.length:Int)
    ·rw [if_pos c13] at H
     have c13b0:decide ((ji11)<(l0_0.length:Int))=true:=decide_eq_true c13
     clear c13
     obtain rfl:=Option.some.inj H
     go_enter Tryz.func162,Tryz.ntmps162
     go_wp2_with (first|((with_reducible refine gate_dst (N:=3) rfl ?_);refine box_event ?hg (N:=3) ?hd (cs:=#[.slice A0_0 l0_0.length c0_0,.int .i64 a0_1]) (t:=222) ?hr ?_;(case hd=>rfl);(case hg=>rfl);(case hr=>first|(go_simp;done)|(go_simp;rfl));intro gb108 hg w14 hbox hb;have n0_:=Zd (below_step Zb hb);have n1_:=Zd (hbox);have n2_:=Zd ((Zg hg:w.heap.size≤gb108));have n3_:=Zd ((Zg hg:w.heap.size≤gb108));clear HB;have HB:=n0_;have BK108:=n1_;have GW108:=n2_;have GE108:=n3_;clear n0_ n1_ n2_ n3_;clear hb hbox hg;obtain⟨hcz15_0,hcz15_1,hfz15_0,hfz15_1⟩:=Zc2 BK108.out;have p110:0≤((ji11):Int):=Zo;have q110:(ji11)<(l0_0.length:Int):=Zo;obtain⟨ad110,e110,hx110_0⟩:=Kd.at_int HR0_0.out (ji11) p110 q110;cases e110;replace hx110_0:=Zx HB rfl hx110_0;replace p110:=eq_true p110;replace q110:=eq_true q110))
     repeat (go_quiet (first|((with_reducible refine gate_dst (N:=3) rfl ?_);refine box_event ?hg (N:=3) ?hd (cs:=#[.slice A0_0 l0_0.length c0_0,.int .i64 a0_1]) (t:=222) ?hr ?_;(case hd=>rfl);(case hg=>rfl);(case hr=>first|(go_simp;done)|(go_simp;rfl));intro gb108 hg w14 hbox hb;have n0_:=Zd (below_step Zb hb);have n1_:=Zd (hbox);have n2_:=Zd ((Zg hg:w.heap.size≤gb108));have n3_:=Zd ((Zg hg:w.heap.size≤gb108));clear HB;have HB:=n0_;have BK108:=n1_;have GW108:=n2_;have GE108:=n3_;clear n0_ n1_ n2_ n3_;clear hb hbox hg;obtain⟨hcz15_0,hcz15_1,hfz15_0,hfz15_1⟩:=Zc2 BK108.out;have p110:0≤((ji11):Int):=Zo;have q110:(ji11)<(l0_0.length:Int):=Zo;obtain⟨ad110,e110,hx110_0⟩:=Kd.at_int HR0_0.out (ji11) p110 q110;cases e110;replace hx110_0:=Zx HB rfl hx110_0;replace p110:=eq_true p110;replace q110:=eq_true q110));try go_wp2_with (first|((with_reducible refine gate_dst (N:=3) rfl ?_);refine box_event ?hg (N:=3) ?hd (cs:=#[.slice A0_0 l0_0.length c0_0,.int .i64 a0_1]) (t:=222) ?hr ?_;(case hd=>rfl);(case hg=>rfl);(case hr=>first|(go_simp;done)|(go_simp;rfl));intro gb108 hg w14 hbox hb;have n0_:=Zd (below_step Zb hb);have n1_:=Zd (hbox);have n2_:=Zd ((Zg hg:w.heap.size≤gb108));have n3_:=Zd ((Zg hg:w.heap.size≤gb108));clear HB;have HB:=n0_;have BK108:=n1_;have GW108:=n2_;have GE108:=n3_;clear n0_ n1_ n2_ n3_;clear hb hbox hg;obtain⟨hcz15_0,hcz15_1,hfz15_0,hfz15_1⟩:=Zc2 BK108.out;have p110:0≤((ji11):Int):=Zo;have q110:(ji11)<(l0_0.length:Int):=Zo;obtain⟨ad110,e110,hx110_0⟩:=Kd.at_int HR0_0.out (ji11) p110 q110;cases e110;replace hx110_0:=Zx HB rfl hx110_0;replace p110:=eq_true p110;replace q110:=eq_true q110)))
     go_ret
     exact⟨by first|rfl|(simp [errW_none,errW_some]<;>rfl)|(simp only [←hji11];first|rfl|(simp [errW_none,errW_some]<;>rfl))|(simp [*,errW_none,errW_some]<;>rfl),by repeat (first|(with_reducible first|exact HB.out|apply below_alloc|apply pw_below_drewN|apply below_drew1|refine below_set ?_ GE108.out)|exact HB.out)⟩
    ·rw [if_neg c13] at H
     exact absurd H (by simp)
   ·rw [if_neg c12] at H
    exact absurd H (by simp)
  ·rw [if_neg c10] at H
   have c10b0:(a1==a2)=false:=beq_eq_false_iff_ne.mpr c10
   have c10b1:(a1 != a2)=true:=bne_iff_ne.mpr c10
   obtain⟨ji16,hji16⟩:∃ j_:Int,(wrap64 ((wrap64 (a0_1+a1))-1))=j_:=⟨_,rfl⟩
   replace H:(if 0≤(ji16) then (if (ji16)<(l0_0.length:Int) then (if 0≤(wrap64 ((wrap64 (a0_1+a1))+1)) then (if (wrap64 ((wrap64 (a0_1+a1))+1))<(l0_0.length:Int) then (if (rd l0_0 (ji16))<(rd l0_0 (wrap64 ((wrap64 (a0_1+a1))+1))) then (some (rd l0_0 (wrap64 ((wrap64 (a0_1+a1))+1)))) else (some (wrap64 ((rd l0_0 (ji16))+1)))) else (none)) else (none)) else (none)) else (none))=some r:=by first|(rw [hji16] at H;exact H)|(simp only [hji16] at H ⊢;exact H)
   have hji16w:(IntKind.i64.wrap ((wrap64 (a0_1+a1))-1))=ji16:=(i64_w _).trans hji16
   by_cases c17:0≤(ji16)
   ·rw [if_pos c17] at H
    have c17b0:decide (0≤(ji16))=true:=decide_eq_true c17
    clear c17
    by_cases c18:(ji16)<(l0_0.length:Int)
    ·rw [if_pos c18] at H
     have c18b0:decide ((ji16)<(l0_0.length:Int))=true:=decide_eq_true c18
     clear c18
     obtain⟨ji19,hji19⟩:∃ j_:Int,(wrap64 ((wrap64 (a0_1+a1))+1))=j_:=⟨_,rfl⟩
     replace H:(if 0≤(ji19) then (if (ji19)<(l0_0.length:Int) then (if (rd l0_0 (ji16))<(rd l0_0 (ji19)) then (some (rd l0_0 (ji19))) else (some (wrap64 ((rd l0_0 (ji16))+1)))) else (none)) else (none))=some r:=by first|(rw [hji19] at H;exact H)|(simp only [hji19] at H ⊢;exact H)
     have hji19w:(IntKind.i64.wrap ((wrap64 (a0_1+a1))+1))=ji19:=(i64_w _).trans hji19
     by_cases c20:0≤(ji19)
     ·rw [if_pos c20] at H
      have c20b0:decide (0≤(ji19))=true:=decide_eq_true c20
      clear c20
      by_cases c21:(ji19)<(l0_0.length:Int)
      ·rw [if_pos c21] at H
       have c21b0:decide ((ji19)<(l0_0.length:Int))=true:=decide_eq_true c21
       clear c21
       by_cases c22:(rd l0_0 (ji16))<(rd l0_0 (ji19))
       ·rw [if_pos c22] at H
        have c22b0:decide ((rd l0_0 (ji16))<(rd l0_0 (ji19)))=true:=decide_eq_true c22
        clear c22
        obtain rfl:=Option.some.inj H
        go_enter Tryz.func162,Tryz.ntmps162
        go_wp2_with (first|((with_reducible refine gate_dst (N:=3) rfl ?_);refine box_event ?hg (N:=3) ?hd (cs:=#[.slice A0_0 l0_0.length c0_0,.int .i64 a0_1]) (t:=222) ?hr ?_;(case hd=>rfl);(case hg=>rfl);(case hr=>first|(go_simp;done)|(go_simp;rfl));intro gb108 hg w23 hbox hb;have n0_:=Zd (below_step Zb hb);have n1_:=Zd (hbox);have n2_:=Zd ((Zg hg:w.heap.size≤gb108));have n3_:=Zd ((Zg hg:w.heap.size≤gb108));clear HB;have HB:=n0_;have BK108:=n1_;have GW108:=n2_;have GE108:=n3_;clear n0_ n1_ n2_ n3_;clear hb hbox hg;obtain⟨hcz24_0,hcz24_1,hfz24_0,hfz24_1⟩:=Zc2 BK108.out;have p111:0≤((ji16):Int):=Zo;have q111:(ji16)<(l0_0.length:Int):=Zo;obtain⟨ad111,e111,hx111_0⟩:=Kd.at_int HR0_0.out (ji16) p111 q111;cases e111;replace hx111_0:=Zx HB rfl hx111_0;replace p111:=eq_true p111;replace q111:=eq_true q111;have p112:0≤((ji19):Int):=Zo;have q112:(ji19)<(l0_0.length:Int):=Zo;obtain⟨ad112,e112,hx112_0⟩:=Kd.at_int HR0_0.out (ji19) p112 q112;obtain rfl:ad111=ad112:=(by injection e112);replace hx112_0:=Zx HB rfl hx112_0;replace p112:=eq_true p112;replace q112:=eq_true q112;have p113:0≤((ji19):Int):=Zo;have q113:(ji19)<(l0_0.length:Int):=Zo;obtain⟨ad113,e113,hx113_0⟩:=Kd.at_int HR0_0.out (ji19) p113 q113;obtain rfl:ad111=ad113:=(by injection e113);replace hx113_0:=Zx HB rfl hx113_0;replace p113:=eq_true p113;replace q113:=eq_true q113))
        repeat (go_quiet (first|((with_reducible refine gate_dst (N:=3) rfl ?_);refine box_event ?hg (N:=3) ?hd (cs:=#[.slice A0_0 l0_0.length c0_0,.int .i64 a0_1]) (t:=222) ?hr ?_;(case hd=>rfl);(case hg=>rfl);(case hr=>first|(go_simp;done)|(go_simp;rfl));intro gb108 hg w23 hbox hb;have n0_:=Zd (below_step Zb hb);have n1_:=Zd (hbox);have n2_:=Zd ((Zg hg:w.heap.size≤gb108));have n3_:=Zd ((Zg hg:w.heap.size≤gb108));clear HB;have HB:=n0_;have BK108:=n1_;have GW108:=n2_;have GE108:=n3_;clear n0_ n1_ n2_ n3_;clear hb hbox hg;obtain⟨hcz24_0,hcz24_1,hfz24_0,hfz24_1⟩:=Zc2 BK108.out;have p111:0≤((ji16):Int):=Zo;have q111:(ji16)<(l0_0.length:Int):=Zo;obtain⟨ad111,e111,hx111_0⟩:=Kd.at_int HR0_0.out (ji16) p111 q111;cases e111;replace hx111_0:=Zx HB rfl hx111_0;replace p111:=eq_true p111;replace q111:=eq_true q111;have p112:0≤((ji19):Int):=Zo;have q112:(ji19)<(l0_0.length:Int):=Zo;obtain⟨ad112,e112,hx112_0⟩:=Kd.at_int HR0_0.out (ji19) p112 q112;obtain rfl:ad111=ad112:=(by injection e112);replace hx112_0:=Zx HB rfl hx112_0;replace p112:=eq_true p112;replace q112:=eq_true q112;have p113:0≤((ji19):Int):=Zo;have q113:(ji19)<(l0_0.length:Int):=Zo;obtain⟨ad113,e113,hx113_0⟩:=Kd.at_int HR0_0.out (ji19) p113 q113;obtain rfl:ad111=ad113:=(by injection e113);replace hx113_0:=Zx HB rfl hx113_0;replace p113:=eq_true p113;replace q113:=eq_true q113));try go_wp2_with (first|((with_reducible refine gate_dst (N:=3) rfl ?_);refine box_event ?hg (N:=3) ?hd (cs:=#[.slice A0_0 l0_0.length c0_0,.int .i64 a0_1]) (t:=222) ?hr ?_;(case hd=>rfl);(case hg=>rfl);(case hr=>first|(go_simp;done)|(go_simp;rfl));intro gb108 hg w23 hbox hb;have n0_:=Zd (below_step Zb hb);have n1_:=Zd (hbox);have n2_:=Zd ((Zg hg:w.heap.size≤gb108));have n3_:=Zd ((Zg hg:w.heap.size≤gb108));clear HB;have HB:=n0_;have BK108:=n1_;have GW108:=n2_;have GE108:=n3_;clear n0_ n1_ n2_ n3_;clear hb hbox hg;obtain⟨hcz24_0,hcz24_1,hfz24_0,hfz24_1⟩:=Zc2 BK108.out;have p111:0≤((ji16):Int):=Zo;have q111:(ji16)<(l0_0.length:Int):=Zo;obtain⟨ad111,e111,hx111_0⟩:=Kd.at_int HR0_0.out (ji16) p111 q111;cases e111;replace hx111_0:=Zx HB rfl hx111_0;replace p111:=eq_true p111;replace q111:=eq_true q111;have p112:0≤((ji19):Int):=Zo;have q112:(ji19)<(l0_0.length:Int):=Zo;obtain⟨ad112,e112,hx112_0⟩:=Kd.at_int HR0_0.out (ji19) p112 q112;obtain rfl:ad111=ad112:=(by injection e112);replace hx112_0:=Zx HB rfl hx112_0;replace p112:=eq_true p112;replace q112:=eq_true q112;have p113:0≤((ji19):Int):=Zo;have q113:(ji19)<(l0_0.length:Int):=Zo;obtain⟨ad113,e113,hx113_0⟩:=Kd.at_int HR0_0.out (ji19) p113 q113;obtain rfl:ad111=ad113:=(by injection e113);replace hx113_0:=Zx HB rfl hx113_0;replace p113:=eq_true p113;replace q113:=eq_true q113)))
        go_ret
        exact⟨by first|rfl|(simp [errW_none,errW_some]<;>rfl)|(simp only [←hji16,←hji19];first|rfl|(simp [errW_none,errW_some]<;>rfl))|(simp [*,errW_none,errW_some]<;>rfl),by repeat (first|(with_reducible first|exact HB.out|apply below_alloc|apply pw_below_drewN|apply below_drew1|refine below_set ?_ GE108.out)|exact HB.out)⟩
       ·rw [if_neg c22] at H
        have c22b0:decide ((rd l0_0 (ji16))<(rd l0_0 (ji19)))=false:=decide_eq_false c22
        clear c22
        obtain rfl:=Option.some.inj H
        go_enter Tryz.func162,Tryz.ntmps162
        go_wp2_with (first|((with_reducible refine gate_dst (N:=3) rfl ?_);refine box_event ?hg (N:=3) ?hd (cs:=#[.slice A0_0 l0_0.length c0_0,.int .i64 a0_1]) (t:=222) ?hr ?_;(case hd=>rfl);(case hg=>rfl);(case hr=>first|(go_simp;done)|(go_simp;rfl));intro gb108 hg w25 hbox hb;have n0_:=Zd (below_step Zb hb);have n1_:=Zd (hbox);have n2_:=Zd ((Zg hg:w.heap.size≤gb108));have n3_:=Zd ((Zg hg:w.heap.size≤gb108));clear HB;have HB:=n0_;have BK108:=n1_;have GW108:=n2_;have GE108:=n3_;clear n0_ n1_ n2_ n3_;clear hb hbox hg;obtain⟨hcz26_0,hcz26_1,hfz26_0,hfz26_1⟩:=Zc2 BK108.out;have p111:0≤((ji16):Int):=Zo;have q111:(ji16)<(l0_0.length:Int):=Zo;obtain⟨ad111,e111,hx111_0⟩:=Kd.at_int HR0_0.out (ji16) p111 q111;cases e111;replace hx111_0:=Zx HB rfl hx111_0;replace p111:=eq_true p111;replace q111:=eq_true q111;have p112:0≤((ji19):Int):=Zo;have q112:(ji19)<(l0_0.length:Int):=Zo;obtain⟨ad112,e112,hx112_0⟩:=Kd.at_int HR0_0.out (ji19) p112 q112;obtain rfl:ad111=ad112:=(by injection e112);replace hx112_0:=Zx HB rfl hx112_0;replace p112:=eq_true p112;replace q112:=eq_true q112;have p114:0≤((ji16):Int):=Zo;have q114:(ji16)<(l0_0.length:Int):=Zo;obtain⟨ad114,e114,hx114_0⟩:=Kd.at_int HR0_0.out (ji16) p114 q114;obtain rfl:ad111=ad114:=(by injection e114);replace hx114_0:=Zx HB rfl hx114_0;replace p114:=eq_true p114;replace q114:=eq_true q114))
        repeat (go_quiet (first|((with_reducible refine gate_dst (N:=3) rfl ?_);refine box_event ?hg (N:=3) ?hd (cs:=#[.slice A0_0 l0_0.length c0_0,.int .i64 a0_1]) (t:=222) ?hr ?_;(case hd=>rfl);(case hg=>rfl);(case hr=>first|(go_simp;done)|(go_simp;rfl));intro gb108 hg w25 hbox hb;have n0_:=Zd (below_step Zb hb);have n1_:=Zd (hbox);have n2_:=Zd ((Zg hg:w.heap.size≤gb108));have n3_:=Zd ((Zg hg:w.heap.size≤gb108));clear HB;have HB:=n0_;have BK108:=n1_;have GW108:=n2_;have GE108:=n3_;clear n0_ n1_ n2_ n3_;clear hb hbox hg;obtain⟨hcz26_0,hcz26_1,hfz26_0,hfz26_1⟩:=Zc2 BK108.out;have p111:0≤((ji16):Int):=Zo;have q111:(ji16)<(l0_0.length:Int):=Zo;obtain⟨ad111,e111,hx111_0⟩:=Kd.at_int HR0_0.out (ji16) p111 q111;cases e111;replace hx111_0:=Zx HB rfl hx111_0;replace p111:=eq_true p111;replace q111:=eq_true q111;have p112:0≤((ji19):Int):=Zo;have q112:(ji19)<(l0_0.length:Int):=Zo;obtain⟨ad112,e112,hx112_0⟩:=Kd.at_int HR0_0.out (ji19) p112 q112;obtain rfl:ad111=ad112:=(by injection e112);replace hx112_0:=Zx HB rfl hx112_0;replace p112:=eq_true p112;replace q112:=eq_true q112;have p114:0≤((ji16):Int):=Zo;have q114:(ji16)<(l0_0.length:Int):=Zo;obtain⟨ad114,e114,hx114_0⟩:=Kd.at_int HR0_0.out (ji16) p114 q114;obtain rfl:ad111=ad114:=(by injection e114);replace hx114_0:=Zx HB rfl hx114_0;replace p114:=eq_true p114;replace q114:=eq_true q114));try go_wp2_with (first|((with_reducible refine gate_dst (N:=3) rfl ?_);refine box_event ?hg (N:=3) ?hd (cs:=#[.slice A0_0 l0_0.length c0_0,.int .i64 a0_1]) (t:=222) ?hr ?_;(case hd=>rfl);(case hg=>rfl);(case hr=>first|(go_simp;done)|(go_simp;rfl));intro gb108 hg w25 hbox hb;have n0_:=Zd (below_step Zb hb);have n1_:=Zd (hbox);have n2_:=Zd ((Zg hg:w.heap.size≤gb108));have n3_:=Zd ((Zg hg:w.heap.size≤gb108));clear HB;have HB:=n0_;have BK108:=n1_;have GW108:=n2_;have GE108:=n3_;clear n0_ n1_ n2_ n3_;clear hb hbox hg;obtain⟨hcz26_0,hcz26_1,hfz26_0,hfz26_1⟩:=Zc2 BK108.out;have p111:0≤((ji16):Int):=Zo;have q111:(ji16)<(l0_0.length:Int):=Zo;obtain⟨ad111,e111,hx111_0⟩:=Kd.at_int HR0_0.out (ji16) p111 q111;cases e111;replace hx111_0:=Zx HB rfl hx111_0;replace p111:=eq_true p111;replace q111:=eq_true q111;have p112:0≤((ji19):Int):=Zo;have q112:(ji19)<(l0_0.length:Int):=Zo;obtain⟨ad112,e112,hx112_0⟩:=Kd.at_int HR0_0.out (ji19) p112 q112;obtain rfl:ad111=ad112:=(by injection e112);replace hx112_0:=Zx HB rfl hx112_0;replace p112:=eq_true p112;replace q112:=eq_true q112;have p114:0≤((ji16):Int):=Zo;have q114:(ji16)<(l0_0.length:Int):=Zo;obtain⟨ad114,e114,hx114_0⟩:=Kd.at_int HR0_0.out (ji16) p114 q114;obtain rfl:ad111=ad114:=(by injection e114);replace hx114_0:=Zx HB rfl hx114_0;replace p114:=eq_true p114;replace q114:=eq_true q114)))
        go_ret
        exact⟨by first|rfl|(simp [errW_none,errW_some]<;>rfl)|(simp only [←hji16,←hji19];first|rfl|(simp [errW_none,errW_some]<;>rfl))|(simp [*,errW_none,errW_some]<;>rfl),by repeat (first|(with_reducible first|exact HB.out|apply below_alloc|apply pw_below_drewN|apply below_drew1|refine below_set ?_ GE108.out)|exact HB.out)⟩
      ·rw [if_neg c21] at H
       exact absurd H (by simp)
     ·rw [if_neg c20] at H
      exact absurd H (by simp)
    ·rw [if_neg c18] at H
     exact absurd H (by simp)
   ·rw [if_neg c17] at H
    exact absurd H (by simp)
end Go.Proofs.YtfiamddinkokbaaGreat.F
end

section
namespace Go.Proofs.YtfiamddinkokbaaGreat.F
open Go.RowKit Go.Shelf Go.Proofs.YtfiamddinkokbaaGreatW.PrintWords
def slide (xs ys : List Int) (k : Int) : Nat→Int→Int
 | 0,u=>u
 | s+1,u=>if u<xs.length∧u-k<ys.length∧rd xs u=rd ys (u-k) then slide xs ys k s (u+1) else u
def slideI (xs ys : List Int) (k u : Int) : Int := slide xs ys k ((xs.length : Int)-u).toNat u
theorem slideI_on {xs ys : List Int} {k u : Int} (h1 : u<xs.length) (h2 : u-k<ys.length) (h3 : rd xs u=rd ys (u-k)) : slideI xs ys k u=slideI xs ys k (u+1) := by
 unfold slideI
 rw [show ((xs.length:Int)-u).toNat=((xs.length:Int)-(u+1)).toNat+1 by omega,slide,if_pos ⟨h1,h2,h3⟩]
theorem slideI_off {xs ys : List Int} {k u : Int} (h : ¬ (u<xs.length∧u-k<ys.length∧rd xs u=rd ys (u-k))) : slideI xs ys k u=u := by
 unfold slideI
 cases hn:((xs.length:Int)-u).toNat with
 | zero=>rfl
 | succ m=>rw [slide,if_neg h]
def beginI (far : List Int) (off k d : Int) : Int := if k = -d∨(k≠d∧rd far (off+k-1)<rd far (off+k+1)) then rd far (off+k+1) else rd far (off+k-1)+1
theorem C_int_at {w : World} {A : Option Addr} {n : Nat} {xs : List Int} (h : Kd.C (Kd.int .i64) w A n xs) (i : Int) (h0 : 0≤i) (h1 : i<n) : ∃ ad,A=some ad∧w.cell? (ad.add i.toNat)=some (.int .i64 (rd xs i)) := by
 have hn:=h.1
 obtain⟨ad,e,hc⟩:=h.2.2 (by omega)
 refine⟨ad,e,?_⟩
 have hi:i.toNat<xs.length:=by omega
 obtain⟨c,hl,hk,hcell⟩:=hc i.toNat (xs[i.toNat]) (List.getElem?_eq_getElem hi)
 have hk':c=[Value.int .i64 (xs[i.toNat])]:=hk
 have:=hcell 0 _ (by rw [hk'];rfl)
 have e2:rd xs i=xs[i.toNat]:=by unfold rd;rw [List.getD_eq_getElem?_getD,List.getElem?_eq_getElem hi];rfl
 rw [e2]
 simpa [show (Kd.int .i64).sz=1 from rfl] using this
def Row (B bf : Nat) (c : Nat) (far : List Int) (w : World) : Prop := Kd.R (Kd.int .i64) 3 w B (fun k=>k=bf) (.slice (some ⟨bf,0,none⟩) far.length c) far
theorem begin_f (far : List Int) (off k d : Int) (hd0 : 0≤d) (hd1 : d≤20000000000) (h1 : -d≤k) (h2 : k≤d) (ho : d+1≤off) (ho1 : off≤20000000000) (hl : off+d+1<far.length) (hb : ∀ x∈far,-1≤x∧x≤100000000000) :
  lcs_run_begin.f far off k d=some (beginI far off k d):=by
 have e1:wrap64 (-d) = -d:=by unfold wrap64;omega
 have e2:wrap64 (off+k)=off+k:=by unfold wrap64;omega
 have e3:wrap64 (off+k+1)=off+k+1:=by unfold wrap64;omega
 have e4:wrap64 (off+k-1)=off+k-1:=by unfold wrap64;omega
 have hr:∀ i:Int,0≤i→i<far.length → -1≤rd far i∧rd far i≤100000000000:=by
  intro i h0 hi
  have hi2:i.toNat<far.length:=by omega
  unfold rd;rw [List.getD_eq_getElem?_getD,List.getElem?_eq_getElem hi2]
  exact hb _ (List.getElem_mem hi2)
 have r1:=hr (off+k+1) (by omega) (by omega)
 have r2:=hr (off+k-1) (by omega) (by omega)
 have e5:wrap64 (rd far (off+k-1)+1)=rd far (off+k-1)+1:=by unfold wrap64;omega
 unfold lcs_run_begin.f beginI
 rw [e1,e2,e3,e4,e5]
 by_cases hk:k = -d
 ·rw [if_pos hk,if_pos (by omega),if_pos (by omega),if_pos (.inl hk)]
 ·rw [if_neg hk]
  by_cases hk2:k=d
  ·rw [if_pos hk2,if_pos (by omega),if_pos (by omega),if_neg (by omega)]
  ·rw [if_neg hk2,if_pos (by omega),if_pos (by omega),if_pos (by omega),if_pos (by omega)]
   by_cases hk3:rd far (off+k-1)<rd far (off+k+1)
   ·rw [if_pos hk3,if_pos (.inr ⟨hk2,hk3⟩)]
   ·rw [if_neg hk3,if_neg (by omega)]
theorem two_boxes {w W1 : World} {c1 c2 : Array Value} {t1 t2 : TypeId} (hb : Below ((w.alloc (.cells c1 t1)).alloc (.cells c2 t2)).heap.size ((w.alloc (.cells c1 t1)).alloc (.cells c2 t2)) W1) :
  Below w.heap.size w W1∧W1.heap[w.heap.size]? = some (.cells c1 t1 (0,0))∧W1.heap[w.heap.size+1]? = some (.cells c2 t2 (0,0)):=by
 have hs:(w.alloc (.cells c1 t1)).heap.size=w.heap.size+1:=World.size_alloc _ _
 have hs2:((w.alloc (.cells c1 t1)).alloc (.cells c2 t2)).heap.size=w.heap.size+1+1:=by rw [World.size_alloc,hs]
 have h1:((w.alloc (.cells c1 t1)).alloc (.cells c2 t2)).heap[w.heap.size]? = some (.cells c1 t1 (0,0)):=(Lib.alloc_old (w.alloc (.cells c1 t1)) _ w.heap.size (by omega)).trans (World.alloc_heap_new w _)
 have h2:((w.alloc (.cells c1 t1)).alloc (.cells c2 t2)).heap[w.heap.size+1]? = some (.cells c2 t2 (0,0)):=by rw [←hs];exact World.alloc_heap_new (w.alloc (.cells c1 t1)) _
 exact⟨below_step (below_alloc (below_alloc (Below.refl _ _) _) _) hb,(hb.block _ (by omega)).trans h1,(hb.block _ (by omega)).trans h2⟩
def Went (bf : Nat) (i u e : Int) (w : World) (en : Ending) (w' : World) : Prop := en = .returned (.tuple #[.int .i64 u,.int .i64 e])∧∃ W1,Below w.heap.size w W1∧w'=W1.setCell ⟨bf,i.toNat,none⟩ (.int .i64 e)
set_option maxHeartbeats 4000000 in
set_option maxRecDepth 100000 in
theorem forth_calls {B f bf c : Nat} {A C : Option Addr} {ca cb : Nat} {a b : List Int} {l : List SP} {far : List Int} {w : World} (a0 a1 b0 b1 off k d : Int) (xs ys : List Int)
  (hF:Fin B f (.slice A a.length ca) (.slice C b.length cb) l w) (hA:Kd.C (Kd.int .i64) w A a.length a) (hC:Kd.C (Kd.int .i64) w C b.length b) (hR:Row B bf c far w)
  (ha0:0≤a0) (ha1:a0≤a1) (ha2:a1≤a.length) (hb0:0≤b0) (hb1:b0≤b1) (hb2:b1≤b.length) (hla:a.length≤4000000000) (hlb:b.length≤4000000000)
  (hd0:0≤d) (hd1:d≤20000000000) (hk1 : -d≤k) (hk2:k≤d) (ho:d+1≤off) (ho1:off≤20000000000) (hlf:off+d+1<far.length) (hfb:∀ x∈far,-1≤x∧x≤100000000000)
  (hxl:(xs.length:Int)=a1-a0) (hyl:(ys.length:Int)=b1-b0) (hx:∀ u:Int,0≤u→u<a1-a0→rd a (a0+u)=rd xs u) (hy:∀ u:Int,0≤u→u<b1-b0→rd b (b0+u)=rd ys u)
  (hu0:0≤beginI far off k d) (hu1:k≤beginI far off k d) (hu2:beginI far off k d≤100000000000) :
  Calls Tryz.prog 153 #[.pointer (some ⟨f,0,none⟩),.agg #[.int .i64 a0,.int .i64 a1,.int .i64 b0,.int .i64 b1],.agg #[.slice (some ⟨bf,0,none⟩) far.length c,.int .i64 off],.int .i64 k,.int .i64 d] w
   (Went bf (off+k) (beginI far off k d) (slideI xs ys k (beginI far off k d)) w):=by
 have hrl:=Kd.R_reads' hR
 have HRC:=Zd hrl.2.2
 have HRL:=Zd hrl.2.1
 have HBeg:=Zd (begin_f far off k d hd0 hd1 hk1 hk2 ho ho1 hlf hfb)
 have HF:=Zd hF
 have HA:=Zd hA
 have HC:=Zd hC
 have HR:=Zd hR
 have HX:=Zd hx
 have HY:=Zd hy
 have HXL:=Zd hxl
 have HYL:=Zd hyl
 have HLF:=Zd hlf
 clear hF hA hC hR hx hy hfb hxl hyl hrl hlf
 generalize beginI far off k d=u0 at *
 go_enter Tryz.func153,Tryz.ntmps153
 go_wp2_with (first|(go_at_call 162;with_reducible refine (lcs_run_begin.calls _ _ far off k d u0 _ (Kd.C_alloc (Kd.C_alloc HRC.out _) _) HRL.out HBeg.out).mono ?_;rintro e W1 ⟨rfl,hb1⟩;have h2b:=two_boxes hb1;clear hb1))
 obtain⟨hb1,hx6,hx7⟩:=h2b
 have HB1:=Zd hb1
 have p0:=(blk_cell hx6 0).trans (rfl:_=some (Value.int .i64 a0))
 have p1:=(blk_cell hx6 1).trans (rfl:_=some (Value.int .i64 a1))
 have p2:=(blk_cell hx6 2).trans (rfl:_=some (Value.int .i64 b0))
 have p3:=(blk_cell hx6 3).trans (rfl:_=some (Value.int .i64 b1))
 have r0:=(blk_cell hx7 0).trans (rfl:_=some (Value.slice (some ⟨bf,0,none⟩) far.length c))
 have r1:=(blk_cell hx7 1).trans (rfl:_=some (Value.int .i64 off))
 have q0:=(HF.out.below hb1).c0
 have q1:=(HF.out.below hb1).c1
 have hst:=Kd.R_cell (0:Int) (Kd.R_below HR.out hb1) (off+k) (by omega) (by have:=HLF.out;omega)
 have st1:=hst.1
 have st2:=hst.2
 have st3:0≤off+k:=by omega
 have st4:off+k<(far.length:Int):=by have:=HLF.out;omega
 clear hb1 hx6 hx7 hst
 go_loopg [12] (a1-a0).toNat (fun gg s12 wr=>∃ (u:Int) (m:Nat),s12 = .int .i64 u∧wr=W1.drewN m∧0≤u∧k≤u∧u≤100000000000∧Aside0 (slideI xs ys k u=slideI xs ys k u0)∧Aside0 ((a1-a0-u).toNat≤gg))
 case atStart=>exact⟨u0,0,rfl,rfl,hu0,hu1,hu2,⟨rfl⟩,⟨by omega⟩⟩
 case round =>
  obtain⟨u,m,rfl,rfl,hv0,hv1,hv2,HS,HM⟩:=hrel
  by_cases h1:u<a1-a0
  ·have h1b:decide (u<a1-a0)=true:=decide_eq_true h1
   by_cases h2:u-k<b1-b0
   ·have h2b:decide (u-k<b1-b0)=true:=decide_eq_true h2
    obtain⟨ad,e1,hx1⟩:=C_int_at (Kd.C_below HA.out HB1.out) (a0+u) (by omega) (by omega)
    subst e1
    obtain⟨bd,e2,hx2⟩:=C_int_at (Kd.C_below HC.out HB1.out) (b0+u-k) (by omega) (by omega)
    subst e2
    have i1:0≤a0+u:=by omega
    have i2:a0+u<(a.length:Int):=by omega
    have i3:0≤b0+u-k:=by omega
    have i4:b0+u-k<(b.length:Int):=by omega
    have hxu:=HX.out u hv0 h1
    have hyu:=HY.out (u-k) (by omega) h2
    rw [show b0+(u-k)=b0+u-k by omega] at hyu
    by_cases h3:rd a (a0+u)=rd b (b0+u-k)
    ·have h3b:(rd a (a0+u)==rd b (b0+u-k))=true:=beq_iff_eq.2 h3
     have H3:Aside0 (slideI xs ys k (u+1)=slideI xs ys k u0):=⟨by rw [←slideI_on (by have:=HXL.out;omega) (by have:=HYL.out;omega) (by rw [←hxu,←hyu];exact h3)];exact HS.out⟩
     clear h3 hxu hyu
     go_wp2
     go_quiet (fail)
     go_wp2
     go_roundg ((a1-a0-(u+1)).toNat)
     case measure=>have:=HM.out;omega
     case rel=>exact⟨u+1,m+nq,by go_num,rfl,by omega,by omega,by omega,H3,⟨Nat.le_refl _⟩⟩
    ·have h3b:(rd a (a0+u)==rd b (b0+u-k))=false:=by simpa using h3
     have H3:=Zd (show slideI xs ys k u0=u by rw [←HS.out];exact slideI_off (by rw [←hxu,←hyu];exact fun h=>h3 h.2.2))
     clear h3 hxu hyu
     go_wp2
     go_quiet (fail)
     go_wp2
     go_ret2
     rw [H3.out]
     exact⟨rfl,W1.drewN (m+nq),pw_below_drewN HB1.out _,rfl⟩
   ·have h2b:decide (u-k<b1-b0)=false:=decide_eq_false h2
    have H3:=Zd (show slideI xs ys k u0=u by rw [←HS.out];exact slideI_off (fun h=>h2 (by have:=HYL.out;omega)))
    go_wp2
    go_quiet (fail)
    go_wp2
    go_ret2
    rw [H3.out]
    exact⟨rfl,W1.drewN (m+nq),pw_below_drewN HB1.out _,rfl⟩
  ·have h1b:decide (u<a1-a0)=false:=decide_eq_false h1
   have H3:=Zd (show slideI xs ys k u0=u by rw [←HS.out];exact slideI_off (fun h=>h1 (by have:=HXL.out;omega)))
   go_wp2
   go_quiet (fail)
   go_wp2
   go_ret2
   rw [H3.out]
   exact⟨rfl,W1.drewN (m+nq),pw_below_drewN HB1.out _,rfl⟩
def newRow (n : Nat) : List Int := (List.replicate (2*n+3) (-1)).set (n+2) 0
theorem newRow_length (n : Nat) : (newRow n).length=2*n+3 := by simp [newRow]
theorem newRow_bound (n : Nat) : ∀ x∈newRow n,-1≤x∧x≤100000000000 := by
 intro x hx
 rcases List.mem_or_eq_of_mem_set hx with h|h
 ·rw [List.eq_of_mem_replicate h];omega
 ·omega
theorem Row.put {B bf c : Nat} {far : List Int} {w : World} (h : Row B bf c far w) (i x : Int) : Row B bf c (far.set i.toNat x) (w.setCell ⟨bf,i.toNat,none⟩ (.int .i64 x)) := by
 have:=Kd.R_putn h i x
 unfold Row
 rw [List.length_set]
 exact this
theorem Row.below {B bf c : Nat} {far : List Int} {w w' : World} (h : Row B bf c far w) (hb : Below w.heap.size w w') : Row B bf c far w' := Kd.R_below h hb
theorem Row.far {B bf c : Nat} {fr : List Int} {w : World} (h : Row B bf c fr w) {p : Addr} (hp : bf≠p.block) (v : Value) : Row B bf c fr (w.setCell p v) := Kd.R_step h (fun k hk _=>by rw [hk];exact Below.heap_setCell _ _ _ _ hp)
theorem Row.lt {B bf c : Nat} {fr : List Int} {w : World} (h : Row B bf c fr w) : bf<w.heap.size := Kd.R_lt h bf rfl
theorem Row.lo {B bf c : Nat} {fr : List Int} {w : World} (h : Row B bf c fr w) : B≤bf := Kd.R_base h bf rfl
theorem Row.lower {B B' bf c : Nat} {fr : List Int} {w : World} (h : Row B bf c fr w) (hb : B'≤B) : Row B' bf c fr w := Kd.R_lower h hb
def fillRow (N i : Nat) : List Int := List.replicate i (-1)++List.replicate (N-i) 0
theorem fillRow_length (N i : Nat) (h : i≤N) : (fillRow N i).length=N := by simp [fillRow];omega
theorem fillRow_set (N i : Nat) (h : i<N) : (fillRow N i).set i (-1)=fillRow N (i+1) := by
 unfold fillRow
 rw [List.set_append_right _ _ (by simp),List.length_replicate,Nat.sub_self,show N-i=(N-(i+1))+1 by omega,List.replicate_succ,List.set_cons_zero,List.replicate_succ' (n:=i),List.append_assoc];rfl
def NewRun (n : Nat) (w : World) (e : Ending) (w' : World) : Prop := ∃ g c,e = .returned (.agg #[.slice (some ⟨g,0,none⟩) (newRow n).length c,.int .i64 (n+1)])∧w.heap.size≤g∧Row w.heap.size g c (newRow n) w'∧Below w.heap.size w w'
set_option maxHeartbeats 4000000 in
set_option maxRecDepth 100000 in
theorem newRun_calls (n : Nat) (w : World) (hn : n≤8000000000) : Calls Tryz.prog 152 #[.int .i64 n] w (NewRun n w) := by
 have hmk:=print_make (P:=Tryz.prog) 48 3 .i64 8 Tryz.underlying48 (by kernel_rfl) (by omega) (2*n+3) (by omega)
 rw [show ((2*n+3:Nat):Int)=2*(n:Int)+3 by omega] at hmk
 go_enter Tryz.func152,Tryz.ntmps152
 go_wp2
 have hs:(w.alloc (.cells #[.slice none 0 0,.int .i64 0] 222)).heap.size=w.heap.size+1:=World.size_alloc _ _
 have hrow:Row w.heap.size (w.heap.size+1) (2*n+3) (fillRow (2*n+3) 0) ((w.alloc (.cells #[.slice none 0 0,.int .i64 0] 222)).alloc (.cells (madeCells #[.int .i64 0] (2*n+3)) 3)):=by
  have:=Kd.R_of_own (ok:=fun k=>k=w.heap.size+1) (h1:=fun _=>rfl) (own_made_of' (enc:=fun x:Int=>Value.int .i64 x) (d:=0) (w.alloc (.cells #[.slice none 0 0,.int .i64 0] 222)) w.heap.size 3 (2*n+3) (by omega) (by omega)) (by intro k hk;rw [←hs];simpa [Value.ownBlock] using hk.symm)
  unfold Row fillRow
  rw [hs] at this
  rw [List.replicate_zero,List.nil_append,Nat.sub_zero,List.length_replicate]
  exact this
 have hbx:((w.alloc (.cells #[.slice none 0 0,.int .i64 0] 222)).alloc (.cells (madeCells #[.int .i64 0] (2*n+3)) 3)).heap[w.heap.size]? = some (.cells #[.slice none 0 0,.int .i64 0] 222 (0,0)) :=
  (Lib.alloc_old (w.alloc (.cells #[.slice none 0 0,.int .i64 0] 222)) _ w.heap.size (by omega)).trans (World.alloc_heap_new w _)
 have hbl:=below_alloc (below_alloc (Below.refl w.heap.size w) (.cells #[.slice none 0 0,.int .i64 0] 222)) (.cells (madeCells #[.int .i64 0] (2*n+3)) 3)
 have HROW:=Zd hrow
 have HBX:=Zd hbx
 have HBL:=Zd hbl
 clear hrow hbx hbl hs hmk
 generalize ((w.alloc (.cells #[.slice none 0 0,.int .i64 0] 222)).alloc (.cells (madeCells #[.int .i64 0] (2*n+3)) 3))=W at *
 go_loopg [12] (2*n+3) (fun gg s12 wr=>∃ i:Nat,i≤2*n+3∧2*n+3-i≤gg∧s12 = .int .i64 i∧Aside0 (Row w.heap.size (w.heap.size+1) (2*n+3) (fillRow (2*n+3) i) wr)∧Aside0 (wr.heap[w.heap.size]? = some (.cells #[.slice none 0 0,.int .i64 0] 222 (0,0)))∧Aside0 (Below w.heap.size w wr))
 case atStart=>exact⟨0,Nat.zero_le _,by omega,rfl,HROW,HBX,HBL⟩
 case round =>
  clear HROW HBX HBL
  obtain⟨i,hi,hg,rfl,HR,HX,HB⟩:=hrel
  by_cases hlt:i<2*n+3
  ·have hltz:(i:Int)<2*(n:Int)+3:=by omega
   have a0:0≤(i:Int):=by omega
   have hc:=Kd.R_celln (0:Int) HR.out (i:Int) a0 (by rw [fillRow_length _ _ hi];omega)
   rw [Int.toNat_natCast] at hc
   have c1:=hc.1
   have c2:=hc.2
   have hput:=Row.put HR.out (i:Int) (-1)
   rw [Int.toNat_natCast,fillRow_set _ _ hlt] at hput
   have HP:=Zd hput
   clear hc hput
   go_wp2
   go_roundg (2*n+3-(i+1))
   case measure=>omega
   case rel=>exact⟨i+1,by omega,by omega,by go_num,HP,⟨(Below.heap_setCell _ _ _ _ (by simp)).trans HX.out⟩,⟨HB.out.setCell (p:=⟨w.heap.size+1,i,none⟩) (by simp) _⟩⟩
  ·obtain rfl:i=2*n+3:=by omega
   have q1:(((2*n+3:Nat):Int)<2*(n:Int)+3)=False:=by simp
   have a0:(0:Int)≤(n:Int)+1+1:=by omega
   have a1:(n:Int)+1+1<2*(n:Int)+3:=by omega
   have a2:((n:Int)+1+1).toNat=n+2:=by omega
   have hrow2:fillRow (2*n+3) (2*n+3)=List.replicate (2*n+3) (-1):=by simp [fillRow]
   have hc:=Kd.R_celln (0:Int) HR.out ((n:Int)+1+1) a0 (by rw [fillRow_length _ _ hi];omega)
   rw [a2] at hc
   have c1:=hc.1
   have c2:=hc.2
   have b0:=(blk_cell HX.out 0).trans (rfl:_=some (Value.slice none 0 0))
   have b1:=(blk_cell HX.out 1).trans (rfl:_=some (Value.int .i64 0))
   have f0:=Lib.frozen_of_heap HX.out 0
   have f1:=Lib.frozen_of_heap HX.out 1
   have hput:=Row.put (HR.out) ((n:Int)+1+1) 0
   rw [a2,hrow2] at hput
   have HP:=Zd hput
   have hsz:w.heap.size+2≤wr.heap.size:=HR.out.lt
   have hne:wr.heap.size≠w.heap.size+1:=by omega
   have hne2:wr.heap.size≠w.heap.size:=by omega
   have hne3:w.heap.size+1≠wr.heap.size:=by omega
   have hne4:w.heap.size+1<wr.heap.size:=by omega
   have hne5:w.heap.size<wr.heap.size:=by omega
   have hne6:w.heap.size≠wr.heap.size:=by omega
   clear hc hput hrow2
   go_wp2
   refine bodyPost_ret (v := .agg #[.slice (some ⟨w.heap.size+1,0,none⟩) (2*n+3) (2*n+3),.int .i64 ((n:Int)+1)]) (by simp [results,Tryz.results152,go_sem,b0,b1,hne5,hne6]) rfl ?_
   refine⟨w.heap.size+1,2*n+3,by rw [newRow_length],by omega,?_,?_⟩
   ·refine Row.below ?_ (below_alloc (Below.refl _ _) _)
    exact (HP.out.far (by simp) _).far (by simp) _
   ·refine Below.alloc ?_ (by have:=HB.out.size;simp [World.setCell];omega) _
    exact ((HB.out.setCell (p:=⟨w.heap.size+1,n+2,none⟩) (by simp) _).setCell (p:=⟨w.heap.size,0,none⟩) (Nat.le_refl _) _).setCell (p:=⟨w.heap.size,1,none⟩) (Nat.le_refl _) _
end Go.Proofs.YtfiamddinkokbaaGreat.F
end
