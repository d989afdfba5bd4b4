/- Texts joined into one file (wip/tools/pack.py): Builder, Keep, Same -/
import Derived.Test.YtfiamddinkokbaaTA1
import Derived.Shelf.RegionOpenPlain
import Derived.Lib.Strings
import Derived.Lib.Slices
import Derived.Lib.Walk
import Derived.Lib.Builder
import Derived.Lib.AppendStr
import Derived.Lib.FrozenHead
import Derived.Lib.UnsafeStr
import Derived.Lib.MakeNoZero
import Derived.WalkKit
import Derived.Laws.Externs
import Derived.Laws.IdiomCopy
import Derived.Laws.BitsLemmas
import Derived.Shelf.Abstract
import Derived.Test.YtfiamddinkokbaaProg
import Derived.Test.YtfiamddinkokbaaTA2
import Derived.Test.YtfiamddinkokbaaTA3
import Derived.Deep.RegionHeld3
set_option linter.unusedVariables false
set_option linter.unusedSimpArgs false
section
namespace Go.Proofs.Ytfiamddinkokbaa
open Go.RowKit Go.Lib
set_option maxHeartbeats 2000000 in
set_option maxRecDepth 100000 in
theorem bld_used (b o : Nat) (w : World) (h0 : w.cell? ⟨b,o,none⟩=some (.pointer (some ⟨b,o,none⟩))) :
  Calls Try.prog 123 #[.pointer (some ⟨b,o,none⟩)] w fun e w'=>e = .returned (.tuple #[])∧w'=w:=by
 obtain⟨j,hj,_⟩:=Option.map_eq_some_iff.1 (show (Try.prog.info? 127).map (·.size)=some 2 by kernel_rfl)
 have hu:=Try.underlying124
 have hu2:=Try.underlying127
 go_enter Try.func123,Try.ntmps123
 go_wp2
 rw [Lib.run_neq_ptr_same w _ hu hj]
 go_wp2
 go_end0
 exact⟨rfl,rfl⟩
set_option maxHeartbeats 2000000 in
set_option maxRecDepth 100000 in
theorem bld_fresh (b o : Nat) (T : TypeId) (n : Nat) (w : World) (h0 : w.cell? ⟨b,o,none⟩=some (.pointer none)) (hsh : w.shape? b=some (T,n)) (hon : o<n) (hfz : w.frozen? ⟨b,o,none⟩=false)
  (hlies:liesAt Try.prog Try.prog.depth T (n / Try.prog.cellsOf T) o 127 1=true) :
  Calls Try.prog 123 #[.pointer (some ⟨b,o,none⟩)] w fun e w'=>e = .returned (.tuple #[])∧w'=w.setCell ⟨b,o,none⟩ (.pointer (some ⟨b,o,none⟩)):=by
 obtain⟨j,hj,hjs⟩:=Option.map_eq_some_iff.1 (show (Try.prog.info? 127).map (·.size)=some 2 by kernel_rfl)
 have hu:=Try.underlying124
 have hu2:=Try.underlying127
 have hu3:=Try.underlying184
 go_enter Try.func123,Try.ntmps123
 go_wp2
 rw [Lib.run_to_unsafe w ⟨b,o,none⟩ hu hu3 hj (by rw [hjs];decide) hsh hon]
 simp only [Result.andThen]
 rw [Oper.upon_value]
 try rw [Oper.upon_value]
 go_wp2
 rw [run_callFunc_extern Try.func149 (by kernel_rfl) (by kernel_rfl) (by kernel_rfl) (e:=Extern.AbiNoEscape.same) (by kernel_rfl)]
 rw [Lib.run_noEscape]
 simp only [Result.andThen]
 rw [Oper.upon_value]
 go_wp2
 rw [Lib.run_from_unsafe w ⟨b,o,none⟩ hu3 hu hj hsh hlies]
 simp only [Result.andThen]
 rw [Oper.upon_value]
 go_wp2
 go_end0
 exact⟨rfl,rfl⟩
structure BldAt (T : TypeId) (o : Nat) (B b : Nat) (cs : Array Value) (p v : Value) (bs : List UInt8) (w : World) : Prop where
 lo:B≤b
 blk:w.heap[b]? = some (.cells cs T (0,0))
 at0:cs[o]? = some p
 at1:cs[o+1]? = some v
 ptr:p = .pointer none∨p = .pointer (some ⟨b,o,none⟩)
 own:w.ownsRowF B 5 1 v bs.length (Lib.byteCells bs)
 ne:v.ownBlock≠some b
theorem BldAt.lt {T : TypeId} {o B b : Nat} {cs : Array Value} {p v : Value} {bs : List UInt8} {w : World} (h : BldAt T o B b cs p v bs w) : b<w.heap.size := (Array.getElem?_eq_some_iff.1 h.blk).1
theorem ownF_move {w w1 : World} {base : Nat} {e : TypeId} {size n : Nat} {v : Value} {xs : List Value} (h : w.ownsRowF base e size v n xs) (hm : ∀ k,v.ownBlock=some k→w1.heap[k]? = w.heap[k]?) : w1.ownsRowF base e size v n xs := by
 refine⟨h.1,?_⟩
 rcases h.2 with hn|⟨g,cap,cur,fz,rfl,hb,hg,rest⟩
 ·exact .inl hn
 ·exact .inr ⟨g,cap,cur,fz,rfl,hb,(hm g rfl).trans hg,rest⟩
theorem ownF_typed {w : World} {base : Nat} {e : TypeId} {size n : Nat} {v : Value} {xs : List Value} (h : w.ownsRowF base e size v n xs) (k : Nat) (hk : v.ownBlock=some k) : ∃ cells fz,w.heap[k]? = some (.cells cells e fz) := by
 rcases h.2 with ⟨rfl,_⟩|⟨g,cap,cur,fz,rfl,hb,hg,rest⟩
 ·simp [Value.ownBlock] at hk
 ·simp [Value.ownBlock] at hk
  subst hk;exact⟨cur,fz,hg⟩
theorem BldAt.move {T : TypeId} {o B b : Nat} {cs : Array Value} {p v : Value} {bs : List UInt8} {w w' : World} (h : BldAt T o B b cs p v bs w) (hb : w'.heap[b]? = w.heap[b]?) (hm : ∀ k,v.ownBlock=some k→w'.heap[k]? = w.heap[k]?) : BldAt T o B b cs p v bs w' :=
 ⟨h.lo,hb.trans h.blk,h.at0,h.at1,h.ptr,ownF_move h.own hm,h.ne⟩
theorem BldAt.freeze {T : TypeId} {o B b : Nat} {cs : Array Value} {p v : Value} {bs : List UInt8} {w : World} (h : BldAt T o B b cs p v bs w) {g cap : Nat} (hv : v = .slice (some ⟨g,0,none⟩) bs.length cap) : BldAt T o B b cs p v bs (w.freeze ⟨g,0,none⟩ bs.length) := by
 have hgb:g≠b:=fun e=>h.ne (by rw [hv,e];rfl)
 rcases h.own.2 with ⟨hv2,_⟩|⟨g2,cap2,cur,fz,hv2,hb,hg,hfz,rest⟩
 ·rw [hv] at hv2;cases hv2
 ·have e:(⟨g,0,none⟩:Addr)=⟨g2,0,none⟩:=by
   rw [hv] at hv2
   injection hv2 with e1 e2 e3
   exact Option.some.inj e1
  obtain rfl:g=g2:=congrArg Addr.block e
  have hne2:v.ownBlock=some g:=by rw [hv];rfl
  by_cases h0:bs.length=0
  ·have:w.freeze ⟨g,0,none⟩ bs.length=w:=by unfold World.freeze;rw [if_pos h0]
   rw [this];exact h
  ·refine⟨h.lo,?_,h.at0,h.at1,h.ptr,⟨h.own.1,.inr ⟨g,cap2,cur,(if (fz.1==fz.2)=true then (0,0+bs.length) else (min fz.1 0,max fz.2 (0+bs.length))),hv2,hb,?_,?_,rest⟩⟩,h.ne⟩
   ·unfold World.freeze
    rw [if_neg h0]
    simp [Array.getElem?_modify,hgb,h.blk]
   ·unfold World.freeze
    rw [if_neg h0]
    simp [Array.getElem?_modify,hg]
   ·split
    ·show 0+bs.length≤_;omega
    ·show max fz.2 (0+bs.length)≤_;omega
theorem bld_check {T : TypeId} {o B b : Nat} {cs : Array Value} {p v : Value} {bs : List UInt8} {w : World} (h : BldAt T o B b cs p v bs w)
  (hlies:liesAt Try.prog Try.prog.depth T (cs.size / Try.prog.cellsOf T) o 127 1=true) :
  Calls Try.prog 123 #[.pointer (some ⟨b,o,none⟩)] w fun e w'=>e = .returned (.tuple #[]) ∧
   BldAt T o B b (cs.setIfInBounds o (.pointer (some ⟨b,o,none⟩))) (.pointer (some ⟨b,o,none⟩)) v bs w'∧Below B w w'∧w'.heap.size=w.heap.size∧(∀ k,k≠b→w'.heap[k]? = w.heap[k]?):=by
 have ho:o<cs.size:=(Array.getElem?_eq_some_iff.1 h.at0).1
 have hcell:w.cell? ⟨b,o,none⟩=some p:=(Lib.cell_of_heap h.blk o).trans h.at0
 have hc1:(cs.setIfInBounds o (.pointer (some ⟨b,o,none⟩)))[o]? = some (.pointer (some ⟨b,o,none⟩)):=by
  rw [Array.getElem?_setIfInBounds_self];simp [ho]
 have hc2:(cs.setIfInBounds o (.pointer (some ⟨b,o,none⟩)))[o+1]? = some v:=by
  rw [Array.getElem?_setIfInBounds_ne (by omega)];exact h.at1
 rcases h.ptr with hp|hp
 ·rw [hp] at hcell
  refine (bld_fresh b o T cs.size w hcell (by simp [World.shape?,h.blk]) ho (Lib.frozen_of_heap h.blk o) hlies).mono ?_
  rintro e w' ⟨rfl,rfl⟩
  have hb':(w.setCell ⟨b,o,none⟩ (.pointer (some ⟨b,o,none⟩))).heap[b]? = some (.cells (cs.setIfInBounds o (.pointer (some ⟨b,o,none⟩))) T (0,0)):=by
   simp [World.setCell,Array.getElem?_modify,h.blk]
  refine⟨rfl,⟨h.lo,hb',hc1,hc2,.inr rfl,?_,h.ne⟩,(Below.refl B w).setCell (p:=⟨b,o,none⟩) h.lo _,by simp [World.setCell],fun k hk=>Below.heap_setCell _ _ _ _ hk⟩
  exact h.own.kept (row:=some b) ⟨rfl,rfl,rfl,by simp [World.setCell],fun k _ hk=>Below.heap_setCell _ _ _ _ (fun e=>hk (by simp [e]))⟩ (Or.inr h.ne)
 ·rw [hp] at hcell
  refine (bld_used b o w hcell).mono ?_
  rintro e w' ⟨rfl,rfl⟩
  have hid:cs.setIfInBounds o (.pointer (some ⟨b,o,none⟩))=cs:=by
   apply Array.ext_getElem?
   intro i
   by_cases hi:i=o
   ·subst hi;rw [hc1,h.at0,hp]
   ·rw [Array.getElem?_setIfInBounds_ne (by omega)]
  rw [hid]
  exact⟨rfl,⟨h.lo,h.blk,hp▸h.at0,h.at1,.inr rfl,h.own,h.ne⟩,Below.refl B _,rfl,fun k _=>rfl⟩
theorem byteCells_append (a b : List UInt8) : Lib.byteCells (a++b)=Lib.byteCells a++Lib.byteCells b := by simp [Lib.byteCells]
set_option maxHeartbeats 4000000 in
set_option maxRecDepth 100000 in
theorem bld_write {T : TypeId} {o B b : Nat} {cs : Array Value} {p v : Value} {bs : List UInt8} {w : World} (s : ByteArray) (h : BldAt T o B b cs p v bs w)
  (hlies:liesAt Try.prog Try.prog.depth T (cs.size / Try.prog.cellsOf T) o 127 1=true) (hT:T≠5) (hlen:bs.length+s.size≤140737488355328) (hBw:B≤w.heap.size) :
  Calls Try.prog 87 #[.pointer (some ⟨b,o,none⟩),.string s] w fun e w'=>e = .returned (.tuple #[.int .i64 s.size,.nilIface]) ∧
   ∃ v',BldAt T o B b ((cs.setIfInBounds o (.pointer (some ⟨b,o,none⟩))).setIfInBounds (o+1) v') (.pointer (some ⟨b,o,none⟩)) v' (bs++s.data.toList) w'∧Below B w w' ∧
    (∀ k,k<w.heap.size→k≠b→some k≠v.ownBlock→w'.heap[k]? = w.heap[k]?):=by
 have hu:=Try.underlying124
 have hu2:=Try.underlying127
 have hu3:=Try.underlying125
 have hu4:=Try.underlying9
 obtain⟨i0,hi,hz0,hz1,hz2⟩:=info_parts (show (Try.prog.info? 5).map (fun i=>(i.zero,i.size,i.bytes))=some (some (.int .u8 0),1,1) by kernel_rfl)
 have hcon:=bld_check h hlies
 have ho:o<cs.size:=(Array.getElem?_eq_some_iff.1 h.at0).1
 have ho1:o+1<cs.size:=(Array.getElem?_eq_some_iff.1 h.at1).1
 generalize hcs:cs.setIfInBounds o (.pointer (some ⟨b,o,none⟩))=cs1 at hcon ⊢
 have hs1:cs1.size=cs.size:=by rw [←hcs];simp
 clear hcs
 go_enter Try.func87,Try.ntmps87
 go_wp2_with (go_at_call 123;refine hcon.mono ?_)
 rintro e w1 ⟨rfl,h1,hb1,hz,hk1⟩
 have c1:w1.cell? ⟨b,o+1,none⟩=some v:=(Lib.cell_of_heap h1.blk _).trans h1.at1
 have hcl:(Lib.byteCells bs).length=bs.length:=Lib.byteCells_length bs
 have hown:=h1.own
 go_wp2_with (at_builtin;refine Lib.wpList_append_own_stringF _ rfl _ _ 125 9 rfl B 5 i0 hu3 hu4 hi hz0 hz1 hz2 _ _ _ rfl hown s rfl ?c3 ?c4 ?c5 ?_)
 case c3=>unfold maxLen;omega
 case c4=>omega
 case c5=>have:=hb1.size;omega
 intro v' w2 hown' hgrow _
 have hb2:w2.heap[b]? = some (.cells cs1 T (0,0)):=by
  rw [hgrow.block b h1.lt (fun e=>h1.ne e.symm)]
  exact h1.blk
 have d1:w2.cell? ⟨b,o+1,none⟩=some v:=(Lib.cell_of_heap hb2 _).trans h1.at1
 have f1:w2.frozen? ⟨b,o+1,none⟩=false:=Lib.frozen_of_heap hb2 (o+1)
 obtain⟨ao,n',cap,rfl⟩:∃ ao n' cap,v' = .slice ao n' cap:=by
  rcases hown'.2 with ⟨hv,_⟩|⟨g,cap,cur,fz,hv,_⟩
  ·exact⟨_,_,_,hv⟩
  ·exact⟨_,_,_,hv⟩
 go_wp2
 go_ret2
 have hlen2:(bs++s.data.toList).length=bs.length+s.size:=by rw [List.length_append,Array.length_toList];rfl
 have hcells:Lib.byteCells (bs++s.data.toList)=Lib.byteCells bs++Lib.strCells s:=by rw [byteCells_append];rfl
 have hne:(Value.slice ao n' cap).ownBlock≠some b:=Lib.ownBlock_neF hown' hb2 hT
 refine⟨rfl,_,⟨h.lo,?_,?_,?_,.inr rfl,?_,hne⟩,(hb1.grown hgrow (by have:=hb1.size;omega) (fun k hk=>(hown.lt k hk).1)).setCell (p:=⟨b,o+1,none⟩) h.lo _,?_⟩
 ·simp [World.setCell,Array.getElem?_modify,hb2]
 ·rw [Array.getElem?_setIfInBounds_ne (by omega)];exact h1.at0
 ·rw [Array.getElem?_setIfInBounds_self];simp [hs1,ho1]
 ·rw [hlen2,hcells]
  exact hown'.kept (row:=some b) ⟨rfl,rfl,rfl,by simp [World.setCell],fun k _ hk=>Below.heap_setCell _ _ _ _ (fun e=>hk (by simp [e]))⟩ (Or.inr hne)
 ·intro k hk hkb hkv
  rw [Below.heap_setCell _ _ _ _ hkb,hgrow.block k (by omega) hkv,hk1 k hkb]
theorem bld_freeze_old (w : World) (g k n : Nat) (h : k≠g) : (w.freeze ⟨g,0,none⟩ n).heap[k]? = w.heap[k]? := by
 unfold World.freeze
 split
 ·rfl
 ·simp [Array.getElem?_modify,Ne.symm h]
theorem bld_unsafeNone (W : World) (q : Option Addr) : (Builtin.unsafeString_ #[165,3] 9 #[.pointer q,.int .i64 0]).run Try.prog W = .ok (.string .empty) W := Lib.run_unsafeString_none W _ _ _ q
set_option maxHeartbeats 4000000 in
set_option maxRecDepth 100000 in
theorem bld_string {T : TypeId} {o B b : Nat} {cs : Array Value} {p v : Value} {bs : List UInt8} {w : World} (h : BldAt T o B b cs p v bs w) (hBw : B≤w.heap.size) :
  Calls Try.prog 89 #[.pointer (some ⟨b,o,none⟩)] w fun e w'=>e = .returned (.string (toB bs))∧Below B w w'∧(∀ k,k<w.heap.size→some k≠v.ownBlock→w'.heap[k]? = w.heap[k]?)∧BldAt T o B b cs p v bs w':=by
 have hu:=Try.underlying124
 have hu2:=Try.underlying127
 have hu3:=Try.underlying125
 have hu4:=Try.underlying165
 have hlt:=h.lt
 have hUS:=bld_unsafeNone
 have mixed:Try.prog.follows .mixedOrders=true:=by kernel_rfl
 have HA:=PLift.up h
 rcases h.own.2 with ⟨hv,hz⟩|⟨g,cap,cur,fz,hv,hbg,hg,hfz,hnc,hcm,hcs,htake⟩
 ·subst hv
  have hbs:bs=[]:=List.length_eq_zero_iff.1 hz
  subst hbs
  have c1:w.drew.cell? ⟨b,o+1,none⟩=some (.slice none 0 0):=(Lib.cell_of_heap (show w.drew.heap[b]? = some (.cells cs T (0,0)) from h.blk) _).trans h.at1
  have hSD:(Builtin.unsafeSliceData_ #[125] 165 #[.slice none 0 0]).run Try.prog w.drew = .ok (.pointer none) w.drew:=rfl
  clear h
  go_enter Try.func89,Try.ntmps89
  go_wp2
  go_region_o
  all_goals (go_wp2;go_ret;exact⟨rfl,Below.drew (Below.refl B w),fun _ _ _=>rfl,HA.down.move rfl (fun _ _=>rfl)⟩)
 ·subst hv
  by_cases h0:bs=[]
  ·subst h0
   by_cases hc0:cap=0
   ·subst hc0
    have c1:w.drew.cell? ⟨b,o+1,none⟩=some (.slice (some ⟨g,0,none⟩) 0 0):=(Lib.cell_of_heap (show w.drew.heap[b]? = some (.cells cs T (0,0)) from h.blk) _).trans h.at1
    have hSD:(Builtin.unsafeSliceData_ #[125] 165 #[.slice (some ⟨g,0,none⟩) 0 0]).run Try.prog w.drew = .ok (.pointer (some ⟨w.drew.heap.size,0,none⟩)) (w.drew.alloc (.view ⟨g,0,none⟩ 5)) :=
     Lib.run_unsafeSliceData_zero w.drew _ _ 5 hu4 ⟨g,0,none⟩ 0 (5,cur.size) (by have hg':w.drew.heap[g]? = some (.cells cur 5 fz):=hg;simp [World.shape?,hg'])
    have c2:(w.drew.alloc (.view ⟨g,0,none⟩ 5)).cell? ⟨b,o+1,none⟩=some (.slice (some ⟨g,0,none⟩) 0 0):=(Lib.cell_of_heap (show (w.drew.alloc (.view ⟨g,0,none⟩ 5)).heap[b]? = some (.cells cs T (0,0)) from (Lib.alloc_old w.drew _ b hlt).trans h.blk) _).trans h.at1
    have c3:(w.alloc (.view ⟨g,0,none⟩ 5)).drew.cell? ⟨b,o+1,none⟩=some (.slice (some ⟨g,0,none⟩) 0 0):=c2
    have c0:w.cell? ⟨b,o+1,none⟩=some (.slice (some ⟨g,0,none⟩) 0 0):=c1
    clear h
    go_enter Try.func89,Try.ntmps89
    go_wp2
    go_region_o
    all_goals (go_wp2;go_ret;exact⟨rfl,(Below.drew (Below.refl B w)).alloc hBw _,fun k hk _=>Lib.alloc_old w _ k hk,HA.down.move (Lib.alloc_old w _ b HA.down.lt) (fun k hk=>Lib.alloc_old w _ k (HA.down.own.lt k hk).2)⟩)
   ·have c1:w.drew.cell? ⟨b,o+1,none⟩=some (.slice (some ⟨g,0,none⟩) 0 cap):=(Lib.cell_of_heap (show w.drew.heap[b]? = some (.cells cs T (0,0)) from h.blk) _).trans h.at1
    have hSD:(Builtin.unsafeSliceData_ #[125] 165 #[.slice (some ⟨g,0,none⟩) 0 cap]).run Try.prog w.drew = .ok (.pointer (some ⟨g,0,none⟩)) w.drew :=
     Lib.run_unsafeSliceData_row _ _ _ _ _ _ hc0
    clear h hc0
    go_enter Try.func89,Try.ntmps89
    go_wp2
    go_region_o
    all_goals (go_wp2;go_ret;exact⟨rfl,Below.drew (Below.refl B w),fun _ _ _=>rfl,HA.down.move rfl (fun _ _=>rfl)⟩)
  ·have hl0:bs.length≠0:=by simpa using h0
   have c1:w.drew.cell? ⟨b,o+1,none⟩=some (.slice (some ⟨g,0,none⟩) bs.length cap):=(Lib.cell_of_heap (show w.drew.heap[b]? = some (.cells cs T (0,0)) from h.blk) _).trans h.at1
   have hSD:(Builtin.unsafeSliceData_ #[125] 165 #[.slice (some ⟨g,0,none⟩) bs.length cap]).run Try.prog w.drew = .ok (.pointer (some ⟨g,0,none⟩)) w.drew :=
    Lib.run_unsafeSliceData_row _ _ _ _ _ _ (by omega)
   have hown:=h.own
   have hUS2:(Builtin.unsafeString_ #[165,3] 9 #[.pointer (some ⟨g,0,none⟩),.int .i64 bs.length]).run Try.prog w.drew = .ok (.string (toB bs)) (w.drew.freeze ⟨g,0,none⟩ bs.length):=by
    refine Lib.run_unsafeString_row w.drew 165 3 9 5 hu4 (by kernel_rfl) g cur.size (by have hg':w.drew.heap[g]? = some (.cells cur 5 fz):=hg;simp [World.shape?,hg']) bs h0 (by omega) (by unfold maxLen at hcm;omega) ?_
    intro j x hx
    have:=hown.cells (g:=g) rfl j (.int .u8 x.toNat) (by simp [Lib.byteCells,hx])
    exact this
   clear hUS
   go_enter Try.func89,Try.ntmps89
   go_wp2
   go_region_o
   all_goals (go_wp2;go_ret;refine⟨rfl,Lib.below_freeze (Below.drew (Below.refl B w)) (p:=⟨g,0,none⟩) hbg _,fun k _ hk=>?_,BldAt.freeze (w:=w.drew) (HA.down.move rfl (fun _ _=>rfl)) rfl⟩)
   all_goals exact bld_freeze_old w.drew g k bs.length (fun e=>hk (by simp [Value.ownBlock,e]))
end Go.Proofs.Ytfiamddinkokbaa
end

section
namespace Go.Proofs.Ytfiamddinkokbaa.F
open Go.RowKit Go.Shelf Go.Proofs.YtfiamddinkokbaaW.PrintWords
def Keeps (T b : Nat) (w w' : World) : Prop := ∀ k cs t fr,w.heap[k]? = some (.cells cs t fr)→t≠T→k≠b→w'.heap[k]? = w.heap[k]?
theorem Keeps.refl (T b : Nat) (w : World) : Keeps T b w w := fun _ _ _ _ _ _ _=>rfl
theorem Keeps.trans {T b : Nat} {w w1 w2 : World} (h : Keeps T b w w1) (g : Keeps T b w1 w2) : Keeps T b w w2 := fun k cs t fr hk ht hb=>by
 have h1:=h k cs t fr hk ht hb
 rw [g k cs t fr (h1.trans hk) ht hb,h1]
theorem Keeps.below {T b : Nat} {w w' : World} (h : Below w.heap.size w w') : Keeps T b w w' := fun k cs t fr hk _ _=>h.block k (Array.getElem?_eq_some_iff.1 hk).1
theorem Keeps.grown {T b : Nat} {w w1 w' : World} {v : Value} (h : Keeps T b w w1) (hg : w1.grownBy w' v.ownBlock) (hv : ∀ k,v.ownBlock=some k→∃ cells,w1.heap[k]? = some (.cells cells T (0,0))) : Keeps T b w w' := fun k cs t fr hk ht hb=>by
 have h1:=h k cs t fr hk ht hb
 have h2:=h1.trans hk
 rw [hg.block k (Array.getElem?_eq_some_iff.1 h2).1 (fun e=>?_),h1]
 obtain⟨cells,hc⟩:=hv k e.symm
 rw [h2] at hc
 injection hc with hc
 injection hc with _ hc _
 exact ht hc
theorem Keeps.set {T b : Nat} {w w' : World} (h : Keeps T b w w') (i : Nat) (v : Value) : Keeps T b w (w'.setCell ⟨b,i,none⟩ v) := fun k cs t fr hk ht hb=>by
 rw [Below.heap_setCell _ _ _ _ hb];exact h k cs t fr hk ht hb
theorem Keeps.drewN {T b : Nat} {w w' : World} (h : Keeps T b w w') (n : Nat) : Keeps T b w (w'.drewN n) := fun k cs t fr hk ht hb=>(h k cs t fr hk ht hb)
theorem Keeps.alloc {T b : Nat} {w w' : World} (h : Keeps T b w w') (o : Obj) : Keeps T b w (w'.alloc o) := h.trans (Keeps.below (below_alloc (Below.refl _ _) o))
theorem Keeps.cell {T b : Nat} {w w' : World} (h : Keeps T b w w') {k : Nat} {cs : Array Value} {t : TypeId} (hk : w.heap[k]? = some (.cells cs t (0,0))) (ht : t≠T) (hb : k≠b) : w'.heap[k]? = some (.cells cs t (0,0)) :=
 (h k cs t (0,0) hk ht hb).trans hk
abbrev SP := S196
def Fin (B f : Nat) (x y : Value) (l : List SP) (w : World) : Prop :=
 ∃ v,B≤f∧w.heap[f]? = some (.cells #[x,y,v] 190 (0,0))∧Kd.R k196 196 w B (fun k=>k≠f) v l
theorem Fin.below {B f : Nat} {x y : Value} {l : List SP} {w w' : World} (h : Fin B f x y l w) (hb : Below w.heap.size w w') : Fin B f x y l w' := by
 obtain⟨v,h0,h1,h2⟩:=h
 exact⟨v,h0,(hb.block f (Array.getElem?_eq_some_iff.1 h1).1).trans h1,Kd.R_below h2 hb⟩
theorem Fin.lo {B f : Nat} {x y : Value} {l : List SP} {w : World} (h : Fin B f x y l w) : B≤f := by obtain⟨v,h,_⟩ := h;exact h
theorem Fin.lt {B f : Nat} {x y : Value} {l : List SP} {w : World} (h : Fin B f x y l w) : f<w.heap.size := by obtain⟨v,_,h,_⟩ := h;exact (Array.getElem?_eq_some_iff.1 h).1
theorem Fin.c0 {B f : Nat} {x y : Value} {l : List SP} {w : World} (h : Fin B f x y l w) : w.cell? ⟨f,0,none⟩=some x := by obtain⟨v,_,h,_⟩ := h;exact (blk_cell h 0).trans rfl
theorem Fin.c1 {B f : Nat} {x y : Value} {l : List SP} {w : World} (h : Fin B f x y l w) : w.cell? ⟨f,1,none⟩=some y := by obtain⟨v,_,h,_⟩ := h;exact (blk_cell h 1).trans rfl
def diagP (a b : Int) (n : Nat) : List SP := (List.range n).map fun (i : Nat)=>(⟨a+(i : Int),b+(i : Int)⟩ : SP)
theorem diagP_succ (a b : Int) (n : Nat) : diagP a b (n+1)=diagP a b n++[⟨a+(n : Int),b+(n : Int)⟩] := by simp [diagP,List.range_succ]
theorem diagP_length (a b : Int) (n : Nat) : (diagP a b n).length=n := by simp [diagP]
theorem fin_info : (Try.prog.info? 196).map (fun i=>(i.zero,i.size,i.bytes))=some (some (.agg #[.int .i64 0,.int .i64 0]),2,16) := by kernel_rfl
theorem fin_put {B f : Nat} {x y v v1 : Value} {l l1 : List SP} {W w1 : World} (h0 : B≤f) (h1 : W.heap[f]? = some (.cells #[x,y,v] 190 (0,0))) (hR : Kd.R k196 196 W B (fun k=>k≠f) v l)
  (hR1:Kd.R k196 196 w1 B (fun k=>k≠f) v1 l1) (hg:W.grownBy w1 v.ownBlock):w1.heap[f]? = some (.cells #[x,y,v] 190 (0,0))∧Fin B f x y l1 (w1.setCell ⟨f,2,none⟩ v1):=by
 have hf:w1.heap[f]? = some (.cells #[x,y,v] 190 (0,0)):=(hg.block f (Array.getElem?_eq_some_iff.1 h1).1 (fun e=>hR.1 f e.symm rfl)).trans h1
 refine⟨hf,v1,h0,?_,?_⟩
 ·simp [World.setCell,Array.getElem?_modify,hf]
 ·exact Kd.R_step hR1 (fun k hk _=>Below.heap_setCell _ _ _ _ hk)
set_option maxHeartbeats 4000000 in
set_option maxRecDepth 100000 in
theorem same_calls {B f : Nat} {x y : Value} {l : List SP} {w : World} (a b : Int) (n : Nat) (h : Fin B f x y l w) (ha0 : 0≤a) (ha1 : a≤8000000000) (hb0 : 0≤b) (hb1 : b≤8000000000) (hn : n≤8000000000) (hl : l.length≤8000000000) (hBw : B≤w.heap.size) :
  Calls Try.prog 166 #[.pointer (some ⟨f,0,none⟩),.int .i64 a,.int .i64 b,.int .i64 n] w fun e w'=>e = .returned (.tuple #[])∧Fin B f x y (l++diagP a b n) w'∧Below B w w'∧Keeps 196 f w w':=by
 have HF:=Aside0.mk h
 have HBw:=Aside0.mk hBw
 clear h hBw
 go_enter Try.func166,Try.ntmps166
 go_wp2
 go_loopg [10] n (fun gg s10 wr=>∃ kk:Nat,kk≤n∧n-kk≤gg∧s10 = .int .i64 kk∧Aside0 (Fin B f x y (l++diagP a b kk) wr)∧Aside0 (Below B w wr)∧Aside0 (Keeps 196 f w wr))
 case atStart=>exact⟨0,Nat.zero_le _,by omega,rfl,⟨by simpa [diagP] using HF.out⟩,⟨Below.refl _ _⟩,⟨Keeps.refl _ _ _⟩⟩
 case round =>
  clear HF
  obtain⟨kk,hkk,hg,rfl,HF,HB,HK⟩:=hrel
  by_cases hlt:kk<n
  ·have hltz:(kk:Int)<(n:Int):=by omega
   have hlen:(l++diagP a b kk).length≤16000000000:=by rw [List.length_append,diagP_length];omega
   obtain⟨v,h0,h1,hR⟩:=HF.out
   have HR:=Aside0.mk hR
   have c2:=(blk_cell h1 2).trans (rfl:_=some v)
   have HS:=Aside0.mk h1
   have HF0:=Aside0.mk h0
   have HBr:=Aside0.mk (Nat.le_trans HBw.out HB.out.size)
   have a0:0≤(kk:Int):=by omega
   have HFr:Aside0 (∀ k,wr.heap.size≤k→k≠f):=⟨fun k hk e=>by have:=(Array.getElem?_eq_some_iff.1 HS.out).1;omega⟩
   clear hR h1 HF
   go_wp2_with (first|(at_builtin;refine Kd.R_append k196 (w0:=w) B rfl (.tmp 17) (.tmp 25) 77 196 (.agg #[.int .i64 0,.int .i64 0]) 16 rfl Try.underlying77 fin_info rfl (by decide) (by omega) v (l++diagP a b kk) ⟨a+(kk:Int),b+(kk:Int)⟩ [.int .i64 (a+(kk:Int)),.int .i64 (b+(kk:Int))] (fun k=>k≠f) (fun _=>False) rfl rfl (k196_mkM _ _ _ _) (fun _ hk=>hk.elim) HFr.out HR.out HB.out HBr.out (by omega) ?_;intro v1 w1 ho hb hg1 hat;obtain⟨Av,cv,rfl⟩:=Kd.R_slice ho;obtain⟨hf1,hfin⟩:=fin_put HF0.out HS.out HR.out ho hg1;have f2:=Lib.frozen_of_heap hf1 2;have d2:=(blk_cell hf1 2).trans (rfl:_=some v);have HF2:=Aside0.mk hfin;have HB2:=Aside0.mk hb;have HK2:=Aside0.mk (HK.out.grown hg1 (Kd.R_typed HR.out));clear ho hb hg1 hat hfin hf1))
   go_roundg (n-(kk+1))
   case measure=>omega
   case rel =>
    refine⟨kk+1,by omega,by omega,by go_num,⟨?_⟩,⟨HB2.out.setCell (p:=⟨f,2,none⟩) HF0.out _⟩,⟨HK2.out.set 2 _⟩⟩
    rw [diagP_succ,←List.append_assoc,show l.length+((diagP a b kk).length+1)=(l++diagP a b kk++[(⟨a+(kk:Int),b+(kk:Int)⟩:SP)]).length by simp only [List.length_append,List.length_singleton,Nat.add_assoc]];exact HF2.out
  ·obtain rfl:kk=n:=by omega
   have q1:((kk:Int)<(kk:Int))=False:=by simp
   go_wp2
   go_end0
   exact⟨rfl,HF.out,HB.out,HK.out⟩
end Go.Proofs.Ytfiamddinkokbaa.F
end
