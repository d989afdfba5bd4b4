/- Texts joined into one file (wip/tools/pack.py): Texts0 -/
import Derived.Test.YtfiamddinkokbaaTA29
import Derived.Test.YtfiamddinkokbaaTA30
import Derived.Test.YtfiamddinkokbaaTA23
import Derived.Test.YtfiamddinkokbaaTA28
import Derived.Test.YtfiamddinkokbaaTA14
import Derived.Test.YtfiamddinkokbaaTA19
import Derived.Deep.DrawnRows
set_option linter.unusedVariables false
set_option linter.unusedSimpArgs false
namespace Go.Proofs.Ytfiamddinkokbaa.F
open Go.RowKit Go.Shelf Go.Proofs.YtfiamddinkokbaaW.PrintWords
theorem keep4 {W0 w' : World} {a b c d : Addr} {va vb vc vd : Value} (hb : Below W0.heap.size W0 w') (h : W0.cell? a=some va∧W0.cell? b=some vb∧W0.cell? c=some vc∧W0.cell? d=some vd) :
  w'.cell? a=some va∧w'.cell? b=some vb∧w'.cell? c=some vc∧w'.cell? d=some vd:=by
 obtain⟨h1,h2,h3,h4⟩:=h
 exact⟨(hb.cell (World.block_lt_of_cell? W0 _ h1)).trans h1,(hb.cell (World.block_lt_of_cell? W0 _ h2)).trans h2,(hb.cell (World.block_lt_of_cell? W0 _ h3)).trans h3,(hb.cell (World.block_lt_of_cell? W0 _ h4)).trans h4⟩
section
variable {W w1 : World} {cs : Array Value} {t : TypeId} {o : Obj}
theorem af1 (hb : Below (W.alloc (.cells cs t)).heap.size (W.alloc (.cells cs t)) w1) : w1.heap[W.heap.size]? = some (.cells cs t (0,0)) := after_alloc hb
theorem af1d (hb : Below (W.alloc (.cells cs t)).drew.heap.size (W.alloc (.cells cs t)).drew w1) : w1.heap[W.heap.size]? = some (.cells cs t (0,0)) := after_alloc_drew hb
theorem af2 (hb : Below ((W.alloc (.cells cs t)).alloc o).heap.size ((W.alloc (.cells cs t)).alloc o) w1) : w1.heap[W.heap.size]? = some (.cells cs t (0,0)) := after_call hb (blk_alloc (World.alloc_heap_new W _) o)
theorem af2d (hb : Below ((W.alloc (.cells cs t)).alloc o).drew.heap.size ((W.alloc (.cells cs t)).alloc o).drew w1) : w1.heap[W.heap.size]? = some (.cells cs t (0,0)) := after_call hb (blk_drew (blk_alloc (World.alloc_heap_new W _) o))
theorem af4 {cs' : Array Value} {t' : TypeId} (hb : Below ((W.alloc (.cells cs' t')).alloc (.cells cs t)).heap.size ((W.alloc (.cells cs' t')).alloc (.cells cs t)) w1) : w1.heap[W.heap.size+1]? = some (.cells cs t (0,0)) := by
 have:=after_alloc hb
 rwa [World.size_alloc] at this
theorem af4d {cs' : Array Value} {t' : TypeId} (hb : Below ((W.alloc (.cells cs' t')).alloc (.cells cs t)).drew.heap.size ((W.alloc (.cells cs' t')).alloc (.cells cs t)).drew w1) : w1.heap[W.heap.size+1]? = some (.cells cs t (0,0)) := by
 have:=after_alloc_drew hb
 rwa [World.size_alloc] at this
end
theorem C3 {W : World} {g : Nat} {a b c : ByteArray} (h : W.heap[g]? = some (.cells #[.string a,.string b,.string c] 9 (0,0))) : Kd.C Kd.string W (some ⟨g,0,none⟩) 3 [a,b,c] := by
 refine⟨rfl,by simp,fun _=>⟨⟨g,0,none⟩,rfl,fun j x hj=>?_⟩⟩
 have hc:∀ i,W.cell? ⟨g,i,none⟩=(#[Value.string a,.string b,.string c])[i]?:=fun i=>blk_cell h i
 refine⟨[.string x],rfl,rfl,fun i u hu=>?_⟩
 cases i with
 | succ i=>simp at hu
 | zero =>
  have hu':u = .string x:=by simpa using hu.symm
  subst hu'
  show W.cell? ((⟨g,0,none⟩:Addr).add (j*1+0))=_
  rw [show (⟨g,0,none⟩:Addr).add (j*1+0)=⟨g,j,none⟩ by unfold Addr.add;split<;>simp_all]
  rw [hc]
  match j,hj with
  | 0,hj=>simp at hj;subst hj;rfl
  | 1,hj=>simp at hj;subst hj;rfl
  | 2,hj=>simp at hj;subst hj;rfl
  | j+3,hj=>simp at hj
theorem R_to {α : Type} {d : Kd α} {e base : Nat} {ok ok' : Nat→Prop} {W W1 : World} {v : Value} {xs : List α} (hE : d.E=[]) (h : d.R e W base ok v xs) (hb : Below W.heap.size W W1) (hok : ∀ k,v.ownBlock=some k→ok' k) : d.R e W1 base ok' v xs := Kd.R_reok hE (Kd.R_below h hb) hok
theorem zero7 {w : World} {k : Nat} (h : w.heap[k]? = some (.cells #[.slice none 0 0,.slice none 0 0,.slice none 0 0,.slice none 0 0,.string ⟨#[]⟩,.int .i64 0,.int .i64 0] 80 (0,0))) : w.cell? ⟨k,0,none⟩=some (.slice none 0 0)∧w.cell? ⟨k,1,none⟩=some (.slice none 0 0)∧w.cell? ⟨k,2,none⟩=some (.slice none 0 0)∧w.cell? ⟨k,3,none⟩=some (.slice none 0 0)∧w.cell? ⟨k,4,none⟩=some (.string ⟨#[]⟩)∧w.cell? ⟨k,5,none⟩=some (.int .i64 0)∧w.cell? ⟨k,6,none⟩=some (.int .i64 0)∧w.frozen? ⟨k,0,none⟩=false∧w.frozen? ⟨k,1,none⟩=false∧w.frozen? ⟨k,2,none⟩=false∧w.frozen? ⟨k,3,none⟩=false∧w.frozen? ⟨k,4,none⟩=false∧w.frozen? ⟨k,5,none⟩=false∧w.frozen? ⟨k,6,none⟩=false :=
 ⟨(blk_cell h 0).trans rfl,(blk_cell h 1).trans rfl,(blk_cell h 2).trans rfl,(blk_cell h 3).trans rfl,(blk_cell h 4).trans rfl,(blk_cell h 5).trans rfl,(blk_cell h 6).trans rfl,Lib.frozen_of_heap h 0,Lib.frozen_of_heap h 1,Lib.frozen_of_heap h 2,Lib.frozen_of_heap h 3,Lib.frozen_of_heap h 4,Lib.frozen_of_heap h 5,Lib.frozen_of_heap h 6⟩
theorem below_set7 {B k : Nat} {W0 W : World} (hb : Below B W0 W) (hk : B≤k) (v0 v1 v2 v3 v4 v5 v6 : Value) : Below B W0 (((((((W.setCell ⟨k,0,none⟩ v0).setCell ⟨k,1,none⟩ v1).setCell ⟨k,2,none⟩ v2).setCell ⟨k,3,none⟩ v3).setCell ⟨k,4,none⟩ v4).setCell ⟨k,5,none⟩ v5).setCell ⟨k,6,none⟩ v6) := (((((((hb.setCell (p := ⟨k,0,none⟩) hk v0).setCell (p := ⟨k,1,none⟩) hk v1).setCell (p := ⟨k,2,none⟩) hk v2).setCell (p := ⟨k,3,none⟩) hk v3).setCell (p := ⟨k,4,none⟩) hk v4).setCell (p := ⟨k,5,none⟩) hk v5).setCell (p := ⟨k,6,none⟩) hk v6)
theorem block_set7 {k : Nat} {T : TypeId} {W : World} {u0 u1 u2 u3 u4 u5 u6 : Value} (h : W.heap[k]? = some (.cells #[u0,u1,u2,u3,u4,u5,u6] T (0,0))) (v0 v1 v2 v3 v4 v5 v6 : Value) : (((((((W.setCell ⟨k,0,none⟩ v0).setCell ⟨k,1,none⟩ v1).setCell ⟨k,2,none⟩ v2).setCell ⟨k,3,none⟩ v3).setCell ⟨k,4,none⟩ v4).setCell ⟨k,5,none⟩ v5).setCell ⟨k,6,none⟩ v6).heap[k]? = some (.cells #[v0,v1,v2,v3,v4,v5,v6] T (0,0)) := by
 simp [World.setCell,Array.getElem?_modify,h]
theorem R_set7 {α : Type} {d : Kd α} {e base k T : Nat} {ok : Nat→Prop} {W : World} {v : Value} {xs : List α} {u0 u1 u2 u3 u4 u5 u6 : Value} (h : d.R e W base ok v xs) (hk : W.heap[k]? = some (.cells #[u0,u1,u2,u3,u4,u5,u6] T (0,0))) (hT : ∀ q,q∈e::d.E→q≠T) (v0 v1 v2 v3 v4 v5 v6 : Value) : d.R e (((((((W.setCell ⟨k,0,none⟩ v0).setCell ⟨k,1,none⟩ v1).setCell ⟨k,2,none⟩ v2).setCell ⟨k,3,none⟩ v3).setCell ⟨k,4,none⟩ v4).setCell ⟨k,5,none⟩ v5).setCell ⟨k,6,none⟩ v6) base ok v xs := by
 refine Kd.R_mono (Kd.R_step (Kd.R_types h hk hT) (fun j hj _=>?_)) (fun _ hj=>hj.1)
 have hne:j≠k:=hj.2
 exact ((Below.heap_setCell _ _ _ _ hne).trans ((Below.heap_setCell _ _ _ _ hne).trans ((Below.heap_setCell _ _ _ _ hne).trans ((Below.heap_setCell _ _ _ _ hne).trans ((Below.heap_setCell _ _ _ _ hne).trans ((Below.heap_setCell _ _ _ _ hne).trans (Below.heap_setCell _ _ _ _ hne)))))))
theorem new1 (W : World) (o : Obj) (cs : Array Value) (t : TypeId) : ((W.alloc o).alloc (.cells cs t)).heap[W.heap.size+1]? = some (.cells cs t (0,0)) := by
 have:=World.alloc_heap_new (W.alloc o) (.cells cs t)
 rwa [World.size_alloc] at this
def Post1 (W0 W : World) (lp : List S196) (e : Ending) (w' : World) : Prop := ∃ A c,e = .returned (.slice A lp.length c)∧Kd.R k196 196 w' W0.heap.size (fun _=>True) (.slice A lp.length c) lp∧Below W.heap.size W w'∧Below W0.heap.size W0 w'
theorem tx1 {W0 : World} {b0 b1 : Nat} {ok0 ok1 : Nat→Prop} {A0 A1 : Option Addr} {c0 c1 : Nat} {B L : List ByteArray} {lp : List S196} (h0 : Kd.R Kd.string 9 W0 b0 ok0 (.slice A0 B.length c0) B) (h1 : Kd.R Kd.string 9 W0 b1 ok1 (.slice A1 L.length c1) L) (hm : merge_match.f B L=some lp) (W : World) (hb : Below W0.heap.size W0 W) :
  Calls Try.prog 102 #[.slice A0 B.length c0,.slice A1 L.length c1] W (Post1 W0 W lp):=by
 refine (merge_match.calls (fun _=>True) A0 c0 B (fun _=>True) A1 c1 L lp W (Kd.R_V (Kd.R_mono (Kd.R_below h0 hb) (fun _ _=>trivial))) (Kd.R_V (Kd.R_mono (Kd.R_below h1 hb) (fun _ _=>trivial))) hm).mono ?_
 rintro e w' ⟨v,rfl,hr,hb'⟩
 obtain⟨A,c,rfl⟩:=Kd.R_slice hr
 exact⟨A,c,rfl,Kd.R_mono (Kd.R_lower hr hb.size) (fun _ _=>trivial),hb',below_step hb hb'⟩
def Post2 (W0 w5 W : World) (A3 : Option Addr) (c3 : Nat) (lp rp : List S196) (e : Ending) (w' : World) : Prop := ∃ A c,e = .returned (.slice A rp.length c)∧Kd.R k196 196 w' W0.heap.size (fun k_=>some k_≠(Value.slice A rp.length c).ownBlock) (.slice A3 lp.length c3) lp ∧
 Kd.R k196 196 w' W0.heap.size (fun k_=>some k_≠(Value.slice A3 lp.length c3).ownBlock) (.slice A rp.length c) rp∧Below W.heap.size W w'∧Below W0.heap.size W0 w'∧Below w5.heap.size w5 w'
theorem tx2 {W0 w5 : World} {b0 b1 : Nat} {ok0 ok1 : Nat→Prop} {A0 A1 A3 : Option Addr} {c0 c1 c3 : Nat} {B L : List ByteArray} {lp rp : List S196} (h0 : Kd.R Kd.string 9 W0 b0 ok0 (.slice A0 B.length c0) B) (h1 : Kd.R Kd.string 9 W0 b1 ok1 (.slice A1 L.length c1) L) (hm : merge_match.f B L=some rp)
  (hr:Kd.R k196 196 w5 W0.heap.size (fun _=>True) (.slice A3 lp.length c3) lp) (hq:Below W0.heap.size W0 w5) (W:World) (hb:Below w5.heap.size w5 W) :
  Calls Try.prog 102 #[.slice A0 B.length c0,.slice A1 L.length c1] W (Post2 W0 w5 W A3 c3 lp rp):=by
 have hbW:=below_step hq hb
 refine (merge_match.calls (fun _=>True) A0 c0 B (fun _=>True) A1 c1 L rp W (Kd.R_V (Kd.R_mono (Kd.R_below h0 hbW) (fun _ _=>trivial))) (Kd.R_V (Kd.R_mono (Kd.R_below h1 hbW) (fun _ _=>trivial))) hm).mono ?_
 rintro e w' ⟨v,rfl,hr2,hb'⟩
 obtain⟨A,c,rfl⟩:=Kd.R_slice hr2
 have hlt:=Kd.R_lt hr
 have hge:=Kd.R_base hr2
 refine⟨A,c,rfl,R_to rfl hr (below_step hb hb') (fun k hk e=>?_),Kd.R_reok rfl (Kd.R_lower hr2 hbW.size) (fun k hk e=>?_),hb',below_step hbW hb',below_step hb hb'⟩
 ·have h1:=hlt k hk
  have h2:=hge k e.symm
  have:=hb.size
  omega
 ·have h1:=hlt k e.symm
  have h2:=hge k hk
  have:=hb.size
  omega
def Post3 (W0 W : World) (W6 : Int) (A3 A4 : Option Addr) (c3 c4 : Nat) (lp rp : List S196) (e : Ending) (w' : World) : Prop := e = .returned (.int .i64 W6)∧Kd.R k196 196 w' W0.heap.size (fun k_=>some k_≠(Value.slice A4 rp.length c4).ownBlock) (.slice A3 lp.length c3) lp ∧
 Kd.R k196 196 w' W0.heap.size (fun k_=>some k_≠(Value.slice A3 lp.length c3).ownBlock) (.slice A4 rp.length c4) rp∧Below W.heap.size W w'∧Below W0.heap.size W0 w'
theorem tx3 {k : Nat} {W0 w6 : World} {A3 A4 : Option Addr} {c3 c4 : Nat} {lp rp : List S196} {wd W6 : Int} {a0 a1 a2 : ByteArray} (hw : doc_Width.f k wd [a0,a1,a2]=some W6)
  (hr:Kd.R k196 196 w6 W0.heap.size (fun k_=>some k_≠(Value.slice A4 rp.length c4).ownBlock) (.slice A3 lp.length c3) lp) (hr2:Kd.R k196 196 w6 W0.heap.size (fun k_=>some k_≠(Value.slice A3 lp.length c3).ownBlock) (.slice A4 rp.length c4) rp) (hq:Below W0.heap.size W0 w6) (W:World) (g:Nat) (hb:Below w6.heap.size w6 W)
  (hg:W.heap[g]? = some (.cells #[.string a0,.string a1,.string a2] 9 (0,0))) :
  Calls Try.prog 19 #[.int .i64 wd,.slice (some ⟨g,0,none⟩) 3 3] W (Post3 W0 W W6 A3 A4 c3 c4 lp rp):=by
 refine (doc_Width.calls k wd (some ⟨g,0,none⟩) 3 [a0,a1,a2] W6 W (C3 hg) (by simp) hw).mono ?_
 rintro e w' ⟨rfl,hb'⟩
 have h:=below_step hb hb'
 exact⟨rfl,Kd.R_below hr h,Kd.R_below hr2 h,hb',below_step hq h⟩
structure TSt (w W : World) (b11 b12 : Nat) (g0 g1 g2 : ByteArray) (st wd fv : Int) (A0 A1 A2 : Option Addr) (c0 c1 c2 : Nat) (B L R : List ByteArray) (cs : Array Value) : Prop where
 bel:Below w.heap.size w W
 lo:w.heap.size+1<b11
 ne:b11<b12
 x7:W.heap[w.heap.size]? = some (.cells #[.string g0,.string g1,.string g2,.int .i64 st,.int .i64 wd,.int .i64 fv] 86 (0,0))
 x8:W.heap[w.heap.size+1]? = some (.cells #[.slice none 0 0,.slice none 0 0,.slice none 0 0,.slice none 0 0,.string (⟨#[]⟩:ByteArray),.int .i64 0,.int .i64 0] 80 (0,0))
 x11:W.heap[b11]? = some (.cells #[.slice A0 B.length c0,.slice A1 L.length c1,.slice A2 R.length c2] 144 (0,0))
 x12:W.heap[b12]? = some (.cells cs 80 (0,0))
 r0:Kd.R Kd.string 9 W w.heap.size (fun _=>True) (.slice A0 B.length c0) B
 r1:Kd.R Kd.string 9 W w.heap.size (fun _=>True) (.slice A1 L.length c1) L
 r2:Kd.R Kd.string 9 W w.heap.size (fun _=>True) (.slice A2 R.length c2) R
section
variable {w W W1 : World} {b11 b12 : Nat} {g0 g1 g2 : ByteArray} {st wd fv : Int} {A0 A1 A2 : Option Addr} {c0 c1 c2 : Nat} {B L R : List ByteArray} {cs : Array Value}
theorem TSt.call (h : TSt w W b11 b12 g0 g1 g2 st wd fv A0 A1 A2 c0 c1 c2 B L R cs) (hb : Below W.heap.size W W1) : TSt w W1 b11 b12 g0 g1 g2 st wd fv A0 A1 A2 c0 c1 c2 B L R cs :=
 ⟨below_step h.bel hb,h.lo,h.ne,after_call hb h.x7,after_call hb h.x8,after_call hb h.x11,after_call hb h.x12,Kd.R_below h.r0 hb,Kd.R_below h.r1 hb,Kd.R_below h.r2 hb⟩
theorem TSt.set (h : TSt w W b11 b12 g0 g1 g2 st wd fv A0 A1 A2 c0 c1 c2 B L R cs) (j : Nat) (v : Value) (cs' : Array Value) (hcs : cs.setIfInBounds j v=cs') : TSt w (W.setCell ⟨b12,j,none⟩ v) b11 b12 g0 g1 g2 st wd fv A0 A1 A2 c0 c1 c2 B L R cs' := by
 have l1:=h.lo
 have l2:=h.ne
 refine⟨h.bel.setCell (p:=⟨b12,j,none⟩) (show w.heap.size≤b12 by omega) v,l1,l2,?_,?_,?_,?_,Kd.R_set h.r0 h.x12 (by decide) j v,Kd.R_set h.r1 h.x12 (by decide) j v,Kd.R_set h.r2 h.x12 (by decide) j v⟩
 ·exact (Below.heap_setCell _ _ _ _ (by show w.heap.size≠b12;omega)).trans h.x7
 ·exact (Below.heap_setCell _ _ _ _ (by show w.heap.size+1≠b12;omega)).trans h.x8
 ·exact (Below.heap_setCell _ _ _ _ (by show b11≠b12;omega)).trans h.x11
 ·subst hcs
  simp [World.setCell,Array.getElem?_modify,h.x12]
end
end Go.Proofs.Ytfiamddinkokbaa.F
