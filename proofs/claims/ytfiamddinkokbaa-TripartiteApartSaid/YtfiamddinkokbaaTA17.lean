/- Texts joined into one file (wip/tools/pack.py): BuildText -/
import Derived.Test.YtfiamddinkokbaaTA4
import Derived.Test.YtfiamddinkokbaaTA16
import Derived.Deep.RegionHeld3
set_option linter.unusedVariables false
set_option linter.unusedSimpArgs false
namespace Go.Proofs.Ytfiamddinkokbaa.F
open Go.RowKit Go.Shelf Go.Proofs.YtfiamddinkokbaaW.PrintWords
abbrev PP := S106
def Bld (B f X : Nat) (g0 g1 g2 : ByteArray) (st fv : Int) (l : List PP) (w : World) : Prop :=
 ∃ v,B≤f∧w.heap[f]? = some (.cells #[.string g0,.string g1,.string g2,.int .i64 st,.int .i64 fv,v] 176 (0,0))∧Kd.R k106 106 w B (fun k=>k≠f∧k≠X) v l
theorem Bld.below {B f X : Nat} {g0 g1 g2 : ByteArray} {st fv : Int} {l : List PP} {w w' : World} (h : Bld B f X g0 g1 g2 st fv l w) (hb : Below w.heap.size w w') : Bld B f X g0 g1 g2 st fv l w' := by
 obtain⟨v,h0,h1,h2⟩:=h
 exact⟨v,h0,(hb.block f (Array.getElem?_eq_some_iff.1 h1).1).trans h1,Kd.R_below h2 hb⟩
theorem Bld.lo {B f X : Nat} {g0 g1 g2 : ByteArray} {st fv : Int} {l : List PP} {w : World} (h : Bld B f X g0 g1 g2 st fv l w) : B≤f := by obtain⟨v,h,_⟩ := h;exact h
theorem Bld.lt {B f X : Nat} {g0 g1 g2 : ByteArray} {st fv : Int} {l : List PP} {w : World} (h : Bld B f X g0 g1 g2 st fv l w) : f<w.heap.size := by obtain⟨v,_,h,_⟩ := h;exact (Array.getElem?_eq_some_iff.1 h).1
theorem Bld.weaken {B f X : Nat} {g0 g1 g2 : ByteArray} {st fv : Int} {l : List PP} {w : World} (h : Bld B f X g0 g1 g2 st fv l w) : Bld B f f g0 g1 g2 st fv l w := by
 obtain⟨v,h0,h1,h2⟩:=h
 exact⟨v,h0,h1,Kd.R_mono h2 (fun k hk=>⟨hk.1,hk.1⟩)⟩
theorem Bld.fresh {B f X : Nat} {g0 g1 g2 : ByteArray} {st fv : Int} {l : List PP} {w w' : World} {Y : Nat} (h : Bld B f X g0 g1 g2 st fv l w) (hY : w.heap.size≤Y) (hb : Below w.heap.size w w') : Bld B f Y g0 g1 g2 st fv l w' := by
 obtain⟨v,h0,h1,h2⟩:=h
 refine⟨v,h0,(hb.block f (Array.getElem?_eq_some_iff.1 h1).1).trans h1,Kd.R_below ⟨fun k hk=>⟨(h2.1 k hk).1,fun e=>?_⟩,h2.2⟩ hb⟩
 have:=Kd.R_lt h2 k hk
 omega
theorem part_info : (Try.prog.info? 106).map (fun i=>(i.zero,i.size,i.bytes))=some (some (.agg #[.string ⟨#[]⟩,.string ⟨#[]⟩,.string ⟨#[]⟩,.bool false,.string ⟨#[]⟩,.string ⟨#[]⟩,.string ⟨#[]⟩,.string ⟨#[]⟩,.bool false]),9,128) := by kernel_rfl
theorem bld_put {B f X : Nat} {g0 g1 g2 : ByteArray} {st fv : Int} {v v1 : Value} {l l1 : List PP} {W w1 : World} (h0 : B≤f) (h1 : W.heap[f]? = some (.cells #[.string g0,.string g1,.string g2,.int .i64 st,.int .i64 fv,v] 176 (0,0))) (hR : Kd.R k106 106 W B (fun k=>k≠f∧k≠X) v l)
  (hR1:Kd.R k106 106 w1 B (fun k=>k≠f∧k≠X) v1 l1) (hg:W.grownBy w1 v.ownBlock):w1.heap[f]? = some (.cells #[.string g0,.string g1,.string g2,.int .i64 st,.int .i64 fv,v] 176 (0,0))∧Bld B f X g0 g1 g2 st fv l1 (w1.setCell ⟨f,5,none⟩ v1):=by
 have hf:w1.heap[f]? = some (.cells #[.string g0,.string g1,.string g2,.int .i64 st,.int .i64 fv,v] 176 (0,0)):=(hg.block f (Array.getElem?_eq_some_iff.1 h1).1 (fun e=>(hR.1 f e.symm).1 rfl)).trans h1
 refine⟨hf,v1,h0,?_,?_⟩
 ·simp [World.setCell,Array.getElem?_modify,hf]
 ·exact Kd.R_step hR1 (fun k hk _=>Below.heap_setCell _ _ _ _ hk.1)
theorem tr1 {W : World} {p : Addr} {v : Value} (o : Obj) (h : W.cell? p=some v) : (W.alloc o).cell? p=some v := ((below_alloc (Below.refl W.heap.size W) o).cell (World.block_lt_of_cell? W _ h)).trans h
def textPart (j : ByteArray) : PP := ⟨z84,false,j,⟨#[]⟩,⟨#[]⟩,⟨#[]⟩,false⟩
set_option maxHeartbeats 8000000 in
set_option maxRecDepth 100000 in
theorem text_calls {B f X : Nat} {g0 g1 g2 : ByteArray} {st fv : Int} {l : List PP} {w : World} (A1 : Option Addr) (c1 : Nat) (xs : List ByteArray) (j : ByteArray) (h : Bld B f X g0 g1 g2 st fv l w) (hA : Kd.C Kd.string w A1 xs.length xs) (hc : xs.length≤c1) (hj : lines_Join.f xs=some j) (hl : l.length≤100000000000) (hBw : B≤w.heap.size) (hX : X<w.heap.size) :
  Calls Try.prog 158 #[.pointer (some ⟨f,0,none⟩),.slice A1 xs.length c1] w fun e w'=>e = .returned (.tuple #[])∧Bld B f X g0 g1 g2 st fv (l++[textPart j]) w'∧Below B w w'∧Keeps 106 f w w'∧(X≠f→w'.heap[X]? = w.heap[X]?):=by
 have HXl:=Aside0.mk hX
 have HBw:=Aside0.mk hBw
 obtain⟨v,h0,h1,hR⟩:=h
 obtain⟨Av,cv,rfl⟩:=Kd.R_slice hR
 have c5:=(blk_cell h1 5).trans (rfl:_=some (Value.slice Av l.length cv))
 have HS:=Aside0.mk h1
 have HF0:=Aside0.mk h0
 have HR:=Aside0.mk hR
 have HJ:=Aside0.mk (fun W (hb:Below w.heap.size w W)=>lines_Join.calls A1 c1 xs j W (Kd.C_below hA hb) hc hj)
 clear h0 h1 hR hBw hA hc hj hX
 go_enter Try.func158,Try.ntmps158
 go_region_law ((first
   | (refine Go.Proofs.YtfiamddinkokbaaW.PrintLast.goes_ Try.func33 (by kernel_rfl) rfl #[.slice A1 xs.length c1] (by rfl) rfl rfl (by (try simp only [List.map_toArray,List.map_cons,List.map_nil]);rfl) ?_;refine (HJ.out _ (below_drew1 (Below.refl _ _))).mono ?_;rintro e w1 ⟨rfl,hb1⟩;refine⟨_,rfl,?_⟩;have HB1:=Aside0.mk (below_step (below_drew1 (Below.refl w.heap.size w)) hb1);have HS1:=Aside0.mk ((HB1.out.block f (Array.getElem?_eq_some_iff.1 HS.out).1).trans HS.out);have c51:=(blk_cell HS1.out 5).trans (rfl:_=some (Value.slice Av l.length cv));have c53:∀ o,(w1.alloc o).cell? ⟨f,5,none⟩=some (Value.slice Av l.length cv):=fun o=>tr1 o c51;have HR1:=Aside0.mk (Kd.R_below HR.out HB1.out);have HL1:=Aside0.mk (Nat.le_trans HBw.out HB1.out.size);have HFr:Aside0 (∀ k,w1.heap.size≤k→k≠f∧k≠X):=⟨fun k hk=>⟨fun e=>by have:=(Array.getElem?_eq_some_iff.1 HS1.out).1;omega,fun e=>by have:=HB1.out.size;have:=HXl.out;omega⟩⟩;clear hb1)
   | (refine Kd.R_append_step k106 (w0:=w) (W:=w1) B (by rfl) (.tmp 8) (.tmp 12) 28 106 (.agg #[.string ⟨#[]⟩,.string ⟨#[]⟩,.string ⟨#[]⟩,.bool false,.string ⟨#[]⟩,.string ⟨#[]⟩,.string ⟨#[]⟩,.string ⟨#[]⟩,.bool false]) 128 (by rfl) Try.underlying28 part_info rfl (by decide) (by omega) (.slice Av l.length cv) l (textPart j) [.string ⟨#[]⟩,.string ⟨#[]⟩,.string ⟨#[]⟩,.bool false,.string j,.string ⟨#[]⟩,.string ⟨#[]⟩,.string ⟨#[]⟩,.bool false] (fun k=>k≠f∧k≠X) (fun _=>False) (by rfl) (by rfl) (k106_mkM _ _ _ _) (fun _ hk=>hk.elim) HFr.out HR1.out (HB1.out.mono HBw.out) HL1.out (by omega) ?_;intro v1 w2 ho hb hg1 hat;obtain⟨Aw,cw,rfl⟩:=Kd.R_slice ho;obtain⟨hf1,hfin⟩:=bld_put HF0.out HS1.out HR1.out ho hg1;have c52:=(blk_cell hf1 5).trans (rfl:_=some (Value.slice Av l.length cv));have f52:=Lib.frozen_of_heap hf1 5;have HF2:=Aside0.mk hfin;have HB2:=Aside0.mk hb;have HX2:=Aside0.mk ((hg1.block X (Nat.lt_of_lt_of_le HXl.out HB1.out.size) (fun e=>(HR1.out.1 X e.symm).2 rfl)).trans (HB1.out.block X HXl.out));have HK2:=Aside0.mk ((Keeps.below (T:=106) (b:=f) HB1.out).grown hg1 (Kd.R_typed HR1.out));clear ho hb hg1 hat hfin hf1)))
 all_goals go_end0
 all_goals refine⟨rfl,?_,HB2.out.setCell (p:=⟨f,5,none⟩) HF0.out _,HK2.out.set 5 _,fun e=>(Below.heap_setCell _ _ _ _ e).trans HX2.out⟩
 all_goals rw [show l.length+1=(l++[textPart j]).length by simp only [List.length_append,List.length_singleton]];exact HF2.out
end Go.Proofs.Ytfiamddinkokbaa.F
