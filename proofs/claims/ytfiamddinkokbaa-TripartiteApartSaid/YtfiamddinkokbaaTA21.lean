/- Texts joined into one file (wip/tools/pack.py): Fn131, Fn99, Fn52, Fn49, Fn90, Fn128, Fn94, Fn150, Fn127, Fn97, Fn54, Fn46, Print -/
import Derived.Test.YtfiamddinkokbaaTA3
import Derived.Test.YtfiamddinkokbaaTA16
import Derived.Test.YtfiamddinkokbaaTA13
import Derived.Test.YtfiamddinkokbaaTA20
import Derived.Test.YtfiamddinkokbaaTA4
import Derived.Deep.RegionHeld3
set_option linter.unusedVariables false
set_option linter.unusedSimpArgs false
section
namespace Go.Proofs.Ytfiamddinkokbaa.F
open Go.RowKit Go.Proofs.YtfiamddinkokbaaW.PrintWords Go.Proofs.YtfiamddinkokbaaW.PrintLast Go.Proofs.YtfiamddinkokbaaW.PrintMore
attribute [local go_sem] max2_int min2_int max_two min_two max_three min_three max_four min_four












end Go.Proofs.Ytfiamddinkokbaa.F
end

section
namespace Go.Proofs.Ytfiamddinkokbaa.F
open Go.RowKit Go.Shelf Go.Proofs.YtfiamddinkokbaaW.PrintWords
def Pr (B b : Nat) (wd : Int) (lk : Bool) (bs : List UInt8) (w : World) : Prop :=
 ∃ p v,BldAt 129 0 B b #[p,v,.int .i64 wd,.bool lk] p v bs w
theorem Pr.below {B b : Nat} {wd : Int} {lk : Bool} {bs : List UInt8} {w w' : World} (h : Pr B b wd lk bs w) (hb : Below w.heap.size w w') : Pr B b wd lk bs w' := by
 obtain⟨p,v,h⟩:=h
 refine⟨p,v,⟨h.lo,(hb.block b h.lt).trans h.blk,h.at0,h.at1,h.ptr,?_,h.ne⟩⟩
 exact ownF_move h.own (fun k hk=>hb.block k (h.own.lt k hk).2)
theorem Pr.wd {B b : Nat} {wd : Int} {lk : Bool} {bs : List UInt8} {w : World} (h : Pr B b wd lk bs w) : w.cell? ⟨b,2,none⟩=some (.int .i64 wd) := by
 obtain⟨p,v,h⟩:=h;exact (Lib.cell_of_heap h.blk 2).trans rfl
theorem Pr.lk {B b : Nat} {wd : Int} {lk : Bool} {bs : List UInt8} {w : World} (h : Pr B b wd lk bs w) : w.cell? ⟨b,3,none⟩=some (.bool lk) := by
 obtain⟨p,v,h⟩:=h;exact (Lib.cell_of_heap h.blk 3).trans rfl
theorem Pr.fz {B b : Nat} {wd : Int} {lk : Bool} {bs : List UInt8} {w : World} (h : Pr B b wd lk bs w) (i : Nat) : w.frozen? ⟨b,i,none⟩=false := by
 obtain⟨p,v,h⟩:=h;exact Lib.frozen_of_heap h.blk i
theorem Pr.lo {B b : Nat} {wd : Int} {lk : Bool} {bs : List UInt8} {w : World} (h : Pr B b wd lk bs w) : B≤b := by obtain⟨p,v,h⟩ := h;exact h.lo
theorem Pr.lt {B b : Nat} {wd : Int} {lk : Bool} {bs : List UInt8} {w : World} (h : Pr B b wd lk bs w) : b<w.heap.size := by obtain⟨p,v,h⟩ := h;exact h.lt
theorem Pr.put {B b : Nat} {wd : Int} {lk : Bool} {bs : List UInt8} {w : World} (h : Pr B b wd lk bs w) (l : Bool) : Pr B b wd l bs (w.setCell ⟨b,3,none⟩ (.bool l)) := by
 obtain⟨p,v,h⟩:=h
 refine⟨p,v,⟨h.lo,?_,rfl,rfl,h.ptr,?_,h.ne⟩⟩
 ·have:=h.blk
  simp [World.setCell,Array.getElem?_modify,this]
 ·exact ownF_move h.own (fun k hk=>Below.heap_setCell _ _ _ _ (fun e=>h.ne (by rw [hk,e])))
def KeepT (b : Nat) (w w' : World) : Prop := ∀ k cs t fr,w.heap[k]? = some (.cells cs t fr)→t≠5→k≠b→w'.heap[k]? = w.heap[k]?
theorem KeepT.refl (b : Nat) (w : World) : KeepT b w w := fun _ _ _ _ _ _ _=>rfl
theorem KeepT.trans {b : Nat} {w w1 w2 : World} (h : KeepT b w w1) (g : KeepT b w1 w2) : KeepT b w w2 := fun k cs t fr hk ht hb=>by
 have h1:=h k cs t fr hk ht hb
 rw [g k cs t fr (h1.trans hk) ht hb,h1]
theorem KeepT.below {b : Nat} {w w' : World} (h : Below w.heap.size w w') : KeepT b w w' := fun k cs t fr hk _ _=>h.block k (Array.getElem?_eq_some_iff.1 hk).1
theorem KeepT.set {b : Nat} {w w' : World} (h : KeepT b w w') (i : Nat) (v : Value) : KeepT b w (w'.setCell ⟨b,i,none⟩ v) := fun k cs t fr hk ht hb=>by
 rw [Below.heap_setCell _ _ _ _ hb];exact h k cs t fr hk ht hb
theorem KeepT.drewN {b : Nat} {w w' : World} (h : KeepT b w w') (n : Nat) : KeepT b w (w'.drewN n) := fun k cs t fr hk ht hb=>(h k cs t fr hk ht hb)
theorem KeepT.cell {b : Nat} {w w' : World} (h : KeepT b w w') {k : Nat} {cs : Array Value} {t : TypeId} (hk : w.heap[k]? = some (.cells cs t (0,0))) (ht : t≠5) (hb : k≠b) : w'.heap[k]? = some (.cells cs t (0,0)) :=
 (h k cs t (0,0) hk ht hb).trans hk
theorem pr_write {B b : Nat} {wd : Int} {lk : Bool} {bs : List UInt8} {w : World} (s : ByteArray) (h : Pr B b wd lk bs w) (hlen : bs.length+s.size≤140737488355328) (hBw : B≤w.heap.size) :
  Calls Try.prog 87 #[.pointer (some ⟨b,0,none⟩),.string s] w fun e w'=>e = .returned (.tuple #[.int .i64 s.size,.nilIface])∧Pr B b wd lk (bs++s.data.toList) w'∧Below B w w'∧KeepT b w w':=by
 obtain⟨p,v,h⟩:=h
 refine (bld_write s h (by kernel_rfl) (by decide) hlen hBw).mono ?_
 rintro e w' ⟨rfl,v',h',hb,hk⟩
 refine⟨rfl,⟨_,v',h'⟩,hb,fun k cs t fr hkk ht hkb=>hk k (Array.getElem?_eq_some_iff.1 hkk).1 hkb (fun e=>?_)⟩
 obtain⟨cells,fz,hc⟩:=ownF_typed h.own k e.symm
 rw [hkk] at hc
 injection hc with hc
 injection hc with _ hc _
 exact ht hc
theorem pr_drawn {n : Nat} {w w' : World} (h : Below n w.drew w') : Below n w w' := ⟨h.os,h.tape,h.output,h.size,h.block⟩
set_option maxHeartbeats 8000000 in
set_option maxRecDepth 100000 in
theorem pr_marker {B b : Nat} {wd : Int} {lk : Bool} {bs : List UInt8} {w : World} (k : Int) (lb : ByteArray) (h : Pr B b wd lk bs w) (h0 : 0≤k) (h1 : k<128) (w0 : 0≤wd) (w1 : wd≤1073741824) (hl : lb.size≤4000000000)
  (hlen:bs.length+(lineB k lk lb wd).size≤140737488355328) (hBw:B≤w.heap.size) :
  Calls Try.prog 124 #[.pointer (some ⟨b,0,none⟩),.int .u8 k,.string lb] w fun e w'=>e = .returned (.tuple #[])∧Pr B b wd false (bs++(lineB k lk lb wd).data.toList) w'∧Below B w w'∧KeepT b w w':=by
 have HL:=fun W=>line_calls k lk lb wd W h0 h1 w0 w1 hl
 have HP:=Aside0.mk h
 have c2:=h.wd
 have c3:=h.lk
 have HBw:=Aside0.mk hBw
 generalize lineB k lk lb wd=ln at HL hlen ⊢
 clear hl h hBw
 go_enter Try.func124,Try.ntmps124
 go_wp2_with fail
 go_region_with ((first
  | (go_at_call 96;refine (HL _).mono ?_;rintro e w1 ⟨rfl,hb1⟩;have HP1:=Aside0.mk (HP.out.below (pr_drawn hb1));have HB1:=Aside0.mk (Below.mono (pr_drawn hb1) HBw.out);have HK1:=Aside0.mk (KeepT.below (b:=b) (w:=w) (pr_drawn hb1));clear hb1)
  | (go_at_call 87;refine (pr_write ln HP1.out hlen (Nat.le_trans HBw.out HB1.out.size)).mono ?_;rintro e w2 ⟨rfl,hp2,hb2,hk2⟩)))
 all_goals have f3:=hp2.fz 3
 all_goals have d3:=hp2.lk
 all_goals have BB:=Aside0.mk (Below.trans HB1.out hb2)
 all_goals have HK2:=Aside0.mk (KeepT.trans HK1.out hk2)
 all_goals have HP2:=Aside0.mk hp2
 all_goals clear hp2 hb2 HP HP1 HB1 hk2 HK1
 all_goals go_wp2
 all_goals go_end0
 all_goals exact⟨rfl,HP2.out.put false,Below.setCell (p:=⟨b,3,none⟩) BB.out HP2.out.lo _,HK2.out.set 3 _⟩
theorem pr_step {B b : Nat} {wd : Int} {lk : Bool} {bs : List UInt8} {w : World} (h : Pr B b wd lk bs w) (nd : Nat) (l : Bool) : Pr B b wd l bs ((w.drewN nd).setCell ⟨b,3,none⟩ (.bool l)) :=
 (h.below (pw_below_drewN (Below.refl _ _) nd)).put l
theorem pr_size {B b : Nat} {w w1 : World} (h : B≤w.heap.size) (hb : Below B w w1) (nd : Nat) (l : Bool) : B≤((w1.drewN nd).setCell ⟨b,3,none⟩ (.bool l)).heap.size := by
 have:=hb.size
 simp [World.setCell];omega
theorem size_dataL (s : ByteArray) : s.data.toList.length=s.size := Array.length_toList
def lacksB (s : ByteArray) (q : Bool) : Bool := !s.toList.isEmpty && !q
def sideL (s : ByteArray) (q : Bool) : List UInt8 := s.data.toList++(if lacksB s q=true then [10] else [])
set_option maxHeartbeats 8000000 in
set_option maxRecDepth 100000 in
theorem pr_side {B b : Nat} {wd : Int} {lk : Bool} {bs : List UInt8} {w : World} (s : ByteArray) (q : Bool) (h : Pr B b wd lk bs w) (hq : strings_HasSuffix.f s ⟨#[10]⟩=some q)
  (hlen:bs.length+s.size+1≤140737488355328) (hBw:B≤w.heap.size) :
  Calls Try.prog 125 #[.pointer (some ⟨b,0,none⟩),.string s] w fun e w'=>e = .returned (.tuple #[])∧Pr B b wd (lacksB s q) (bs++sideL s q) w'∧Below B w w'∧KeepT b w w':=by
 have HQ:=fun W=>strings_HasSuffix.calls s ⟨#[10]⟩ q W hq
 have HP:=Aside0.mk h
 have HBw:=Aside0.mk hBw
 have HD:=size_dataL s
 clear h hBw
 have hsz:(⟨#[10]⟩:ByteArray).size=1:=rfl
 have hlen2:bs.length+s.size≤140737488355328:=by omega
 have hlen3:(bs++s.data.toList).length+(⟨#[10]⟩:ByteArray).size≤140737488355328:=by rw [List.length_append,HD,hsz];omega
 go_enter Try.func125,Try.ntmps125
 go_wp2_with (first
  | (go_at_call_of 87 (Value.string s);refine (pr_write s HP.out hlen2 HBw.out).mono ?_;rintro e w1 ⟨rfl,hp1,hb1,hk1⟩;have f3:=hp1.fz 3;have d3:=hp1.lk;have HP1:=Aside0.mk hp1;have HB1:=Aside0.mk hb1;have HK1:=Aside0.mk hk1;clear HP hp1 hb1 hk1)
  | (go_at_call_of 87 (Value.string ⟨#[10]⟩);refine (pr_write ⟨#[10]⟩ (pr_step HP1.out nd true) hlen3 (pr_size HBw.out HB1.out nd true)).mono ?_;rintro e w3 ⟨rfl,hp3,hb3,hk3⟩;have HP3:=Aside0.mk hp3;have HB3:=Aside0.mk hb3;have HK3:=Aside0.mk hk3;clear hp3 hb3 hk3)
  | (go_at_call 115;refine (HQ _).mono ?_;rintro e w2 ⟨rfl,nd,rfl⟩))
 ·go_end0
  have hl:lacksB s q=false:=by unfold lacksB;simp_all
  rw [hl]
  have hs:sideL s q=s.data.toList:=by unfold sideL;rw [hl];simp
  rw [hs]
  exact⟨rfl,HP1.out.put false,Below.setCell (p:=⟨b,3,none⟩) HB1.out HP1.out.lo _,HK1.out.set 3 _⟩
 ·go_end0
  have hl:lacksB s q=true:=by unfold lacksB;simp_all
  rw [hl]
  have hs:sideL s q=s.data.toList++[10]:=by unfold sideL;rw [hl];rfl
  rw [hs,←List.append_assoc]
  exact⟨rfl,HP3.out,Below.trans (Below.setCell (p:=⟨b,3,none⟩) (pw_below_drewN HB1.out nd) HP1.out.lo _) HB3.out,KeepT.trans ((HK1.out.drewN nd).set 3 _) HK3.out⟩
 ·go_end0
  have hl:(!s.toList.isEmpty && !q)=false:=by simp_all
  rw [hl]
  have hl':lacksB s q=false:=hl
  rw [hl']
  have hs:sideL s q=s.data.toList:=by unfold sideL;rw [hl'];simp
  rw [hs]
  exact⟨rfl,pr_step HP1.out nd false,Below.setCell (p:=⟨b,3,none⟩) (pw_below_drewN HB1.out nd) HP1.out.lo _,(HK1.out.drewN nd).set 3 _⟩
end Go.Proofs.Ytfiamddinkokbaa.F
end
