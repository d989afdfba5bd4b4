/- Texts joined into one file (wip/tools/pack.py): Fn157, Fn134 -/
import Derived.Test.YtfiamddinkokbaaTA3
set_option linter.unusedVariables false
set_option linter.unusedSimpArgs false
section
namespace Go.Proofs.Ytfiamddinkokbaa.F
open Go.RowKit Go.Proofs.YtfiamddinkokbaaW.PrintWords Go.Proofs.YtfiamddinkokbaaW.PrintLast Go.Proofs.YtfiamddinkokbaaW.PrintMore
attribute [local go_sem] max2_int min2_int max_two min_two max_three min_three max_four min_four
def IsS173 (w0 W : World) (g : Nat) (f0 : List Int) (f1 : List Int) (f2 : Int) (f3 : Int) (f4 : Int) : Prop := ∃ A0 c0,∃ A1 c1,W.heap[g]? = some (.cells #[.slice A0 f0.length c0,.slice A1 f1.length c1,.int .i64 f2,.int .i64 f3,.int .i64 f4] 173 (0,0))∧w0.heap.size≤g∧Kd.C (Kd.int .i64) w0 A0 f0.length f0∧Kd.C (Kd.int .i64) w0 A1 f1.length f1
theorem IsS173.grown {w0 W : World} {g : Nat} {f0 : List Int} {f1 : List Int} {f2 : Int} {f3 : Int} {f4 : Int} {W1 : World} {row : Option Nat} (h : IsS173 w0 W g f0 f1 f2 f3 f4) (hw : W.grownBy W1 row) (hne : some g≠row) : IsS173 w0 W1 g f0 f1 f2 f3 f4 := by
 obtain⟨A0,c0,A1,c1,hb,hg,hr0,hr1⟩:=h
 exact⟨A0,c0,A1,c1,blk_grown hb hw hne,hg,hr0,hr1⟩
theorem IsS173.fresh {w0 W : World} {g : Nat} {f0 : List Int} {f1 : List Int} {f2 : Int} {f3 : Int} {f4 : Int} (h : IsS173 w0 W g f0 f1 f2 f3 f4) : ∀ k,W.heap.size≤k→k≠g := by
 obtain⟨A0,c0,A1,c1,hb,hg,hr0,hr1⟩:=h
 exact Kd.freshB hb
theorem IsS173.kept {w0 W : World} {g : Nat} {f0 : List Int} {f1 : List Int} {f2 : Int} {f3 : Int} {f4 : Int} {W1 : World} {S : Nat→Prop} (h : IsS173 w0 W g f0 f1 f2 f3 f4) (hk : Kept W W1 S) (hne : ¬ S g) : IsS173 w0 W1 g f0 f1 f2 f3 f4 := by
 obtain⟨A0,c0,A1,c1,hb,hg,hr0,hr1⟩:=h
 exact⟨A0,c0,A1,c1,blk_kept hb hk hne,hg,hr0,hr1⟩
theorem IsS173.below {w0 W : World} {g : Nat} {f0 : List Int} {f1 : List Int} {f2 : Int} {f3 : Int} {f4 : Int} {W1 : World} (h : IsS173 w0 W g f0 f1 f2 f3 f4) (hw : Below W.heap.size W W1) : IsS173 w0 W1 g f0 f1 f2 f3 f4 := h.grown (grown_of_below hw none) (by simp)
theorem IsS173.alloc {w0 W : World} {g : Nat} {f0 : List Int} {f1 : List Int} {f2 : Int} {f3 : Int} {f4 : Int} (h : IsS173 w0 W g f0 f1 f2 f3 f4) (o : Obj) : IsS173 w0 (W.alloc o) g f0 f1 f2 f3 f4 := h.below (below_alloc (Below.refl _ _) o)
theorem IsS173.drewN {w0 W : World} {g : Nat} {f0 : List Int} {f1 : List Int} {f2 : Int} {f3 : Int} {f4 : Int} (h : IsS173 w0 W g f0 f1 f2 f3 f4) (m : Nat) : IsS173 w0 (W.drewN m) g f0 f1 f2 f3 f4 := h
theorem IsS173.drew {w0 W : World} {g : Nat} {f0 : List Int} {f1 : List Int} {f2 : Int} {f3 : Int} {f4 : Int} (h : IsS173 w0 W g f0 f1 f2 f3 f4) : IsS173 w0 W.drew g f0 f1 f2 f3 f4 := h
theorem IsS173.at_ {w0 W : World} {g : Nat} {f0 : List Int} {f1 : List Int} {f2 : Int} {f3 : Int} {f4 : Int} {w' : World} {m : Nat} (hq : W.drewN m=w') (h : IsS173 w0 W g f0 f1 f2 f3 f4) : IsS173 w0 w' g f0 f1 f2 f3 f4 := by subst hq;exact IsS173.drewN h m
theorem IsS173.apart {w0 W : World} {g : Nat} {f0 : List Int} {f1 : List Int} {f2 : Int} {f3 : Int} {f4 : Int} {α : Type} {d : Kd α} {e : Nat} {base : Nat} {ok : Nat→Prop} {v : Value} {xs : List α} (h : IsS173 w0 W g f0 f1 f2 f3 f4) (ho : d.R e W base ok v xs) (ht : ∀ q,q∈e::d.E→q≠173) : d.R e W base (fun k=>ok k∧k≠g) v xs := by
 obtain⟨A0,c0,A1,c1,hb,hg,hr0,hr1⟩:=h
 exact Kd.R_types ho hb ht
theorem IsS173.own_ne {w0 W : World} {g : Nat} {f0 : List Int} {f1 : List Int} {f2 : Int} {f3 : Int} {f4 : Int} {α : Type} {d : Kd α} {e : Nat} {base : Nat} {ok : Nat→Prop} {v : Value} {xs : List α} (h : IsS173 w0 W g f0 f1 f2 f3 f4) (ho : d.R e W base ok v xs) (ht : e≠173) : some g≠v.ownBlock := by
 obtain⟨A0,c0,A1,c1,hb,hg,hr0,hr1⟩:=h
 exact Kd.R_ne ho hb ht
theorem IsS173.lt {w0 W : World} {g : Nat} {f0 : List Int} {f1 : List Int} {f2 : Int} {f3 : Int} {f4 : Int} (h : IsS173 w0 W g f0 f1 f2 f3 f4) : g<W.heap.size := by
 obtain⟨A0,c0,A1,c1,hb,hg,hr0,hr1⟩:=h
 exact blk_lt hb
theorem IsS173.ge {w0 W : World} {g : Nat} {f0 : List Int} {f1 : List Int} {f2 : Int} {f3 : Int} {f4 : Int} (h : IsS173 w0 W g f0 f1 f2 f3 f4) : w0.heap.size≤g := by
 obtain⟨A0,c0,A1,c1,hb,hg,hr0,hr1⟩:=h
 exact hg
theorem IsS173.far {w0 W : World} {g : Nat} {f0 : List Int} {f1 : List Int} {f2 : Int} {f3 : Int} {f4 : Int} {p : Addr} (h : IsS173 w0 W g f0 f1 f2 f3 f4) (hne : g≠p.block) (u : Value) : IsS173 w0 (W.setCell p u) g f0 f1 f2 f3 f4 := by
 obtain⟨A0,c0,A1,c1,hb,hg,hr0,hr1⟩:=h
 exact⟨A0,c0,A1,c1,blk_far hb hne u,hg,hr0,hr1⟩
theorem cellS173_0 {W : World} {g : Nat} {A0 : Option Addr} {c0 : Nat} {A1 : Option Addr} {c1 : Nat} {f0 : List Int} {f1 : List Int} {f2 : Int} {f3 : Int} {f4 : Int} (h : W.heap[g]? = some (.cells #[.slice A0 f0.length c0,.slice A1 f1.length c1,.int .i64 f2,.int .i64 f3,.int .i64 f4] 173 (0,0))) : W.cell? ⟨g,0,none⟩=some (.slice A0 f0.length c0) := (blk_cell h 0).trans rfl
theorem cellS173_1 {W : World} {g : Nat} {A0 : Option Addr} {c0 : Nat} {A1 : Option Addr} {c1 : Nat} {f0 : List Int} {f1 : List Int} {f2 : Int} {f3 : Int} {f4 : Int} (h : W.heap[g]? = some (.cells #[.slice A0 f0.length c0,.slice A1 f1.length c1,.int .i64 f2,.int .i64 f3,.int .i64 f4] 173 (0,0))) : W.cell? ⟨g,1,none⟩=some (.slice A1 f1.length c1) := (blk_cell h 1).trans rfl
theorem cellS173_2 {W : World} {g : Nat} {A0 : Option Addr} {c0 : Nat} {A1 : Option Addr} {c1 : Nat} {f0 : List Int} {f1 : List Int} {f2 : Int} {f3 : Int} {f4 : Int} (h : W.heap[g]? = some (.cells #[.slice A0 f0.length c0,.slice A1 f1.length c1,.int .i64 f2,.int .i64 f3,.int .i64 f4] 173 (0,0))) : W.cell? ⟨g,2,none⟩=some (.int .i64 f2) := (blk_cell h 2).trans rfl
theorem IsS173.set_2 {w0 W : World} {g : Nat} {f0 : List Int} {f1 : List Int} {f2 : Int} {f3 : Int} {f4 : Int} (h : IsS173 w0 W g f0 f1 f2 f3 f4) (x : Int) : IsS173 w0 (W.setCell ⟨g,2,none⟩ (.int .i64 x)) g f0 f1 x f3 f4 := by
 obtain⟨A0,c0,A1,c1,hb,hg,hr0,hr1⟩:=h
 exact⟨A0,c0,A1,c1,by simpa using blk_set hb 2 (.int .i64 x),hg,hr0,hr1⟩
theorem cellS173_3 {W : World} {g : Nat} {A0 : Option Addr} {c0 : Nat} {A1 : Option Addr} {c1 : Nat} {f0 : List Int} {f1 : List Int} {f2 : Int} {f3 : Int} {f4 : Int} (h : W.heap[g]? = some (.cells #[.slice A0 f0.length c0,.slice A1 f1.length c1,.int .i64 f2,.int .i64 f3,.int .i64 f4] 173 (0,0))) : W.cell? ⟨g,3,none⟩=some (.int .i64 f3) := (blk_cell h 3).trans rfl
theorem IsS173.set_3 {w0 W : World} {g : Nat} {f0 : List Int} {f1 : List Int} {f2 : Int} {f3 : Int} {f4 : Int} (h : IsS173 w0 W g f0 f1 f2 f3 f4) (x : Int) : IsS173 w0 (W.setCell ⟨g,3,none⟩ (.int .i64 x)) g f0 f1 f2 x f4 := by
 obtain⟨A0,c0,A1,c1,hb,hg,hr0,hr1⟩:=h
 exact⟨A0,c0,A1,c1,by simpa using blk_set hb 3 (.int .i64 x),hg,hr0,hr1⟩
theorem cellS173_4 {W : World} {g : Nat} {A0 : Option Addr} {c0 : Nat} {A1 : Option Addr} {c1 : Nat} {f0 : List Int} {f1 : List Int} {f2 : Int} {f3 : Int} {f4 : Int} (h : W.heap[g]? = some (.cells #[.slice A0 f0.length c0,.slice A1 f1.length c1,.int .i64 f2,.int .i64 f3,.int .i64 f4] 173 (0,0))) : W.cell? ⟨g,4,none⟩=some (.int .i64 f4) := (blk_cell h 4).trans rfl
theorem IsS173.set_4 {w0 W : World} {g : Nat} {f0 : List Int} {f1 : List Int} {f2 : Int} {f3 : Int} {f4 : Int} (h : IsS173 w0 W g f0 f1 f2 f3 f4) (x : Int) : IsS173 w0 (W.setCell ⟨g,4,none⟩ (.int .i64 x)) g f0 f1 f2 f3 x := by
 obtain⟨A0,c0,A1,c1,hb,hg,hr0,hr1⟩:=h
 exact⟨A0,c0,A1,c1,by simpa using blk_set hb 4 (.int .i64 x),hg,hr0,hr1⟩
theorem IsS173.new (w0 W : World) (A0 : Option Addr) (c0 : Nat) (A1 : Option Addr) (c1 : Nat) (f0 : List Int) (f1 : List Int) (f2 : Int) (f3 : Int) (f4 : Int) (hB : Below w0.heap.size w0 W) (hr0 : Kd.C (Kd.int .i64) w0 A0 f0.length f0) (hr1 : Kd.C (Kd.int .i64) w0 A1 f1.length f1) : IsS173 w0 (W.alloc (.cells #[.slice A0 f0.length c0,.slice A1 f1.length c1,.int .i64 f2,.int .i64 f3,.int .i64 f4] 173)) W.heap.size f0 f1 f2 f3 f4 := ⟨A0,c0,A1,c1,by simpa using heap_alloc_new W _,hB.size,hr0,hr1⟩
def chunk_sweep_together.f (s0_0 : List Int) (s0_1 : List Int) (s0_2 : Int) (s0_3 : Int) (s0_4 : Int) (a1 : Int) : Option (Bool×Int×Int×Int) := if (wrap64 (s0_2+a1))<(s0_0.length : Int) then (if 0≤(wrap64 (s0_2+a1)) then (if (rd s0_0 (wrap64 (s0_2+a1)))=(wrap64 (s0_3+a1)) then (if (wrap64 (s0_2+a1))<(s0_1.length : Int) then (some (((rd s0_1 (wrap64 (s0_2+a1)))==(wrap64 (s0_4+a1))),s0_2,s0_3,s0_4)) else (none)) else (some (false,s0_2,s0_3,s0_4))) else (none)) else (some (false,s0_2,s0_3,s0_4))
set_option maxHeartbeats 8000000 in
set_option maxRecDepth 100000 in
theorem chunk_sweep_together.calls (g : Nat) (s0_0 : List Int) (s0_1 : List Int) (s0_2 : Int) (s0_3 : Int) (s0_4 : Int) (a1 : Int) (r1 : Bool) (r2 : Int) (r3 : Int) (r4 : Int) (w0 w : World) (hI : IsS173 w0 w g s0_0 s0_1 s0_2 s0_3 s0_4) (hB : Below w0.heap.size w0 w) (h : chunk_sweep_together.f s0_0 s0_1 s0_2 s0_3 s0_4 a1=some (r1,r2,r3,r4)) :
  Calls Try.prog 157 #[.pointer (some ⟨g,0,none⟩),.int .i64 a1] w fun e w'=>e = .returned (.bool r1)∧IsS173 w0 w' g s0_0 s0_1 r2 r3 r4∧Below w0.heap.size w0 w'∧KeepBut w w' g none:=by
 have HI0:=Aside0.mk hI
 have HK:=Aside0.mk (KeepBut.refl w g none)
 have HL:=Aside0.mk hB.size
 clear hI
 have HW0:=Aside0.mk hB.size
 have HB:=Aside0.mk hB
 clear hB
 have H:(if (wrap64 (s0_2+a1))<(s0_0.length:Int) then (if 0≤(wrap64 (s0_2+a1)) then (if (rd s0_0 (wrap64 (s0_2+a1)))=(wrap64 (s0_3+a1)) then (if (wrap64 (s0_2+a1))<(s0_1.length:Int) then (some (((rd s0_1 (wrap64 (s0_2+a1)))==(wrap64 (s0_4+a1))),s0_2,s0_3,s0_4)) else (none)) else (some (false,s0_2,s0_3,s0_4))) else (none)) else (some (false,s0_2,s0_3,s0_4)))=some (r1,r2,r3,r4):=h
 clear h
 by_cases c3:(wrap64 (s0_2+a1))<(s0_0.length:Int)
 ·rw [if_pos c3] at H
  have c3b0:decide ((wrap64 (s0_2+a1))<(s0_0.length:Int))=true:=decide_eq_true c3
  clear c3
  obtain⟨ji4,hji4⟩:∃ j_:Int,(wrap64 (s0_2+a1))=j_:=⟨_,rfl⟩
  replace H:(if 0≤(ji4) then (if (rd s0_0 (ji4))=(wrap64 (s0_3+a1)) then (if (ji4)<(s0_1.length:Int) then (some (((rd s0_1 (ji4))==(wrap64 (s0_4+a1))),s0_2,s0_3,s0_4)) else (none)) else (some (false,s0_2,s0_3,s0_4))) else (none))=some (r1,r2,r3,r4):=by first|(rw [hji4] at H;exact H)|(simp only [hji4] at H ⊢;exact H)
  (try rw [hji4] at c3b0)
  have hji4w:(IntKind.i64.wrap (s0_2+a1))=ji4:=(i64_w _).trans hji4
  by_cases c5:0≤(ji4)
  ·rw [if_pos c5] at H
   have c5b0:decide (0≤(ji4))=true:=decide_eq_true c5
   clear c5
   by_cases c6:(rd s0_0 (ji4))=(wrap64 (s0_3+a1))
   ·rw [if_pos c6] at H
    have c6b0:((rd s0_0 (ji4))==(wrap64 (s0_3+a1)))=true:=beq_iff_eq.mpr c6
    have c6b1:((rd s0_0 (ji4)) != (wrap64 (s0_3+a1)))=false:=bne_eq_false_iff_eq.mpr c6
    clear c6
    by_cases c7:(ji4)<(s0_1.length:Int)
    ·rw [if_pos c7] at H
     have c7b0:decide ((ji4)<(s0_1.length:Int))=true:=decide_eq_true c7
     clear c7
     simp only [Option.some.injEq,Prod.mk.injEq] at H
     obtain⟨rfl,rfl,rfl,rfl⟩:=H
     obtain⟨ASz8_0,cSz8_0,ASz8_1,cSz8_1,HGz8,hgz8,HSz8_0,HSz8_1⟩:=HI0.out
     have hcz8_0:=cellS173_0 HGz8
     have hcz8_1:=cellS173_1 HGz8
     have hcz8_2:=cellS173_2 HGz8
     have hcz8_3:=cellS173_3 HGz8
     have hcz8_4:=cellS173_4 HGz8
     have hfz8_2:=blk_frozen HGz8 2
     have hfz8_3:=blk_frozen HGz8 3
     have hfz8_4:=blk_frozen HGz8 4
     clear HGz8 hgz8
     have p546:0≤((ji4):Int):=of_decide_eq_true (by first|(with_reducible assumption)|assumption)
     have q546:(ji4)<(s0_0.length:Int):=of_decide_eq_true (by first|(with_reducible assumption)|assumption)
     obtain⟨ad546,e546,hx546_0⟩:=Kd.at_int HSz8_0 (ji4) p546 q546
     cases e546
     replace hx546_0:=pw_cell_below HB.out hx546_0
     replace p546:=eq_true p546
     replace q546:=eq_true q546
     have p547:0≤((ji4):Int):=of_decide_eq_true (by first|(with_reducible assumption)|assumption)
     have q547:(ji4)<(s0_1.length:Int):=of_decide_eq_true (by first|(with_reducible assumption)|assumption)
     obtain⟨ad547,e547,hx547_0⟩:=Kd.at_int HSz8_1 (ji4) p547 q547
     cases e547
     replace hx547_0:=pw_cell_below HB.out hx547_0
     replace p547:=eq_true p547
     replace q547:=eq_true q547
     go_enter Try.func157,Try.ntmps157
     go_wp2
     repeat (go_quiet (fail);try go_wp2)
     go_ret
     exact⟨by first|rfl|(simp [errW_none,errW_some]<;>rfl)|(simp only [←hji4];first|rfl|(simp [errW_none,errW_some]<;>rfl))|(simp [*,errW_none,errW_some]<;>rfl),by repeat (first|(with_reducible first|exact HI0.out|apply IsS173.alloc|apply IsS173.drewN|apply IsS173.drew|apply IsS173.set_2|apply IsS173.set_3|apply IsS173.set_4)|exact HI0.out),by repeat (first|(with_reducible first|exact HB.out|apply below_alloc|apply pw_below_drewN|apply below_drew1|refine below_set ?_ (IsS173.ge HI0.out))|exact HB.out),by repeat (first|(with_reducible first|exact HK.out|apply KeepBut.set_|apply keep_drewN|apply keep_drew|apply keep_alloc)|exact HK.out)⟩
    ·rw [if_neg c7] at H
     exact absurd H (by simp)
   ·rw [if_neg c6] at H
    have c6b0:((rd s0_0 (ji4))==(wrap64 (s0_3+a1)))=false:=beq_eq_false_iff_ne.mpr c6
    have c6b1:((rd s0_0 (ji4)) != (wrap64 (s0_3+a1)))=true:=bne_iff_ne.mpr c6
    simp only [Option.some.injEq,Prod.mk.injEq] at H
    obtain⟨rfl,rfl,rfl,rfl⟩:=H
    obtain⟨ASz9_0,cSz9_0,ASz9_1,cSz9_1,HGz9,hgz9,HSz9_0,HSz9_1⟩:=HI0.out
    have hcz9_0:=cellS173_0 HGz9
    have hcz9_1:=cellS173_1 HGz9
    have hcz9_2:=cellS173_2 HGz9
    have hcz9_3:=cellS173_3 HGz9
    have hcz9_4:=cellS173_4 HGz9
    have hfz9_2:=blk_frozen HGz9 2
    have hfz9_3:=blk_frozen HGz9 3
    have hfz9_4:=blk_frozen HGz9 4
    clear HGz9 hgz9
    have p546:0≤((ji4):Int):=of_decide_eq_true (by first|(with_reducible assumption)|assumption)
    have q546:(ji4)<(s0_0.length:Int):=of_decide_eq_true (by first|(with_reducible assumption)|assumption)
    obtain⟨ad546,e546,hx546_0⟩:=Kd.at_int HSz9_0 (ji4) p546 q546
    cases e546
    replace hx546_0:=pw_cell_below HB.out hx546_0
    replace p546:=eq_true p546
    replace q546:=eq_true q546
    go_enter Try.func157,Try.ntmps157
    go_wp2
    repeat (go_quiet (fail);try go_wp2)
    go_ret
    exact⟨by first|rfl|(simp [errW_none,errW_some]<;>rfl)|(simp only [←hji4];first|rfl|(simp [errW_none,errW_some]<;>rfl))|(simp [*,errW_none,errW_some]<;>rfl),by repeat (first|(with_reducible first|exact HI0.out|apply IsS173.alloc|apply IsS173.drewN|apply IsS173.drew|apply IsS173.set_2|apply IsS173.set_3|apply IsS173.set_4)|exact HI0.out),by repeat (first|(with_reducible first|exact HB.out|apply below_alloc|apply pw_below_drewN|apply below_drew1|refine below_set ?_ (IsS173.ge HI0.out))|exact HB.out),by repeat (first|(with_reducible first|exact HK.out|apply KeepBut.set_|apply keep_drewN|apply keep_drew|apply keep_alloc)|exact HK.out)⟩
  ·rw [if_neg c5] at H
   exact absurd H (by simp)
 ·rw [if_neg c3] at H
  have c3b0:decide ((wrap64 (s0_2+a1))<(s0_0.length:Int))=false:=decide_eq_false c3
  clear c3
  simp only [Option.some.injEq,Prod.mk.injEq] at H
  obtain⟨rfl,rfl,rfl,rfl⟩:=H
  obtain⟨ASz10_0,cSz10_0,ASz10_1,cSz10_1,HGz10,hgz10,HSz10_0,HSz10_1⟩:=HI0.out
  have hcz10_0:=cellS173_0 HGz10
  have hcz10_1:=cellS173_1 HGz10
  have hcz10_2:=cellS173_2 HGz10
  have hcz10_3:=cellS173_3 HGz10
  have hcz10_4:=cellS173_4 HGz10
  have hfz10_2:=blk_frozen HGz10 2
  have hfz10_3:=blk_frozen HGz10 3
  have hfz10_4:=blk_frozen HGz10 4
  clear HGz10 hgz10
  go_enter Try.func157,Try.ntmps157
  go_wp2
  repeat (go_quiet (fail);try go_wp2)
  go_ret
  exact⟨by first|rfl|(simp [errW_none,errW_some]<;>rfl)|(simp [*,errW_none,errW_some]<;>rfl),by repeat (first|(with_reducible first|exact HI0.out|apply IsS173.alloc|apply IsS173.drewN|apply IsS173.drew|apply IsS173.set_2|apply IsS173.set_3|apply IsS173.set_4)|exact HI0.out),by repeat (first|(with_reducible first|exact HB.out|apply below_alloc|apply pw_below_drewN|apply below_drew1|refine below_set ?_ (IsS173.ge HI0.out))|exact HB.out),by repeat (first|(with_reducible first|exact HK.out|apply KeepBut.set_|apply keep_drewN|apply keep_drew|apply keep_alloc)|exact HK.out)⟩
def chunk_sweep_stable.l0 : Nat→Int→List Int→List Int→Int→Int→Int→Option (Int×Int×Int×Int)
 | 0,_,_,_,_,_,_=>none
 | k+1,x3,x1000,x1001,x1002,x1003,x1004=>(chunk_sweep_together.f x1000 x1001 x1002 x1003 x1004 x3).bind fun bt548=>(if bt548.1=true then (chunk_sweep_stable.l0 k (wrap64 (x3+1)) x1000 x1001 bt548.2.1 bt548.2.2.1 bt548.2.2.2) else (some (x3,bt548.2.1,bt548.2.2.1,bt548.2.2.2)))
def chunk_sweep_stable.f (k : Nat) (s0_0 : List Int) (s0_1 : List Int) (s0_2 : Int) (s0_3 : Int) (s0_4 : Int) : Option (Int×Int×Int×Int) := chunk_sweep_stable.l0 k 0 s0_0 s0_1 s0_2 s0_3 s0_4
theorem chunk_sweep_stable.mono_l : ∀ k,(∀ y0 y1 y2 y3 y4 y5,LeO (chunk_sweep_stable.l0 k y0 y1 y2 y3 y4 y5) (chunk_sweep_stable.l0 (k+1) y0 y1 y2 y3 y4 y5))
 | 0=>fun _ _ _ _ _ _ r h=>by simp [chunk_sweep_stable.l0] at h
 | k+1=>by
  have ih0:=chunk_sweep_stable.mono_l k
  ·intro y0 y1 y2 y3 y4 y5
   unfold chunk_sweep_stable.l0
   repeat' first
   | (with_reducible exact ih0 _ _ _ _ _ _)
   | (with_reducible exact LeO.refl _)
   | (with_reducible exact LeO.none _)
   | (with_reducible refine LeO.ite ?_ ?_)
   | (with_reducible refine LeO.bind ?_ (fun _=>?_))
   | exact ih0 _ _ _ _ _ _
   | exact LeO.none _
   | refine LeO.ite ?_ ?_
   | refine LeO.bind ?_ (fun _=>?_)
theorem chunk_sweep_stable.mono : ∀ a0 a1 a2 a3 a4 k,LeO (chunk_sweep_stable.f k a0 a1 a2 a3 a4) (chunk_sweep_stable.f (k+1) a0 a1 a2 a3 a4) := by
 intro a0 a1 a2 a3 a4 k
 have ih0:=chunk_sweep_stable.mono_l k
 unfold chunk_sweep_stable.f
 repeat' first
   | (with_reducible exact ih0 _ _ _ _ _ _)
   | (with_reducible exact LeO.refl _)
   | (with_reducible exact LeO.none _)
   | (with_reducible refine LeO.ite ?_ ?_)
   | (with_reducible refine LeO.bind ?_ (fun _=>?_))
   | exact ih0 _ _ _ _ _ _
   | exact LeO.none _
   | refine LeO.ite ?_ ?_
   | refine LeO.bind ?_ (fun _=>?_)
set_option maxHeartbeats 8000000 in
set_option maxRecDepth 100000 in
theorem chunk_sweep_stable.calls (k : Nat) (g : Nat) (s0_0 : List Int) (s0_1 : List Int) (s0_2 : Int) (s0_3 : Int) (s0_4 : Int) (r1 : Int) (r2 : Int) (r3 : Int) (r4 : Int) (w0 w : World) (hI : IsS173 w0 w g s0_0 s0_1 s0_2 s0_3 s0_4) (hB : Below w0.heap.size w0 w) (h : chunk_sweep_stable.f k s0_0 s0_1 s0_2 s0_3 s0_4=some (r1,r2,r3,r4)) :
  Calls Try.prog 134 #[.pointer (some ⟨g,0,none⟩)] w fun e w'=>e = .returned (.int .i64 r1)∧IsS173 w0 w' g s0_0 s0_1 r2 r3 r4∧Below w0.heap.size w0 w'∧KeepBut w w' g none:=by
 have HI0:=Aside0.mk hI
 have HK:=Aside0.mk (KeepBut.refl w g none)
 have HL:=Aside0.mk hB.size
 clear hI
 have HW0:=Aside0.mk hB.size
 have HB:=Aside0.mk hB
 clear hB
 have H:(chunk_sweep_stable.l0 k 0 s0_0 s0_1 s0_2 s0_3 s0_4)=some (r1,r2,r3,r4):=h
 clear h
 have H':=Aside0.mk H
 clear H
 go_enter Try.func134,Try.ntmps134
 go_wp2
 go_loopg [3] k (fun kq v3 w'=>∃ (x3_1:Int) (x1002_1:Int) (x1003_1:Int) (x1004_1:Int),v3 = .int .i64 x3_1∧Aside0 (chunk_sweep_stable.l0 kq x3_1 s0_0 s0_1 x1002_1 x1003_1 x1004_1=some (r1,r2,r3,r4))∧Aside0 (kq≤k)∧Aside0 (IsS173 w0 w' g s0_0 s0_1 x1002_1 x1003_1 x1004_1)∧Aside0 (KeepBut w w' g none)∧Aside0 (Below w0.heap.size w0 w'))
 case atStart=>exact⟨(0),(s0_2),(s0_3),(s0_4),(by first|rfl|(simp;done)|(simp [*];done)),H',⟨Nat.le_refl _⟩,⟨by repeat (first|(with_reducible first|exact HI0.out|apply IsS173.alloc|apply IsS173.drewN|apply IsS173.drew|apply IsS173.set_2|apply IsS173.set_3|apply IsS173.set_4)|exact HI0.out)⟩,⟨by repeat (first|(with_reducible first|exact HK.out|apply KeepBut.set_|apply keep_drewN|apply keep_drew|apply keep_alloc)|exact HK.out)⟩,⟨by repeat (first|(with_reducible first|exact HB.out|apply below_alloc|apply pw_below_drewN|apply below_drew1|refine below_set ?_ (IsS173.ge HI0.out))|exact HB.out)⟩⟩
 case round =>
  clear H'
  try clear c1
  obtain⟨x3_1,x1002_1,x1003_1,x1004_1,rfl,HA,HK1,HI0,HK,HB⟩:=hrel
  cases gk with
  | zero=>exact absurd HA.out (by simp [chunk_sweep_stable.l0])
  | succ k1 =>
   have H:=HA.out
   clear HA
   simp only [chunk_sweep_stable.l0] at H
   replace H:=Option.bind_eq_some_iff.mp H
   obtain⟨⟨t548,t549,t550,t551⟩,A20,H⟩:=H
   replace H:(if t548=true then (chunk_sweep_stable.l0 k1 (wrap64 (x3_1+1)) s0_0 s0_1 t549 t550 t551) else (some (x3_1,t549,t550,t551)))=some (r1,r2,r3,r4):=H
   have A2:=Aside0.mk A20
   clear A20
   by_cases c3:t548=true
   ·subst c3
    have H1:(chunk_sweep_stable.l0 k1 (wrap64 (x3_1+1)) s0_0 s0_1 t549 t550 t551)=some (r1,r2,r3,r4):=by rw [if_pos rfl] at H;exact H
    clear H
    have H:=H1
    clear H1
    have H':=Aside0.mk H
    clear H
    go_wp2_with (first|((with_reducible refine gate_callee (f:=157) rfl ?_);refine goesL_ (some 6) rfl rfl Try.func157 (by kernel_rfl) rfl #[.pointer (some ⟨g,0,none⟩),.int .i64 x3_1] rfl (by (try simp only [List.map_toArray,List.map_cons,List.map_nil]);first|done|rfl|(simp only [List.length_drop,List.length_take];rfl)) ?_;(with_reducible refine (chunk_sweep_together.calls g s0_0 s0_1 x1002_1 x1003_1 x1004_1 x3_1 true t549 t550 t551 w0 _ ?side1 ?side2 A2.out).mono ?_);(case side1=>repeat (first|(with_reducible first|exact HI0.out|apply IsS173.alloc|apply IsS173.drewN|apply IsS173.drew|apply IsS173.set_2|apply IsS173.set_3|apply IsS173.set_4)|exact HI0.out));(case side2=>repeat (first|(with_reducible first|exact HB.out|apply below_alloc|apply pw_below_drewN|apply below_drew1|refine below_set ?_ (IsS173.ge HI0.out))|exact HB.out));rintro e w4 ⟨rfl,hi,hb,hk⟩;refine⟨_,rfl,?_⟩;have n0_:=Aside0.mk (KeepBut.trans (by repeat (first|(with_reducible first|exact HK.out|apply KeepBut.set_|apply keep_drewN|apply keep_drew|apply keep_alloc)|exact HK.out)) hk (.inl rfl));have n1_:=Aside0.mk (hb);have n2_:=Aside0.mk (hi);clear HK;clear HB;clear HI0;have HK:=n0_;have HB:=n1_;have HI0:=n2_;clear n0_ n1_ n2_;(try clear hb);(try clear hb2);(try clear hk);(try clear hi)))
    go_roundg k1
    case measure=>have:=HK1.out;omega
    case rel=>exact⟨(wrap64 (x3_1+1)),(t549),(t550),(t551),(by first|rfl|(simp;done)|(simp [*];done)),H',⟨by have:=HK1.out;omega⟩,⟨by repeat (first|(with_reducible first|exact HI0.out|apply IsS173.alloc|apply IsS173.drewN|apply IsS173.drew|apply IsS173.set_2|apply IsS173.set_3|apply IsS173.set_4)|exact HI0.out)⟩,⟨by repeat (first|(with_reducible first|exact HK.out|apply KeepBut.set_|apply keep_drewN|apply keep_drew|apply keep_alloc)|exact HK.out)⟩,⟨by repeat (first|(with_reducible first|exact HB.out|apply below_alloc|apply pw_below_drewN|apply below_drew1|refine below_set ?_ (IsS173.ge HI0.out))|exact HB.out)⟩⟩
   ·replace c3:=Bool.eq_false_iff.mpr c3
    subst c3
    have H1:(some (x3_1,t549,t550,t551))=some (r1,r2,r3,r4):=by rw [if_neg (show ¬ (false=true) by decide)] at H;exact H
    clear H
    have H:=H1
    clear H1
    simp only [Option.some.injEq,Prod.mk.injEq] at H
    obtain⟨rfl,rfl,rfl,rfl⟩:=H
    go_wp2_with (first|((with_reducible refine gate_callee (f:=157) rfl ?_);refine goesL_ (some 6) rfl rfl Try.func157 (by kernel_rfl) rfl #[.pointer (some ⟨g,0,none⟩),.int .i64 x3_1] rfl (by (try simp only [List.map_toArray,List.map_cons,List.map_nil]);first|done|rfl|(simp only [List.length_drop,List.length_take];rfl)) ?_;(with_reducible refine (chunk_sweep_together.calls g s0_0 s0_1 x1002_1 x1003_1 x1004_1 x3_1 false t549 t550 t551 w0 _ ?side1 ?side2 A2.out).mono ?_);(case side1=>repeat (first|(with_reducible first|exact HI0.out|apply IsS173.alloc|apply IsS173.drewN|apply IsS173.drew|apply IsS173.set_2|apply IsS173.set_3|apply IsS173.set_4)|exact HI0.out));(case side2=>repeat (first|(with_reducible first|exact HB.out|apply below_alloc|apply pw_below_drewN|apply below_drew1|refine below_set ?_ (IsS173.ge HI0.out))|exact HB.out));rintro e w5 ⟨rfl,hi,hb,hk⟩;refine⟨_,rfl,?_⟩;have n0_:=Aside0.mk (KeepBut.trans (by repeat (first|(with_reducible first|exact HK.out|apply KeepBut.set_|apply keep_drewN|apply keep_drew|apply keep_alloc)|exact HK.out)) hk (.inl rfl));have n1_:=Aside0.mk (hb);have n2_:=Aside0.mk (hi);clear HK;clear HB;clear HI0;have HK:=n0_;have HB:=n1_;have HI0:=n2_;clear n0_ n1_ n2_;(try clear hb);(try clear hb2);(try clear hk);(try clear hi)))
    go_ret
    exact⟨by first|rfl|(simp [errW_none,errW_some]<;>rfl)|(simp [*,errW_none,errW_some]<;>rfl),by repeat (first|(with_reducible first|exact HI0.out|apply IsS173.alloc|apply IsS173.drewN|apply IsS173.drew|apply IsS173.set_2|apply IsS173.set_3|apply IsS173.set_4)|exact HI0.out),by repeat (first|(with_reducible first|exact HB.out|apply below_alloc|apply pw_below_drewN|apply below_drew1|refine below_set ?_ (IsS173.ge HI0.out))|exact HB.out),by repeat (first|(with_reducible first|exact HK.out|apply KeepBut.set_|apply keep_drewN|apply keep_drew|apply keep_alloc)|exact HK.out)⟩
end Go.Proofs.Ytfiamddinkokbaa.F
end
