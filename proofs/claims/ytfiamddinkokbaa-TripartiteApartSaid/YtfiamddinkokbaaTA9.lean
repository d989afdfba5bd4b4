/- Texts joined into one file (wip/tools/pack.py): Fn135, ChunkOf -/
import Derived.Test.YtfiamddinkokbaaTA3
import Derived.Test.YtfiamddinkokbaaTA8
import Derived.Test.YtfiamddinkokbaaTA7
import Derived.Deep.RegionHeld3
set_option linter.unusedVariables false
set_option linter.unusedSimpArgs false
section
namespace Go.Proofs.Ytfiamddinkokbaa.F
open Go.RowKit Go.Proofs.YtfiamddinkokbaaW.PrintWords Go.Proofs.YtfiamddinkokbaaW.PrintLast Go.Proofs.YtfiamddinkokbaaW.PrintMore
attribute [local go_sem] max2_int min2_int max_two min_two max_three min_three max_four min_four
def chunk_sweep_next.l0 : Nat→Int→List Int→List Int→Int→Int→Int→Option (Int×Int×Int×Int)
 | 0,_,_,_,_,_,_=>none
 | k+1,x3,x1000,x1001,x1002,x1003,x1004=>if x3<(x1000.length:Int) then (if 0≤x3 then (if (rd x1000 x3)<x1003 then (chunk_sweep_next.l0 k (wrap64 (x3+1)) x1000 x1001 x1002 x1003 x1004) else (if x3<(x1001.length:Int) then (if (rd x1001 x3)<x1004 then (chunk_sweep_next.l0 k (wrap64 (x3+1)) x1000 x1001 x1002 x1003 x1004) else (some (x3,x1002,x1003,x1004))) else (none))) else (none)) else (some (x3,x1002,x1003,x1004))
def chunk_sweep_next.f (k : Nat) (s0_0 : List Int) (s0_1 : List Int) (s0_2 : Int) (s0_3 : Int) (s0_4 : Int) : Option (Int×Int×Int×Int) := chunk_sweep_next.l0 k s0_2 s0_0 s0_1 s0_2 s0_3 s0_4
theorem chunk_sweep_next.mono_l : ∀ k,(∀ y0 y1 y2 y3 y4 y5,LeO (chunk_sweep_next.l0 k y0 y1 y2 y3 y4 y5) (chunk_sweep_next.l0 (k+1) y0 y1 y2 y3 y4 y5))
 | 0=>fun _ _ _ _ _ _ r h=>by simp [chunk_sweep_next.l0] at h
 | k+1=>by
  have ih0:=chunk_sweep_next.mono_l k
  ·intro y0 y1 y2 y3 y4 y5
   unfold chunk_sweep_next.l0
   repeat' first
   | (with_reducible exact ih0 _ _ _ _ _ _)
   | (with_reducible exact LeO.refl _)
   | (with_reducible exact LeO.none _)
   | (with_reducible refine LeO.ite ?_ ?_)
   | (with_reducible refine LeO.bind ?_ (fun _=>?_))
   | exact ih0 _ _ _ _ _ _
   | exact LeO.none _
   | refine LeO.ite ?_ ?_
   | refine LeO.bind ?_ (fun _=>?_)
theorem chunk_sweep_next.mono : ∀ a0 a1 a2 a3 a4 k,LeO (chunk_sweep_next.f k a0 a1 a2 a3 a4) (chunk_sweep_next.f (k+1) a0 a1 a2 a3 a4) := by
 intro a0 a1 a2 a3 a4 k
 have ih0:=chunk_sweep_next.mono_l k
 unfold chunk_sweep_next.f
 repeat' first
   | (with_reducible exact ih0 _ _ _ _ _ _)
   | (with_reducible exact LeO.refl _)
   | (with_reducible exact LeO.none _)
   | (with_reducible refine LeO.ite ?_ ?_)
   | (with_reducible refine LeO.bind ?_ (fun _=>?_))
   | exact ih0 _ _ _ _ _ _
   | exact LeO.none _
   | refine LeO.ite ?_ ?_
   | refine LeO.bind ?_ (fun _=>?_)
set_option maxHeartbeats 8000000 in
set_option maxRecDepth 100000 in
theorem chunk_sweep_next.calls (k : Nat) (g : Nat) (s0_0 : List Int) (s0_1 : List Int) (s0_2 : Int) (s0_3 : Int) (s0_4 : Int) (r1 : Int) (r2 : Int) (r3 : Int) (r4 : Int) (w0 w : World) (hI : IsS173 w0 w g s0_0 s0_1 s0_2 s0_3 s0_4) (hB : Below w0.heap.size w0 w) (h : chunk_sweep_next.f k s0_0 s0_1 s0_2 s0_3 s0_4=some (r1,r2,r3,r4)) :
  Calls Try.prog 135 #[.pointer (some ⟨g,0,none⟩)] w fun e w'=>e = .returned (.int .i64 r1)∧IsS173 w0 w' g s0_0 s0_1 r2 r3 r4∧Below w0.heap.size w0 w'∧KeepBut w w' g none:=by
 have HI0:=Aside0.mk hI
 have HK:=Aside0.mk (KeepBut.refl w g none)
 have HL:=Aside0.mk hB.size
 clear hI
 have HW0:=Aside0.mk hB.size
 have HB:=Aside0.mk hB
 clear hB
 have H:(chunk_sweep_next.l0 k s0_2 s0_0 s0_1 s0_2 s0_3 s0_4)=some (r1,r2,r3,r4):=h
 clear h
 have H':=Aside0.mk H
 clear H
 obtain⟨ASz2_0,cSz2_0,ASz2_1,cSz2_1,HGz2,hgz2,HSz2_0,HSz2_1⟩:=HI0.out
 have hcz2_0:=cellS173_0 HGz2
 have hcz2_1:=cellS173_1 HGz2
 have hcz2_2:=cellS173_2 HGz2
 have hcz2_3:=cellS173_3 HGz2
 have hcz2_4:=cellS173_4 HGz2
 have hfz2_2:=blk_frozen HGz2 2
 have hfz2_3:=blk_frozen HGz2 3
 have hfz2_4:=blk_frozen HGz2 4
 clear HGz2 hgz2
 go_enter Try.func135,Try.ntmps135
 go_wp2
 repeat (go_quiet (fail);try go_wp2)
 go_loopg [3] k (fun kq v3 w'=>∃ (x3_1:Int),v3 = .int .i64 x3_1∧Aside0 (chunk_sweep_next.l0 kq x3_1 s0_0 s0_1 s0_2 s0_3 s0_4=some (r1,r2,r3,r4))∧Aside0 (kq≤k)∧Aside0 (IsS173 w0 w' g s0_0 s0_1 s0_2 s0_3 s0_4)∧Aside0 (KeepBut w w' g none)∧Aside0 (Below w0.heap.size w0 w'))
 case atStart=>exact⟨(s0_2),(by first|rfl|(simp;done)|(simp [*];done)),H',⟨Nat.le_refl _⟩,⟨by repeat (first|(with_reducible first|exact HI0.out|apply IsS173.alloc|apply IsS173.drewN|apply IsS173.drew|apply IsS173.set_2|apply IsS173.set_3|apply IsS173.set_4)|exact HI0.out)⟩,⟨by repeat (first|(with_reducible first|exact HK.out|apply KeepBut.set_|apply keep_drewN|apply keep_drew|apply keep_alloc)|exact HK.out)⟩,⟨by repeat (first|(with_reducible first|exact HB.out|apply below_alloc|apply pw_below_drewN|apply below_drew1|refine below_set ?_ (IsS173.ge HI0.out))|exact HB.out)⟩⟩
 case round =>
  clear H'
  try clear c1
  try clear p2
  try clear hcz2_0
  try clear hcz2_1
  try clear hcz2_2
  try clear hcz2_3
  try clear hcz2_4
  try clear hfz2_2
  try clear hfz2_3
  try clear hfz2_4
  obtain⟨x3_1,rfl,HA,HK1,HI0,HK,HB⟩:=hrel
  cases gk with
  | zero=>exact absurd HA.out (by simp [chunk_sweep_next.l0])
  | succ k1 =>
   have H:=HA.out
   clear HA
   simp only [chunk_sweep_next.l0] at H
   by_cases c3:x3_1<(s0_0.length:Int)
   ·rw [if_pos c3] at H
    have c3b0:decide (x3_1<(s0_0.length:Int))=true:=decide_eq_true c3
    clear c3
    by_cases c4:0≤x3_1
    ·rw [if_pos c4] at H
     have c4b0:decide (0≤x3_1)=true:=decide_eq_true c4
     clear c4
     by_cases c5:(rd s0_0 x3_1)<s0_3
     ·rw [if_pos c5] at H
      have c5b0:decide ((rd s0_0 x3_1)<s0_3)=true:=decide_eq_true c5
      clear c5
      have H':=Aside0.mk H
      clear H
      obtain⟨ASz6_0,cSz6_0,ASz6_1,cSz6_1,HGz6,hgz6,HSz6_0,HSz6_1⟩:=HI0.out
      have hcz6_0:=cellS173_0 HGz6
      have hcz6_1:=cellS173_1 HGz6
      have hcz6_2:=cellS173_2 HGz6
      have hcz6_3:=cellS173_3 HGz6
      have hcz6_4:=cellS173_4 HGz6
      have hfz6_2:=blk_frozen HGz6 2
      have hfz6_3:=blk_frozen HGz6 3
      have hfz6_4:=blk_frozen HGz6 4
      clear HGz6 hgz6
      have p552:0≤(x3_1:Int):=of_decide_eq_true (by first|(with_reducible assumption)|assumption)
      have q552:x3_1<(s0_0.length:Int):=of_decide_eq_true (by first|(with_reducible assumption)|assumption)
      obtain⟨ad552,e552,hx552_0⟩:=Kd.at_int HSz6_0 x3_1 p552 q552
      cases e552
      replace hx552_0:=pw_cell_below HB.out hx552_0
      replace p552:=eq_true p552
      replace q552:=eq_true q552
      go_wp2
      repeat (go_quiet (fail);try go_wp2)
      go_roundg k1
      case measure=>have:=HK1.out;omega
      case rel=>exact⟨(wrap64 (x3_1+1)),(by first|rfl|(simp;done)|(simp [*];done)),H',⟨by have:=HK1.out;omega⟩,⟨by repeat (first|(with_reducible first|exact HI0.out|apply IsS173.alloc|apply IsS173.drewN|apply IsS173.drew|apply IsS173.set_2|apply IsS173.set_3|apply IsS173.set_4)|exact HI0.out)⟩,⟨by repeat (first|(with_reducible first|exact HK.out|apply KeepBut.set_|apply keep_drewN|apply keep_drew|apply keep_alloc)|exact HK.out)⟩,⟨by repeat (first|(with_reducible first|exact HB.out|apply below_alloc|apply pw_below_drewN|apply below_drew1|refine below_set ?_ (IsS173.ge HI0.out))|exact HB.out)⟩⟩
     ·rw [if_neg c5] at H
      have c5b0:decide ((rd s0_0 x3_1)<s0_3)=false:=decide_eq_false c5
      clear c5
      by_cases c7:x3_1<(s0_1.length:Int)
      ·rw [if_pos c7] at H
       have c7b0:decide (x3_1<(s0_1.length:Int))=true:=decide_eq_true c7
       clear c7
       by_cases c8:(rd s0_1 x3_1)<s0_4
       ·rw [if_pos c8] at H
        have c8b0:decide ((rd s0_1 x3_1)<s0_4)=true:=decide_eq_true c8
        clear c8
        have H':=Aside0.mk H
        clear H
        obtain⟨ASz9_0,cSz9_0,ASz9_1,cSz9_1,HGz9,hgz9,HSz9_0,HSz9_1⟩:=HI0.out
        have hcz9_0:=cellS173_0 HGz9
        have hcz9_1:=cellS173_1 HGz9
        have hcz9_2:=cellS173_2 HGz9
        have hcz9_3:=cellS173_3 HGz9
        have hcz9_4:=cellS173_4 HGz9
        have hfz9_2:=blk_frozen HGz9 2
        have hfz9_3:=blk_frozen HGz9 3
        have hfz9_4:=blk_frozen HGz9 4
        clear HGz9 hgz9
        have p552:0≤(x3_1:Int):=of_decide_eq_true (by first|(with_reducible assumption)|assumption)
        have q552:x3_1<(s0_0.length:Int):=of_decide_eq_true (by first|(with_reducible assumption)|assumption)
        obtain⟨ad552,e552,hx552_0⟩:=Kd.at_int HSz9_0 x3_1 p552 q552
        cases e552
        replace hx552_0:=pw_cell_below HB.out hx552_0
        replace p552:=eq_true p552
        replace q552:=eq_true q552
        have p553:0≤(x3_1:Int):=of_decide_eq_true (by first|(with_reducible assumption)|assumption)
        have q553:x3_1<(s0_1.length:Int):=of_decide_eq_true (by first|(with_reducible assumption)|assumption)
        obtain⟨ad553,e553,hx553_0⟩:=Kd.at_int HSz9_1 x3_1 p553 q553
        cases e553
        replace hx553_0:=pw_cell_below HB.out hx553_0
        replace p553:=eq_true p553
        replace q553:=eq_true q553
        go_wp2
        repeat (go_quiet (fail);try go_wp2)
        go_roundg k1
        case measure=>have:=HK1.out;omega
        case rel=>exact⟨(wrap64 (x3_1+1)),(by first|rfl|(simp;done)|(simp [*];done)),H',⟨by have:=HK1.out;omega⟩,⟨by repeat (first|(with_reducible first|exact HI0.out|apply IsS173.alloc|apply IsS173.drewN|apply IsS173.drew|apply IsS173.set_2|apply IsS173.set_3|apply IsS173.set_4)|exact HI0.out)⟩,⟨by repeat (first|(with_reducible first|exact HK.out|apply KeepBut.set_|apply keep_drewN|apply keep_drew|apply keep_alloc)|exact HK.out)⟩,⟨by repeat (first|(with_reducible first|exact HB.out|apply below_alloc|apply pw_below_drewN|apply below_drew1|refine below_set ?_ (IsS173.ge HI0.out))|exact HB.out)⟩⟩
       ·rw [if_neg c8] at H
        have c8b0:decide ((rd s0_1 x3_1)<s0_4)=false:=decide_eq_false c8
        clear c8
        simp only [Option.some.injEq,Prod.mk.injEq] at H
        obtain⟨rfl,rfl,rfl,rfl⟩:=H
        obtain⟨ASz10_0,cSz10_0,ASz10_1,cSz10_1,HGz10,hgz10,HSz10_0,HSz10_1⟩:=HI0.out
        have hcz10_0:=cellS173_0 HGz10
        have hcz10_1:=cellS173_1 HGz10
        have hcz10_2:=cellS173_2 HGz10
        have hcz10_3:=cellS173_3 HGz10
        have hcz10_4:=cellS173_4 HGz10
        have hfz10_2:=blk_frozen HGz10 2
        have hfz10_3:=blk_frozen HGz10 3
        have hfz10_4:=blk_frozen HGz10 4
        clear HGz10 hgz10
        have p552:0≤(x3_1:Int):=of_decide_eq_true (by first|(with_reducible assumption)|assumption)
        have q552:x3_1<(s0_0.length:Int):=of_decide_eq_true (by first|(with_reducible assumption)|assumption)
        obtain⟨ad552,e552,hx552_0⟩:=Kd.at_int HSz10_0 x3_1 p552 q552
        cases e552
        replace hx552_0:=pw_cell_below HB.out hx552_0
        replace p552:=eq_true p552
        replace q552:=eq_true q552
        have p553:0≤(x3_1:Int):=of_decide_eq_true (by first|(with_reducible assumption)|assumption)
        have q553:x3_1<(s0_1.length:Int):=of_decide_eq_true (by first|(with_reducible assumption)|assumption)
        obtain⟨ad553,e553,hx553_0⟩:=Kd.at_int HSz10_1 x3_1 p553 q553
        cases e553
        replace hx553_0:=pw_cell_below HB.out hx553_0
        replace p553:=eq_true p553
        replace q553:=eq_true q553
        go_wp2
        repeat (go_quiet (fail);try go_wp2)
        go_ret
        exact⟨by first|rfl|(simp [errW_none,errW_some]<;>rfl)|(simp [*,errW_none,errW_some]<;>rfl),by repeat (first|(with_reducible first|exact HI0.out|apply IsS173.alloc|apply IsS173.drewN|apply IsS173.drew|apply IsS173.set_2|apply IsS173.set_3|apply IsS173.set_4)|exact HI0.out),by repeat (first|(with_reducible first|exact HB.out|apply below_alloc|apply pw_below_drewN|apply below_drew1|refine below_set ?_ (IsS173.ge HI0.out))|exact HB.out),by repeat (first|(with_reducible first|exact HK.out|apply KeepBut.set_|apply keep_drewN|apply keep_drew|apply keep_alloc)|exact HK.out)⟩
      ·rw [if_neg c7] at H
       exact absurd H (by simp)
    ·rw [if_neg c4] at H
     exact absurd H (by simp)
   ·rw [if_neg c3] at H
    have c3b0:decide (x3_1<(s0_0.length:Int))=false:=decide_eq_false c3
    clear c3
    simp only [Option.some.injEq,Prod.mk.injEq] at H
    obtain⟨rfl,rfl,rfl,rfl⟩:=H
    obtain⟨ASz11_0,cSz11_0,ASz11_1,cSz11_1,HGz11,hgz11,HSz11_0,HSz11_1⟩:=HI0.out
    have hcz11_0:=cellS173_0 HGz11
    have hcz11_1:=cellS173_1 HGz11
    have hcz11_2:=cellS173_2 HGz11
    have hcz11_3:=cellS173_3 HGz11
    have hcz11_4:=cellS173_4 HGz11
    have hfz11_2:=blk_frozen HGz11 2
    have hfz11_3:=blk_frozen HGz11 3
    have hfz11_4:=blk_frozen HGz11 4
    clear HGz11 hgz11
    go_wp2
    repeat (go_quiet (fail);try go_wp2)
    go_ret
    exact⟨by first|rfl|(simp [errW_none,errW_some]<;>rfl)|(simp [*,errW_none,errW_some]<;>rfl),by repeat (first|(with_reducible first|exact HI0.out|apply IsS173.alloc|apply IsS173.drewN|apply IsS173.drew|apply IsS173.set_2|apply IsS173.set_3|apply IsS173.set_4)|exact HI0.out),by repeat (first|(with_reducible first|exact HB.out|apply below_alloc|apply pw_below_drewN|apply below_drew1|refine below_set ?_ (IsS173.ge HI0.out))|exact HB.out),by repeat (first|(with_reducible first|exact HK.out|apply KeepBut.set_|apply keep_drewN|apply keep_drew|apply keep_alloc)|exact HK.out)⟩
end Go.Proofs.Ytfiamddinkokbaa.F
end

section
namespace Go.Proofs.Ytfiamddinkokbaa.F
open Go.RowKit Go.Shelf Go.Proofs.YtfiamddinkokbaaW.PrintWords
abbrev SC := S91
theorem together_state {x y : List Int} {o a b n : Int} {r : Bool×Int×Int×Int} (h : chunk_sweep_together.f x y o a b n=some r) : r.2=(o,a,b) := by
 unfold chunk_sweep_together.f at h
 repeat' split at h
 all_goals first|(obtain rfl:=Option.some.inj h;rfl)|cases h
theorem stable_state_l {x y : List Int} : ∀ (k : Nat) (n o a b : Int) (r : Int×Int×Int×Int),chunk_sweep_stable.l0 k n x y o a b=some r→r.2=(o,a,b)
 | 0,_,_,_,_,_,h=>by simp [chunk_sweep_stable.l0] at h
 | k+1,n,o,a,b,r,h=>by
  simp only [chunk_sweep_stable.l0] at h
  obtain⟨t,ht,h2⟩:=Option.bind_eq_some_iff.1 h
  clear h
  have e:=together_state ht
  obtain⟨t0,t1,t2,t3⟩:=t
  simp only [Prod.mk.injEq] at e
  obtain⟨rfl,rfl,rfl⟩:=e
  split at h2
  ·exact stable_state_l k _ _ _ _ _ h2
  ·obtain rfl:=Option.some.inj h2;rfl
theorem next_state_l {x y : List Int} : ∀ (k : Nat) (n o a b : Int) (r : Int×Int×Int×Int),chunk_sweep_next.l0 k n x y o a b=some r→r.2=(o,a,b)
 | 0,_,_,_,_,_,h=>by simp [chunk_sweep_next.l0] at h
 | k+1,n,o,a,b,r,h=>by
  simp only [chunk_sweep_next.l0] at h
  repeat' split at h
  all_goals first|exact next_state_l k _ _ _ _ _ h|(obtain rfl:=Option.some.inj h;rfl)|cases h
def stepO (k : Nat) (x y : List Int) (base left right o a b : Int) : Option (Int×Int×Int×Int) :=
 (chunk_sweep_stable.f k x y o a b).bind fun t=>if t.1=0 then ((chunk_sweep_next.f k x y o a b).bind fun s=>if s.1<base then (if 0≤s.1∧s.1<x.length∧s.1<y.length then some (t.1,s.1,rd x s.1,rd y s.1) else none) else some (t.1,base,left,right)) else some (t.1,wrap64 (o+t.1),wrap64 (a+t.1),wrap64 (b+t.1))
def chunkC (n o a b o' a' b' : Int) : SC := ⟨decide (0<n),⟨o,o'⟩,⟨a,a'⟩,⟨b,b'⟩⟩
def ofL (x y : List Int) (base left right : Int) : Nat→Int→Int→Int→List SC→Option (List SC)
 | 0,_,_,_,_=>none
 | k+1,o,a,b,out=>if o<base∨a<left∨b<right then (stepO k x y base left right o a b).bind fun s=>if out.length≤1000000000000 then ofL x y base left right k s.2.1 s.2.2.1 s.2.2.2 (out++[chunkC s.1 o a b s.2.1 s.2.2.1 s.2.2.2]) else none else some out
def ofF (k : Nat) (base left right : Int) (l r : List S196) : Option (List SC×Int) :=
 (chunk_table.f k base left l).bind fun x=>(chunk_table.f k base right r).bind fun y=>if x.2=true∧y.2=true then (ofL x.1 y.1 base left right k 0 0 0 []).bind fun out=>some (out,0) else some ([],12)
theorem stepO_mono (x y : List Int) (base left right o a b : Int) (k : Nat) : LeO (stepO k x y base left right o a b) (stepO (k+1) x y base left right o a b) := by
 unfold stepO
 exact LeO.bind (chunk_sweep_stable.mono _ _ _ _ _ k) (fun t=>LeO.ite (LeO.bind (chunk_sweep_next.mono _ _ _ _ _ k) (fun s=>LeO.refl _)) (LeO.refl _))
theorem ofL_mono (x y : List Int) (base left right : Int) : ∀ (k : Nat) (o a b : Int) (out : List SC),LeO (ofL x y base left right k o a b out) (ofL x y base left right (k+1) o a b out)
 | 0,_,_,_,_=>LeO.none _
 | k+1,o,a,b,out=>by
  show LeO (if o<base∨a<left∨b<right then _ else _) (if o<base∨a<left∨b<right then _ else _)
  exact LeO.ite (LeO.bind (stepO_mono x y base left right o a b k) (fun s=>LeO.ite (ofL_mono x y base left right k _ _ _ _) (LeO.refl _))) (LeO.refl _)
theorem of_mono : ∀ base left right l r k,LeO (ofF k base left right l r) (ofF (k+1) base left right l r) := fun base left right l r k=>by
 unfold ofF
 exact LeO.bind (chunk_table.mono _ _ _ k) (fun x=>LeO.bind (chunk_table.mono _ _ _ k) (fun y=>LeO.ite (LeO.bind (ofL_mono _ _ _ _ _ k _ _ _ _) (fun _=>LeO.refl _)) (LeO.refl _)))
theorem IsS173.cell2 {w0 W : World} {g : Nat} {f0 f1 : List Int} {f2 f3 f4 : Int} (h : IsS173 w0 W g f0 f1 f2 f3 f4) : W.cell? ⟨g,2,none⟩=some (.int .i64 f2) := by obtain⟨_,_,_,_,hb,_⟩ := h;exact (blk_cell hb 2).trans rfl
theorem IsS173.cell3 {w0 W : World} {g : Nat} {f0 f1 : List Int} {f2 f3 f4 : Int} (h : IsS173 w0 W g f0 f1 f2 f3 f4) : W.cell? ⟨g,3,none⟩=some (.int .i64 f3) := by obtain⟨_,_,_,_,hb,_⟩ := h;exact (blk_cell hb 3).trans rfl
theorem IsS173.cell4 {w0 W : World} {g : Nat} {f0 f1 : List Int} {f2 f3 f4 : Int} (h : IsS173 w0 W g f0 f1 f2 f3 f4) : W.cell? ⟨g,4,none⟩=some (.int .i64 f4) := by obtain⟨_,_,_,_,hb,_⟩ := h;exact (blk_cell hb 4).trans rfl
theorem IsS173.froz {w0 W : World} {g : Nat} {f0 f1 : List Int} {f2 f3 f4 : Int} (h : IsS173 w0 W g f0 f1 f2 f3 f4) (j : Nat) : W.frozen? ⟨g,j,none⟩=false := by obtain⟨_,_,_,_,hb,_⟩ := h;exact Lib.frozen_of_heap hb j
theorem chunk_info : (Try.prog.info? 91).map (fun i=>(i.zero,i.size,i.bytes))=some (some (.agg #[.bool false,.int .i64 0,.int .i64 0,.int .i64 0,.int .i64 0,.int .i64 0,.int .i64 0]),7,56) := by kernel_rfl
set_option maxHeartbeats 8000000 in
set_option maxRecDepth 100000 in
theorem of_bad (k : Nat) (base left right : Int) (A3 : Option Addr) (c3 : Nat) (l : List S196) (A4 : Option Addr) (c4 : Nat) (r : List S196) (w : World) (hr3 : Kd.C k196 w A3 l.length l) (hc3 : l.length≤c3) (hr4 : Kd.C k196 w A4 r.length r) (hc4 : r.length≤c4)
  (x y:List Int) (xb yb:Bool) (hx:chunk_table.f k base left l=some (x,xb)) (hy:chunk_table.f k base right r=some (y,yb)) (hb:¬ (xb=true∧yb=true)) :
  Calls Try.prog 103 #[.int .i64 base,.int .i64 left,.int .i64 right,.slice A3 l.length c3,.slice A4 r.length c4] w fun e w'=>∃ v0,e = .returned (.tuple #[v0,.int .i64 12])∧Kd.R k91 91 w' w.heap.size (fun _=>True) v0 []∧Below w.heap.size w w':=by
 have H3:=Aside0.mk (fun W (hb:Below w.heap.size w W)=>chunk_table.calls k base left A3 c3 l x xb W (Kd.C_below hr3 hb) hc3 hx)
 have H4:=Aside0.mk (fun W (hb:Below w.heap.size w W)=>chunk_table.calls k base right A4 c4 r y yb W (Kd.C_below hr4 hb) hc4 hy)
 have tk1:True:=trivial
 clear hr3 hr4 hx hy
 cases xb<;>cases yb
 case true.true=>exact absurd ⟨rfl,rfl⟩ hb
 all_goals
  clear hb
  go_enter Try.func103,Try.ntmps103
  go_wp2_with (first
   | (go_at_call 133;have _t:=tk1;(with_reducible refine (H3.out _ (Below.refl _ _)).mono ?_);rintro e w1 ⟨v1,rfl,hR1,hb1⟩;clear tk1;obtain⟨Ax,cx,rfl,_,hCx⟩:=Kd.R_reads hR1;have HB1:=Aside0.mk hb1;clear hb1 hR1 hCx)
   | (go_at_call 133;have _t:=HB1;(with_reducible refine (H4.out _ HB1.out).mono ?_);rintro e w2 ⟨v2,rfl,hR2,hb2⟩;obtain⟨Ay,cy,rfl,_,hCy⟩:=Kd.R_reads hR2;have HB2:=Aside0.mk (below_step HB1.out hb2);clear hb2 hR2 hCy))
  go_ret2
  exact⟨_,rfl,Kd.R_nil _ _ _ _ _,HB2.out⟩
set_option maxHeartbeats 8000000 in
set_option maxRecDepth 100000 in
theorem of_good (k : Nat) (base left right : Int) (A3 : Option Addr) (c3 : Nat) (l : List S196) (A4 : Option Addr) (c4 : Nat) (r : List S196) (w : World) (hr3 : Kd.C k196 w A3 l.length l) (hc3 : l.length≤c3) (hr4 : Kd.C k196 w A4 r.length r) (hc4 : r.length≤c4)
  (x y:List Int) (res:List SC) (hx:chunk_table.f k base left l=some (x,true)) (hy:chunk_table.f k base right r=some (y,true)) (ho:ofL x y base left right k 0 0 0 []=some res) :
  Calls Try.prog 103 #[.int .i64 base,.int .i64 left,.int .i64 right,.slice A3 l.length c3,.slice A4 r.length c4] w fun e w'=>∃ v0,e = .returned (.tuple #[v0,.int .i64 0])∧Kd.R k91 91 w' w.heap.size (fun _=>True) v0 res∧Below w.heap.size w w':=by
 have H3:=Aside0.mk (fun W (hb:Below w.heap.size w W)=>chunk_table.calls k base left A3 c3 l x true W (Kd.C_below hr3 hb) hc3 hx)
 have H4:=Aside0.mk (fun W (hb:Below w.heap.size w W)=>chunk_table.calls k base right A4 c4 r y true W (Kd.C_below hr4 hb) hc4 hy)
 have HO:=Aside0.mk ho
 have tk1:True:=trivial
 clear hr3 hr4 hx hy ho
 go_enter Try.func103,Try.ntmps103
 go_wp2_with (first
  | (go_at_call 133;have _t:=tk1;(with_reducible refine (H3.out _ (Below.refl _ _)).mono ?_);rintro e w1 ⟨v1,rfl,hR1,hb1⟩;clear tk1;obtain⟨Ax,cx,rfl,_,hCx⟩:=Kd.R_reads hR1;have HB1:=Aside0.mk hb1;have HX:=Aside0.mk hCx;clear hb1 hR1 hCx)
  | (go_at_call 133;have _t:=HB1;(with_reducible refine (H4.out _ HB1.out).mono ?_);rintro e w2 ⟨v2,rfl,hR2,hb2⟩;obtain⟨Ay,cy,rfl,_,hCy⟩:=Kd.R_reads hR2;have HB2:=Aside0.mk (below_step HB1.out hb2);have HX2:=Aside0.mk (Kd.C_below HX.out hb2);have HY2:=Aside0.mk hCy;clear hb2 hR2 hCy))
 have HI:=Aside0.mk (IsS173.new w2 w2 Ax cx Ay cy x y 0 0 0 (Below.refl _ _) HX2.out HY2.out)
 have HW:=Aside0.mk (below_alloc (Below.refl w2.heap.size w2) (.cells #[.slice Ax x.length cx,.slice Ay y.length cy,.int .i64 0,.int .i64 0,.int .i64 0] 173))
 clear H3 H4 HB1 HX
 obtain⟨g,hg⟩:∃ g,g=w2.heap.size:=⟨_,rfl⟩
 rw [←hg] at HI ⊢
 generalize (w2.alloc (.cells #[.slice Ax x.length cx,.slice Ay y.length cy,.int .i64 0,.int .i64 0,.int .i64 0] 173))=W0 at *
 clear hg
 go_loopg [17] k (fun gg s17 wr=>∃ (kk:Nat) (o a b:Int) (out:List SC),kk≤gg∧Aside0 (ofL x y base left right kk o a b out=some res)∧Aside0 (IsS173 w2 wr g x y o a b)∧Aside0 (Kd.R k91 91 wr w2.heap.size (fun j=>j≠g) s17 out)∧Aside0 (Below w2.heap.size w2 wr))
 case atStart=>exact⟨k,0,0,0,[],Nat.le_refl _,HO,HI,⟨Kd.R_nil _ _ _ _ _⟩,HW⟩
 case round =>
  clear HO HI HW
  obtain⟨kk,o,a,b,out,hkk,HO,HI,HR,HW⟩:=hrel
  obtain⟨k1,rfl⟩:∃ k1,kk=k1+1:=by
   cases kk with
   | zero=>exact absurd HO.out (by simp [ofL])
   | succ k1=>exact⟨k1,rfl⟩
  have ho:=HO.out
  simp only [ofL] at ho
  obtain⟨ASz,cSz,ASy,cSy,HG,hge,HSx,HSy⟩:=HI.out
  have p2:=(blk_cell HG 2).trans (rfl:_=some (Value.int .i64 o))
  have p3:=(blk_cell HG 3).trans (rfl:_=some (Value.int .i64 a))
  have p4:=(blk_cell HG 4).trans (rfl:_=some (Value.int .i64 b))
  clear HG hge HSx HSy
  by_cases hcond:o<base∨a<left∨b<right
  ·rw [if_pos hcond] at ho
   obtain⟨⟨n,o',a',b'⟩,hstep,ho1⟩:=Option.bind_eq_some_iff.1 ho
   clear ho
   simp only at ho1
   split at ho1
   case isFalse=>cases ho1
   case isTrue hlen =>
   have HO2:=Aside0.mk ho1
   have HSTEP:=Aside0.mk hstep
   clear ho1 hstep HO
   have hd:(decide (o<base)=true)∨(decide (o<base)=false∧decide (a<left)=true)∨(decide (o<base)=false∧decide (a<left)=false∧decide (b<right)=true):=by
    by_cases h1:o<base
    ·exact .inl (decide_eq_true h1)
    ·by_cases h2:a<left
     ·exact .inr (.inl ⟨decide_eq_false h1,decide_eq_true h2⟩)
     ·exact .inr (.inr ⟨decide_eq_false h1,decide_eq_false h2,decide_eq_true (by omega)⟩)
   have hst:=HSTEP.out
   unfold stepO at hst
   obtain⟨⟨n0,o0,a0,b0⟩,hs1,hst1⟩:=Option.bind_eq_some_iff.1 hst
   clear hst
   have e0:=stable_state_l _ _ _ _ _ _ hs1
   simp only [Prod.mk.injEq] at e0 hst1
   obtain⟨rfl,rfl,rfl⟩:=e0
   have HS1:=Aside0.mk hs1
   have HST:=Aside0.mk hst1
   clear hs1 hst1 HSTEP hcond
   have hR0:=HR.out
   obtain⟨Av,cv,rfl⟩:=Kd.R_slice hR0
   clear hR0
   rcases hd with d1|⟨d1,d2⟩|⟨d1,d2,d3⟩
   all_goals
    go_wp2_with (first
     | (go_at_call 134;refine (chunk_sweep_stable.calls k1 g x y o0 a0 b0 n0 o0 a0 b0 w2 _ HI.out HW.out HS1.out).mono ?_;rintro e w3 ⟨rfl,hi3,hb3,hk3⟩;have HI3:=Aside0.mk hi3;have HW3:=Aside0.mk hb3;have HR3:=Aside0.mk (Kd.R_keep HR.out hk3 (fun _ h=>h));clear hi3 hb3 hk3 p2 p3 p4))
    clear HI HW HR
    obtain⟨ASz,cSz,ASy,cSy,HG,hge,HSx,HSy⟩:=HI3.out
    have p2:=(blk_cell HG 2).trans (rfl:_=some (Value.int .i64 o0))
    have p3:=(blk_cell HG 3).trans (rfl:_=some (Value.int .i64 a0))
    have p4:=(blk_cell HG 4).trans (rfl:_=some (Value.int .i64 b0))
    clear HG hge HSx HSy
    go_quiet (fail)
    have HI4:=Aside0.mk (HI3.out.drewN nq)
    have HW4:=Aside0.mk (pw_below_drewN HW3.out nq)
    have HR4:=Aside0.mk (Kd.R_drewN HR3.out nq)
    clear HI3 HW3 HR3 p2 p3 p4
    generalize w3.drewN nq=w4 at *
    go_upto_if 90 with fail
    go_cut [19,20,21] (fun v19 v20 v21 wc=>v19 = .int .i64 o'∧v20 = .int .i64 a'∧v21 = .int .i64 b'∧Aside0 (n=n0)∧Aside0 (IsS173 w2 wc g x y o0 a0 b0)∧Aside0 (Below w2.heap.size w2 wc)∧Aside0 (Kd.R k91 91 wc w2.heap.size (fun j=>j≠g) (.slice Av out.length cv) out))
    case first =>
     have hst:=HST.out
     clear HST
     by_cases hn:n0=0
     ·rw [if_pos hn] at hst
      obtain⟨⟨s0,s1,s2,s3⟩,hs,hst2⟩:=Option.bind_eq_some_iff.1 hst
      clear hst
      have e1:=next_state_l _ _ _ _ _ _ hs
      simp only [Prod.mk.injEq] at e1 hst2
      obtain⟨rfl,rfl,rfl⟩:=e1
      have HN:=Aside0.mk hs
      have q1:(n0==(0:Int))=true:=by rw [hn];rfl
      clear hs hn
      by_cases hb:s0<base
      ·have q2:decide (s0<base)=true:=decide_eq_true hb
       rw [if_pos hb] at hst2
       split at hst2
       case isFalse=>cases hst2
       case isTrue hgd =>
       simp only [Option.some.injEq,Prod.mk.injEq] at hst2
       obtain⟨rfl,rfl,rfl,rfl⟩:=hst2
       go_wp2_with (first
        | (go_at_call 135;refine (chunk_sweep_next.calls k1 g x y s1 s2 s3 s0 s1 s2 s3 w2 _ HI4.out HW4.out HN.out).mono ?_;rintro e w5 ⟨rfl,hi5,hb5,hk5⟩;have HI5:=Aside0.mk hi5;have HW5:=Aside0.mk hb5;have HR5:=Aside0.mk (Kd.R_keep HR4.out hk5 (fun _ h=>h));clear hi5 hb5 hk5))
       obtain⟨ax,ex,cx0⟩:=Kd.at_int HX2.out s0 hgd.1 hgd.2.1
       obtain⟨ay,ey,cy0⟩:=Kd.at_int HY2.out s0 hgd.1 hgd.2.2
       subst ex ey
       replace cx0:=pw_cell_below HW5.out cx0
       replace cy0:=pw_cell_below HW5.out cy0
       have z0:=hgd.1
       have z1:=hgd.2.1
       have z2:=hgd.2.2
       go_quiet (fail)
       go_wp2
       go_meet
       case rel=>exact⟨rfl,rfl,rfl,⟨by first|rfl|trivial⟩,⟨HI5.out.drewN nq⟩,⟨pw_below_drewN HW5.out nq⟩,⟨Kd.R_drewN HR5.out nq⟩⟩
      ·have q2:decide (s0<base)=false:=decide_eq_false hb
       rw [if_neg hb] at hst2
       simp only [Option.some.injEq,Prod.mk.injEq] at hst2
       obtain⟨rfl,rfl,rfl,rfl⟩:=hst2
       go_wp2_with (first
        | (go_at_call 135;refine (chunk_sweep_next.calls k1 g x y s1 s2 s3 s0 s1 s2 s3 w2 _ HI4.out HW4.out HN.out).mono ?_;rintro e w5 ⟨rfl,hi5,hb5,hk5⟩;have HI5:=Aside0.mk hi5;have HW5:=Aside0.mk hb5;have HR5:=Aside0.mk (Kd.R_keep HR4.out hk5 (fun _ h=>h));clear hi5 hb5 hk5))
       go_meet
       case rel=>exact⟨rfl,rfl,rfl,⟨by first|rfl|trivial⟩,HI5,HW5,HR5⟩
     ·rw [if_neg hn] at hst
      simp only [Option.some.injEq,Prod.mk.injEq] at hst
      obtain⟨rfl,rfl,rfl,rfl⟩:=hst
      have q1:(n0==(0:Int))=false:=beq_eq_false_iff_ne.2 hn
      clear hn
      go_wp2
      go_meet
      case rel=>exact⟨rfl,rfl,rfl,⟨by first|rfl|trivial⟩,HI4,HW4,HR4⟩
    case rest =>
     obtain⟨rfl,rfl,rfl,hnn,HI5,HW5,HR5⟩:=hcut
     obtain rfl:=hnn.out
     clear HI4 HW4 HR4 hnn HX2 HY2
     obtain⟨ASz,cSz,ASy,cSy,HG,hge,HSx,HSy⟩:=HI5.out
     have p2:=(blk_cell HG 2).trans (rfl:_=some (Value.int .i64 o0))
     have p3:=(blk_cell HG 3).trans (rfl:_=some (Value.int .i64 a0))
     have p4:=(blk_cell HG 4).trans (rfl:_=some (Value.int .i64 b0))
     have HFr:Aside0 (∀ j,wc.heap.size≤j→j≠g):=⟨fun j hj e=>by have:=(Array.getElem?_eq_some_iff.1 HG).1;omega⟩
     have HGE:=Aside0.mk hge
     have HLE:=Aside0.mk HW5.out.size
     clear HG hge HSx HSy HST HS1
     go_wp2
     go_region_held3 (fun w'=>w'.cell? ⟨g,2,none⟩=some (.int .i64 o0)∧w'.cell? ⟨g,3,none⟩=some (.int .i64 a0)∧w'.cell? ⟨g,4,none⟩=some (.int .i64 b0))
      (first|go_keep|exact⟨HI6.out.cell2,HI6.out.cell3,HI6.out.cell4⟩)
      ((refine Kd.R_append_step k91 (w0:=w2) (W:=wc.drew) w2.heap.size (by rfl) (.tmp 108) (.tmp 130) 78 91 (.agg #[.bool false,.int .i64 0,.int .i64 0,.int .i64 0,.int .i64 0,.int .i64 0,.int .i64 0]) 56 (by rfl) Try.underlying78 chunk_info rfl (by decide) (by omega) (.slice Av out.length cv) out (chunkC n o0 a0 b0 o' a' b') [.bool (decide (0<n)),.int .i64 o0,.int .i64 o',.int .i64 a0,.int .i64 a',.int .i64 b0,.int .i64 b'] (fun j=>j≠g) (fun _=>False) (by rfl) (by rfl) (k91_mkM _ _ _ _) (fun _ hk=>hk.elim) HFr.out (Kd.R_drew HR5.out) (below_drew HW5.out) HLE.out (by omega) ?_;intro v1 w6 ho6 hb6 hg6 hat6;obtain⟨Aw,cw,rfl⟩:=Kd.R_slice ho6;have HI6:=Aside0.mk (IsS173.grown (HI5.out.drew) hg6 (fun e=>HR5.out.1 g e.symm rfl));have HR6:=Aside0.mk ho6;have HW6:=Aside0.mk hb6;have z2:=HI6.out.cell2;have z3:=HI6.out.cell3;have z4:=HI6.out.cell4;have y2:=HI6.out.froz 2;have y3:=HI6.out.froz 3;have y4:=HI6.out.froz 4;clear ho6 hb6 hg6 hat6))
     go_wp2
     go_roundg k1
     case measure=>omega
     case rel =>
      refine⟨k1,o',a',b',out++[chunkC n o0 a0 b0 o' a' b'],Nat.le_refl _,HO2,⟨((HI6.out.set_2 o').set_3 a').set_4 b'⟩,⟨?_⟩,⟨((HW6.out.setCell (p:=⟨g,2,none⟩) HGE.out _).setCell (p:=⟨g,3,none⟩) HGE.out _).setCell (p:=⟨g,4,none⟩) HGE.out _⟩⟩
      rw [show out.length+1=(out++[chunkC n o0 a0 b0 o' a' b']).length by simp only [List.length_append,List.length_singleton]]
      exact Kd.R_far (Kd.R_far (Kd.R_far HR6.out (p:=⟨g,2,none⟩) (fun _ h=>h) _) (p:=⟨g,3,none⟩) (fun _ h=>h) _) (p:=⟨g,4,none⟩) (fun _ h=>h) _
  ·rw [if_neg hcond] at ho
   obtain rfl:=Option.some.inj ho
   have d1:decide (o<base)=false:=decide_eq_false (by omega)
   have d2:decide (a<left)=false:=decide_eq_false (by omega)
   have d3:decide (b<right)=false:=decide_eq_false (by omega)
   obtain⟨Av,cv,rfl⟩:=Kd.R_slice HR.out
   clear ho hcond HO
   go_wp2
   go_ret2
   exact⟨_,rfl,Kd.R_mono (Kd.R_lower HR.out HB2.out.size) (fun _ _=>trivial),Below.trans HB2.out (HW.out.mono HB2.out.size)⟩
theorem of_calls (k : Nat) (base left right : Int) (A3 : Option Addr) (c3 : Nat) (l : List S196) (A4 : Option Addr) (c4 : Nat) (r : List S196) (r1 : List SC) (r2 : Int) (w : World) (hr3 : Kd.C k196 w A3 l.length l) (hc3 : l.length≤c3) (hr4 : Kd.C k196 w A4 r.length r) (hc4 : r.length≤c4) (h : ofF k base left right l r=some (r1,r2)) :
  Calls Try.prog 103 #[.int .i64 base,.int .i64 left,.int .i64 right,.slice A3 l.length c3,.slice A4 r.length c4] w fun e w'=>∃ v0,e = .returned (.tuple #[v0,.int .i64 r2])∧Kd.R k91 91 w' w.heap.size (fun _=>True) v0 r1∧Below w.heap.size w w':=by
 unfold ofF at h
 obtain⟨⟨x,xb⟩,hx,h1⟩:=Option.bind_eq_some_iff.1 h
 obtain⟨⟨y,yb⟩,hy,h2⟩:=Option.bind_eq_some_iff.1 h1
 simp only at h2
 split at h2
 ·rename_i hb
  obtain⟨rfl,rfl⟩:=hb
  obtain⟨out,ho,h3⟩:=Option.bind_eq_some_iff.1 h2
  simp only [Option.some.injEq,Prod.mk.injEq] at h3
  obtain⟨rfl,rfl⟩:=h3
  exact of_good k base left right A3 c3 l A4 c4 r w hr3 hc3 hr4 hc4 x y out hx hy ho
 ·rename_i hb
  simp only [Option.some.injEq,Prod.mk.injEq] at h2
  obtain⟨rfl,rfl⟩:=h2
  exact of_bad k base left right A3 c3 l A4 c4 r w hr3 hc3 hr4 hc4 x y xb yb hx hy hb
end Go.Proofs.Ytfiamddinkokbaa.F
end
