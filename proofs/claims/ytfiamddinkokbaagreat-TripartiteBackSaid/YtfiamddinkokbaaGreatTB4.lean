/- Texts joined into one file (wip/tools/pack.py): Fn87, ChunkOf, Back, MidF, Middle -/
import Derived.Test.YtfiamddinkokbaaGreatTB2
import Derived.Test.YtfiamddinkokbaaGreatTB1
import Derived.Test.YtfiamddinkokbaaGreatTB3
import Derived.Deep.RegionHeld3
set_option linter.unusedVariables false
set_option linter.unusedSimpArgs false
section
namespace Go.Proofs.YtfiamddinkokbaaGreat.F
open Go.RowKit Go.Proofs.YtfiamddinkokbaaGreatW.PrintWords Go.Proofs.YtfiamddinkokbaaGreatW.PrintLast Go.Proofs.YtfiamddinkokbaaGreatW.PrintMore
attribute [local go_sem] max2_int min2_int max_two min_two max_three min_three max_four min_four
def chunk_sweep_next.l0 : Nat→Int→List Int→List Int→Int→Int→Int→Option (Int×Int×Int×Int)
 | 0,_,_,_,_,_,_=>none
 | k+1,x3,x1000,x1001,x1002,x1003,x1004=>if x3<(x1000.length:Int) then (if 0≤x3 then (if (rd x1000 x3)<x1003 then (chunk_sweep_next.l0 k (wrap64 (x3+1)) x1000 x1001 x1002 x1003 x1004) else (if x3<(x1001.length:Int) then (if (rd x1001 x3)<x1004 then (chunk_sweep_next.l0 k (wrap64 (x3+1)) x1000 x1001 x1002 x1003 x1004) else (some (x3,x1002,x1003,x1004))) else (none))) else (none)) else (some (x3,x1002,x1003,x1004))
def chunk_sweep_next.f (k : Nat) (s0_0 : List Int) (s0_1 : List Int) (s0_2 : Int) (s0_3 : Int) (s0_4 : Int) : Option (Int×Int×Int×Int) := chunk_sweep_next.l0 k s0_2 s0_0 s0_1 s0_2 s0_3 s0_4
theorem chunk_sweep_next.mono_l : ∀ k,(∀ y0 y1 y2 y3 y4 y5,LeO (chunk_sweep_next.l0 k y0 y1 y2 y3 y4 y5) (chunk_sweep_next.l0 (k+1) y0 y1 y2 y3 y4 y5))
 | 0=>fun _ _ _ _ _ _ r h=>by simp [chunk_sweep_next.l0] at h
 | k+1=>by
  have ih0:=chunk_sweep_next.mono_l k
  ·intro y0 y1 y2 y3 y4 y5
   unfold chunk_sweep_next.l0
   repeat' first
   | (with_reducible exact ih0 _ _ _ _ _ _)
   | (with_reducible exact LeO.refl _)
   | (with_reducible exact LeO.none _)
   | (with_reducible refine LeO.ite ?_ ?_)
   | (with_reducible refine LeO.bind ?_ (fun _=>?_))
   | exact ih0 _ _ _ _ _ _
   | exact LeO.none _
   | refine LeO.ite ?_ ?_
   | refine LeO.bind ?_ (fun _=>?_)
theorem chunk_sweep_next.mono : ∀ a0 a1 a2 a3 a4 k,LeO (chunk_sweep_next.f k a0 a1 a2 a3 a4) (chunk_sweep_next.f (k+1) a0 a1 a2 a3 a4) := by
 intro a0 a1 a2 a3 a4 k
 have ih0:=chunk_sweep_next.mono_l k
 unfold chunk_sweep_next.f
 repeat' first
   | (with_reducible exact ih0 _ _ _ _ _ _)
   | (with_reducible exact LeO.refl _)
   | (with_reducible exact LeO.none _)
   | (with_reducible refine LeO.ite ?_ ?_)
   | (with_reducible refine LeO.bind ?_ (fun _=>?_))
   | exact ih0 _ _ _ _ _ _
   | exact LeO.none _
   | refine LeO.ite ?_ ?_
   | refine LeO.bind ?_ (fun _=>?_)
set_option maxHeartbeats 8000000 in
set_option maxRecDepth 100000 in
theorem chunk_sweep_next.calls (k : Nat) (g : Nat) (s0_0 : List Int) (s0_1 : List Int) (s0_2 : Int) (s0_3 : Int) (s0_4 : Int) (r1 : Int) (r2 : Int) (r3 : Int) (r4 : Int) (w0 w : World) (hI : IsS162 w0 w g s0_0 s0_1 s0_2 s0_3 s0_4) (hB : Below w0.heap.size w0 w) (h : chunk_sweep_next.f k s0_0 s0_1 s0_2 s0_3 s0_4=some (r1,r2,r3,r4)) :
  Calls Tryz.prog 87 #[.pointer (some ⟨g,0,none⟩)] w fun e w'=>e = .returned (.int .i64 r1)∧IsS162 w0 w' g s0_0 s0_1 r2 r3 r4∧Below w0.heap.size w0 w'∧KeepBut w w' g none:=by
 have HI0:=Zd hI
 have HK:=Zd (KeepBut.refl w g none)
 have HL:=Zd hB.size
 clear hI
 have HW0:=Zd hB.size
 have HB:=Zd hB
 clear hB
 have H:(chunk_sweep_next.l0 k s0_2 s0_0 s0_1 s0_2 s0_3 s0_4)=some (r1,r2,r3,r4):=h
 clear h
 have H':=Zd H
 clear H
 obtain⟨ASz2_0,cSz2_0,ASz2_1,cSz2_1,HGz2,hgz2,HSz2_0,HSz2_1⟩:=HI0.out
 have hcz2_0:=cellS162_0 HGz2
 have hcz2_1:=cellS162_1 HGz2
 have hcz2_2:=cellS162_2 HGz2
 have hcz2_3:=cellS162_3 HGz2
 have hcz2_4:=cellS162_4 HGz2
 have hfz2_2:=blk_frozen HGz2 2
 have hfz2_3:=blk_frozen HGz2 3
 have hfz2_4:=blk_frozen HGz2 4
 clear HGz2 hgz2
 go_enter Tryz.func87,Tryz.ntmps87
 go_wp2
 repeat (go_quiet (fail);try go_wp2)
 go_loopg [3] k (fun kq v3 w'=>∃ (x3_1:Int),v3 = .int .i64 x3_1∧Aside0 (chunk_sweep_next.l0 kq x3_1 s0_0 s0_1 s0_2 s0_3 s0_4=some (r1,r2,r3,r4))∧Aside0 (kq≤k)∧Aside0 (IsS162 w0 w' g s0_0 s0_1 s0_2 s0_3 s0_4)∧Aside0 (KeepBut w w' g none)∧Aside0 (Below w0.heap.size w0 w'))
 case atStart=>exact⟨(s0_2),(by first|rfl|(simp;done)|(simp [*];done)),H',⟨Nat.le_refl _⟩,⟨by repeat (first|(with_reducible first|exact HI0.out|apply IsS162.alloc|apply IsS162.drewN|apply IsS162.drew|apply IsS162.set_2|apply IsS162.set_3|apply IsS162.set_4)|exact HI0.out)⟩,⟨by repeat (first|(with_reducible first|exact HK.out|apply KeepBut.set_|apply keep_drewN|apply keep_drew|apply keep_alloc)|exact HK.out)⟩,⟨by repeat (first|(with_reducible first|exact HB.out|apply below_alloc|apply pw_below_drewN|apply below_drew1|refine below_set ?_ (IsS162.ge HI0.out))|exact HB.out)⟩⟩
 case round =>
  clear H'
  try clear p2
  try clear hcz2_0
  try clear hcz2_1
  try clear hcz2_2
  try clear hcz2_3
  try clear hcz2_4
  try clear hfz2_2
  try clear hfz2_3
  try clear hfz2_4
  obtain⟨x3_1,rfl,HA,HK1,HI0,HK,HB⟩:=hrel
  cases gk with
  | zero=>exact absurd HA.out (by simp [chunk_sweep_next.l0])
  | succ k1 =>
   have H:=HA.out
   clear HA
   simp only [chunk_sweep_next.l0] at H
   by_cases c3:x3_1<(s0_0.length:Int)
   ·rw [if_pos c3] at H
    have c3b0:decide (x3_1<(s0_0.length:Int))=true:=decide_eq_true c3
    clear c3
    by_cases c4:0≤x3_1
    ·rw [if_pos c4] at H
     have c4b0:decide (0≤x3_1)=true:=decide_eq_true c4
     clear c4
     by_cases c5:(rd s0_0 x3_1)<s0_3
     ·rw [if_pos c5] at H
      have c5b0:decide ((rd s0_0 x3_1)<s0_3)=true:=decide_eq_true c5
      clear c5
      have H':=Zd H
      clear H
      obtain⟨ASz6_0,cSz6_0,ASz6_1,cSz6_1,HGz6,hgz6,HSz6_0,HSz6_1⟩:=HI0.out
      have hcz6_0:=cellS162_0 HGz6
      have hcz6_1:=cellS162_1 HGz6
      have hcz6_2:=cellS162_2 HGz6
      have hcz6_3:=cellS162_3 HGz6
      have hcz6_4:=cellS162_4 HGz6
      have hfz6_2:=blk_frozen HGz6 2
      have hfz6_3:=blk_frozen HGz6 3
      have hfz6_4:=blk_frozen HGz6 4
      clear HGz6 hgz6
      have p197:0≤(x3_1:Int):=Zo
      have q197:x3_1<(s0_0.length:Int):=Zo
      obtain⟨ad197,e197,hx197_0⟩:=Kd.at_int HSz6_0 x3_1 p197 q197
      cases e197
      replace hx197_0:=pw_cell_below HB.out hx197_0
      replace p197:=eq_true p197
      replace q197:=eq_true q197
      go_wp2
      repeat (go_quiet (fail);try go_wp2)
      go_roundg k1
      case measure=>have:=HK1.out;omega
      case rel=>exact⟨(wrap64 (x3_1+1)),(by first|rfl|(simp;done)|(simp [*];done)),H',⟨by have:=HK1.out;omega⟩,⟨by repeat (first|(with_reducible first|exact HI0.out|apply IsS162.alloc|apply IsS162.drewN|apply IsS162.drew|apply IsS162.set_2|apply IsS162.set_3|apply IsS162.set_4)|exact HI0.out)⟩,⟨by repeat (first|(with_reducible first|exact HK.out|apply KeepBut.set_|apply keep_drewN|apply keep_drew|apply keep_alloc)|exact HK.out)⟩,⟨by repeat (first|(with_reducible first|exact HB.out|apply below_alloc|apply pw_below_drewN|apply below_drew1|refine below_set ?_ (IsS162.ge HI0.out))|exact HB.out)⟩⟩
     ·rw [if_neg c5] at H
      have c5b0:decide ((rd s0_0 x3_1)<s0_3)=false:=decide_eq_false c5
      clear c5
      by_cases c7:x3_1<(s0_1.length:Int)
      ·rw [if_pos c7] at H
       have c7b0:decide (x3_1<(s0_1.length:Int))=true:=decide_eq_true c7
       clear c7
       by_cases c8:(rd s0_1 x3_1)<s0_4
       ·rw [if_pos c8] at H
        have c8b0:decide ((rd s0_1 x3_1)<s0_4)=true:=decide_eq_true c8
        clear c8
        have H':=Zd H
        clear H
        obtain⟨ASz9_0,cSz9_0,ASz9_1,cSz9_1,HGz9,hgz9,HSz9_0,HSz9_1⟩:=HI0.out
        have hcz9_0:=cellS162_0 HGz9
        have hcz9_1:=cellS162_1 HGz9
        have hcz9_2:=cellS162_2 HGz9
        have hcz9_3:=cellS162_3 HGz9
        have hcz9_4:=cellS162_4 HGz9
        have hfz9_2:=blk_frozen HGz9 2
        have hfz9_3:=blk_frozen HGz9 3
        have hfz9_4:=blk_frozen HGz9 4
        clear HGz9 hgz9
        have p197:0≤(x3_1:Int):=Zo
        have q197:x3_1<(s0_0.length:Int):=Zo
        obtain⟨ad197,e197,hx197_0⟩:=Kd.at_int HSz9_0 x3_1 p197 q197
        cases e197
        replace hx197_0:=pw_cell_below HB.out hx197_0
        replace p197:=eq_true p197
        replace q197:=eq_true q197
        have p198:0≤(x3_1:Int):=Zo
        have q198:x3_1<(s0_1.length:Int):=Zo
        obtain⟨ad198,e198,hx198_0⟩:=Kd.at_int HSz9_1 x3_1 p198 q198
        cases e198
        replace hx198_0:=pw_cell_below HB.out hx198_0
        replace p198:=eq_true p198
        replace q198:=eq_true q198
        go_wp2
        repeat (go_quiet (fail);try go_wp2)
        go_roundg k1
        case measure=>have:=HK1.out;omega
        case rel=>exact⟨(wrap64 (x3_1+1)),(by first|rfl|(simp;done)|(simp [*];done)),H',⟨by have:=HK1.out;omega⟩,⟨by repeat (first|(with_reducible first|exact HI0.out|apply IsS162.alloc|apply IsS162.drewN|apply IsS162.drew|apply IsS162.set_2|apply IsS162.set_3|apply IsS162.set_4)|exact HI0.out)⟩,⟨by repeat (first|(with_reducible first|exact HK.out|apply KeepBut.set_|apply keep_drewN|apply keep_drew|apply keep_alloc)|exact HK.out)⟩,⟨by repeat (first|(with_reducible first|exact HB.out|apply below_alloc|apply pw_below_drewN|apply below_drew1|refine below_set ?_ (IsS162.ge HI0.out))|exact HB.out)⟩⟩
       ·rw [if_neg c8] at H
        have c8b0:decide ((rd s0_1 x3_1)<s0_4)=false:=decide_eq_false c8
        clear c8
        simp only [Option.some.injEq,Prod.mk.injEq] at H
        obtain⟨rfl,rfl,rfl,rfl⟩:=H
        obtain⟨ASz10_0,cSz10_0,ASz10_1,cSz10_1,HGz10,hgz10,HSz10_0,HSz10_1⟩:=HI0.out
        have hcz10_0:=cellS162_0 HGz10
        have hcz10_1:=cellS162_1 HGz10
        have hcz10_2:=cellS162_2 HGz10
        have hcz10_3:=cellS162_3 HGz10
        have hcz10_4:=cellS162_4 HGz10
        have hfz10_2:=blk_frozen HGz10 2
        have hfz10_3:=blk_frozen HGz10 3
        have hfz10_4:=blk_frozen HGz10 4
        clear HGz10 hgz10
        have p197:0≤(x3_1:Int):=Zo
        have q197:x3_1<(s0_0.length:Int):=Zo
        obtain⟨ad197,e197,hx197_0⟩:=Kd.at_int HSz10_0 x3_1 p197 q197
        cases e197
        replace hx197_0:=pw_cell_below HB.out hx197_0
        replace p197:=eq_true p197
        replace q197:=eq_true q197
        have p198:0≤(x3_1:Int):=Zo
        have q198:x3_1<(s0_1.length:Int):=Zo
        obtain⟨ad198,e198,hx198_0⟩:=Kd.at_int HSz10_1 x3_1 p198 q198
        cases e198
        replace hx198_0:=pw_cell_below HB.out hx198_0
        replace p198:=eq_true p198
        replace q198:=eq_true q198
        go_wp2
        repeat (go_quiet (fail);try go_wp2)
        go_ret
        exact⟨by first|rfl|(simp [errW_none,errW_some]<;>rfl)|(simp [*,errW_none,errW_some]<;>rfl),by repeat (first|(with_reducible first|exact HI0.out|apply IsS162.alloc|apply IsS162.drewN|apply IsS162.drew|apply IsS162.set_2|apply IsS162.set_3|apply IsS162.set_4)|exact HI0.out),by repeat (first|(with_reducible first|exact HB.out|apply below_alloc|apply pw_below_drewN|apply below_drew1|refine below_set ?_ (IsS162.ge HI0.out))|exact HB.out),by repeat (first|(with_reducible first|exact HK.out|apply KeepBut.set_|apply keep_drewN|apply keep_drew|apply keep_alloc)|exact HK.out)⟩
      ·rw [if_neg c7] at H
       exact absurd H (by simp)
    ·rw [if_neg c4] at H
     exact absurd H (by simp)
   ·rw [if_neg c3] at H
    have c3b0:decide (x3_1<(s0_0.length:Int))=false:=decide_eq_false c3
    clear c3
    simp only [Option.some.injEq,Prod.mk.injEq] at H
    obtain⟨rfl,rfl,rfl,rfl⟩:=H
    obtain⟨ASz11_0,cSz11_0,ASz11_1,cSz11_1,HGz11,hgz11,HSz11_0,HSz11_1⟩:=HI0.out
    have hcz11_0:=cellS162_0 HGz11
    have hcz11_1:=cellS162_1 HGz11
    have hcz11_2:=cellS162_2 HGz11
    have hcz11_3:=cellS162_3 HGz11
    have hcz11_4:=cellS162_4 HGz11
    have hfz11_2:=blk_frozen HGz11 2
    have hfz11_3:=blk_frozen HGz11 3
    have hfz11_4:=blk_frozen HGz11 4
    clear HGz11 hgz11
    go_wp2
    repeat (go_quiet (fail);try go_wp2)
    go_ret
    exact⟨by first|rfl|(simp [errW_none,errW_some]<;>rfl)|(simp [*,errW_none,errW_some]<;>rfl),by repeat (first|(with_reducible first|exact HI0.out|apply IsS162.alloc|apply IsS162.drewN|apply IsS162.drew|apply IsS162.set_2|apply IsS162.set_3|apply IsS162.set_4)|exact HI0.out),by repeat (first|(with_reducible first|exact HB.out|apply below_alloc|apply pw_below_drewN|apply below_drew1|refine below_set ?_ (IsS162.ge HI0.out))|exact HB.out),by repeat (first|(with_reducible first|exact HK.out|apply KeepBut.set_|apply keep_drewN|apply keep_drew|apply keep_alloc)|exact HK.out)⟩
end Go.Proofs.YtfiamddinkokbaaGreat.F
end

section
namespace Go.Proofs.YtfiamddinkokbaaGreat.F
open Go.RowKit Go.Shelf Go.Proofs.YtfiamddinkokbaaGreatW.PrintWords
abbrev SC := S121
theorem together_state {x y : List Int} {o a b n : Int} {r : Bool×Int×Int×Int} (h : chunk_sweep_together.f x y o a b n=some r) : r.2=(o,a,b) := by
 unfold chunk_sweep_together.f at h
 repeat' split at h
 all_goals first|(obtain rfl:=Option.some.inj h;rfl)|cases h
theorem stable_state_l {x y : List Int} : ∀ (k : Nat) (n o a b : Int) (r : Int×Int×Int×Int),chunk_sweep_stable.l0 k n x y o a b=some r→r.2=(o,a,b)
 | 0,_,_,_,_,_,h=>by simp [chunk_sweep_stable.l0] at h
 | k+1,n,o,a,b,r,h=>by
  simp only [chunk_sweep_stable.l0] at h
  obtain⟨t,ht,h2⟩:=Option.bind_eq_some_iff.1 h
  clear h
  have e:=together_state ht
  obtain⟨t0,t1,t2,t3⟩:=t
  simp only [Prod.mk.injEq] at e
  obtain⟨rfl,rfl,rfl⟩:=e
  split at h2
  ·exact stable_state_l k _ _ _ _ _ h2
  ·obtain rfl:=Option.some.inj h2;rfl
theorem next_state_l {x y : List Int} : ∀ (k : Nat) (n o a b : Int) (r : Int×Int×Int×Int),chunk_sweep_next.l0 k n x y o a b=some r→r.2=(o,a,b)
 | 0,_,_,_,_,_,h=>by simp [chunk_sweep_next.l0] at h
 | k+1,n,o,a,b,r,h=>by
  simp only [chunk_sweep_next.l0] at h
  repeat' split at h
  all_goals first|exact next_state_l k _ _ _ _ _ h|(obtain rfl:=Option.some.inj h;rfl)|cases h
def stepO (k : Nat) (x y : List Int) (base left right o a b : Int) : Option (Int×Int×Int×Int) :=
 (chunk_sweep_stable.f k x y o a b).bind fun t=>if t.1=0 then ((chunk_sweep_next.f k x y o a b).bind fun s=>if s.1<base then (if 0≤s.1∧s.1<x.length∧s.1<y.length then some (t.1,s.1,rd x s.1,rd y s.1) else none) else some (t.1,base,left,right)) else some (t.1,wrap64 (o+t.1),wrap64 (a+t.1),wrap64 (b+t.1))
def chunkC (n o a b o' a' b' : Int) : SC := ⟨decide (0<n),⟨o,o'⟩,⟨a,a'⟩,⟨b,b'⟩⟩
def ofL (x y : List Int) (base left right : Int) : Nat→Int→Int→Int→List SC→Option (List SC)
 | 0,_,_,_,_=>none
 | k+1,o,a,b,out=>if o<base∨a<left∨b<right then (stepO k x y base left right o a b).bind fun s=>if out.length≤1000000000000 then ofL x y base left right k s.2.1 s.2.2.1 s.2.2.2 (out++[chunkC s.1 o a b s.2.1 s.2.2.1 s.2.2.2]) else none else some out
def ofF (k : Nat) (base left right : Int) (l r : List S94) : Option (List SC×Int) :=
 (chunk_table.f k base left l).bind fun x=>(chunk_table.f k base right r).bind fun y=>if x.2=true∧y.2=true then (ofL x.1 y.1 base left right k 0 0 0 []).bind fun out=>some (out,0) else some ([],12)
theorem stepO_mono (x y : List Int) (base left right o a b : Int) (k : Nat) : LeO (stepO k x y base left right o a b) (stepO (k+1) x y base left right o a b) := by
 unfold stepO
 exact LeO.bind (chunk_sweep_stable.mono _ _ _ _ _ k) (fun t=>LeO.ite (LeO.bind (chunk_sweep_next.mono _ _ _ _ _ k) (fun s=>LeO.refl _)) (LeO.refl _))
theorem ofL_mono (x y : List Int) (base left right : Int) : ∀ (k : Nat) (o a b : Int) (out : List SC),LeO (ofL x y base left right k o a b out) (ofL x y base left right (k+1) o a b out)
 | 0,_,_,_,_=>LeO.none _
 | k+1,o,a,b,out=>by
  show LeO (if o<base∨a<left∨b<right then _ else _) (if o<base∨a<left∨b<right then _ else _)
  exact LeO.ite (LeO.bind (stepO_mono x y base left right o a b k) (fun s=>LeO.ite (ofL_mono x y base left right k _ _ _ _) (LeO.refl _))) (LeO.refl _)
theorem of_mono : ∀ base left right l r k,LeO (ofF k base left right l r) (ofF (k+1) base left right l r) := fun base left right l r k=>by
 unfold ofF
 exact LeO.bind (chunk_table.mono _ _ _ k) (fun x=>LeO.bind (chunk_table.mono _ _ _ k) (fun y=>LeO.ite (LeO.bind (ofL_mono _ _ _ _ _ k _ _ _ _) (fun _=>LeO.refl _)) (LeO.refl _)))
theorem IsS162.cell2 {w0 W : World} {g : Nat} {f0 f1 : List Int} {f2 f3 f4 : Int} (h : IsS162 w0 W g f0 f1 f2 f3 f4) : W.cell? ⟨g,2,none⟩=some (.int .i64 f2) := by obtain⟨_,_,_,_,hb,_⟩ := h;exact (blk_cell hb 2).trans rfl
theorem IsS162.cell3 {w0 W : World} {g : Nat} {f0 f1 : List Int} {f2 f3 f4 : Int} (h : IsS162 w0 W g f0 f1 f2 f3 f4) : W.cell? ⟨g,3,none⟩=some (.int .i64 f3) := by obtain⟨_,_,_,_,hb,_⟩ := h;exact (blk_cell hb 3).trans rfl
theorem IsS162.cell4 {w0 W : World} {g : Nat} {f0 f1 : List Int} {f2 f3 f4 : Int} (h : IsS162 w0 W g f0 f1 f2 f3 f4) : W.cell? ⟨g,4,none⟩=some (.int .i64 f4) := by obtain⟨_,_,_,_,hb,_⟩ := h;exact (blk_cell hb 4).trans rfl
theorem IsS162.froz {w0 W : World} {g : Nat} {f0 f1 : List Int} {f2 f3 f4 : Int} (h : IsS162 w0 W g f0 f1 f2 f3 f4) (j : Nat) : W.frozen? ⟨g,j,none⟩=false := by obtain⟨_,_,_,_,hb,_⟩ := h;exact Lib.frozen_of_heap hb j
theorem chunk_info : (Tryz.prog.info? 121).map (fun i=>(i.zero,i.size,i.bytes))=some (some (.agg #[.bool false,.int .i64 0,.int .i64 0,.int .i64 0,.int .i64 0,.int .i64 0,.int .i64 0]),7,56) := by kernel_rfl
set_option maxHeartbeats 8000000 in
set_option maxRecDepth 100000 in
theorem of_bad (k : Nat) (base left right : Int) (A3 : Option Addr) (c3 : Nat) (l : List S94) (A4 : Option Addr) (c4 : Nat) (r : List S94) (w : World) (hr3 : Kd.C k94 w A3 l.length l) (hc3 : l.length≤c3) (hr4 : Kd.C k94 w A4 r.length r) (hc4 : r.length≤c4)
  (x y:List Int) (xb yb:Bool) (hx:chunk_table.f k base left l=some (x,xb)) (hy:chunk_table.f k base right r=some (y,yb)) (hb:¬ (xb=true∧yb=true)) :
  Calls Tryz.prog 43 #[.int .i64 base,.int .i64 left,.int .i64 right,.slice A3 l.length c3,.slice A4 r.length c4] w fun e w'=>∃ v0,e = .returned (.tuple #[v0,.int .i64 12])∧Kd.R k121 121 w' w.heap.size (fun _=>True) v0 []∧Below w.heap.size w w':=by
 have H3:=Zd (fun W (hb:Below w.heap.size w W)=>chunk_table.calls k base left A3 c3 l x xb W (Kd.C_below hr3 hb) hc3 hx)
 have H4:=Zd (fun W (hb:Below w.heap.size w W)=>chunk_table.calls k base right A4 c4 r y yb W (Kd.C_below hr4 hb) hc4 hy)
 have tk1:True:=trivial
 clear hr3 hr4 hx hy
 cases xb<;>cases yb
 case true.true=>exact absurd ⟨rfl,rfl⟩ hb
 all_goals
  clear hb
  go_enter Tryz.func43,Tryz.ntmps43
  go_wp2_with (first
   | (go_at_call 85;have _t:=tk1;(with_reducible refine (H3.out _ (Below.refl _ _)).mono ?_);rintro e w1 ⟨v1,rfl,hR1,hb1⟩;clear tk1;obtain⟨Ax,cx,rfl,_,hCx⟩:=Kd.R_reads hR1;have HB1:=Zd hb1;clear hb1 hR1 hCx)
   | (go_at_call 85;have _t:=HB1;(with_reducible refine (H4.out _ HB1.out).mono ?_);rintro e w2 ⟨v2,rfl,hR2,hb2⟩;obtain⟨Ay,cy,rfl,_,hCy⟩:=Kd.R_reads hR2;have HB2:=Zd (below_step HB1.out hb2);clear hb2 hR2 hCy))
  go_ret2
  exact⟨_,rfl,Kd.R_nil _ _ _ _ _,HB2.out⟩
set_option maxHeartbeats 8000000 in
set_option maxRecDepth 100000 in
theorem of_good (k : Nat) (base left right : Int) (A3 : Option Addr) (c3 : Nat) (l : List S94) (A4 : Option Addr) (c4 : Nat) (r : List S94) (w : World) (hr3 : Kd.C k94 w A3 l.length l) (hc3 : l.length≤c3) (hr4 : Kd.C k94 w A4 r.length r) (hc4 : r.length≤c4)
  (x y:List Int) (res:List SC) (hx:chunk_table.f k base left l=some (x,true)) (hy:chunk_table.f k base right r=some (y,true)) (ho:ofL x y base left right k 0 0 0 []=some res) :
  Calls Tryz.prog 43 #[.int .i64 base,.int .i64 left,.int .i64 right,.slice A3 l.length c3,.slice A4 r.length c4] w fun e w'=>∃ v0,e = .returned (.tuple #[v0,.int .i64 0])∧Kd.R k121 121 w' w.heap.size (fun _=>True) v0 res∧Below w.heap.size w w':=by
 have H3:=Zd (fun W (hb:Below w.heap.size w W)=>chunk_table.calls k base left A3 c3 l x true W (Kd.C_below hr3 hb) hc3 hx)
 have H4:=Zd (fun W (hb:Below w.heap.size w W)=>chunk_table.calls k base right A4 c4 r y true W (Kd.C_below hr4 hb) hc4 hy)
 have HO:=Zd ho
 have tk1:True:=trivial
 clear hr3 hr4 hx hy ho
 go_enter Tryz.func43,Tryz.ntmps43
 go_wp2_with (first
  | (go_at_call 85;have _t:=tk1;(with_reducible refine (H3.out _ (Below.refl _ _)).mono ?_);rintro e w1 ⟨v1,rfl,hR1,hb1⟩;clear tk1;obtain⟨Ax,cx,rfl,_,hCx⟩:=Kd.R_reads hR1;have HB1:=Zd hb1;have HX:=Zd hCx;clear hb1 hR1 hCx)
  | (go_at_call 85;have _t:=HB1;(with_reducible refine (H4.out _ HB1.out).mono ?_);rintro e w2 ⟨v2,rfl,hR2,hb2⟩;obtain⟨Ay,cy,rfl,_,hCy⟩:=Kd.R_reads hR2;have HB2:=Zd (below_step HB1.out hb2);have HX2:=Zd (Kd.C_below HX.out hb2);have HY2:=Zd hCy;clear hb2 hR2 hCy))
 have HI:=Zd (IsS162.new w2 w2 Ax cx Ay cy x y 0 0 0 (Below.refl _ _) HX2.out HY2.out)
 have HW:=Zd (below_alloc (Below.refl w2.heap.size w2) (.cells #[.slice Ax x.length cx,.slice Ay y.length cy,.int .i64 0,.int .i64 0,.int .i64 0] 162))
 clear H3 H4 HB1 HX
 obtain⟨g,hg⟩:∃ g,g=w2.heap.size:=⟨_,rfl⟩
 rw [←hg] at HI ⊢
 generalize (w2.alloc (.cells #[.slice Ax x.length cx,.slice Ay y.length cy,.int .i64 0,.int .i64 0,.int .i64 0] 162))=W0 at *
 clear hg
 go_loopg [17] k (fun gg s17 wr=>∃ (kk:Nat) (o a b:Int) (out:List SC),kk≤gg∧Aside0 (ofL x y base left right kk o a b out=some res)∧Aside0 (IsS162 w2 wr g x y o a b)∧Aside0 (Kd.R k121 121 wr w2.heap.size (fun j=>j≠g) s17 out)∧Aside0 (Below w2.heap.size w2 wr))
 case atStart=>exact⟨k,0,0,0,[],Nat.le_refl _,HO,HI,⟨Kd.R_nil _ _ _ _ _⟩,HW⟩
 case round =>
  clear HO HI HW
  obtain⟨kk,o,a,b,out,hkk,HO,HI,HR,HW⟩:=hrel
  obtain⟨k1,rfl⟩:∃ k1,kk=k1+1:=by
   cases kk with
   | zero=>exact absurd HO.out (by simp [ofL])
   | succ k1=>exact⟨k1,rfl⟩
  have ho:=HO.out
  simp only [ofL] at ho
  obtain⟨ASz,cSz,ASy,cSy,HG,hge,HSx,HSy⟩:=HI.out
  have p2:=(blk_cell HG 2).trans (rfl:_=some (Value.int .i64 o))
  have p3:=(blk_cell HG 3).trans (rfl:_=some (Value.int .i64 a))
  have p4:=(blk_cell HG 4).trans (rfl:_=some (Value.int .i64 b))
  clear HG hge HSx HSy
  by_cases hcond:o<base∨a<left∨b<right
  ·rw [if_pos hcond] at ho
   obtain⟨⟨n,o',a',b'⟩,hstep,ho1⟩:=Option.bind_eq_some_iff.1 ho
   clear ho
   simp only at ho1
   split at ho1
   case isFalse=>cases ho1
   case isTrue hlen =>
   have HO2:=Zd ho1
   have HSTEP:=Zd hstep
   clear ho1 hstep HO
   have hd:(decide (o<base)=true)∨(decide (o<base)=false∧decide (a<left)=true)∨(decide (o<base)=false∧decide (a<left)=false∧decide (b<right)=true):=by
    by_cases h1:o<base
    ·exact .inl (decide_eq_true h1)
    ·by_cases h2:a<left
     ·exact .inr (.inl ⟨decide_eq_false h1,decide_eq_true h2⟩)
     ·exact .inr (.inr ⟨decide_eq_false h1,decide_eq_false h2,decide_eq_true (by omega)⟩)
   have hst:=HSTEP.out
   unfold stepO at hst
   obtain⟨⟨n0,o0,a0,b0⟩,hs1,hst1⟩:=Option.bind_eq_some_iff.1 hst
   clear hst
   have e0:=stable_state_l _ _ _ _ _ _ hs1
   simp only [Prod.mk.injEq] at e0 hst1
   obtain⟨rfl,rfl,rfl⟩:=e0
   have HS1:=Zd hs1
   have HST:=Zd hst1
   clear hs1 hst1 HSTEP hcond
   have hR0:=HR.out
   obtain⟨Av,cv,rfl⟩:=Kd.R_slice hR0
   clear hR0
   rcases hd with d1|⟨d1,d2⟩|⟨d1,d2,d3⟩
   all_goals
    go_wp2_with (first
     | (go_at_call 86;refine (chunk_sweep_stable.calls k1 g x y o0 a0 b0 n0 o0 a0 b0 w2 _ HI.out HW.out HS1.out).mono ?_;rintro e w3 ⟨rfl,hi3,hb3,hk3⟩;have HI3:=Zd hi3;have HW3:=Zd hb3;have HR3:=Zd (Kd.R_keep HR.out hk3 (fun _ h=>h));clear hi3 hb3 hk3 p2 p3 p4))
    clear HI HW HR
    obtain⟨ASz,cSz,ASy,cSy,HG,hge,HSx,HSy⟩:=HI3.out
    have p2:=(blk_cell HG 2).trans (rfl:_=some (Value.int .i64 o0))
    have p3:=(blk_cell HG 3).trans (rfl:_=some (Value.int .i64 a0))
    have p4:=(blk_cell HG 4).trans (rfl:_=some (Value.int .i64 b0))
    clear HG hge HSx HSy
    go_quiet (fail)
    have HI4:=Zd (HI3.out.drewN nq)
    have HW4:=Zd (pw_below_drewN HW3.out nq)
    have HR4:=Zd (Kd.R_drewN HR3.out nq)
    clear HI3 HW3 HR3 p2 p3 p4
    generalize w3.drewN nq=w4 at *
    go_upto_if 90 with fail
    go_cut [19,20,21] (fun v19 v20 v21 wc=>v19 = .int .i64 o'∧v20 = .int .i64 a'∧v21 = .int .i64 b'∧Aside0 (n=n0)∧Aside0 (IsS162 w2 wc g x y o0 a0 b0)∧Aside0 (Below w2.heap.size w2 wc)∧Aside0 (Kd.R k121 121 wc w2.heap.size (fun j=>j≠g) (.slice Av out.length cv) out))
    case first =>
     have hst:=HST.out
     clear HST
     by_cases hn:n0=0
     ·rw [if_pos hn] at hst
      obtain⟨⟨s0,s1,s2,s3⟩,hs,hst2⟩:=Option.bind_eq_some_iff.1 hst
      clear hst
      have e1:=next_state_l _ _ _ _ _ _ hs
      simp only [Prod.mk.injEq] at e1 hst2
      obtain⟨rfl,rfl,rfl⟩:=e1
      have HN:=Zd hs
      have q1:(n0==(0:Int))=true:=by rw [hn];rfl
      clear hs hn
      by_cases hb:s0<base
      ·have q2:decide (s0<base)=true:=decide_eq_true hb
       rw [if_pos hb] at hst2
       split at hst2
       case isFalse=>cases hst2
       case isTrue hgd =>
       simp only [Option.some.injEq,Prod.mk.injEq] at hst2
       obtain⟨rfl,rfl,rfl,rfl⟩:=hst2
       go_wp2_with (first
        | (go_at_call 87;refine (chunk_sweep_next.calls k1 g x y s1 s2 s3 s0 s1 s2 s3 w2 _ HI4.out HW4.out HN.out).mono ?_;rintro e w5 ⟨rfl,hi5,hb5,hk5⟩;have HI5:=Zd hi5;have HW5:=Zd hb5;have HR5:=Zd (Kd.R_keep HR4.out hk5 (fun _ h=>h));clear hi5 hb5 hk5))
       obtain⟨ax,ex,cx0⟩:=Kd.at_int HX2.out s0 hgd.1 hgd.2.1
       obtain⟨ay,ey,cy0⟩:=Kd.at_int HY2.out s0 hgd.1 hgd.2.2
       subst ex ey
       replace cx0:=pw_cell_below HW5.out cx0
       replace cy0:=pw_cell_below HW5.out cy0
       have z0:=hgd.1
       have z1:=hgd.2.1
       have z2:=hgd.2.2
       go_quiet (fail)
       go_wp2
       go_meet
       case rel=>exact⟨rfl,rfl,rfl,⟨by first|rfl|trivial⟩,⟨HI5.out.drewN nq⟩,⟨pw_below_drewN HW5.out nq⟩,⟨Kd.R_drewN HR5.out nq⟩⟩
      ·have q2:decide (s0<base)=false:=decide_eq_false hb
       rw [if_neg hb] at hst2
       simp only [Option.some.injEq,Prod.mk.injEq] at hst2
       obtain⟨rfl,rfl,rfl,rfl⟩:=hst2
       go_wp2_with (first
        | (go_at_call 87;refine (chunk_sweep_next.calls k1 g x y s1 s2 s3 s0 s1 s2 s3 w2 _ HI4.out HW4.out HN.out).mono ?_;rintro e w5 ⟨rfl,hi5,hb5,hk5⟩;have HI5:=Zd hi5;have HW5:=Zd hb5;have HR5:=Zd (Kd.R_keep HR4.out hk5 (fun _ h=>h));clear hi5 hb5 hk5))
       go_meet
       case rel=>exact⟨rfl,rfl,rfl,⟨by first|rfl|trivial⟩,HI5,HW5,HR5⟩
     ·rw [if_neg hn] at hst
      simp only [Option.some.injEq,Prod.mk.injEq] at hst
      obtain⟨rfl,rfl,rfl,rfl⟩:=hst
      have q1:(n0==(0:Int))=false:=beq_eq_false_iff_ne.2 hn
      clear hn
      go_wp2
      go_meet
      case rel=>exact⟨rfl,rfl,rfl,⟨by first|rfl|trivial⟩,HI4,HW4,HR4⟩
    case rest =>
     obtain⟨rfl,rfl,rfl,hnn,HI5,HW5,HR5⟩:=hcut
     obtain rfl:=hnn.out
     clear HI4 HW4 HR4 hnn HX2 HY2
     obtain⟨ASz,cSz,ASy,cSy,HG,hge,HSx,HSy⟩:=HI5.out
     have p2:=(blk_cell HG 2).trans (rfl:_=some (Value.int .i64 o0))
     have p3:=(blk_cell HG 3).trans (rfl:_=some (Value.int .i64 a0))
     have p4:=(blk_cell HG 4).trans (rfl:_=some (Value.int .i64 b0))
     have HFr:Aside0 (∀ j,wc.heap.size≤j→j≠g):=⟨fun j hj e=>by have:=(Array.getElem?_eq_some_iff.1 HG).1;omega⟩
     have HGE:=Zd hge
     have HLE:=Zd HW5.out.size
     clear HG hge HSx HSy HST HS1
     go_wp2
     go_region_held3 (fun w'=>w'.cell? ⟨g,2,none⟩=some (.int .i64 o0)∧w'.cell? ⟨g,3,none⟩=some (.int .i64 a0)∧w'.cell? ⟨g,4,none⟩=some (.int .i64 b0))
      (first|go_keep|exact⟨HI6.out.cell2,HI6.out.cell3,HI6.out.cell4⟩)
      ((refine Kd.R_append_step k121 (w0:=w2) (W:=wc.drew) w2.heap.size (by rfl) (.tmp 108) (.tmp 130) 36 121 (.agg #[.bool false,.int .i64 0,.int .i64 0,.int .i64 0,.int .i64 0,.int .i64 0,.int .i64 0]) 56 (by rfl) Tryz.underlying36 chunk_info rfl (by decide) (by omega) (.slice Av out.length cv) out (chunkC n o0 a0 b0 o' a' b') [.bool (decide (0<n)),.int .i64 o0,.int .i64 o',.int .i64 a0,.int .i64 a',.int .i64 b0,.int .i64 b'] (fun j=>j≠g) (fun _=>False) (by rfl) (by rfl) (k121_mkM _ _ _ _) (fun _ hk=>hk.elim) HFr.out (Kd.R_drew HR5.out) (below_drew HW5.out) HLE.out (by omega) ?_;intro v1 w6 ho6 hb6 hg6 hat6;obtain⟨Aw,cw,rfl⟩:=Kd.R_slice ho6;have HI6:=Zd (IsS162.grown (HI5.out.drew) hg6 (fun e=>HR5.out.1 g e.symm rfl));have HR6:=Zd ho6;have HW6:=Zd hb6;have z2:=HI6.out.cell2;have z3:=HI6.out.cell3;have z4:=HI6.out.cell4;have y2:=HI6.out.froz 2;have y3:=HI6.out.froz 3;have y4:=HI6.out.froz 4;clear ho6 hb6 hg6 hat6))
     go_wp2
     go_roundg k1
     case measure=>omega
     case rel =>
      refine⟨k1,o',a',b',out++[chunkC n o0 a0 b0 o' a' b'],Nat.le_refl _,HO2,⟨((HI6.out.set_2 o').set_3 a').set_4 b'⟩,⟨?_⟩,⟨((HW6.out.setCell (p:=⟨g,2,none⟩) HGE.out _).setCell (p:=⟨g,3,none⟩) HGE.out _).setCell (p:=⟨g,4,none⟩) HGE.out _⟩⟩
      rw [show out.length+1=(out++[chunkC n o0 a0 b0 o' a' b']).length by simp only [List.length_append,List.length_singleton]]
      exact Kd.R_far (Kd.R_far (Kd.R_far HR6.out (p:=⟨g,2,none⟩) (fun _ h=>h) _) (p:=⟨g,3,none⟩) (fun _ h=>h) _) (p:=⟨g,4,none⟩) (fun _ h=>h) _
  ·rw [if_neg hcond] at ho
   obtain rfl:=Option.some.inj ho
   have d1:decide (o<base)=false:=decide_eq_false (by omega)
   have d2:decide (a<left)=false:=decide_eq_false (by omega)
   have d3:decide (b<right)=false:=decide_eq_false (by omega)
   obtain⟨Av,cv,rfl⟩:=Kd.R_slice HR.out
   clear ho hcond HO
   go_wp2
   go_ret2
   exact⟨_,rfl,Kd.R_mono (Kd.R_lower HR.out HB2.out.size) (fun _ _=>trivial),Below.trans HB2.out (HW.out.mono HB2.out.size)⟩
theorem of_calls (k : Nat) (base left right : Int) (A3 : Option Addr) (c3 : Nat) (l : List S94) (A4 : Option Addr) (c4 : Nat) (r : List S94) (r1 : List SC) (r2 : Int) (w : World) (hr3 : Kd.C k94 w A3 l.length l) (hc3 : l.length≤c3) (hr4 : Kd.C k94 w A4 r.length r) (hc4 : r.length≤c4) (h : ofF k base left right l r=some (r1,r2)) :
  Calls Tryz.prog 43 #[.int .i64 base,.int .i64 left,.int .i64 right,.slice A3 l.length c3,.slice A4 r.length c4] w fun e w'=>∃ v0,e = .returned (.tuple #[v0,.int .i64 r2])∧Kd.R k121 121 w' w.heap.size (fun _=>True) v0 r1∧Below w.heap.size w w':=by
 unfold ofF at h
 obtain⟨⟨x,xb⟩,hx,h1⟩:=Option.bind_eq_some_iff.1 h
 obtain⟨⟨y,yb⟩,hy,h2⟩:=Option.bind_eq_some_iff.1 h1
 simp only at h2
 split at h2
 ·rename_i hb
  obtain⟨rfl,rfl⟩:=hb
  obtain⟨out,ho,h3⟩:=Option.bind_eq_some_iff.1 h2
  simp only [Option.some.injEq,Prod.mk.injEq] at h3
  obtain⟨rfl,rfl⟩:=h3
  exact of_good k base left right A3 c3 l A4 c4 r w hr3 hc3 hr4 hc4 x y out hx hy ho
 ·rename_i hb
  simp only [Option.some.injEq,Prod.mk.injEq] at h2
  obtain⟨rfl,rfl⟩:=h2
  exact of_bad k base left right A3 c3 l A4 c4 r w hr3 hc3 hr4 hc4 x y xb yb hx hy hb
set_option maxHeartbeats 4000000 in
set_option maxRecDepth 100000 in
theorem back_calls {B f bf c : Nat} {A C : Option Addr} {ca cb : Nat} {a b : List Int} {l : List SP} {far : List Int} {w : World} (a0 a1 b0 b1 off k d : Int) (xs ys : List Int)
  (hF:Fin B f (.slice A a.length ca) (.slice C b.length cb) l w) (hA:Kd.C (Kd.int .i64) w A a.length a) (hC:Kd.C (Kd.int .i64) w C b.length b) (hR:Row B bf c far w)
  (ha0:0≤a0) (ha1:a0≤a1) (ha2:a1≤a.length) (hb0:0≤b0) (hb1:b0≤b1) (hb2:b1≤b.length) (hla:a.length≤4000000000) (hlb:b.length≤4000000000)
  (hd0:0≤d) (hd1:d≤20000000000) (hk1 : -d≤k) (hk2:k≤d) (ho:d+1≤off) (ho1:off≤20000000000) (hlf:off+d+1<far.length) (hfb:∀ x∈far,-1≤x∧x≤100000000000)
  (hxl:(xs.length:Int)=a1-a0) (hyl:(ys.length:Int)=b1-b0) (hx:∀ u:Int,0≤u→u<a1-a0→rd a (a1-1-u)=rd xs u) (hy:∀ u:Int,0≤u→u<b1-b0→rd b (b1-1-u)=rd ys u)
  (hu0:0≤beginI far off k d) (hu1:k≤beginI far off k d) (hu2:beginI far off k d≤100000000000) :
  Calls Tryz.prog 154 #[.pointer (some ⟨f,0,none⟩),.agg #[.int .i64 a0,.int .i64 a1,.int .i64 b0,.int .i64 b1],.agg #[.slice (some ⟨bf,0,none⟩) far.length c,.int .i64 off],.int .i64 k,.int .i64 d] w
   (Went bf (off+k) (beginI far off k d) (slideI xs ys k (beginI far off k d)) w):=by
 have hrl:=Kd.R_reads' hR
 have HRC:=Zd hrl.2.2
 have HRL:=Zd hrl.2.1
 have HBeg:=Zd (begin_f far off k d hd0 hd1 hk1 hk2 ho ho1 hlf hfb)
 have HF:=Zd hF
 have HA:=Zd hA
 have HC:=Zd hC
 have HR:=Zd hR
 have HX:=Zd hx
 have HY:=Zd hy
 have HXL:=Zd hxl
 have HYL:=Zd hyl
 have HLF:=Zd hlf
 clear hF hA hC hR hx hy hfb hxl hyl hrl hlf
 generalize beginI far off k d=u0 at *
 go_enter Tryz.func154,Tryz.ntmps154
 go_wp2_with (first|(go_at_call 162;with_reducible refine (lcs_run_begin.calls _ _ far off k d u0 _ (Kd.C_alloc (Kd.C_alloc HRC.out _) _) HRL.out HBeg.out).mono ?_;rintro e W1 ⟨rfl,hb1⟩;have h2b:=two_boxes hb1;clear hb1))
 obtain⟨hb1,hx6,hx7⟩:=h2b
 have HB1:=Zd hb1
 have p0:=(blk_cell hx6 0).trans (rfl:_=some (Value.int .i64 a0))
 have p1:=(blk_cell hx6 1).trans (rfl:_=some (Value.int .i64 a1))
 have p2:=(blk_cell hx6 2).trans (rfl:_=some (Value.int .i64 b0))
 have p3:=(blk_cell hx6 3).trans (rfl:_=some (Value.int .i64 b1))
 have r0:=(blk_cell hx7 0).trans (rfl:_=some (Value.slice (some ⟨bf,0,none⟩) far.length c))
 have r1:=(blk_cell hx7 1).trans (rfl:_=some (Value.int .i64 off))
 have q0:=(HF.out.below hb1).c0
 have q1:=(HF.out.below hb1).c1
 have hst:=Kd.R_cell (0:Int) (Kd.R_below HR.out hb1) (off+k) (by omega) (by have:=HLF.out;omega)
 have st1:=hst.1
 have st2:=hst.2
 have st3:0≤off+k:=by omega
 have st4:off+k<(far.length:Int):=by have:=HLF.out;omega
 clear hb1 hx6 hx7 hst
 go_loopg [12] (a1-a0).toNat (fun gg s12 wr=>∃ (u:Int) (m:Nat),s12 = .int .i64 u∧wr=W1.drewN m∧0≤u∧k≤u∧u≤100000000000∧Aside0 (slideI xs ys k u=slideI xs ys k u0)∧Aside0 ((a1-a0-u).toNat≤gg))
 case atStart=>exact⟨u0,0,rfl,rfl,hu0,hu1,hu2,⟨rfl⟩,⟨by omega⟩⟩
 case round =>
  obtain⟨u,m,rfl,rfl,hv0,hv1,hv2,HS,HM⟩:=hrel
  by_cases h1:u<a1-a0
  ·have h1b:decide (u<a1-a0)=true:=decide_eq_true h1
   by_cases h2:u-k<b1-b0
   ·have h2b:decide (u-k<b1-b0)=true:=decide_eq_true h2
    obtain⟨ad,e1,hx1⟩:=C_int_at (Kd.C_below HA.out HB1.out) (a1-1-u) (by omega) (by omega)
    subst e1
    obtain⟨bd,e2,hx2⟩:=C_int_at (Kd.C_below HC.out HB1.out) (b1-1-(u-k)) (by omega) (by omega)
    subst e2
    have i1:0≤a1-1-u:=by omega
    have i2:a1-1-u<(a.length:Int):=by omega
    have i3:0≤b1-1-(u-k):=by omega
    have i4:b1-1-(u-k)<(b.length:Int):=by omega
    have hxu:=HX.out u hv0 h1
    have hyu:=HY.out (u-k) (by omega) h2
    by_cases h3:rd a (a1-1-u)=rd b (b1-1-(u-k))
    ·have h3b:(rd a (a1-1-u)==rd b (b1-1-(u-k)))=true:=beq_iff_eq.2 h3
     have H3:Aside0 (slideI xs ys k (u+1)=slideI xs ys k u0):=⟨by rw [←slideI_on (by have:=HXL.out;omega) (by have:=HYL.out;omega) (by rw [←hxu,←hyu];exact h3)];exact HS.out⟩
     clear h3 hxu hyu
     go_wp2
     go_quiet (fail)
     go_wp2
     go_roundg ((a1-a0-(u+1)).toNat)
     case measure=>have:=HM.out;omega
     case rel=>exact⟨u+1,m+nq,by go_num,rfl,by omega,by omega,by omega,H3,⟨Nat.le_refl _⟩⟩
    ·have h3b:(rd a (a1-1-u)==rd b (b1-1-(u-k)))=false:=by simpa using h3
     have H3:=Zd (show slideI xs ys k u0=u by rw [←HS.out];exact slideI_off (by rw [←hxu,←hyu];exact fun h=>h3 h.2.2))
     clear h3 hxu hyu
     go_wp2
     go_quiet (fail)
     go_wp2
     go_ret2
     rw [H3.out]
     exact⟨rfl,W1.drewN (m+nq),pw_below_drewN HB1.out _,rfl⟩
   ·have h2b:decide (u-k<b1-b0)=false:=decide_eq_false h2
    have H3:=Zd (show slideI xs ys k u0=u by rw [←HS.out];exact slideI_off (fun h=>h2 (by have:=HYL.out;omega)))
    go_wp2
    go_quiet (fail)
    go_wp2
    go_ret2
    rw [H3.out]
    exact⟨rfl,W1.drewN (m+nq),pw_below_drewN HB1.out _,rfl⟩
  ·have h1b:decide (u<a1-a0)=false:=decide_eq_false h1
   have H3:=Zd (show slideI xs ys k u0=u by rw [←HS.out];exact slideI_off (fun h=>h1 (by have:=HXL.out;omega)))
   go_wp2
   go_quiet (fail)
   go_wp2
   go_ret2
   rw [H3.out]
   exact⟨rfl,W1.drewN (m+nq),pw_below_drewN HB1.out _,rfl⟩
def boundB (l : List Int) : Bool := l.all (fun x=>decide (-1≤x)&&decide (x≤100000000000))
theorem boundB_out {l : List Int} (h : boundB l=true) : ∀ x∈l,-1≤x∧x≤100000000000 := by
 unfold boundB at h
 simpa only [Bool.and_eq_true,decide_eq_true_eq,List.all_eq_true] using h
theorem rd_bound {l : List Int} (h : ∀ x∈l,-1≤x∧x≤100000000000) (i : Int) : -1≤rd l i∧rd l i≤100000000000 := by
 unfold rd
 rw [List.getD_eq_getElem?_getD]
 by_cases hi:i.toNat<l.length
 ·rw [List.getElem?_eq_getElem hi];exact h _ (List.getElem_mem hi)
 ·rw [List.getElem?_eq_none (by omega)];simp
theorem rdOf_rd (l : List Int) (i : Int) : rdOf 0 l i=rd l i := rfl
def okFar (xs ys far other : List Int) (off k d : Int) : Bool := decide (0≤beginI far off k d)&&(decide (k≤beginI far off k d)&&(decide (beginI far off k d≤100000000000)&&(boundB far&&(boundB other &&
 (decide (beginI far off k d≤slideI xs ys k (beginI far off k d))&&decide (slideI xs ys k (beginI far off k d)≤100000000000))))))
theorem okFar_out {xs ys far other : List Int} {off k d : Int} (h : okFar xs ys far other off k d=true) : 0≤beginI far off k d∧k≤beginI far off k d∧beginI far off k d≤100000000000∧(∀ x∈far,-1≤x∧x≤100000000000)∧(∀ x∈other,-1≤x∧x≤100000000000) ∧
  beginI far off k d≤slideI xs ys k (beginI far off k d)∧slideI xs ys k (beginI far off k d)≤100000000000:=by
 unfold okFar at h
 simp only [Bool.and_eq_true,decide_eq_true_eq] at h
 exact⟨h.1,h.2.1,h.2.2.1,boundB_out h.2.2.2.1,boundB_out h.2.2.2.2.1,h.2.2.2.2.2.1,h.2.2.2.2.2.2⟩
def metB (par : Bool) (other : List Int) (off c lim n e : Int) : Bool := par&&(decide (-lim≤c)&&(decide (c≤lim)&&(rd other (off+c) != -1&&decide (n≤e+rd other (off+c)))))
def frontF (xs ys other : List Int) (off delta n d lim : Int) (par : Bool) : Nat→Int→List Int→Option (List Int×Option (Int×Int×Int))
 | 0,_,far=>some (far,none)
 | s+1,k,far =>
  if okFar xs ys far other off k d=true then
   (if metB par other off (delta-k) lim n (slideI xs ys k (beginI far off k d))=true then
    some (far.set (off+k).toNat (slideI xs ys k (beginI far off k d)),some (beginI far off k d,slideI xs ys k (beginI far off k d),k))
   else frontF xs ys other off delta n d lim par s (k+2) (far.set (off+k).toNat (slideI xs ys k (beginI far off k d))))
  else none
def midK2 (n m : Int) (next : List Int→Option (Int×Int×Int)) : Option (List Int×Option (Int×Int×Int))→Option (Int×Int×Int)
 | none=>none
 | some (_,some (u,e,k))=>some (n-e,m-(e-k),e-u)
 | some (rear',none)=>next rear'
def midK1 (next : List Int→Option (Int×Int×Int)) : Option (List Int×Option (Int×Int×Int))→Option (Int×Int×Int)
 | none=>none
 | some (_,some (u,e,k))=>some (u,u-k,e-u)
 | some (fore',none)=>next fore'
def midF (xs ys : List Int) (off delta n m : Int) : Nat→Int→List Int→List Int→Option (Int×Int×Int)
 | 0,_,_,_=>none
 | s+1,d,fore,rear =>
  midK1 (fun fore'=>midK2 n m (fun rear'=>midF xs ys off delta n m s (d+1) fore' rear')
    (frontF xs.reverse ys.reverse fore' off delta n d d (delta.tmod 2==0) (d+1).toNat (-d) rear))
   (frontF xs ys rear off delta n d (d-1) (delta.tmod 2 != 0) (d+1).toNat (-d) fore)
def middleF (xs ys : List Int) : Option (Int×Int×Int) :=
 midF xs ys ((xs.length+ys.length:Nat)+1) ((xs.length:Int)-ys.length) xs.length ys.length (xs.length+ys.length+1) 0 (newRow (xs.length+ys.length)) (newRow (xs.length+ys.length))
theorem metB_true {par : Bool} {other : List Int} {off c lim n e : Int} (h : metB par other off c lim n e=true) :
  par=true ∧ -lim≤c∧c≤lim∧(rd other (off+c) != -1)=true∧n≤e+rd other (off+c):=by
 unfold metB at h
 simp only [Bool.and_eq_true,decide_eq_true_eq] at h
 exact⟨h.1,h.2.1,h.2.2.1,h.2.2.2.1,h.2.2.2.2⟩
theorem metB_false {par : Bool} {other : List Int} {off c lim n e : Int} (h : ¬ metB par other off c lim n e=true) :
  par=false∨(par=true∧decide (-lim≤c)=false)∨(par=true∧decide (-lim≤c)=true∧decide (c≤lim)=false) ∨
  (par=true∧decide (-lim≤c)=true∧decide (c≤lim)=true∧(rd other (off+c) != -1)=false) ∨
  (par=true∧decide (-lim≤c)=true∧decide (c≤lim)=true∧(rd other (off+c) != -1)=true∧decide (n≤e+rd other (off+c))=false):=by
 unfold metB at h
 cases par with
 | false=>exact .inl rfl
 | true =>
  right
  cases h1:decide (-lim≤c) with
  | false=>exact .inl ⟨rfl,rfl⟩
  | true =>
   right
   cases h2:decide (c≤lim) with
   | false=>exact .inl ⟨rfl,rfl,rfl⟩
   | true =>
    right
    cases h3:rd other (off+c) != -1 with
    | false=>exact .inl ⟨rfl,rfl,rfl,rfl⟩
    | true =>
     right
     cases h4:decide (n≤e+rd other (off+c)) with
     | false=>exact⟨rfl,rfl,rfl,rfl,rfl⟩
     | true=>exact absurd (by rw [h1,h2,h3,h4];rfl) h
theorem rd_reverse (xs : List Int) (u : Int) (h0 : 0≤u) (h1 : u<xs.length) : rd xs.reverse u=rd xs ((xs.length : Int)-1-u) := by
 unfold rd
 rw [List.getD_eq_getElem?_getD,List.getD_eq_getElem?_getD,List.getElem?_reverse (by omega),show xs.length-1-u.toNat=((xs.length:Int)-1-u).toNat by omega]
theorem newRun_at (x : Int) (N : Nat) (w : World) (hx : x=N) (h1 : N≤8000000000) : Calls Tryz.prog 152 #[.int .i64 x] w fun e w' =>
  ∃ g c,e = .returned (.agg #[.slice (some ⟨g,0,none⟩) (2*N+3) c,.int .i64 ((N:Int)+1)])∧w.heap.size≤g∧Row w.heap.size g c (newRow N) w'∧Below w.heap.size w w':=by
 subst hx
 refine (newRun_calls N w h1).mono ?_
 rintro e w' ⟨g,c,rfl,h⟩
 exact⟨g,c,by rw [newRow_length],h⟩
structure Mid (w : World) (L n3 n4 n8 n9 bf cf br cr : Nat) (a0 a1 b0 b1 off : Int) (fore rear : List Int) (wr : World) : Prop where
 below:Below w.heap.size w wr
 x3:wr.heap[n3]? = some (.cells #[.int .i64 a0,.int .i64 a1,.int .i64 b0,.int .i64 b1] 198 (0,0))
 x4:wr.heap[n4]? = some (.cells #[.int .i64 0,.int .i64 0,.int .i64 0,.int .i64 0] 217 (0,0))
 x8:wr.heap[n8]? = some (.cells #[.slice (some ⟨bf,0,none⟩) L cf,.int .i64 off] 222 (0,0))
 x9:wr.heap[n9]? = some (.cells #[.slice (some ⟨br,0,none⟩) L cr,.int .i64 off] 222 (0,0))
 lf:fore.length=L
 lr:rear.length=L
 rf:Row w.heap.size bf cf fore wr
 rr:Row w.heap.size br cr rear wr
 ne:bf≠br
theorem mid_start {w w1 w2 : World} {N nq gf cf gr cr : Nat} {a0 a1 b0 b1 off : Int}
  (hb1:Below (((w.alloc (.cells #[.int .i64 a0,.int .i64 a1,.int .i64 b0,.int .i64 b1] 198)).alloc (.cells #[.int .i64 0,.int .i64 0,.int .i64 0,.int .i64 0] 217)).drewN nq).heap.size
   (((w.alloc (.cells #[.int .i64 a0,.int .i64 a1,.int .i64 b0,.int .i64 b1] 198)).alloc (.cells #[.int .i64 0,.int .i64 0,.int .i64 0,.int .i64 0] 217)).drewN nq) w1)
  (hg1:(((w.alloc (.cells #[.int .i64 a0,.int .i64 a1,.int .i64 b0,.int .i64 b1] 198)).alloc (.cells #[.int .i64 0,.int .i64 0,.int .i64 0,.int .i64 0] 217)).drewN nq).heap.size≤gf)
  (hrow1:Row (((w.alloc (.cells #[.int .i64 a0,.int .i64 a1,.int .i64 b0,.int .i64 b1] 198)).alloc (.cells #[.int .i64 0,.int .i64 0,.int .i64 0,.int .i64 0] 217)).drewN nq).heap.size gf cf (newRow N) w1)
  (hb2:Below w1.heap.size w1 w2) (hg2:w1.heap.size≤gr) (hrow2:Row w1.heap.size gr cr (newRow N) w2) :
  Mid w (2*N+3) w.heap.size (w.heap.size+1) w2.heap.size (w2.heap.size+1) gf cf gr cr a0 a1 b0 b1 off (newRow N) (newRow N)
   ((w2.alloc (.cells #[.slice (some ⟨gf,0,none⟩) (2*N+3) cf,.int .i64 off] 222)).alloc (.cells #[.slice (some ⟨gr,0,none⟩) (2*N+3) cr,.int .i64 off] 222)):=by
 have hs0:(((w.alloc (.cells #[.int .i64 a0,.int .i64 a1,.int .i64 b0,.int .i64 b1] 198)).alloc (.cells #[.int .i64 0,.int .i64 0,.int .i64 0,.int .i64 0] 217)).drewN nq).heap.size=w.heap.size+1+1:=by
  show ((w.alloc _).alloc _).heap.size=_
  rw [World.size_alloc,World.size_alloc]
 have hb1':Below ((w.alloc (.cells #[.int .i64 a0,.int .i64 a1,.int .i64 b0,.int .i64 b1] 198)).alloc (.cells #[.int .i64 0,.int .i64 0,.int .i64 0,.int .i64 0] 217)).heap.size ((w.alloc (.cells #[.int .i64 a0,.int .i64 a1,.int .i64 b0,.int .i64 b1] 198)).alloc (.cells #[.int .i64 0,.int .i64 0,.int .i64 0,.int .i64 0] 217)) w1 :=
  ⟨hb1.os,hb1.tape,hb1.output,hb1.size,hb1.block⟩
 obtain⟨q1,q2,q3⟩:=two_boxes hb1'
 have z1:w1.heap.size≤w2.heap.size:=hb2.size
 have z2:gf<w1.heap.size:=hrow1.lt
 have z3:w.heap.size+1<w1.heap.size:=by omega
 have hb3:Below w2.heap.size w2 ((w2.alloc (.cells #[.slice (some ⟨gf,0,none⟩) (2*N+3) cf,.int .i64 off] 222)).alloc (.cells #[.slice (some ⟨gr,0,none⟩) (2*N+3) cr,.int .i64 off] 222)):=below_alloc (below_alloc (Below.refl _ _) _) _
 obtain⟨_,q4,q5⟩:=two_boxes (w:=w2) (Below.refl ((w2.alloc (.cells #[.slice (some ⟨gf,0,none⟩) (2*N+3) cf,.int .i64 off] 222)).alloc (.cells #[.slice (some ⟨gr,0,none⟩) (2*N+3) cr,.int .i64 off] 222)).heap.size _)
 exact⟨below_step (below_step q1 hb2) hb3,(hb3.block _ (by omega)).trans ((hb2.block _ (by omega)).trans q2),(hb3.block _ (by omega)).trans ((hb2.block _ (by omega)).trans q3),q4,q5,newRow_length N,newRow_length N,
  ((hrow1.below hb2).below hb3).lower (by omega),(hrow2.below hb3).lower (by omega),by omega⟩
theorem type_ne {w : World} {i j : Nat} {cs cs' : Array Value} {t t' : TypeId} (h : w.heap[i]? = some (.cells cs t (0,0))) (h' : w.heap[j]? = some (.cells cs' t' (0,0))) (ht : t≠t') : i≠j := by
 intro e;subst e
 rw [h] at h'
 injection h' with h'
 injection h' with _ h' _
 exact ht h'
theorem Row.typed {B bf c : Nat} {fr : List Int} {w : World} (h : Row B bf c fr w) : ∃ cells,w.heap[bf]? = some (.cells cells 3 (0,0)) := Kd.R_typed h bf rfl
theorem Mid.fore {w : World} {L n3 n4 n8 n9 bf cf br cr : Nat} {a0 a1 b0 b1 off : Int} {fore rear : List Int} {wr W1 : World} (h : Mid w L n3 n4 n8 n9 bf cf br cr a0 a1 b0 b1 off fore rear wr) (hb : Below wr.heap.size wr W1) (i e : Int) :
  Mid w L n3 n4 n8 n9 bf cf br cr a0 a1 b0 b1 off (fore.set i.toNat e) rear (W1.setCell ⟨bf,i.toNat,none⟩ (.int .i64 e)):=by
 have hlt:∀ {k:Nat} {o:Obj},wr.heap[k]? = some o→W1.heap[k]? = some o:=fun hk=>(hb.block _ (Array.getElem?_eq_some_iff.1 hk).1).trans hk
 have hrf:=h.rf.below hb
 obtain⟨cells,hty⟩:=hrf.typed
 refine⟨(below_step h.below hb).setCell (p:=⟨bf,i.toNat,none⟩) hrf.lo _,?_,?_,?_,?_,by rw [List.length_set];exact h.lf,h.lr,hrf.put i e,(h.rr.below hb).far (fun e=>h.ne e.symm) _,h.ne⟩
 ·exact (Below.heap_setCell _ _ _ _ (type_ne (hlt h.x3) hty (by decide))).trans (hlt h.x3)
 ·exact (Below.heap_setCell _ _ _ _ (type_ne (hlt h.x4) hty (by decide))).trans (hlt h.x4)
 ·exact (Below.heap_setCell _ _ _ _ (type_ne (hlt h.x8) hty (by decide))).trans (hlt h.x8)
 ·exact (Below.heap_setCell _ _ _ _ (type_ne (hlt h.x9) hty (by decide))).trans (hlt h.x9)
theorem Mid.rear {w : World} {L n3 n4 n8 n9 bf cf br cr : Nat} {a0 a1 b0 b1 off : Int} {fore rear : List Int} {wr W1 : World} (h : Mid w L n3 n4 n8 n9 bf cf br cr a0 a1 b0 b1 off fore rear wr) (hb : Below wr.heap.size wr W1) (i e : Int) :
  Mid w L n3 n4 n8 n9 bf cf br cr a0 a1 b0 b1 off fore (rear.set i.toNat e) (W1.setCell ⟨br,i.toNat,none⟩ (.int .i64 e)):=by
 have hlt:∀ {k:Nat} {o:Obj},wr.heap[k]? = some o→W1.heap[k]? = some o:=fun hk=>(hb.block _ (Array.getElem?_eq_some_iff.1 hk).1).trans hk
 have hrf:=h.rr.below hb
 obtain⟨cells,hty⟩:=hrf.typed
 refine⟨(below_step h.below hb).setCell (p:=⟨br,i.toNat,none⟩) hrf.lo _,?_,?_,?_,?_,h.lf,by rw [List.length_set];exact h.lr,(h.rf.below hb).far h.ne _,hrf.put i e,h.ne⟩
 ·exact (Below.heap_setCell _ _ _ _ (type_ne (hlt h.x3) hty (by decide))).trans (hlt h.x3)
 ·exact (Below.heap_setCell _ _ _ _ (type_ne (hlt h.x4) hty (by decide))).trans (hlt h.x4)
 ·exact (Below.heap_setCell _ _ _ _ (type_ne (hlt h.x8) hty (by decide))).trans (hlt h.x8)
 ·exact (Below.heap_setCell _ _ _ _ (type_ne (hlt h.x9) hty (by decide))).trans (hlt h.x9)
set_option maxHeartbeats 8000000 in
set_option maxRecDepth 100000 in
theorem middle_calls {B f : Nat} {A C : Option Addr} {ca cb : Nat} {a b : List Int} {l : List SP} {w : World} (a0 a1 b0 b1 : Int) (xs ys : List Int) (r0 r1 r2 : Int)
  (hF:Fin B f (.slice A a.length ca) (.slice C b.length cb) l w) (hA:Kd.C (Kd.int .i64) w A a.length a) (hC:Kd.C (Kd.int .i64) w C b.length b)
  (ha0:0≤a0) (ha1:a0≤a1) (ha2:a1≤a.length) (hb0:0≤b0) (hb1:b0≤b1) (hb2:b1≤b.length) (hla:a.length≤4000000000) (hlb:b.length≤4000000000)
  (hxl:(xs.length:Int)=a1-a0) (hyl:(ys.length:Int)=b1-b0) (hx:∀ u:Int,0≤u→u<a1-a0→rd a (a0+u)=rd xs u) (hy:∀ u:Int,0≤u→u<b1-b0→rd b (b0+u)=rd ys u)
  (hBw:B≤w.heap.size) (h:middleF xs ys=some (r0,r1,r2)) :
  Calls Tryz.prog 141 #[.pointer (some ⟨f,0,none⟩),.agg #[.int .i64 a0,.int .i64 a1,.int .i64 b0,.int .i64 b1]] w fun e w'=>(∃ dd:Int,e = .returned (.agg #[.int .i64 (a0+r0),.int .i64 (b0+r1),.int .i64 r2,.int .i64 dd]))∧Below w.heap.size w w':=by
 have HF:=Zd hF
 have HA:=Zd hA
 have HC:=Zd hC
 have HX:=Zd hx
 have HY:=Zd hy
 have HXL:=Zd hxl
 have HYL:=Zd hyl
 have HH:=Zd h
 have HBw:=Zd hBw
 clear hF hA hC hx hy hxl hyl h hBw
 obtain⟨N,hN⟩:∃ N:Nat,N=xs.length+ys.length:=⟨_,rfl⟩
 have HN:=Zd hN
 have g1:a1-a0+(b1-b0)=(N:Int):=by have:=HXL.out;have:=HYL.out;omega
 have G1:=Zd g1
 have g2:N≤8000000000:=by omega
 clear hN g1
 have t1:True:=trivial
 have t2:True:=trivial
 go_enter Tryz.func141,Tryz.ntmps141
 go_wp2
 go_quiet (fail)
 go_wp2_with (first|(go_at_call 152;have _t:=t1;(with_reducible refine (newRun_at _ N _ G1.out g2).mono ?_);rintro e w1 ⟨gf,cf,rfl,hg1,hrow1,hb1⟩;clear t1)|(go_at_call 152;have _t:=t2;(with_reducible refine (newRun_at _ N _ G1.out g2).mono ?_);rintro e w2 ⟨gr,cr,rfl,hg2,hrow2,hb2⟩;clear t2))
 have HM:=Zd (mid_start (off:=(N:Int)+1) hb1 hg1 hrow1 hb2 hg2 hrow2)
 clear hb1 hg1 hrow1 hb2 hg2 hrow2
 generalize ((w2.alloc (.cells #[.slice (some ⟨gf,0,none⟩) (2*N+3) cf,.int .i64 ((N:Int)+1)] 222)).alloc (.cells #[.slice (some ⟨gr,0,none⟩) (2*N+3) cr,.int .i64 ((N:Int)+1)] 222))=W at *
 obtain⟨n9,hn9⟩:∃ n9,n9=w2.heap.size+1:=⟨_,rfl⟩
 rw [←hn9] at HM ⊢
 clear hn9
 generalize w2.heap.size=n8 at *
 obtain⟨n4,hn4⟩:∃ n4,n4=w.heap.size+1:=⟨_,rfl⟩
 rw [←hn4] at HM ⊢
 have HN4:Aside0 (w.heap.size≤n4):=⟨by omega⟩
 clear hn4
 obtain⟨n3,hn3⟩:∃ n3,n3=w.heap.size:=⟨_,rfl⟩
 have hH:midF xs ys ((N:Int)+1) (a1-a0-(b1-b0)) (a1-a0) (b1-b0) (N+1) 0 (newRow N) (newRow N)=some (r0,r1,r2):=by
  have:=HH.out
  unfold middleF at this
  rw [←HN.out,HXL.out,HYL.out] at this
  exact this
 have HH2:=Zd hH
 clear hH HH hn3
 have HXR:Aside0 (∀ u:Int,0≤u→u<a1-a0→rd a (a1-1-u)=rd xs.reverse u):=⟨fun u h0 h1=>by
  rw [rd_reverse xs u h0 (by have:=HXL.out;omega),←HX.out _ (by have:=HXL.out;omega) (by have:=HXL.out;omega)]
  congr 1;have:=HXL.out;omega⟩
 have HYR:Aside0 (∀ u:Int,0≤u→u<b1-b0→rd b (b1-1-u)=rd ys.reverse u):=⟨fun u h0 h1=>by
  rw [rd_reverse ys u h0 (by have:=HYL.out;omega),←HY.out _ (by have:=HYL.out;omega) (by have:=HYL.out;omega)]
  congr 1;have:=HYL.out;omega⟩
 have HXRL:Aside0 ((xs.reverse.length:Int)=a1-a0):=⟨by rw [List.length_reverse];exact HXL.out⟩
 have HYRL:Aside0 ((ys.reverse.length:Int)=b1-b0):=⟨by rw [List.length_reverse];exact HYL.out⟩
 obtain⟨xr,hxr⟩:∃ xr,xr=xs.reverse:=⟨_,rfl⟩
 obtain⟨yr,hyr⟩:∃ yr,yr=ys.reverse:=⟨_,rfl⟩
 rw [←hxr] at HXR HXRL
 rw [←hyr] at HYR HYRL
 have HXrev:=Zd hxr
 have HYrev:=Zd hyr
 have gN:a1-a0+(b1-b0)=(N:Int):=G1.out
 have HGN:=Zd gN
 clear hxr hyr gN
 go_loopg [10] (N+2) (fun gg s10 wr=>∃ (s:Nat) (d:Int) (fore rear:List Int),s≤gg∧s10 = .int .i64 d∧0≤d∧(s:Int)+d≤N+1 ∧
  Aside0 (midF xs ys ((N:Int)+1) (a1-a0-(b1-b0)) (a1-a0) (b1-b0) s d fore rear=some (r0,r1,r2))∧Aside0 (Mid w (2*N+3) w.heap.size n4 n8 n9 gf cf gr cr a0 a1 b0 b1 ((N:Int)+1) fore rear wr))
 case atStart=>exact⟨N+1,0,newRow N,newRow N,by omega,rfl,by omega,by omega,HH2,HM⟩
 case round =>
  clear HH2 HM
  obtain⟨s,d,fore,rear,hg,rfl,hd0,hsd,HH,HM⟩:=hrel
  cases s with
  | zero=>exact absurd HH.out (by simp [midF])
  | succ s =>
   have hh:=HH.out
   simp only [midF] at hh
   have HK:=Zd hh
   clear hh HH
   have hd1:d≤N:=by omega
   have hd2:d≤20000000000:=by omega
   go_wp2
   obtain⟨wo,rfl⟩:∃ wo:World,wo=wr:=⟨_,rfl⟩
   go_loopg [11] (d.toNat+2) (fun gg s11 wr=>∃ (t:Nat) (k:Int) (far:List Int),t≤gg∧s11 = .int .i64 k∧k+2*(t:Int)=d+2 ∧ -d≤k ∧
       Aside0 ((midK1 (fun fore'=>midK2 (a1-a0) (b1-b0) (fun rear'=>midF xs ys ((N:Int)+1) (a1-a0-(b1-b0)) (a1-a0) (b1-b0) s (d+1) fore' rear') (frontF xr yr fore' ((N:Int)+1) (a1-a0-(b1-b0)) (a1-a0) d d ((a1-a0-(b1-b0)).tmod 2==0) (d+1).toNat (-d) rear))) (frontF xs ys rear ((N:Int)+1) (a1-a0-(b1-b0)) (a1-a0) d (d-1) ((a1-a0-(b1-b0)).tmod 2 != 0) t k far)=some (r0,r1,r2))∧Aside0 (Mid w (2*N+3) w.heap.size n4 n8 n9 gf cf gr cr a0 a1 b0 b1 ((N:Int)+1) far rear wr))
   case atStart=>exact⟨(d+1).toNat,-d,fore,by omega,rfl,by omega,by omega,⟨by rw [HXrev.out,HYrev.out];exact HK.out⟩,HM⟩
   case round =>
    clear HM HK
    obtain⟨t,k,far,hgt,rfl,hkt,hkd,HK,HM⟩:=hrel
    cases t with
    | zero =>
     have hkd1:d<k:=by omega
     have hkd2:decide (k≤d)=false:=decide_eq_false (by omega)
     have hh:=HK.out
     simp only [frontF,midK1] at hh
     have HK2:=Zd hh
     clear hh HK hkd1 hkd2
     go_wp2
     obtain⟨wo2,rfl⟩:∃ wo2:World,wo2=wr:=⟨_,rfl⟩
     obtain⟨fore,rfl⟩:∃ fo,fo=far:=⟨_,rfl⟩
     go_loopg [15] (d.toNat+2) (fun gg s11 wr=>∃ (t:Nat) (k:Int) (far:List Int),t≤gg∧s11 = .int .i64 k∧k+2*(t:Int)=d+2 ∧ -d≤k ∧
         Aside0 ((midK2 (a1-a0) (b1-b0) (fun rear'=>midF xs ys ((N:Int)+1) (a1-a0-(b1-b0)) (a1-a0) (b1-b0) s (d+1) fore rear')) (frontF xr yr fore ((N:Int)+1) (a1-a0-(b1-b0)) (a1-a0) d d ((a1-a0-(b1-b0)).tmod 2==0) t k far)=some (r0,r1,r2))∧Aside0 (Mid w (2*N+3) w.heap.size n4 n8 n9 gf cf gr cr a0 a1 b0 b1 ((N:Int)+1) fore far wr))
     case atStart=>exact⟨(d+1).toNat,-d,rear,by omega,rfl,by omega,by omega,HK2,HM⟩
     case round =>
      clear HM HK2
      obtain⟨t,k,far,hgt,rfl,hkt,hkd,HK,HM⟩:=hrel
      cases t with
      | zero =>
       have hkd1:d<k:=by omega
       have hkd2:decide (k≤d)=false:=decide_eq_false (by omega)
       have hh:=HK.out
       simp only [frontF,midK2] at hh
       have HH2:=Zd hh
       clear hh HK
       go_wp2
       go_roundg s
       case measure=>omega
       case rel=>exact⟨s,d+1,fore,far,Nat.le_refl _,by go_num,by omega,by omega,HH2,HM⟩
      | succ t =>
       have hkd1:k≤d:=by omega
       have hkd2:decide (k≤d)=true:=decide_eq_true hkd1
       have hh:=HK.out
       simp only [frontF] at hh
       by_cases hok:okFar xr yr far fore ((N:Int)+1) k d=true
       ·rw [if_pos hok] at hh
        have hok2:=okFar_out hok
        obtain⟨hu0,hu1,hu2,hfb,hob,hu3,hu4⟩:=hok2
        have HFB:=Zd hfb
        have HOB:=Zd hob
        have HHH:=Zd hh
        clear hok hh HK hfb hob
        have HM0:=Zd HM.out
        have p0:=(blk_cell HM.out.x3 0).trans (rfl:_=some (Value.int .i64 a0))
        have p1:=(blk_cell HM.out.x3 1).trans (rfl:_=some (Value.int .i64 a1))
        have p2:=(blk_cell HM.out.x3 2).trans (rfl:_=some (Value.int .i64 b0))
        have p3:=(blk_cell HM.out.x3 3).trans (rfl:_=some (Value.int .i64 b1))
        have e0:=(blk_cell HM.out.x9 0).trans (rfl:_=some (Value.slice (some ⟨gr,0,none⟩) (2*N+3) cr))
        have e1:=(blk_cell HM.out.x9 1).trans (rfl:_=some (Value.int .i64 ((N:Int)+1)))
        have hcall:=fun W0 (hW:W0=wr)=>back_calls (B:=B) (f:=f) (bf:=gr) (c:=cr) (w:=W0) a0 a1 b0 b1 ((N:Int)+1) k d xr yr (hW▸HF.out.below HM.out.below) (hW▸Kd.C_below HA.out HM.out.below) (hW▸Kd.C_below HC.out HM.out.below) (hW▸HM.out.rr.lower HBw.out) ha0 ha1 ha2 hb0 hb1 hb2 hla hlb hd0 hd2 hkd hkd1 (by omega) (by omega) (by rw [HM.out.lr];omega) HFB.out HXRL.out HYRL.out HXR.out HYR.out hu0 hu1 hu2
        rw [HM.out.lr] at hcall
        have HCALL:=Zd hcall
        clear hcall
        generalize hbeg:beginI far ((N:Int)+1) k d=u at *
        generalize hsl:slideI xr yr k u=e at *
        clear hbeg hsl
        have tk1:True:=trivial
        by_cases hmet:metB ((a1-a0-(b1-b0)).tmod 2==0) fore ((N:Int)+1) (a1-a0-(b1-b0)-k) d (a1-a0) e=true
        ·rw [if_pos hmet] at HHH
         obtain⟨m1,m2',m3',m4,m5'⟩:=metB_true hmet
         have m2:=decide_eq_true m2'
         have m3:=decide_eq_true m3'
         have m5:=decide_eq_true m5'
         have ix0:0≤(N:Int)+1+(a1-a0-(b1-b0)-k):=by omega
         have ix1:(N:Int)+1+(a1-a0-(b1-b0)-k)<((2*N+3:Nat):Int):=by omega
         have ro:=rd_bound HOB.out ((N:Int)+1+(a1-a0-(b1-b0)-k))
         have ro0:=ro.1
         have ro1:=ro.2
         have hr:=HHH.out
         simp only [midK2] at hr
         have HRR:=Zd hr
         clear hmet m2' m3' m5' HHH hr ro
         go_wp2_with (first|(go_at_call 154;refine (HCALL.out _ rfl).mono ?_;rintro en W3 ⟨rfl,W1,hb1,rfl⟩;have HM2:=Zd (HM0.out.rear hb1 ((N:Int)+1+k) e);clear hb1 HCALL HM HM0 p0 p1 p2 p3 e0 e1;generalize W1.setCell ⟨gr,((N:Int)+1+k).toNat,none⟩ (.int .i64 e)=W2 at HM2 ⊢;have p0:=(blk_cell HM2.out.x3 0).trans (rfl:_=some (Value.int .i64 a0));have p1:=(blk_cell HM2.out.x3 1).trans (rfl:_=some (Value.int .i64 a1));have p2:=(blk_cell HM2.out.x3 2).trans (rfl:_=some (Value.int .i64 b0));have p3:=(blk_cell HM2.out.x3 3).trans (rfl:_=some (Value.int .i64 b1));have z0:=(blk_cell HM2.out.x4 0).trans (rfl:_=some (Value.int .i64 0));have y0:=Lib.frozen_of_heap HM2.out.x4 0;have z1:=(blk_cell HM2.out.x4 1).trans (rfl:_=some (Value.int .i64 0));have y1:=Lib.frozen_of_heap HM2.out.x4 1;have z2:=(blk_cell HM2.out.x4 2).trans (rfl:_=some (Value.int .i64 0));have y2:=Lib.frozen_of_heap HM2.out.x4 2;have z3:=(blk_cell HM2.out.x4 3).trans (rfl:_=some (Value.int .i64 0));have y3:=Lib.frozen_of_heap HM2.out.x4 3;have e0:=(blk_cell HM2.out.x8 0).trans (rfl:_=some (Value.slice (some ⟨gf,0,none⟩) (2*N+3) cf));have e1:=(blk_cell HM2.out.x8 1).trans (rfl:_=some (Value.int .i64 ((N:Int)+1)));have ec:=(Kd.R_celln (0:Int) HM2.out.rf ((N:Int)+1+(a1-a0-(b1-b0)-k)) ix0 (by rw [HM2.out.lf];exact ix1)).1;rw [rdOf_rd] at ec))
         refine bodyPost_ret (v := .agg #[.int .i64 (a1-e),.int .i64 (b1-(e-k)),.int .i64 (e-u),.int .i64 (2*d)]) (by simp [results,Tryz.results141,go_sem,z0,z1,z2,z3]) rfl ?_
         have hrr:=HRR.out
         have hrr1:=Option.some.inj hrr
         simp only [Prod.mk.injEq] at hrr1
         obtain⟨k1,k2,k3⟩:=hrr1
         refine⟨⟨2*d,?_⟩,(((HM2.out.below.setCell (p:=⟨n4,0,none⟩) HN4.out _).setCell (p:=⟨n4,1,none⟩) HN4.out _).setCell (p:=⟨n4,2,none⟩) HN4.out _).setCell (p:=⟨n4,3,none⟩) HN4.out _⟩
         rw [←k1,←k2,←k3,show a1-e=a0+(a1-a0-e) by omega,show b1-(e-k)=b0+(b1-b0-(e-k)) by omega]
        ·rw [if_neg hmet] at HHH
         have hm:=metB_false hmet
         have hc0:=HHH
         clear hmet
         rcases hm with m1|⟨m1,m2⟩|⟨m1,m2,m3⟩|⟨m1,m2,m3,m4⟩|⟨m1,m2,m3,m4,m5⟩
         ·clear hc0
          go_wp2_with (first|(go_at_call 154;refine (HCALL.out _ rfl).mono ?_;rintro en W3 ⟨rfl,W1,hb1,rfl⟩;have HM2:=Zd (HM0.out.rear hb1 ((N:Int)+1+k) e);clear hb1 HCALL HM HM0 p0 p1 p2 p3 e0 e1;generalize W1.setCell ⟨gr,((N:Int)+1+k).toNat,none⟩ (.int .i64 e)=W2 at HM2 ⊢;have p0:=(blk_cell HM2.out.x3 0).trans (rfl:_=some (Value.int .i64 a0));have p1:=(blk_cell HM2.out.x3 1).trans (rfl:_=some (Value.int .i64 a1));have p2:=(blk_cell HM2.out.x3 2).trans (rfl:_=some (Value.int .i64 b0));have p3:=(blk_cell HM2.out.x3 3).trans (rfl:_=some (Value.int .i64 b1))))
          go_roundg t
          case measure=>omega
          case rel=>exact⟨t,k+2,far.set ((N:Int)+1+k).toNat e,Nat.le_refl _,by go_num,by omega,by omega,HHH,HM2⟩
         ·clear hc0
          go_wp2_with (first|(go_at_call 154;refine (HCALL.out _ rfl).mono ?_;rintro en W3 ⟨rfl,W1,hb1,rfl⟩;have HM2:=Zd (HM0.out.rear hb1 ((N:Int)+1+k) e);clear hb1 HCALL HM HM0 p0 p1 p2 p3 e0 e1;generalize W1.setCell ⟨gr,((N:Int)+1+k).toNat,none⟩ (.int .i64 e)=W2 at HM2 ⊢;have p0:=(blk_cell HM2.out.x3 0).trans (rfl:_=some (Value.int .i64 a0));have p1:=(blk_cell HM2.out.x3 1).trans (rfl:_=some (Value.int .i64 a1));have p2:=(blk_cell HM2.out.x3 2).trans (rfl:_=some (Value.int .i64 b0));have p3:=(blk_cell HM2.out.x3 3).trans (rfl:_=some (Value.int .i64 b1))))
          go_roundg t
          case measure=>omega
          case rel=>exact⟨t,k+2,far.set ((N:Int)+1+k).toNat e,Nat.le_refl _,by go_num,by omega,by omega,HHH,HM2⟩
         ·clear hc0
          go_wp2_with (first|(go_at_call 154;refine (HCALL.out _ rfl).mono ?_;rintro en W3 ⟨rfl,W1,hb1,rfl⟩;have HM2:=Zd (HM0.out.rear hb1 ((N:Int)+1+k) e);clear hb1 HCALL HM HM0 p0 p1 p2 p3 e0 e1;generalize W1.setCell ⟨gr,((N:Int)+1+k).toNat,none⟩ (.int .i64 e)=W2 at HM2 ⊢;have p0:=(blk_cell HM2.out.x3 0).trans (rfl:_=some (Value.int .i64 a0));have p1:=(blk_cell HM2.out.x3 1).trans (rfl:_=some (Value.int .i64 a1));have p2:=(blk_cell HM2.out.x3 2).trans (rfl:_=some (Value.int .i64 b0));have p3:=(blk_cell HM2.out.x3 3).trans (rfl:_=some (Value.int .i64 b1))))
          go_roundg t
          case measure=>omega
          case rel=>exact⟨t,k+2,far.set ((N:Int)+1+k).toNat e,Nat.le_refl _,by go_num,by omega,by omega,HHH,HM2⟩
         ·clear hc0
          have n2:=of_decide_eq_true m2
          have n3:=of_decide_eq_true m3
          have ix0:0≤(N:Int)+1+(a1-a0-(b1-b0)-k):=by omega
          have ix1:(N:Int)+1+(a1-a0-(b1-b0)-k)<((2*N+3:Nat):Int):=by omega
          have ro:=rd_bound HOB.out ((N:Int)+1+(a1-a0-(b1-b0)-k))
          have ro0:=ro.1
          have ro1:=ro.2
          clear n2 n3 ro
          go_wp2_with (first|(go_at_call 154;refine (HCALL.out _ rfl).mono ?_;rintro en W3 ⟨rfl,W1,hb1,rfl⟩;have HM2:=Zd (HM0.out.rear hb1 ((N:Int)+1+k) e);clear hb1 HCALL HM HM0 p0 p1 p2 p3 e0 e1;generalize W1.setCell ⟨gr,((N:Int)+1+k).toNat,none⟩ (.int .i64 e)=W2 at HM2 ⊢;have p0:=(blk_cell HM2.out.x3 0).trans (rfl:_=some (Value.int .i64 a0));have p1:=(blk_cell HM2.out.x3 1).trans (rfl:_=some (Value.int .i64 a1));have p2:=(blk_cell HM2.out.x3 2).trans (rfl:_=some (Value.int .i64 b0));have p3:=(blk_cell HM2.out.x3 3).trans (rfl:_=some (Value.int .i64 b1));have z0:=(blk_cell HM2.out.x4 0).trans (rfl:_=some (Value.int .i64 0));have y0:=Lib.frozen_of_heap HM2.out.x4 0;have z1:=(blk_cell HM2.out.x4 1).trans (rfl:_=some (Value.int .i64 0));have y1:=Lib.frozen_of_heap HM2.out.x4 1;have z2:=(blk_cell HM2.out.x4 2).trans (rfl:_=some (Value.int .i64 0));have y2:=Lib.frozen_of_heap HM2.out.x4 2;have z3:=(blk_cell HM2.out.x4 3).trans (rfl:_=some (Value.int .i64 0));have y3:=Lib.frozen_of_heap HM2.out.x4 3;have e0:=(blk_cell HM2.out.x8 0).trans (rfl:_=some (Value.slice (some ⟨gf,0,none⟩) (2*N+3) cf));have e1:=(blk_cell HM2.out.x8 1).trans (rfl:_=some (Value.int .i64 ((N:Int)+1)));have ec:=(Kd.R_celln (0:Int) HM2.out.rf ((N:Int)+1+(a1-a0-(b1-b0)-k)) ix0 (by rw [HM2.out.lf];exact ix1)).1;rw [rdOf_rd] at ec))
          go_roundg t
          case measure=>omega
          case rel=>exact⟨t,k+2,far.set ((N:Int)+1+k).toNat e,Nat.le_refl _,by go_num,by omega,by omega,HHH,HM2⟩
         ·clear hc0
          have n2:=of_decide_eq_true m2
          have n3:=of_decide_eq_true m3
          have ix0:0≤(N:Int)+1+(a1-a0-(b1-b0)-k):=by omega
          have ix1:(N:Int)+1+(a1-a0-(b1-b0)-k)<((2*N+3:Nat):Int):=by omega
          have ro:=rd_bound HOB.out ((N:Int)+1+(a1-a0-(b1-b0)-k))
          have ro0:=ro.1
          have ro1:=ro.2
          clear n2 n3 ro
          go_wp2_with (first|(go_at_call 154;refine (HCALL.out _ rfl).mono ?_;rintro en W3 ⟨rfl,W1,hb1,rfl⟩;have HM2:=Zd (HM0.out.rear hb1 ((N:Int)+1+k) e);clear hb1 HCALL HM HM0 p0 p1 p2 p3 e0 e1;generalize W1.setCell ⟨gr,((N:Int)+1+k).toNat,none⟩ (.int .i64 e)=W2 at HM2 ⊢;have p0:=(blk_cell HM2.out.x3 0).trans (rfl:_=some (Value.int .i64 a0));have p1:=(blk_cell HM2.out.x3 1).trans (rfl:_=some (Value.int .i64 a1));have p2:=(blk_cell HM2.out.x3 2).trans (rfl:_=some (Value.int .i64 b0));have p3:=(blk_cell HM2.out.x3 3).trans (rfl:_=some (Value.int .i64 b1));have z0:=(blk_cell HM2.out.x4 0).trans (rfl:_=some (Value.int .i64 0));have y0:=Lib.frozen_of_heap HM2.out.x4 0;have z1:=(blk_cell HM2.out.x4 1).trans (rfl:_=some (Value.int .i64 0));have y1:=Lib.frozen_of_heap HM2.out.x4 1;have z2:=(blk_cell HM2.out.x4 2).trans (rfl:_=some (Value.int .i64 0));have y2:=Lib.frozen_of_heap HM2.out.x4 2;have z3:=(blk_cell HM2.out.x4 3).trans (rfl:_=some (Value.int .i64 0));have y3:=Lib.frozen_of_heap HM2.out.x4 3;have e0:=(blk_cell HM2.out.x8 0).trans (rfl:_=some (Value.slice (some ⟨gf,0,none⟩) (2*N+3) cf));have e1:=(blk_cell HM2.out.x8 1).trans (rfl:_=some (Value.int .i64 ((N:Int)+1)));have ec:=(Kd.R_celln (0:Int) HM2.out.rf ((N:Int)+1+(a1-a0-(b1-b0)-k)) ix0 (by rw [HM2.out.lf];exact ix1)).1;rw [rdOf_rd] at ec))
          go_roundg t
          case measure=>omega
          case rel=>exact⟨t,k+2,far.set ((N:Int)+1+k).toNat e,Nat.le_refl _,by go_num,by omega,by omega,HHH,HM2⟩
       ·rw [if_neg hok] at hh
        exact absurd hh (by simp [midK2])
    | succ t =>
     have hkd1:k≤d:=by omega
     have hkd2:decide (k≤d)=true:=decide_eq_true hkd1
     have hh:=HK.out
     simp only [frontF] at hh
     by_cases hok:okFar xs ys far rear ((N:Int)+1) k d=true
     ·rw [if_pos hok] at hh
      have hok2:=okFar_out hok
      obtain⟨hu0,hu1,hu2,hfb,hob,hu3,hu4⟩:=hok2
      have HFB:=Zd hfb
      have HOB:=Zd hob
      have HHH:=Zd hh
      clear hok hh HK hfb hob
      have HM0:=Zd HM.out
      have p0:=(blk_cell HM.out.x3 0).trans (rfl:_=some (Value.int .i64 a0))
      have p1:=(blk_cell HM.out.x3 1).trans (rfl:_=some (Value.int .i64 a1))
      have p2:=(blk_cell HM.out.x3 2).trans (rfl:_=some (Value.int .i64 b0))
      have p3:=(blk_cell HM.out.x3 3).trans (rfl:_=some (Value.int .i64 b1))
      have e0:=(blk_cell HM.out.x8 0).trans (rfl:_=some (Value.slice (some ⟨gf,0,none⟩) (2*N+3) cf))
      have e1:=(blk_cell HM.out.x8 1).trans (rfl:_=some (Value.int .i64 ((N:Int)+1)))
      have hcall:=fun W0 (hW:W0=wr)=>forth_calls (B:=B) (f:=f) (bf:=gf) (c:=cf) (w:=W0) a0 a1 b0 b1 ((N:Int)+1) k d xs ys (hW▸HF.out.below HM.out.below) (hW▸Kd.C_below HA.out HM.out.below) (hW▸Kd.C_below HC.out HM.out.below) (hW▸HM.out.rf.lower HBw.out) ha0 ha1 ha2 hb0 hb1 hb2 hla hlb hd0 hd2 hkd hkd1 (by omega) (by omega) (by rw [HM.out.lf];omega) HFB.out HXL.out HYL.out HX.out HY.out hu0 hu1 hu2
      rw [HM.out.lf] at hcall
      have HCALL:=Zd hcall
      clear hcall
      generalize hbeg:beginI far ((N:Int)+1) k d=u at *
      generalize hsl:slideI xs ys k u=e at *
      clear hbeg hsl
      have tk1:True:=trivial
      by_cases hmet:metB ((a1-a0-(b1-b0)).tmod 2 != 0) rear ((N:Int)+1) (a1-a0-(b1-b0)-k) (d-1) (a1-a0) e=true
      ·rw [if_pos hmet] at HHH
       obtain⟨m1,m2',m3',m4,m5'⟩:=metB_true hmet
       have m2:=decide_eq_true m2'
       have m3:=decide_eq_true m3'
       have m5:=decide_eq_true m5'
       have ix0:0≤(N:Int)+1+(a1-a0-(b1-b0)-k):=by omega
       have ix1:(N:Int)+1+(a1-a0-(b1-b0)-k)<((2*N+3:Nat):Int):=by omega
       have ro:=rd_bound HOB.out ((N:Int)+1+(a1-a0-(b1-b0)-k))
       have ro0:=ro.1
       have ro1:=ro.2
       have hr:=HHH.out
       simp only [midK1] at hr
       have HRR:=Zd hr
       clear hmet m2' m3' m5' HHH hr ro
       go_wp2_with (first|(go_at_call 153;refine (HCALL.out _ rfl).mono ?_;rintro en W3 ⟨rfl,W1,hb1,rfl⟩;have HM2:=Zd (HM0.out.fore hb1 ((N:Int)+1+k) e);clear hb1 HCALL HM HM0 p0 p1 p2 p3 e0 e1;generalize W1.setCell ⟨gf,((N:Int)+1+k).toNat,none⟩ (.int .i64 e)=W2 at HM2 ⊢;have p0:=(blk_cell HM2.out.x3 0).trans (rfl:_=some (Value.int .i64 a0));have p1:=(blk_cell HM2.out.x3 1).trans (rfl:_=some (Value.int .i64 a1));have p2:=(blk_cell HM2.out.x3 2).trans (rfl:_=some (Value.int .i64 b0));have p3:=(blk_cell HM2.out.x3 3).trans (rfl:_=some (Value.int .i64 b1));have z0:=(blk_cell HM2.out.x4 0).trans (rfl:_=some (Value.int .i64 0));have y0:=Lib.frozen_of_heap HM2.out.x4 0;have z1:=(blk_cell HM2.out.x4 1).trans (rfl:_=some (Value.int .i64 0));have y1:=Lib.frozen_of_heap HM2.out.x4 1;have z2:=(blk_cell HM2.out.x4 2).trans (rfl:_=some (Value.int .i64 0));have y2:=Lib.frozen_of_heap HM2.out.x4 2;have z3:=(blk_cell HM2.out.x4 3).trans (rfl:_=some (Value.int .i64 0));have y3:=Lib.frozen_of_heap HM2.out.x4 3;have e0:=(blk_cell HM2.out.x9 0).trans (rfl:_=some (Value.slice (some ⟨gr,0,none⟩) (2*N+3) cr));have e1:=(blk_cell HM2.out.x9 1).trans (rfl:_=some (Value.int .i64 ((N:Int)+1)));have ec:=(Kd.R_celln (0:Int) HM2.out.rr ((N:Int)+1+(a1-a0-(b1-b0)-k)) ix0 (by rw [HM2.out.lr];exact ix1)).1;rw [rdOf_rd] at ec))
       refine bodyPost_ret (v := .agg #[.int .i64 (a0+u),.int .i64 (b0+u-k),.int .i64 (e-u),.int .i64 (2*d-1)]) (by simp [results,Tryz.results141,go_sem,z0,z1,z2,z3]) rfl ?_
       have hrr:=HRR.out
       have hrr1:=Option.some.inj hrr
       simp only [Prod.mk.injEq] at hrr1
       obtain⟨k1,k2,k3⟩:=hrr1
       refine⟨⟨2*d-1,?_⟩,(((HM2.out.below.setCell (p:=⟨n4,0,none⟩) HN4.out _).setCell (p:=⟨n4,1,none⟩) HN4.out _).setCell (p:=⟨n4,2,none⟩) HN4.out _).setCell (p:=⟨n4,3,none⟩) HN4.out _⟩
       rw [←k1,←k2,←k3,show b0+u-k=b0+(u-k) by omega]
      ·rw [if_neg hmet] at HHH
       have hm:=metB_false hmet
       have hc0:=HHH
       clear hmet
       rcases hm with m1|⟨m1,m2⟩|⟨m1,m2,m3⟩|⟨m1,m2,m3,m4⟩|⟨m1,m2,m3,m4,m5⟩
       ·clear hc0
        go_wp2_with (first|(go_at_call 153;refine (HCALL.out _ rfl).mono ?_;rintro en W3 ⟨rfl,W1,hb1,rfl⟩;have HM2:=Zd (HM0.out.fore hb1 ((N:Int)+1+k) e);clear hb1 HCALL HM HM0 p0 p1 p2 p3 e0 e1;generalize W1.setCell ⟨gf,((N:Int)+1+k).toNat,none⟩ (.int .i64 e)=W2 at HM2 ⊢;have p0:=(blk_cell HM2.out.x3 0).trans (rfl:_=some (Value.int .i64 a0));have p1:=(blk_cell HM2.out.x3 1).trans (rfl:_=some (Value.int .i64 a1));have p2:=(blk_cell HM2.out.x3 2).trans (rfl:_=some (Value.int .i64 b0));have p3:=(blk_cell HM2.out.x3 3).trans (rfl:_=some (Value.int .i64 b1))))
        go_roundg t
        case measure=>omega
        case rel=>exact⟨t,k+2,far.set ((N:Int)+1+k).toNat e,Nat.le_refl _,by go_num,by omega,by omega,HHH,HM2⟩
       ·clear hc0
        go_wp2_with (first|(go_at_call 153;refine (HCALL.out _ rfl).mono ?_;rintro en W3 ⟨rfl,W1,hb1,rfl⟩;have HM2:=Zd (HM0.out.fore hb1 ((N:Int)+1+k) e);clear hb1 HCALL HM HM0 p0 p1 p2 p3 e0 e1;generalize W1.setCell ⟨gf,((N:Int)+1+k).toNat,none⟩ (.int .i64 e)=W2 at HM2 ⊢;have p0:=(blk_cell HM2.out.x3 0).trans (rfl:_=some (Value.int .i64 a0));have p1:=(blk_cell HM2.out.x3 1).trans (rfl:_=some (Value.int .i64 a1));have p2:=(blk_cell HM2.out.x3 2).trans (rfl:_=some (Value.int .i64 b0));have p3:=(blk_cell HM2.out.x3 3).trans (rfl:_=some (Value.int .i64 b1))))
        go_roundg t
        case measure=>omega
        case rel=>exact⟨t,k+2,far.set ((N:Int)+1+k).toNat e,Nat.le_refl _,by go_num,by omega,by omega,HHH,HM2⟩
       ·clear hc0
        go_wp2_with (first|(go_at_call 153;refine (HCALL.out _ rfl).mono ?_;rintro en W3 ⟨rfl,W1,hb1,rfl⟩;have HM2:=Zd (HM0.out.fore hb1 ((N:Int)+1+k) e);clear hb1 HCALL HM HM0 p0 p1 p2 p3 e0 e1;generalize W1.setCell ⟨gf,((N:Int)+1+k).toNat,none⟩ (.int .i64 e)=W2 at HM2 ⊢;have p0:=(blk_cell HM2.out.x3 0).trans (rfl:_=some (Value.int .i64 a0));have p1:=(blk_cell HM2.out.x3 1).trans (rfl:_=some (Value.int .i64 a1));have p2:=(blk_cell HM2.out.x3 2).trans (rfl:_=some (Value.int .i64 b0));have p3:=(blk_cell HM2.out.x3 3).trans (rfl:_=some (Value.int .i64 b1))))
        go_roundg t
        case measure=>omega
        case rel=>exact⟨t,k+2,far.set ((N:Int)+1+k).toNat e,Nat.le_refl _,by go_num,by omega,by omega,HHH,HM2⟩
       ·clear hc0
        have n2:=of_decide_eq_true m2
        have n3:=of_decide_eq_true m3
        have ix0:0≤(N:Int)+1+(a1-a0-(b1-b0)-k):=by omega
        have ix1:(N:Int)+1+(a1-a0-(b1-b0)-k)<((2*N+3:Nat):Int):=by omega
        have ro:=rd_bound HOB.out ((N:Int)+1+(a1-a0-(b1-b0)-k))
        have ro0:=ro.1
        have ro1:=ro.2
        clear n2 n3 ro
        go_wp2_with (first|(go_at_call 153;refine (HCALL.out _ rfl).mono ?_;rintro en W3 ⟨rfl,W1,hb1,rfl⟩;have HM2:=Zd (HM0.out.fore hb1 ((N:Int)+1+k) e);clear hb1 HCALL HM HM0 p0 p1 p2 p3 e0 e1;generalize W1.setCell ⟨gf,((N:Int)+1+k).toNat,none⟩ (.int .i64 e)=W2 at HM2 ⊢;have p0:=(blk_cell HM2.out.x3 0).trans (rfl:_=some (Value.int .i64 a0));have p1:=(blk_cell HM2.out.x3 1).trans (rfl:_=some (Value.int .i64 a1));have p2:=(blk_cell HM2.out.x3 2).trans (rfl:_=some (Value.int .i64 b0));have p3:=(blk_cell HM2.out.x3 3).trans (rfl:_=some (Value.int .i64 b1));have z0:=(blk_cell HM2.out.x4 0).trans (rfl:_=some (Value.int .i64 0));have y0:=Lib.frozen_of_heap HM2.out.x4 0;have z1:=(blk_cell HM2.out.x4 1).trans (rfl:_=some (Value.int .i64 0));have y1:=Lib.frozen_of_heap HM2.out.x4 1;have z2:=(blk_cell HM2.out.x4 2).trans (rfl:_=some (Value.int .i64 0));have y2:=Lib.frozen_of_heap HM2.out.x4 2;have z3:=(blk_cell HM2.out.x4 3).trans (rfl:_=some (Value.int .i64 0));have y3:=Lib.frozen_of_heap HM2.out.x4 3;have e0:=(blk_cell HM2.out.x9 0).trans (rfl:_=some (Value.slice (some ⟨gr,0,none⟩) (2*N+3) cr));have e1:=(blk_cell HM2.out.x9 1).trans (rfl:_=some (Value.int .i64 ((N:Int)+1)));have ec:=(Kd.R_celln (0:Int) HM2.out.rr ((N:Int)+1+(a1-a0-(b1-b0)-k)) ix0 (by rw [HM2.out.lr];exact ix1)).1;rw [rdOf_rd] at ec))
        go_roundg t
        case measure=>omega
        case rel=>exact⟨t,k+2,far.set ((N:Int)+1+k).toNat e,Nat.le_refl _,by go_num,by omega,by omega,HHH,HM2⟩
       ·clear hc0
        have n2:=of_decide_eq_true m2
        have n3:=of_decide_eq_true m3
        have ix0:0≤(N:Int)+1+(a1-a0-(b1-b0)-k):=by omega
        have ix1:(N:Int)+1+(a1-a0-(b1-b0)-k)<((2*N+3:Nat):Int):=by omega
        have ro:=rd_bound HOB.out ((N:Int)+1+(a1-a0-(b1-b0)-k))
        have ro0:=ro.1
        have ro1:=ro.2
        clear n2 n3 ro
        go_wp2_with (first|(go_at_call 153;refine (HCALL.out _ rfl).mono ?_;rintro en W3 ⟨rfl,W1,hb1,rfl⟩;have HM2:=Zd (HM0.out.fore hb1 ((N:Int)+1+k) e);clear hb1 HCALL HM HM0 p0 p1 p2 p3 e0 e1;generalize W1.setCell ⟨gf,((N:Int)+1+k).toNat,none⟩ (.int .i64 e)=W2 at HM2 ⊢;have p0:=(blk_cell HM2.out.x3 0).trans (rfl:_=some (Value.int .i64 a0));have p1:=(blk_cell HM2.out.x3 1).trans (rfl:_=some (Value.int .i64 a1));have p2:=(blk_cell HM2.out.x3 2).trans (rfl:_=some (Value.int .i64 b0));have p3:=(blk_cell HM2.out.x3 3).trans (rfl:_=some (Value.int .i64 b1));have z0:=(blk_cell HM2.out.x4 0).trans (rfl:_=some (Value.int .i64 0));have y0:=Lib.frozen_of_heap HM2.out.x4 0;have z1:=(blk_cell HM2.out.x4 1).trans (rfl:_=some (Value.int .i64 0));have y1:=Lib.frozen_of_heap HM2.out.x4 1;have z2:=(blk_cell HM2.out.x4 2).trans (rfl:_=some (Value.int .i64 0));have y2:=Lib.frozen_of_heap HM2.out.x4 2;have z3:=(blk_cell HM2.out.x4 3).trans (rfl:_=some (Value.int .i64 0));have y3:=Lib.frozen_of_heap HM2.out.x4 3;have e0:=(blk_cell HM2.out.x9 0).trans (rfl:_=some (Value.slice (some ⟨gr,0,none⟩) (2*N+3) cr));have e1:=(blk_cell HM2.out.x9 1).trans (rfl:_=some (Value.int .i64 ((N:Int)+1)));have ec:=(Kd.R_celln (0:Int) HM2.out.rr ((N:Int)+1+(a1-a0-(b1-b0)-k)) ix0 (by rw [HM2.out.lr];exact ix1)).1;rw [rdOf_rd] at ec))
        go_roundg t
        case measure=>omega
        case rel=>exact⟨t,k+2,far.set ((N:Int)+1+k).toNat e,Nat.le_refl _,by go_num,by omega,by omega,HHH,HM2⟩
     ·rw [if_neg hok] at hh
      exact absurd hh (by simp [midK1])
end Go.Proofs.YtfiamddinkokbaaGreat.F
end
