/- Texts joined into one file (wip/tools/pack.py): Fn40, Fn29, Fn71, Fn19, FeqA84, Fn75 -/
import Derived.Test.YtfiamddinkokbaaTA3
import Derived.Test.YtfiamddinkokbaaTA13
set_option linter.unusedVariables false
set_option linter.unusedSimpArgs false
section
namespace Go.Proofs.Ytfiamddinkokbaa.F
open Go.RowKit Go.Proofs.YtfiamddinkokbaaW.PrintWords Go.Proofs.YtfiamddinkokbaaW.PrintLast Go.Proofs.YtfiamddinkokbaaW.PrintMore
attribute [local go_sem] max2_int min2_int max_two min_two max_three min_three max_four min_four
mutual
def lines_Longest.l0 : Nat→Int→List (List ByteArray)→Int→Int→Option (Int)
 | 0,_,_,_,_=>none
 | k+1,x3,x8,x9,x10=>if x10<x9 then (if 0≤x10 then (if x10<(x8.length:Int) then (lines_Longest.l1 k x3 x8 x9 x10 (rd_L1 x8 x10) ((rd_L1 x8 x10).length:Int) 0) else (none)) else (none)) else (some x3)
def lines_Longest.l1 : Nat→Int→List (List ByteArray)→Int→Int→List ByteArray→Int→Int→Option (Int)
 | 0,_,_,_,_,_,_,_=>none
 | k+1,x3,x8,x9,x10,x14,x15,x16=>if x16<x15 then (if 0≤x16 then (if x16<(x14.length:Int) then ((lines_Run.f (rdOf ByteArray.empty x14 x16)).bind fun t103=>(lines_Longest.l1 k (mx x3 t103) x8 x9 x10 x14 x15 (wrap64 (x16+1)))) else (none)) else (none)) else (lines_Longest.l0 k x3 x8 x9 (wrap64 (x10+1)))
end
def lines_Longest.f (k : Nat) (l0 : List (List ByteArray)) : Option (Int) := lines_Longest.l0 k 0 l0 (l0.length : Int) 0
theorem lines_Longest.mono_l : ∀ k,(∀ y0 y1 y2 y3,LeO (lines_Longest.l0 k y0 y1 y2 y3) (lines_Longest.l0 (k+1) y0 y1 y2 y3))∧(∀ y0 y1 y2 y3 y4 y5 y6,LeO (lines_Longest.l1 k y0 y1 y2 y3 y4 y5 y6) (lines_Longest.l1 (k+1) y0 y1 y2 y3 y4 y5 y6))
 | 0=>⟨fun _ _ _ _ r h=>by simp [lines_Longest.l0] at h,fun _ _ _ _ _ _ _ r h=>by simp [lines_Longest.l1] at h⟩
 | k+1=>by
  obtain⟨ih0,ih1⟩:=lines_Longest.mono_l k
  refine⟨?_,?_⟩
  ·intro y0 y1 y2 y3
   unfold lines_Longest.l0
   repeat' first
   | (with_reducible exact ih0 _ _ _ _)
   | (with_reducible exact ih1 _ _ _ _ _ _ _)
   | (with_reducible exact LeO.refl _)
   | (with_reducible exact LeO.none _)
   | (with_reducible refine LeO.ite ?_ ?_)
   | (with_reducible refine LeO.bind ?_ (fun _=>?_))
   | exact ih0 _ _ _ _
   | exact ih1 _ _ _ _ _ _ _
   | exact LeO.none _
   | refine LeO.ite ?_ ?_
   | refine LeO.bind ?_ (fun _=>?_)
  ·intro y0 y1 y2 y3 y4 y5 y6
   unfold lines_Longest.l1
   repeat' first
   | (with_reducible exact ih0 _ _ _ _)
   | (with_reducible exact ih1 _ _ _ _ _ _ _)
   | (with_reducible exact LeO.refl _)
   | (with_reducible exact LeO.none _)
   | (with_reducible refine LeO.ite ?_ ?_)
   | (with_reducible refine LeO.bind ?_ (fun _=>?_))
   | exact ih0 _ _ _ _
   | exact ih1 _ _ _ _ _ _ _
   | exact LeO.none _
   | refine LeO.ite ?_ ?_
   | refine LeO.bind ?_ (fun _=>?_)
theorem lines_Longest.mono : ∀ a0 k,LeO (lines_Longest.f k a0) (lines_Longest.f (k+1) a0) := by
 intro a0 k
 obtain⟨ih0,ih1⟩:=lines_Longest.mono_l k
 unfold lines_Longest.f
 repeat' first
   | (with_reducible exact ih0 _ _ _ _)
   | (with_reducible exact ih1 _ _ _ _ _ _ _)
   | (with_reducible exact LeO.refl _)
   | (with_reducible exact LeO.none _)
   | (with_reducible refine LeO.ite ?_ ?_)
   | (with_reducible refine LeO.bind ?_ (fun _=>?_))
   | exact ih0 _ _ _ _
   | exact ih1 _ _ _ _ _ _ _
   | exact LeO.none _
   | refine LeO.ite ?_ ?_
   | refine LeO.bind ?_ (fun _=>?_)
set_option maxHeartbeats 8000000 in
set_option maxRecDepth 100000 in
theorem lines_Longest.calls (k : Nat) (A0 : Option Addr) (c0 : Nat) (l0 : List (List ByteArray)) (r : Int) (w : World) (hr0 : Kd.C (Kd.slice 9 Kd.string) w A0 l0.length l0) (hc0 : l0.length≤c0) (h : lines_Longest.f k l0=some r) :
  Calls Try.prog 40 #[.slice A0 l0.length c0] w fun e w'=>e = .returned (.int .i64 r)∧Below w.heap.size w w':=by
 have HR0:=Aside0.mk hr0
 have HC0:=Aside0.mk hc0
 clear hr0 hc0
 have HB:=Aside0.mk (Below.refl w.heap.size w)
 have H:(lines_Longest.l0 k 0 l0 (l0.length:Int) 0)=some r:=h
 clear h
 have H':=Aside0.mk H
 clear H
 go_enter Try.func40,Try.ntmps40
 go_wp2
 go_loopg [3,10] k (fun kq v3 v10 w'=>∃ (x3_1:Int) (x10_1:Int),v3 = .int .i64 x3_1∧v10 = .int .i64 x10_1∧Aside0 (lines_Longest.l0 kq x3_1 l0 (l0.length:Int) x10_1=some r)∧Aside0 (kq≤k)∧Aside0 (Below w.heap.size w w'))
 case atStart=>exact⟨(0),(0),(by first|rfl|(simp;done)|(simp [*];done)),(by first|rfl|(simp;done)|(simp [*];done)),H',⟨Nat.le_refl _⟩,⟨by repeat (first|(with_reducible first|exact HB.out|apply below_alloc|apply pw_below_drewN|apply below_drew1)|exact HB.out)⟩⟩
 case round =>
  clear H'
  obtain⟨x3_1,x10_1,rfl,rfl,HA,HK1,HB⟩:=hrel
  cases gk with
  | zero=>exact absurd HA.out (by simp [lines_Longest.l0])
  | succ k1 =>
   have H:=HA.out
   clear HA
   simp only [lines_Longest.l0] at H
   by_cases c2:x10_1<(l0.length:Int)
   ·rw [if_pos c2] at H
    have c2b0:decide (x10_1<(l0.length:Int))=true:=decide_eq_true c2
    clear c2
    by_cases c3:0≤x10_1
    ·rw [if_pos c3] at H
     have c3b0:decide (0≤x10_1)=true:=decide_eq_true c3
     clear c3
     by_cases c4:x10_1<(l0.length:Int)
     ·rw [if_pos c4] at H
      have c4b0:decide (x10_1<(l0.length:Int))=true:=decide_eq_true c4
      clear c4
      have H':=Aside0.mk H
      clear H
      have p101:0≤(x10_1:Int):=of_decide_eq_true (by first|(with_reducible assumption)|assumption)
      have q101:x10_1<(l0.length:Int):=of_decide_eq_true (by first|(with_reducible assumption)|assumption)
      obtain⟨ad101,A101_0,c101_0,e101,hx101_0,hl101_0,hi101_0⟩:=at_L1 HR0.out x10_1 p101 q101
      cases e101
      replace hx101_0:=(HB.out.cell (World.block_lt_of_cell? w _ hx101_0)).trans hx101_0
      have HR101_0:=Aside0.mk hi101_0
      have HC101_0:=Aside0.mk hl101_0
      clear hi101_0 hl101_0
      replace p101:=eq_true p101
      replace q101:=eq_true q101
      go_wp2
      go_loopg [3,16] k1 (fun kq v3 v16 w'=>∃ (x3_2:Int) (x16_2:Int),v3 = .int .i64 x3_2∧v16 = .int .i64 x16_2∧Aside0 (lines_Longest.l1 kq x3_2 l0 (l0.length:Int) x10_1 (rd_L1 l0 x10_1) ((rd_L1 l0 x10_1).length:Int) x16_2=some r)∧Aside0 (kq≤k1)∧Aside0 (Below w.heap.size w w'))
      case atStart=>exact⟨(x3_1),(0),(by first|rfl|(simp;done)|(simp [*];done)),(by first|rfl|(simp;done)|(simp [*];done)),H',⟨Nat.le_refl _⟩,⟨by repeat (first|(with_reducible first|exact HB.out|apply below_alloc|apply pw_below_drewN|apply below_drew1)|exact HB.out)⟩⟩
      case round =>
       clear H'
       try clear c1
       try clear p1
       try clear q1
       try clear hx1
       try clear c2
       try clear c2b0
       try clear p2
       try clear c3
       try clear c3b0
       try clear c4
       try clear c4b0
       try clear hx101_0
       try clear p101
       try clear q101
       obtain⟨x3_2,x16_2,rfl,rfl,HA,HK2,HB⟩:=hrel
       cases gk with
       | zero=>exact absurd HA.out (by simp [lines_Longest.l1])
       | succ k2 =>
        have H:=HA.out
        clear HA
        simp only [lines_Longest.l1] at H
        by_cases c5:x16_2<((rd_L1 l0 x10_1).length:Int)
        ·rw [if_pos c5] at H
         have c5b0:decide (x16_2<((rd_L1 l0 x10_1).length:Int))=true:=decide_eq_true c5
         clear c5
         by_cases c6:0≤x16_2
         ·rw [if_pos c6] at H
          have c6b0:decide (0≤x16_2)=true:=decide_eq_true c6
          clear c6
          by_cases c7:x16_2<((rd_L1 l0 x10_1).length:Int)
          ·rw [if_pos c7] at H
           have c7b0:decide (x16_2<((rd_L1 l0 x10_1).length:Int))=true:=decide_eq_true c7
           clear c7
           replace H:=Option.bind_eq_some_iff.mp H
           obtain⟨t103,A80,H⟩:=H
           replace H:(lines_Longest.l1 k2 (mx x3_2 t103) l0 (l0.length:Int) x10_1 (rd_L1 l0 x10_1) ((rd_L1 l0 x10_1).length:Int) (wrap64 (x16_2+1)))=some r:=H
           have A8:=Aside0.mk A80
           clear A80
           obtain⟨ji9,hji9⟩:∃ j_:Int,(mx x3_2 t103)=j_:=⟨_,rfl⟩
           replace H:(lines_Longest.l1 k2 ji9 l0 (l0.length:Int) x10_1 (rd_L1 l0 x10_1) ((rd_L1 l0 x10_1).length:Int) (wrap64 (x16_2+1)))=some r:=by first|(rw [hji9] at H;exact H)|(simp only [hji9] at H ⊢;exact H)
           (try rw [hji9] at A8)
           have hji9_:(if x3_2<t103 then t103 else x3_2)=ji9:=hji9
           have H':=Aside0.mk H
           clear H
           have p102:0≤(x16_2:Int):=of_decide_eq_true (by first|(with_reducible assumption)|assumption)
           have q102:x16_2<((rd_L1 l0 x10_1).length:Int):=of_decide_eq_true (by first|(with_reducible assumption)|assumption)
           obtain⟨ad102,e102,hx102_0⟩:=Kd.at_string HR101_0.out x16_2 p102 q102
           cases e102
           replace hx102_0:=(HB.out.cell (World.block_lt_of_cell? w _ hx102_0)).trans hx102_0
           replace p102:=eq_true p102
           replace q102:=eq_true q102
           go_wp2_with (first|((with_reducible refine gate_callee (f:=43) rfl ?_);refine goesL_ (some 22) rfl rfl Try.func43 (by kernel_rfl) rfl #[.string (rdOf ByteArray.empty (rd_L1 l0 x10_1) x16_2)] rfl (by (try simp only [List.map_toArray,List.map_cons,List.map_nil]);first|done|rfl|(simp only [List.length_drop,List.length_take];rfl)) ?_;(with_reducible refine (lines_Run.calls (rdOf ByteArray.empty (rd_L1 l0 x10_1) x16_2) t103 _ A8.out).mono ?_);rintro e w10 ⟨rfl,hb⟩;refine⟨_,rfl,?_⟩;have n0_:=Aside0.mk (below_step (by repeat (first|(with_reducible first|exact HB.out|apply below_alloc|apply pw_below_drewN|apply below_drew1)|exact HB.out)) hb);clear HB;have HB:=n0_;clear n0_;(try clear hb);(try clear hb2);(try clear hk);(try clear hi)))
           go_roundg k2
           case measure=>have:=HK1.out;have:=HK2.out;omega
           case rel=>exact⟨(ji9),(wrap64 (x16_2+1)),(by first|rfl|(simp;done)|(simp only [←hji9]<;>(first|rfl|simp))|(simp [*];done)),(by first|rfl|(simp;done)|(simp [*];done)),H',⟨by have:=HK1.out;have:=HK2.out;omega⟩,⟨by repeat (first|(with_reducible first|exact HB.out|apply below_alloc|apply pw_below_drewN|apply below_drew1)|exact HB.out)⟩⟩
          ·rw [if_neg c7] at H
           exact absurd H (by simp)
         ·rw [if_neg c6] at H
          exact absurd H (by simp)
        ·rw [if_neg c5] at H
         have c5b0:decide (x16_2<((rd_L1 l0 x10_1).length:Int))=false:=decide_eq_false c5
         clear c5
         have H':=Aside0.mk H
         clear H
         go_wp2
         go_roundg k2
         case measure=>have:=HK1.out;have:=HK2.out;omega
         case rel=>exact⟨(x3_2),(wrap64 (x10_1+1)),(by first|rfl|(simp;done)|(simp [*];done)),(by first|rfl|(simp;done)|(simp [*];done)),H',⟨by have:=HK1.out;have:=HK2.out;omega⟩,⟨by repeat (first|(with_reducible first|exact HB.out|apply below_alloc|apply pw_below_drewN|apply below_drew1)|exact HB.out)⟩⟩
     ·rw [if_neg c4] at H
      exact absurd H (by simp)
    ·rw [if_neg c3] at H
     exact absurd H (by simp)
   ·rw [if_neg c2] at H
    have c2b0:decide (x10_1<(l0.length:Int))=false:=decide_eq_false c2
    clear c2
    obtain rfl:=Option.some.inj H
    go_wp2
    go_ret
    exact⟨by first|rfl|(simp [errW_none,errW_some]<;>rfl)|(simp [*,errW_none,errW_some]<;>rfl),by repeat (first|(with_reducible first|exact HB.out|apply below_alloc|apply pw_below_drewN|apply below_drew1)|exact HB.out)⟩
def lines_Split.f (a0 : ByteArray) : Option (List ByteArray) := if a0.size≤4000000000 then some (splitB a0) else none
theorem lines_Split.calls (a0 : ByteArray) (r : List ByteArray) (w : World) (h : lines_Split.f a0=some r) :
  Calls Try.prog 29 #[.string a0] w fun e w'=>∃ v0_:Value,e = .returned (v0_)∧Kd.R Kd.string 9 w' w.heap.size (fun _=>True) v0_ r∧Below w.heap.size w w':=by
 exact ext_split a0 r w h
def doc_run.l0 : Nat→Int→List ByteArray→Int→Int→Option (Int)
 | 0,_,_,_,_=>none
 | k+1,x3,x6,x7,x8=>if x8<x7 then (if 0≤x8 then (if x8<(x6.length:Int) then ((lines_Split.f (rdOf ByteArray.empty x6 x8)).bind fun t105=>((lines_Longest.f k (([t105]:List (List ByteArray)))).bind fun t111=>(doc_run.l0 k (mx x3 t111) x6 x7 (wrap64 (x8+1))))) else (none)) else (none)) else (some x3)
def doc_run.f (k : Nat) (l0 : List ByteArray) : Option (Int) := doc_run.l0 k 0 l0 (l0.length : Int) 0
theorem doc_run.mono_l : ∀ k,(∀ y0 y1 y2 y3,LeO (doc_run.l0 k y0 y1 y2 y3) (doc_run.l0 (k+1) y0 y1 y2 y3))
 | 0=>fun _ _ _ _ r h=>by simp [doc_run.l0] at h
 | k+1=>by
  have ih0:=doc_run.mono_l k
  ·intro y0 y1 y2 y3
   unfold doc_run.l0
   repeat' first
   | (with_reducible exact ih0 _ _ _ _)
   | (with_reducible exact lines_Longest.mono _ _)
   | (with_reducible exact LeO.refl _)
   | (with_reducible exact LeO.none _)
   | (with_reducible refine LeO.ite ?_ ?_)
   | (with_reducible refine LeO.bind ?_ (fun _=>?_))
   | exact ih0 _ _ _ _
   | exact lines_Longest.mono _ _
   | exact LeO.none _
   | refine LeO.ite ?_ ?_
   | refine LeO.bind ?_ (fun _=>?_)
theorem doc_run.mono : ∀ a0 k,LeO (doc_run.f k a0) (doc_run.f (k+1) a0) := by
 intro a0 k
 have ih0:=doc_run.mono_l k
 unfold doc_run.f
 repeat' first
   | (with_reducible exact ih0 _ _ _ _)
   | (with_reducible exact lines_Longest.mono _ _)
   | (with_reducible exact LeO.refl _)
   | (with_reducible exact LeO.none _)
   | (with_reducible refine LeO.ite ?_ ?_)
   | (with_reducible refine LeO.bind ?_ (fun _=>?_))
   | exact ih0 _ _ _ _
   | exact lines_Longest.mono _ _
   | exact LeO.none _
   | refine LeO.ite ?_ ?_
   | refine LeO.bind ?_ (fun _=>?_)
set_option maxHeartbeats 8000000 in
set_option maxRecDepth 100000 in
theorem doc_run.calls (k : Nat) (A0 : Option Addr) (c0 : Nat) (l0 : List ByteArray) (r : Int) (w : World) (hr0 : Kd.C Kd.string w A0 l0.length l0) (hc0 : l0.length≤c0) (h : doc_run.f k l0=some r) :
  Calls Try.prog 71 #[.slice A0 l0.length c0] w fun e w'=>e = .returned (.int .i64 r)∧Below w.heap.size w w':=by
 have HR0:=Aside0.mk hr0
 have HC0:=Aside0.mk hc0
 clear hr0 hc0
 have HB:=Aside0.mk (Below.refl w.heap.size w)
 have H:(doc_run.l0 k 0 l0 (l0.length:Int) 0)=some r:=h
 clear h
 have H':=Aside0.mk H
 clear H
 go_enter Try.func71,Try.ntmps71
 go_wp2
 go_loopg [3,8] k (fun kq v3 v8 w'=>∃ (x3_1:Int) (x8_1:Int),v3 = .int .i64 x3_1∧v8 = .int .i64 x8_1∧Aside0 (doc_run.l0 kq x3_1 l0 (l0.length:Int) x8_1=some r)∧Aside0 (kq≤k)∧Aside0 (Below w.heap.size w w'))
 case atStart=>exact⟨(0),(0),(by first|rfl|(simp;done)|(simp [*];done)),(by first|rfl|(simp;done)|(simp [*];done)),H',⟨Nat.le_refl _⟩,⟨by repeat (first|(with_reducible first|exact HB.out|apply below_alloc|apply pw_below_drewN|apply below_drew1)|exact HB.out)⟩⟩
 case round =>
  clear H'
  obtain⟨x3_1,x8_1,rfl,rfl,HA,HK1,HB⟩:=hrel
  cases gk with
  | zero=>exact absurd HA.out (by simp [doc_run.l0])
  | succ k1 =>
   have H:=HA.out
   clear HA
   simp only [doc_run.l0] at H
   by_cases c2:x8_1<(l0.length:Int)
   ·rw [if_pos c2] at H
    have c2b0:decide (x8_1<(l0.length:Int))=true:=decide_eq_true c2
    clear c2
    by_cases c3:0≤x8_1
    ·rw [if_pos c3] at H
     have c3b0:decide (0≤x8_1)=true:=decide_eq_true c3
     clear c3
     by_cases c4:x8_1<(l0.length:Int)
     ·rw [if_pos c4] at H
      have c4b0:decide (x8_1<(l0.length:Int))=true:=decide_eq_true c4
      clear c4
      replace H:=Option.bind_eq_some_iff.mp H
      obtain⟨t105,A50,H⟩:=H
      replace H:((lines_Longest.f k1 (([t105]:List (List ByteArray)))).bind fun t111=>(doc_run.l0 k1 (mx x3_1 t111) l0 (l0.length:Int) (wrap64 (x8_1+1))))=some r:=H
      have A5:=Aside0.mk A50
      clear A50
      obtain⟨y108,hy108⟩:∃ y_:List (List ByteArray),y_=(([t105]:List (List ByteArray))):=⟨_,rfl⟩
      replace H:((lines_Longest.f k1 y108).bind fun t111=>(doc_run.l0 k1 (mx x3_1 t111) l0 (l0.length:Int) (wrap64 (x8_1+1))))=some r:=by first|(rw [hy108];with_reducible exact H)|(have H2_:=(Option.bind_some _ _).symm.trans H;rw [hy108];with_reducible exact H2_)|(have H2_:=(Option.bind_some _ _).symm.trans H;with_reducible exact H2_)|with_reducible exact H|(rw [hy108];exact H)|exact H
      have Ny108:=Aside0.mk hy108
      clear hy108
      replace H:=Option.bind_eq_some_iff.mp H
      obtain⟨t111,A60,H⟩:=H
      replace H:(doc_run.l0 k1 (mx x3_1 t111) l0 (l0.length:Int) (wrap64 (x8_1+1)))=some r:=H
      have A6:=Aside0.mk A60
      clear A60
      obtain⟨ji7,hji7⟩:∃ j_:Int,(mx x3_1 t111)=j_:=⟨_,rfl⟩
      replace H:(doc_run.l0 k1 ji7 l0 (l0.length:Int) (wrap64 (x8_1+1)))=some r:=by first|(rw [hji7] at H;exact H)|(simp only [hji7] at H ⊢;exact H)
      (try rw [hji7] at A5)
      (try rw [hji7] at A6)
      have hji7_:(if x3_1<t111 then t111 else x3_1)=ji7:=hji7
      have H':=Aside0.mk H
      clear H
      have p104:0≤(x8_1:Int):=of_decide_eq_true (by first|(with_reducible assumption)|assumption)
      have q104:x8_1<(l0.length:Int):=of_decide_eq_true (by first|(with_reducible assumption)|assumption)
      obtain⟨ad104,e104,hx104_0⟩:=Kd.at_string HR0.out x8_1 p104 q104
      cases e104
      replace hx104_0:=(HB.out.cell (World.block_lt_of_cell? w _ hx104_0)).trans hx104_0
      replace p104:=eq_true p104
      replace q104:=eq_true q104
      go_wp2_with (first|((with_reducible refine gate_callee (f:=29) rfl ?_);refine goesL_ (some 14) rfl rfl Try.func29 (by kernel_rfl) rfl #[.string (rdOf ByteArray.empty l0 x8_1)] rfl (by (try simp only [List.map_toArray,List.map_cons,List.map_nil]);first|done|rfl|(simp only [List.length_drop,List.length_take];rfl)) ?_;(with_reducible refine (lines_Split.calls (rdOf ByteArray.empty l0 x8_1) t105 _ A5.out).mono ?_);rintro e w8 ⟨v106,rfl,ho0,hb⟩;refine⟨_,rfl,?_⟩;have n0_:=Aside0.mk (Kd.R_lower ho0 (below_size (by repeat (first|(with_reducible first|exact HB.out|apply below_alloc|apply pw_below_drewN|apply below_drew1)|exact HB.out))));have n1_:=Aside0.mk (below_step (by repeat (first|(with_reducible first|exact HB.out|apply below_alloc|apply pw_below_drewN|apply below_drew1)|exact HB.out)) hb);clear HB;have HO107:=n0_;have HB:=n1_;clear n0_ n1_;(try clear hb);(try clear hb2);(try clear hk);(try clear hi);(try clear ho0);obtain⟨Ao9,co9,eo9⟩:=Kd.R_slice HO107.out;subst eo9)|((with_reducible refine gate_dst (N:=15) rfl ?_);refine Kd.N_lit (Kd.slice 9 Kd.string) _ 36 ?hg (N':=15) ?hd (xs:=([t105]:List (List ByteArray))) (inner:=[.slice Ao9 t105.length co9]) (ok:=(fun _=>True)) (okp:=(fun _=>True)) ?hr ?hp (fun _ hk=>hk) ((show ∀ k_,w8.heap.size≤k_→(fun _=>True) k_ from fun k_ hk=>trivial) _ (Nat.le_refl _)) (Below.refl _ _) (Nat.le_refl _) (by simp) ?_;(case hd=>rfl);(case hg=>rfl);(case hr=>first|(go_simp;done)|(go_simp;rfl));(case hp=>exact (Reps.one (show Kd.FK (Kd.slice 9 Kd.string) _ _ t105 [.slice Ao9 t105.length co9] from (Kd.FK_slice_mk (Kd.R_reads' (Kd.R_mono (ok':=(fun _=>True)) (HO107.out) (fun k_ hk=>trivial))).2.1 (Kd.R_F (Kd.R_mono (ok':=(fun _=>True)) (HO107.out) (fun k_ hk=>trivial))))) (Reps.none _ _)));intro v109 w10 ho11 hb hg_ hnew_;clear hg_ hnew_;(first|rw [←Ny108.out] at ho11|(simp only [Int.reduceToNat] at ho11;rw [←Ny108.out] at ho11));have n0_:=Aside0.mk (Kd.N_lower ho11 (below_size (by repeat (first|(with_reducible first|exact HB.out|apply below_alloc|apply pw_below_drewN|apply below_drew1)|exact HB.out))));have n1_:=Aside0.mk (below_step (by repeat (first|(with_reducible first|exact HB.out|apply below_alloc|apply pw_below_drewN|apply below_drew1)|exact HB.out)) hb);clear HB;clear HO107;have HO110:=n0_;have HB:=n1_;clear n0_ n1_;clear hb ho11;obtain⟨Ao12,co12,eo12⟩:=Kd.N_slice HO110.out;subst eo12)|((with_reducible refine gate_callee (f:=40) rfl ?_);refine goesL_ (some 16) rfl rfl Try.func40 (by kernel_rfl) rfl #[.slice Ao12 y108.length co12] rfl (by (try simp only [List.map_toArray,List.map_cons,List.map_nil]);first|done|rfl|(simp only [List.length_drop,List.length_take];rfl)) ?_;(with_reducible refine (lines_Longest.calls k1 _ _ y108 t111 _ ?side1 ?side2 A6.out).mono ?_);(case side1=>repeat (first|exact (Kd.N_reads' HO110.out).2.2|(with_reducible refine Kd.C_alloc ?_ _)|(with_reducible refine Kd.C_drewN ?_ _)|(with_reducible refine Kd.C_drew ?_)));(case side2=>exact (Kd.N_reads' HO110.out).2.1);rintro e w13 ⟨rfl,hb⟩;refine⟨_,rfl,?_⟩;have n0_:=Aside0.mk (Kd.N_below (by (with_reducible repeat (first|apply Kd.N_alloc|apply Kd.N_drewN|apply Kd.N_drew));exact HO110.out) hb);have n1_:=Aside0.mk (below_step (by repeat (first|(with_reducible first|exact HB.out|apply below_alloc|apply pw_below_drewN|apply below_drew1)|exact HB.out)) hb);clear HO110;clear HB;have HO110:=n0_;have HB:=n1_;clear n0_ n1_;(try clear hb);(try clear hb2);(try clear hk);(try clear hi)))
      go_roundg k1
      case measure=>have:=HK1.out;omega
      case rel=>exact⟨(ji7),(wrap64 (x8_1+1)),(by first|rfl|(simp;done)|(simp only [←hji7]<;>(first|rfl|simp))|(simp [*];done)),(by first|rfl|(simp;done)|(simp [*];done)),H',⟨by have:=HK1.out;omega⟩,⟨by repeat (first|(with_reducible first|exact HB.out|apply below_alloc|apply pw_below_drewN|apply below_drew1)|exact HB.out)⟩⟩
     ·rw [if_neg c4] at H
      exact absurd H (by simp)
    ·rw [if_neg c3] at H
     exact absurd H (by simp)
   ·rw [if_neg c2] at H
    have c2b0:decide (x8_1<(l0.length:Int))=false:=decide_eq_false c2
    clear c2
    obtain rfl:=Option.some.inj H
    go_wp2
    go_ret
    exact⟨by first|rfl|(simp [errW_none,errW_some]<;>rfl)|(simp [*,errW_none,errW_some]<;>rfl),by repeat (first|(with_reducible first|exact HB.out|apply below_alloc|apply pw_below_drewN|apply below_drew1)|exact HB.out)⟩
def doc_Width.f (k : Nat) (a0 : Int) (l1 : List ByteArray) : Option (Int) := (doc_run.f k l1).bind fun t112=>(some (mx a0 (wrap64 (t112+1))))
theorem doc_Width.mono : ∀ a0 a1 k,LeO (doc_Width.f k a0 a1) (doc_Width.f (k+1) a0 a1) := by
 intro a0 a1 k
 unfold doc_Width.f
 repeat' first
   | (with_reducible exact doc_run.mono _ _)
   | (with_reducible exact LeO.refl _)
   | (with_reducible exact LeO.none _)
   | (with_reducible refine LeO.ite ?_ ?_)
   | (with_reducible refine LeO.bind ?_ (fun _=>?_))
   | exact doc_run.mono _ _
   | exact LeO.none _
   | refine LeO.ite ?_ ?_
   | refine LeO.bind ?_ (fun _=>?_)
set_option maxHeartbeats 8000000 in
set_option maxRecDepth 100000 in
theorem doc_Width.calls (k : Nat) (a0 : Int) (A1 : Option Addr) (c1 : Nat) (l1 : List ByteArray) (r : Int) (w : World) (hr1 : Kd.C Kd.string w A1 l1.length l1) (hc1 : l1.length≤c1) (h : doc_Width.f k a0 l1=some r) :
  Calls Try.prog 19 #[.int .i64 a0,.slice A1 l1.length c1] w fun e w'=>e = .returned (.int .i64 r)∧Below w.heap.size w w':=by
 have HR1:=Aside0.mk hr1
 have HC1:=Aside0.mk hc1
 clear hr1 hc1
 have HB:=Aside0.mk (Below.refl w.heap.size w)
 have H:((doc_run.f k l1).bind fun t112=>(some (mx a0 (wrap64 (t112+1)))))=some r:=h
 clear h
 replace H:=Option.bind_eq_some_iff.mp H
 obtain⟨t112,A30,H⟩:=H
 replace H:(some (mx a0 (wrap64 (t112+1))))=some r:=H
 have A3:=Aside0.mk A30
 clear A30
 obtain⟨ji4,hji4⟩:∃ j_:Int,(mx a0 (wrap64 (t112+1)))=j_:=⟨_,rfl⟩
 replace H:(some ji4)=some r:=by first|(rw [hji4] at H;exact H)|(simp only [hji4] at H ⊢;exact H)
 (try rw [hji4] at A3)
 have hji4_:(if a0<(wrap64 (t112+1)) then (wrap64 (t112+1)) else a0)=ji4:=hji4
 obtain rfl:=Option.some.inj H
 go_enter Try.func19,Try.ntmps19
 go_wp2_with (first|((with_reducible refine gate_callee (f:=71) rfl ?_);refine goesL_ (some 7) rfl rfl Try.func71 (by kernel_rfl) rfl #[.slice A1 l1.length c1] rfl (by (try simp only [List.map_toArray,List.map_cons,List.map_nil]);first|done|rfl|(simp only [List.length_drop,List.length_take];rfl)) ?_;(with_reducible refine (doc_run.calls k _ _ l1 t112 _ ?side1 ?side2 A3.out).mono ?_);(case side1=>repeat (first|exact HR1.out|(with_reducible refine Kd.C_alloc ?_ _)|(with_reducible refine Kd.C_drewN ?_ _)|(with_reducible refine Kd.C_drew ?_)));(case side2=>exact HC1.out);rintro e w5 ⟨rfl,hb⟩;refine⟨_,rfl,?_⟩;have n0_:=Aside0.mk (below_step (by repeat (first|(with_reducible first|exact HB.out|apply below_alloc|apply pw_below_drewN|apply below_drew1)|exact HB.out)) hb);clear HB;have HB:=n0_;clear n0_;(try clear hb);(try clear hb2);(try clear hk);(try clear hi)))
 go_ret
 exact⟨by first|rfl|(simp [errW_none,errW_some]<;>rfl)|(simp only [←hji4];first|rfl|(simp [errW_none,errW_some]<;>rfl))|(simp [*,errW_none,errW_some]<;>rfl),by repeat (first|(with_reducible first|exact HB.out|apply below_alloc|apply pw_below_drewN|apply below_drew1)|exact HB.out)⟩
theorem eqA84 (d : Nat) (w : World) (x0 y0 : ByteArray) (x1 y1 : ByteArray) (x2 y2 : ByteArray) :
  (Op.equalIn (d+2) 84 (.agg #[.string x0,.string x1,.string x2]) (.agg #[.string y0,.string y1,.string y2])).run Try.prog w = .ok (x0.toList==y0.toList&&(x1.toList==y1.toList&&(x2.toList==y2.toList))) w:=by
 refine eqA_of Try.underlying84 (by kernel_rfl) ?_
 refine eqf_cons (by rfl) (by go_simp;rfl) (by go_simp;rfl) (by go_simp) ?_
 refine eqf_cons (by rfl) (by go_simp;rfl) (by go_simp;rfl) (by go_simp) ?_
 exact eqf_last (by rfl) (by go_simp;rfl) (by go_simp;rfl) (by go_simp)
theorem eqA106 (d : Nat) (w : World) (x0 y0 : ByteArray) (x1 y1 : ByteArray) (x2 y2 : ByteArray) (x3 y3 : Bool) (x4 y4 : ByteArray) (x5 y5 : ByteArray) (x6 y6 : ByteArray) (x7 y7 : ByteArray) (x8 y8 : Bool) :
  (Op.equalIn (d+3) 106 (.agg #[.string x0,.string x1,.string x2,.bool x3,.string x4,.string x5,.string x6,.string x7,.bool x8]) (.agg #[.string y0,.string y1,.string y2,.bool y3,.string y4,.string y5,.string y6,.string y7,.bool y8])).run Try.prog w = .ok ((x0.toList==y0.toList&&(x1.toList==y1.toList&&(x2.toList==y2.toList)))&&(x3==y3&&(x4.toList==y4.toList&&(x5.toList==y5.toList&&(x6.toList==y6.toList&&(x7.toList==y7.toList&&(x8==y8))))))) w:=by
 refine eqA_of Try.underlying106 (by kernel_rfl) ?_
 refine eqf_cons (by rfl) (by go_simp) (by go_simp) (eqA84 (d+0) w _ _ _ _ _ _) ?_
 refine eqf_cons (by rfl) (by go_simp;rfl) (by go_simp;rfl) (by go_simp) ?_
 refine eqf_cons (by rfl) (by go_simp;rfl) (by go_simp;rfl) (by go_simp) ?_
 refine eqf_cons (by rfl) (by go_simp;rfl) (by go_simp;rfl) (by go_simp) ?_
 refine eqf_cons (by rfl) (by go_simp;rfl) (by go_simp;rfl) (by go_simp) ?_
 refine eqf_cons (by rfl) (by go_simp;rfl) (by go_simp;rfl) (by go_simp) ?_
 exact eqf_last (by rfl) (by go_simp;rfl) (by go_simp;rfl) (by go_simp)
end Go.Proofs.Ytfiamddinkokbaa.F
end

section
namespace Go.Proofs.Ytfiamddinkokbaa.F
open Go.RowKit Go.Proofs.YtfiamddinkokbaaW.PrintWords Go.Proofs.YtfiamddinkokbaaW.PrintLast Go.Proofs.YtfiamddinkokbaaW.PrintMore
attribute [local go_sem] max2_int min2_int max_two min_two max_three min_three max_four min_four
attribute [local go_sem high] eqA106
def doc_Part_isText.f (a0_0 : ByteArray) (a0_1 : ByteArray) (a0_2 : ByteArray) (a0_3 : Bool) (a0_4 : ByteArray) (a0_5 : ByteArray) (a0_6 : ByteArray) (a0_7 : ByteArray) (a0_8 : Bool) : Option (Bool) := some ((a0_0.toList.isEmpty&&(a0_1.toList.isEmpty&&(a0_2.toList.isEmpty)))&&(!a0_3&&(a0_5.toList.isEmpty&&(a0_6.toList.isEmpty&&(a0_7.toList.isEmpty&&(!a0_8))))))
set_option maxHeartbeats 8000000 in
set_option maxRecDepth 100000 in
theorem doc_Part_isText.calls (a0_0 : ByteArray) (a0_1 : ByteArray) (a0_2 : ByteArray) (a0_3 : Bool) (a0_4 : ByteArray) (a0_5 : ByteArray) (a0_6 : ByteArray) (a0_7 : ByteArray) (a0_8 : Bool) (r : Bool) (w : World) (h : doc_Part_isText.f a0_0 a0_1 a0_2 a0_3 a0_4 a0_5 a0_6 a0_7 a0_8=some r) :
  Calls Try.prog 75 #[.agg #[.string a0_0,.string a0_1,.string a0_2,.bool a0_3,.string a0_4,.string a0_5,.string a0_6,.string a0_7,.bool a0_8]] w fun e w'=>e = .returned (.bool r)∧Below w.heap.size w w':=by
 have hu106:=Try.underlying106
 have HB:=Aside0.mk (Below.refl w.heap.size w)
 have H:(some ((a0_0.toList.isEmpty&&(a0_1.toList.isEmpty&&(a0_2.toList.isEmpty)))&&(!a0_3&&(a0_5.toList.isEmpty&&(a0_6.toList.isEmpty&&(a0_7.toList.isEmpty&&(!a0_8)))))))=some r:=h
 clear h
 obtain rfl:=Option.some.inj H
 go_enter Try.func75,Try.ntmps75
 go_wp2_with (first|((with_reducible refine gate_dst (N:=1) rfl ?_);refine box_event ?hg (N:=1) ?hd (cs:=#[.string a0_0,.string a0_1,.string a0_2,.bool a0_3,.string a0_4,.string a0_5,.string a0_6,.string a0_7,.bool a0_8]) (t:=106) ?hr ?_;(case hd=>rfl);(case hg=>rfl);(case hr=>first|(go_simp;done)|(go_simp;rfl));intro gb113 hg w2 hbox hb;have n0_:=Aside0.mk (below_step (by repeat (first|(with_reducible first|exact HB.out|apply below_alloc|apply pw_below_drewN|apply below_drew1)|exact HB.out)) hb);have n1_:=Aside0.mk (hbox);have n2_:=Aside0.mk ((by rw [hg];exact (below_size (by repeat (first|(with_reducible first|exact HB.out|apply below_alloc|apply pw_below_drewN|apply below_drew1)|exact HB.out))):w.heap.size≤gb113));have n3_:=Aside0.mk ((by rw [hg];exact (below_size (by repeat (first|(with_reducible first|exact HB.out|apply below_alloc|apply pw_below_drewN|apply below_drew1)|exact HB.out))):w.heap.size≤gb113));clear HB;have HB:=n0_;have BK113:=n1_;have GW113:=n2_;have GE113:=n3_;clear n0_ n1_ n2_ n3_;clear hb hbox hg;have hcz3_0:w2.cell? ⟨gb113,0,none⟩=some (.string a0_0):=(blk_cell BK113.out 0).trans rfl;have hcz3_1:w2.cell? ⟨gb113,1,none⟩=some (.string a0_1):=(blk_cell BK113.out 1).trans rfl;have hcz3_2:w2.cell? ⟨gb113,2,none⟩=some (.string a0_2):=(blk_cell BK113.out 2).trans rfl;have hcz3_3:w2.cell? ⟨gb113,3,none⟩=some (.bool a0_3):=(blk_cell BK113.out 3).trans rfl;have hcz3_4:w2.cell? ⟨gb113,4,none⟩=some (.string a0_4):=(blk_cell BK113.out 4).trans rfl;have hcz3_5:w2.cell? ⟨gb113,5,none⟩=some (.string a0_5):=(blk_cell BK113.out 5).trans rfl;have hcz3_6:w2.cell? ⟨gb113,6,none⟩=some (.string a0_6):=(blk_cell BK113.out 6).trans rfl;have hcz3_7:w2.cell? ⟨gb113,7,none⟩=some (.string a0_7):=(blk_cell BK113.out 7).trans rfl;have hcz3_8:w2.cell? ⟨gb113,8,none⟩=some (.bool a0_8):=(blk_cell BK113.out 8).trans rfl;have hfz3_0:=blk_frozen BK113.out 0;have hfz3_1:=blk_frozen BK113.out 1;have hfz3_2:=blk_frozen BK113.out 2;have hfz3_3:=blk_frozen BK113.out 3;have hfz3_4:=blk_frozen BK113.out 4;have hfz3_5:=blk_frozen BK113.out 5;have hfz3_6:=blk_frozen BK113.out 6;have hfz3_7:=blk_frozen BK113.out 7;have hfz3_8:=blk_frozen BK113.out 8))
 go_ret
 exact⟨by first|rfl|(simp [errW_none,errW_some]<;>rfl)|(simp [*,errW_none,errW_some]<;>rfl),by repeat (first|(with_reducible first|exact HB.out|apply below_alloc|apply pw_below_drewN|apply below_drew1|refine below_set ?_ GE113.out)|exact HB.out)⟩
end Go.Proofs.Ytfiamddinkokbaa.F
end
