/- Texts joined into one file (wip/tools/pack.py): Fn78, Fn35, FeqA60, Fn92, Fn56, Fn21, Fn63, Fn22, PureOf, Fn91, Fn55, Fn155, Fn142, Fn94, PureLines, Fn116, May, LineA, LineB, Fn133, Fn109, Fn74, Fn146, Fn129, Fn99, Fn130, Fn100, Fn101, Fn102 -/
import Derived.Test.YtfiamddinkokbaaGreatTB2
import Derived.Test.YtfiamddinkokbaaGreatTB1
import Derived.Test.YtfiamddinkokbaaGreatTB6
import Derived.Test.YtfiamddinkokbaaGreatTB7
import Derived.Test.YtfiamddinkokbaaGreatTB5
set_option linter.unusedVariables false
set_option linter.unusedSimpArgs false
section
namespace Go.Proofs.YtfiamddinkokbaaGreat.F
open Go.RowKit Go.Proofs.YtfiamddinkokbaaGreatW.PrintWords Go.Proofs.YtfiamddinkokbaaGreatW.PrintLast Go.Proofs.YtfiamddinkokbaaGreatW.PrintMore
attribute [local go_sem] max2_int min2_int max_two min_two max_three min_three max_four min_four
attribute [local go_sem high] eqA124
def doc_Part.l0 : Nat→List (S124)→List (S124)→Int→Int→Option (Bool)
 | 0,_,_,_,_=>none
 | k+1,x0,x1,x12,x13=>if x13<x12 then (if 0≤x13 then (if x13<(x0.length:Int) then (if x13<(x1.length:Int) then (if ((!((((rd_T124 x0 x13).f0.f0).toList)==(((rd_T124 x1 x13).f0.f0).toList))||(!((((rd_T124 x0 x13).f0.f1).toList)==(((rd_T124 x1 x13).f0.f1).toList))||(!((((rd_T124 x0 x13).f0.f2).toList)==(((rd_T124 x1 x13).f0.f2).toList)))))||(!(((rd_T124 x0 x13).f1)==((rd_T124 x1 x13).f1))||(!((((rd_T124 x0 x13).f2).toList)==(((rd_T124 x1 x13).f2).toList))||(!((((rd_T124 x0 x13).f3).toList)==(((rd_T124 x1 x13).f3).toList))||(!((((rd_T124 x0 x13).f4).toList)==(((rd_T124 x1 x13).f4).toList))||(!((((rd_T124 x0 x13).f5).toList)==(((rd_T124 x1 x13).f5).toList))||(!(((rd_T124 x0 x13).f6)==((rd_T124 x1 x13).f6)))))))))=true then (some false) else (doc_Part.l0 k x0 x1 x12 (wrap64 (x13+1)))) else (none)) else (none)) else (none)) else (some true)
def doc_Part.f (k : Nat) (l0 : List (S124)) (l1 : List (S124)) : Option (Bool) := if (l0.length : Int)=(l1.length : Int) then (doc_Part.l0 k l0 l1 (l0.length : Int) 0) else (some false)
theorem doc_Part.mono_l : ∀ k,(∀ y0 y1 y2 y3,LeO (doc_Part.l0 k y0 y1 y2 y3) (doc_Part.l0 (k+1) y0 y1 y2 y3))
 | 0=>fun _ _ _ _ r h=>by simp [doc_Part.l0] at h
 | k+1=>by
  have ih0:=doc_Part.mono_l k
  ·intro y0 y1 y2 y3
   unfold doc_Part.l0
   repeat' first
   | (with_reducible exact ih0 _ _ _ _)
   | (with_reducible exact LeO.refl _)
   | (with_reducible exact LeO.none _)
   | (with_reducible refine LeO.ite ?_ ?_)
   | (with_reducible refine LeO.bind ?_ (fun _=>?_))
   | exact ih0 _ _ _ _
   | exact LeO.none _
   | refine LeO.ite ?_ ?_
   | refine LeO.bind ?_ (fun _=>?_)
theorem doc_Part.mono : ∀ a0 a1 k,LeO (doc_Part.f k a0 a1) (doc_Part.f (k+1) a0 a1) := by
 intro a0 a1 k
 have ih0:=doc_Part.mono_l k
 unfold doc_Part.f
 repeat' first
   | (with_reducible exact ih0 _ _ _ _)
   | (with_reducible exact LeO.refl _)
   | (with_reducible exact LeO.none _)
   | (with_reducible refine LeO.ite ?_ ?_)
   | (with_reducible refine LeO.bind ?_ (fun _=>?_))
   | exact ih0 _ _ _ _
   | exact LeO.none _
   | refine LeO.ite ?_ ?_
   | refine LeO.bind ?_ (fun _=>?_)
set_option maxHeartbeats 8000000 in
set_option maxRecDepth 100000 in
theorem doc_Part.calls (k : Nat) (A0 : Option Addr) (c0 : Nat) (l0 : List (S124)) (A1 : Option Addr) (c1 : Nat) (l1 : List (S124)) (r : Bool) (w : World) (hr0 : Kd.C k124 w A0 l0.length l0) (hc0 : l0.length≤c0) (hr1 : Kd.C k124 w A1 l1.length l1) (hc1 : l1.length≤c1) (h : doc_Part.f k l0 l1=some r) :
  Calls Tryz.prog 78 #[.slice A0 l0.length c0,.slice A1 l1.length c1] w fun e w'=>e = .returned (.bool r)∧Drawn0 w w':=by
 have hu124:=Tryz.underlying124
 have HR0:=Zd hr0
 have HC0:=Zd hc0
 clear hr0 hc0
 have HR1:=Zd hr1
 have HC1:=Zd hc1
 clear hr1 hc1
 have H:(if (l0.length:Int)=(l1.length:Int) then (doc_Part.l0 k l0 l1 (l0.length:Int) 0) else (some false))=some r:=h
 clear h
 by_cases c3:(l0.length:Int)=(l1.length:Int)
 ·rw [if_pos c3] at H
  have c3b0:((l0.length:Int)==(l1.length:Int))=true:=beq_iff_eq.mpr c3
  have c3b1:((l0.length:Int) != (l1.length:Int))=false:=bne_eq_false_iff_eq.mpr c3
  have c3b2:(l0.length==l1.length)=true:=by first|simpa using c3|(simp at c3 ⊢;omega)
  clear c3
  have H':=Zd H
  clear H
  go_enter Tryz.func78,Tryz.ntmps78
  go_wp2
  repeat (go_quiet (fail);try go_wp2)
  go_loopg [13] k (fun kq v13 w'=>∃ (x13_1:Int),v13 = .int .i64 x13_1∧Aside0 (doc_Part.l0 kq l0 l1 (l0.length:Int) x13_1=some r)∧Aside0 (kq≤k)∧Drawn0 w w')
  case atStart=>exact⟨(0),(by first|rfl|(simp;done)|(simp [*];done)),H',⟨Nat.le_refl _⟩,by repeat (first|exact Drawn0.refl _|apply Drawn0.step)⟩
  case round =>
   clear H'
   try clear c1
   try clear p2
   try clear c3
   try clear c3b0
   try clear c3b1
   try clear c3b2
   obtain⟨x13_1,rfl,HA,HK1,⟨m1,rfl⟩⟩:=hrel
   cases gk with
   | zero=>exact absurd HA.out (by simp [doc_Part.l0])
   | succ k1 =>
    have H:=HA.out
    clear HA
    simp only [doc_Part.l0] at H
    by_cases c4:x13_1<(l0.length:Int)
    ·rw [if_pos c4] at H
     have c4b0:decide (x13_1<(l0.length:Int))=true:=decide_eq_true c4
     clear c4
     by_cases c5:0≤x13_1
     ·rw [if_pos c5] at H
      have c5b0:decide (0≤x13_1)=true:=decide_eq_true c5
      clear c5
      by_cases c6:x13_1<(l0.length:Int)
      ·rw [if_pos c6] at H
       have c6b0:decide (x13_1<(l0.length:Int))=true:=decide_eq_true c6
       clear c6
       by_cases c7:x13_1<(l1.length:Int)
       ·rw [if_pos c7] at H
        have c7b0:decide (x13_1<(l1.length:Int))=true:=decide_eq_true c7
        clear c7
        by_cases c8:((!((((rd_T124 l0 x13_1).f0.f0).toList)==(((rd_T124 l1 x13_1).f0.f0).toList))||(!((((rd_T124 l0 x13_1).f0.f1).toList)==(((rd_T124 l1 x13_1).f0.f1).toList))||(!((((rd_T124 l0 x13_1).f0.f2).toList)==(((rd_T124 l1 x13_1).f0.f2).toList)))))||(!(((rd_T124 l0 x13_1).f1)==((rd_T124 l1 x13_1).f1))||(!((((rd_T124 l0 x13_1).f2).toList)==(((rd_T124 l1 x13_1).f2).toList))||(!((((rd_T124 l0 x13_1).f3).toList)==(((rd_T124 l1 x13_1).f3).toList))||(!((((rd_T124 l0 x13_1).f4).toList)==(((rd_T124 l1 x13_1).f4).toList))||(!((((rd_T124 l0 x13_1).f5).toList)==(((rd_T124 l1 x13_1).f5).toList))||(!(((rd_T124 l0 x13_1).f6)==((rd_T124 l1 x13_1).f6)))))))))=true
        ·rw [if_pos c8] at H
         have c8b0:((!((((rd_T124 l0 x13_1).f0.f0).toList)==(((rd_T124 l1 x13_1).f0.f0).toList))||(!((((rd_T124 l0 x13_1).f0.f1).toList)==(((rd_T124 l1 x13_1).f0.f1).toList))||(!((((rd_T124 l0 x13_1).f0.f2).toList)==(((rd_T124 l1 x13_1).f0.f2).toList)))))||(!(((rd_T124 l0 x13_1).f1)==((rd_T124 l1 x13_1).f1))||(!((((rd_T124 l0 x13_1).f2).toList)==(((rd_T124 l1 x13_1).f2).toList))||(!((((rd_T124 l0 x13_1).f3).toList)==(((rd_T124 l1 x13_1).f3).toList))||(!((((rd_T124 l0 x13_1).f4).toList)==(((rd_T124 l1 x13_1).f4).toList))||(!((((rd_T124 l0 x13_1).f5).toList)==(((rd_T124 l1 x13_1).f5).toList))||(!(((rd_T124 l0 x13_1).f6)==((rd_T124 l1 x13_1).f6)))))))))=true:=c8
         clear c8
         obtain rfl:=Option.some.inj H
         have p645:0≤(x13_1:Int):=Zo
         have q645:x13_1<(l0.length:Int):=Zo
         obtain⟨ad645,e645,hx645_0,hx645_1,hx645_2,hx645_3,hx645_4,hx645_5,hx645_6,hx645_7,hx645_8⟩:=at_T124 HR0.out x13_1 p645 q645
         cases e645
         replace p645:=eq_true p645
         replace q645:=eq_true q645
         have p646:0≤(x13_1:Int):=Zo
         have q646:x13_1<(l1.length:Int):=Zo
         obtain⟨ad646,e646,hx646_0,hx646_1,hx646_2,hx646_3,hx646_4,hx646_5,hx646_6,hx646_7,hx646_8⟩:=at_T124 HR1.out x13_1 p646 q646
         cases e646
         replace p646:=eq_true p646
         replace q646:=eq_true q646
         go_wp2
         repeat (go_quiet (fail);try go_wp2)
         go_ret
         exact⟨by first|rfl|(simp;done)|(simp [*];done),by repeat (first|exact Drawn0.refl _|apply Drawn0.step)⟩
        ·rw [if_neg c8] at H
         have c8b0:((!((((rd_T124 l0 x13_1).f0.f0).toList)==(((rd_T124 l1 x13_1).f0.f0).toList))||(!((((rd_T124 l0 x13_1).f0.f1).toList)==(((rd_T124 l1 x13_1).f0.f1).toList))||(!((((rd_T124 l0 x13_1).f0.f2).toList)==(((rd_T124 l1 x13_1).f0.f2).toList)))))||(!(((rd_T124 l0 x13_1).f1)==((rd_T124 l1 x13_1).f1))||(!((((rd_T124 l0 x13_1).f2).toList)==(((rd_T124 l1 x13_1).f2).toList))||(!((((rd_T124 l0 x13_1).f3).toList)==(((rd_T124 l1 x13_1).f3).toList))||(!((((rd_T124 l0 x13_1).f4).toList)==(((rd_T124 l1 x13_1).f4).toList))||(!((((rd_T124 l0 x13_1).f5).toList)==(((rd_T124 l1 x13_1).f5).toList))||(!(((rd_T124 l0 x13_1).f6)==((rd_T124 l1 x13_1).f6)))))))))=false:=by simpa using c8
         clear c8
         have H':=Zd H
         clear H
         have p645:0≤(x13_1:Int):=Zo
         have q645:x13_1<(l0.length:Int):=Zo
         obtain⟨ad645,e645,hx645_0,hx645_1,hx645_2,hx645_3,hx645_4,hx645_5,hx645_6,hx645_7,hx645_8⟩:=at_T124 HR0.out x13_1 p645 q645
         cases e645
         replace p645:=eq_true p645
         replace q645:=eq_true q645
         have p646:0≤(x13_1:Int):=Zo
         have q646:x13_1<(l1.length:Int):=Zo
         obtain⟨ad646,e646,hx646_0,hx646_1,hx646_2,hx646_3,hx646_4,hx646_5,hx646_6,hx646_7,hx646_8⟩:=at_T124 HR1.out x13_1 p646 q646
         cases e646
         replace p646:=eq_true p646
         replace q646:=eq_true q646
         go_wp2
         repeat (go_quiet (fail);try go_wp2)
         go_roundg k1
         case measure=>have:=HK1.out;omega
         case rel=>exact⟨(wrap64 (x13_1+1)),(by first|rfl|(simp;done)|(simp [*];done)),H',⟨by have:=HK1.out;omega⟩,by repeat (first|exact Drawn0.refl _|apply Drawn0.step)⟩
       ·rw [if_neg c7] at H
        exact absurd H (by simp)
      ·rw [if_neg c6] at H
       exact absurd H (by simp)
     ·rw [if_neg c5] at H
      exact absurd H (by simp)
    ·rw [if_neg c4] at H
     have c4b0:decide (x13_1<(l0.length:Int))=false:=decide_eq_false c4
     clear c4
     obtain rfl:=Option.some.inj H
     go_wp2
     repeat (go_quiet (fail);try go_wp2)
     go_ret
     exact⟨by first|rfl|(simp;done)|(simp [*];done),by repeat (first|exact Drawn0.refl _|apply Drawn0.step)⟩
 ·rw [if_neg c3] at H
  have c3b0:((l0.length:Int)==(l1.length:Int))=false:=beq_eq_false_iff_ne.mpr c3
  have c3b1:((l0.length:Int) != (l1.length:Int))=true:=bne_iff_ne.mpr c3
  have c3b2:(l0.length==l1.length)=false:=by first|simpa using c3|(simp at c3 ⊢;omega)
  obtain rfl:=Option.some.inj H
  go_enter Tryz.func78,Tryz.ntmps78
  go_wp2
  repeat (go_quiet (fail);try go_wp2)
  go_ret
  exact⟨by first|rfl|(simp;done)|(simp [*];done),by repeat (first|exact Drawn0.refl _|apply Drawn0.step)⟩
end Go.Proofs.YtfiamddinkokbaaGreat.F
end

section
namespace Go.Proofs.YtfiamddinkokbaaGreat.F
open Go.RowKit Go.Proofs.YtfiamddinkokbaaGreatW.PrintWords Go.Proofs.YtfiamddinkokbaaGreatW.PrintLast Go.Proofs.YtfiamddinkokbaaGreatW.PrintMore
attribute [local go_sem] max2_int min2_int max_two min_two max_three min_three max_four min_four
def doc_Same.f (k : Nat) (l0 : List (S124)) (l1 : List (S124)) : Option (Bool) := (doc_Part.f k l0 l1).bind fun t647=>(some t647)
theorem doc_Same.mono : ∀ a0 a1 k,LeO (doc_Same.f k a0 a1) (doc_Same.f (k+1) a0 a1) := by
 intro a0 a1 k
 unfold doc_Same.f
 repeat' first
   | (with_reducible exact doc_Part.mono _ _ _)
   | (with_reducible exact LeO.refl _)
   | (with_reducible exact LeO.none _)
   | (with_reducible refine LeO.ite ?_ ?_)
   | (with_reducible refine LeO.bind ?_ (fun _=>?_))
   | exact doc_Part.mono _ _ _
   | exact LeO.none _
   | refine LeO.ite ?_ ?_
   | refine LeO.bind ?_ (fun _=>?_)
set_option maxHeartbeats 8000000 in
set_option maxRecDepth 100000 in
theorem doc_Same.calls (k : Nat) (A0 : Option Addr) (c0 : Nat) (l0 : List (S124)) (A1 : Option Addr) (c1 : Nat) (l1 : List (S124)) (r : Bool) (w : World) (hr0 : Kd.C k124 w A0 l0.length l0) (hc0 : l0.length≤c0) (hr1 : Kd.C k124 w A1 l1.length l1) (hc1 : l1.length≤c1) (h : doc_Same.f k l0 l1=some r) :
  Calls Tryz.prog 35 #[.slice A0 l0.length c0,.slice A1 l1.length c1] w fun e w'=>e = .returned (.bool r)∧Drawn0 w w':=by
 have HR0:=Zd hr0
 have HC0:=Zd hc0
 clear hr0 hc0
 have HR1:=Zd hr1
 have HC1:=Zd hc1
 clear hr1 hc1
 have H:((doc_Part.f k l0 l1).bind fun t647=>(some t647))=some r:=h
 clear h
 replace H:=Option.bind_eq_some_iff.mp H
 obtain⟨t647,A30,H⟩:=H
 replace H:(some t647)=some r:=H
 have A3:=Zd A30
 clear A30
 obtain rfl:=Option.some.inj H
 go_enter Tryz.func35,Tryz.ntmps35
 go_wp2_with (first|((with_reducible refine gate_callee (f:=78) rfl ?_);refine goesL_ (some 7) rfl rfl Tryz.func78 (by kernel_rfl) rfl #[.slice A0 l0.length c0,.slice A1 l1.length c1] rfl Zl ?_;(with_reducible refine (doc_Part.calls k _ _ l0 _ _ l1 t647 _ ?side1 ?side2 ?side3 ?side4 A3.out).mono ?_);(case side1=>repeat (first|exact HR0.out|(with_reducible refine Kd.C_alloc ?_ _)|(with_reducible refine Kd.C_drewN ?_ _)|(with_reducible refine Kd.C_drew ?_)));(case side2=>exact HC0.out);(case side3=>repeat (first|exact HR1.out|(with_reducible refine Kd.C_alloc ?_ _)|(with_reducible refine Kd.C_drewN ?_ _)|(with_reducible refine Kd.C_drew ?_)));(case side4=>exact HC1.out);rintro e w' ⟨rfl,⟨nd,rfl⟩⟩;refine⟨_,rfl,?_⟩))
 go_ret
 exact⟨by first|rfl|(simp;done)|(simp [*];done),by repeat (first|exact Drawn0.refl _|apply Drawn0.step)⟩
theorem eqA60 (d : Nat) (w : World) (x0 y0 : ByteArray) (x1 y1 : ByteArray) (x2 y2 : ByteArray) (x3 y3 : Bool) (x4 y4 : ByteArray) (x5 y5 : ByteArray) (x6 y6 : ByteArray) (x7 y7 : ByteArray) (x8 y8 : Bool) :
  (Op.equalIn (d+2) 60 (.agg #[.string x0,.string x1,.string x2,.bool x3,.string x4,.string x5,.string x6,.string x7,.bool x8]) (.agg #[.string y0,.string y1,.string y2,.bool y3,.string y4,.string y5,.string y6,.string y7,.bool y8])).run Tryz.prog w = .ok (x0.toList==y0.toList&&(x1.toList==y1.toList&&(x2.toList==y2.toList&&(x3==y3&&(x4.toList==y4.toList&&(x5.toList==y5.toList&&(x6.toList==y6.toList&&(x7.toList==y7.toList&&(x8==y8))))))))) w:=by
 refine eqA_of Tryz.underlying60 (by kernel_rfl) ?_
 refine eqf_cons (by rfl) (by go_simp;rfl) (by go_simp;rfl) (by go_simp) ?_
 refine eqf_cons (by rfl) (by go_simp;rfl) (by go_simp;rfl) (by go_simp) ?_
 refine eqf_cons (by rfl) (by go_simp;rfl) (by go_simp;rfl) (by go_simp) ?_
 refine eqf_cons (by rfl) (by go_simp;rfl) (by go_simp;rfl) (by go_simp) ?_
 refine eqf_cons (by rfl) (by go_simp;rfl) (by go_simp;rfl) (by go_simp) ?_
 refine eqf_cons (by rfl) (by go_simp;rfl) (by go_simp;rfl) (by go_simp) ?_
 refine eqf_cons (by rfl) (by go_simp;rfl) (by go_simp;rfl) (by go_simp) ?_
 refine eqf_cons (by rfl) (by go_simp;rfl) (by go_simp;rfl) (by go_simp) ?_
 exact eqf_last (by rfl) (by go_simp;rfl) (by go_simp;rfl) (by go_simp)
end Go.Proofs.YtfiamddinkokbaaGreat.F
end

section
namespace Go.Proofs.YtfiamddinkokbaaGreat.F
open Go.RowKit Go.Proofs.YtfiamddinkokbaaGreatW.PrintWords Go.Proofs.YtfiamddinkokbaaGreatW.PrintLast Go.Proofs.YtfiamddinkokbaaGreatW.PrintMore
attribute [local go_sem] max2_int min2_int max_two min_two max_three min_three max_four min_four
attribute [local go_sem high] eqA60

end Go.Proofs.YtfiamddinkokbaaGreat.F
end

section
namespace Go.Proofs.YtfiamddinkokbaaGreat.F
open Go.RowKit Go.Proofs.YtfiamddinkokbaaGreatW.PrintWords Go.Proofs.YtfiamddinkokbaaGreatW.PrintLast Go.Proofs.YtfiamddinkokbaaGreatW.PrintMore
attribute [local go_sem] max2_int min2_int max_two min_two max_three min_three max_four min_four

end Go.Proofs.YtfiamddinkokbaaGreat.F
end

section
namespace Go.Proofs.YtfiamddinkokbaaGreat.F
open Go.RowKit Go.Proofs.YtfiamddinkokbaaGreatW.PrintWords Go.Proofs.YtfiamddinkokbaaGreatW.PrintLast Go.Proofs.YtfiamddinkokbaaGreatW.PrintMore
attribute [local go_sem] max2_int min2_int max_two min_two max_three min_three max_four min_four
attribute [local go_sem high] eqA60

end Go.Proofs.YtfiamddinkokbaaGreat.F
end

section
namespace Go.Proofs.YtfiamddinkokbaaGreat.F
open Go.RowKit Go.Proofs.YtfiamddinkokbaaGreatW.PrintWords Go.Proofs.YtfiamddinkokbaaGreatW.PrintLast Go.Proofs.YtfiamddinkokbaaGreatW.PrintMore
attribute [local go_sem] max2_int min2_int max_two min_two max_three min_three max_four min_four


end Go.Proofs.YtfiamddinkokbaaGreat.F
end

section
namespace Go.Proofs.YtfiamddinkokbaaGreat.F
open Go.RowKit Go.Proofs.YtfiamddinkokbaaGreatW.PrintWords Go.Proofs.YtfiamddinkokbaaGreatW.PrintLast Go.Proofs.YtfiamddinkokbaaGreatW.PrintMore
def to106 (x : S60) : S124 := ⟨⟨x.f0,x.f1,x.f2⟩,x.f3,x.f4,x.f5,x.f6,x.f7,x.f8⟩
def isTextP (x : S60) : Bool := x.f0.toList.isEmpty&&(x.f1.toList.isEmpty&&(x.f2.toList.isEmpty&&(!x.f3&&(x.f5.toList.isEmpty&&(x.f6.toList.isEmpty&&(x.f7.toList.isEmpty&&(!x.f8)))))))
def isNoneP (x : S60) : Bool := isTextP x&&x.f4.toList.isEmpty
def joinP (z p : S60) : S60 := ⟨z.f0,z.f1,z.f2,z.f3,z.f4++p.f4,z.f5,z.f6,z.f7,z.f8⟩
def ofStep (out : List S60) (p : S60) : List S60 :=
 if isNoneP p=true then out
 else match out.getLast? with
  | none=>out++[p]
  | some z=>if isTextP p=true∧isTextP z=true then out.dropLast++[joinP z p] else out++[p]
def ofP (l : List S60) : List S60 := l.foldl ofStep []
theorem ofStep_none (out : List S60) (p : S60) (h : isNoneP p=true) : ofStep out p=out := by unfold ofStep;rw [if_pos h]
theorem ofStep_nil (p : S60) (h : ¬ isNoneP p=true) : ofStep [] p=[p] := by unfold ofStep;rw [if_neg h];rfl
theorem ofStep_join (u : List S60) (z p : S60) (h : ¬ isNoneP p=true) (hp : isTextP p=true) (hz : isTextP z=true) : ofStep (u++[z]) p=u++[joinP z p] := by
 unfold ofStep;rw [if_neg h,List.getLast?_concat];simp [hp,hz]
theorem ofStep_put (u : List S60) (z p : S60) (h : ¬ isNoneP p=true) (hn : ¬ (isTextP p=true∧isTextP z=true)) : ofStep (u++[z]) p=u++[z]++[p] := by
 unfold ofStep;rw [if_neg h,List.getLast?_concat];simp only [if_neg hn]
def textSum (l : List S60) : Nat := (l.map fun x=>x.f4.size).sum
theorem joinP_text (z p : S60) : isTextP (joinP z p)=isTextP z := rfl
theorem empty_toList (s : ByteArray) : s.toList.isEmpty=true↔s.size=0 := by
 rw [bytes_toList,List.isEmpty_iff,←size_data];exact⟨fun h=>by rw [h];rfl,fun h=>List.length_eq_zero_iff.1 h⟩
def Joined (l : List S60) : Prop := (∀ x∈l,¬ isNoneP x=true)∧∀ u a b v,l=u++a::b::v→¬ (isTextP a=true∧isTextP b=true)
theorem snoc_two {α : Type} {l u v : List α} {z a b : α} (h : l++[z]=u++a::b::v) : (v=[]∧b=z∧l=u++[a])∨∃ v',v=v'++[z]∧l=u++a::b::v' := by
 rcases List.eq_nil_or_concat v with rfl|⟨v',y,rfl⟩
 ·left
  have h2:l++[z]=(u++[a])++[b]:=by rw [h];simp
  obtain⟨h3,h4⟩:=List.append_inj' h2 rfl
  exact⟨rfl,(List.cons.inj h4).1.symm,h3⟩
 ·right
  have h2:l++[z]=(u++a::b::v')++[y]:=by rw [h];simp
  obtain⟨h3,h4⟩:=List.append_inj' h2 rfl
  exact⟨v',by rw [(List.cons.inj h4).1];simp,h3⟩
theorem joined_nil : Joined [] := ⟨fun x hx=>(by cases hx),fun u a b v h=>(by simp at h)⟩
theorem joined_step (out : List S60) (p : S60) (h : Joined out) : Joined (ofStep out p) := by
 obtain⟨h1,h2⟩:=h
 by_cases hn:isNoneP p=true
 ·rw [ofStep_none out p hn];exact⟨h1,h2⟩
 ·rcases List.eq_nil_or_concat out with rfl|⟨u0,z,rfl⟩
  ·rw [ofStep_nil p hn]
   refine⟨fun x hx=>by rw [List.mem_singleton.1 hx];exact hn,fun u a b v e=>?_⟩
   have:=congrArg List.length e
   simp at this;omega
  ·rw [List.concat_eq_append] at h1 h2 ⊢
   by_cases hb:isTextP p=true∧isTextP z=true
   ·rw [ofStep_join u0 z p hn hb.1 hb.2]
    refine⟨fun x hx=>?_,fun u a b v e=>?_⟩
    ·rcases List.mem_append.1 hx with hx|hx
     ·exact h1 x (List.mem_append_left _ hx)
     ·rw [List.mem_singleton.1 hx]
      intro hj
      apply hn
      unfold isNoneP at hj ⊢
      rw [joinP_text,hb.2,Bool.true_and] at hj
      rw [hb.1,Bool.true_and]
      rw [empty_toList] at hj ⊢
      unfold joinP at hj
      simp only [ByteArray.size_append] at hj
      omega
    ·rcases snoc_two e with ⟨rfl,rfl,rfl⟩|⟨v',rfl,rfl⟩
     ·rw [joinP_text];exact h2 u a z [] (by simp)
     ·exact h2 u a b (v'++[z]) (by simp)
   ·rw [ofStep_put u0 z p hn hb]
    refine⟨fun x hx=>?_,fun u a b v e=>?_⟩
    ·rcases List.mem_append.1 hx with hx|hx
     ·exact h1 x hx
     ·rw [List.mem_singleton.1 hx];exact hn
    ·rcases snoc_two e with ⟨rfl,rfl,e2⟩|⟨v',rfl,e2⟩
     ·obtain⟨_,e3⟩:=List.append_inj' e2 rfl
      rw [←(List.cons.inj e3).1]
      exact fun hc=>hb ⟨hc.2,hc.1⟩
     ·exact h2 u a b v' e2
theorem joined_fold (l out : List S60) (h : Joined out) : Joined (l.foldl ofStep out) := by
 induction l generalizing out with
 | nil=>exact h
 | cons p l ih=>exact ih _ (joined_step out p h)
theorem joined_of (l : List S60) : Joined (ofP l) := joined_fold l [] joined_nil
theorem fold_joined (l acc : List S60) (h : Joined (acc++l)) : l.foldl ofStep acc=acc++l := by
 induction l generalizing acc with
 | nil=>simp
 | cons p l ih =>
  have hn:¬ isNoneP p=true:=h.1 p (by simp)
  have hs:ofStep acc p=acc++[p]:=by
   rcases List.eq_nil_or_concat acc with rfl|⟨u,z,rfl⟩
   ·exact ofStep_nil p hn
   ·rw [List.concat_eq_append] at h ⊢
    exact ofStep_put u z p hn (fun hc=>h.2 u z p l (by simp) ⟨hc.2,hc.1⟩)
  show l.foldl ofStep (ofStep acc p)=acc++p::l
  rw [hs,ih (acc++[p]) (by simpa using h)];simp
theorem step_bound (M : Nat) (out : List S60) (p : S60) (h : ∀ x∈out,x.f4.size≤M) : (ofStep out p).length≤out.length+1∧∀ x∈ofStep out p,x.f4.size≤M+p.f4.size := by
 by_cases hn:isNoneP p=true
 ·rw [ofStep_none out p hn];exact⟨by omega,fun x hx=>by have:=h x hx;omega⟩
 ·rcases List.eq_nil_or_concat out with rfl|⟨u0,z,rfl⟩
  ·rw [ofStep_nil p hn];exact⟨by simp,fun x hx=>by rw [List.mem_singleton.1 hx];omega⟩
  ·rw [List.concat_eq_append] at h ⊢
   by_cases hb:isTextP p=true∧isTextP z=true
   ·rw [ofStep_join u0 z p hn hb.1 hb.2]
    refine⟨by simp,fun x hx=>?_⟩
    rcases List.mem_append.1 hx with hx|hx
    ·have:=h x (List.mem_append_left _ hx);omega
    ·rw [List.mem_singleton.1 hx]
     have:=h z (by simp)
     simp only [joinP,ByteArray.size_append];omega
   ·rw [ofStep_put u0 z p hn hb]
    refine⟨by simp,fun x hx=>?_⟩
    rcases List.mem_append.1 hx with hx|hx
    ·have:=h x hx;omega
    ·rw [List.mem_singleton.1 hx];omega
theorem rd106_at (l : List S124) (i : Int) (xs ys : List S124) (c : S124) (h : l=xs++c::ys) (hi : i=xs.length) : rd_T124 l i=c := by
 subst h hi;unfold rd_T124;simp [List.getD_eq_getElem?_getD]
theorem rd106_map (l : List S60) (i : Int) (xs ys : List S60) (c : S60) (h : l=xs++c::ys) (hi : i=xs.length) : rd_T124 (l.map to106) i=to106 c :=
 rd106_at _ i (xs.map to106) (ys.map to106) (to106 c) (by rw [h];simp) (by simpa using hi)
theorem set_last {α : Type} (u : List α) (z z' : α) (i : Int) (hi : i=u.length) : (u++[z]).set i.toNat z'=u++[z'] := by
 subst hi;rw [Int.toNat_natCast,List.set_append_right _ _ (Nat.le_refl _)];simp
theorem doc_of_in (l : List S60) (hn : l.length≤4000000000) (ht : textSum l≤4000000000) :
  ∀ (rest done out:List S60) (i:Int) (M:Nat),l=done++rest→i=done.length→out.length≤done.length→(∀ x∈out,x.f4.size≤M)→M+textSum rest≤4000000000 →
  Ev (fun k=>doc_Of.l0 k (out.map to106) (l.map to106) ((l.map to106).length:Int) i) ((rest.foldl ofStep out).map to106)
 | [],done,out,i,M,hl,ei,ho,hm,hM=>by
  refine Ev.succ ?_
  simp only [doc_Of.l0]
  refine Ev.neg (by rw [hl];simp;omega) (Ev.val rfl)
 | p::rest,done,out,i,M,hl,ei,ho,hm,hM=>by
  have hsz:l.length=done.length+(rest.length+1):=by rw [hl];simp
  have hw:wrap64 (i+1)=i+1:=wrap_in (by omega) (by omega)
  obtain⟨hb1,hb2⟩:=step_bound M out p hm
  have hts:textSum (p::rest)=p.f4.size+textSum rest:=by simp [textSum]
  have again:=doc_of_in l hn ht rest (done++[p]) (ofStep out p) (i+1) (M+p.f4.size) (by rw [hl];simp) (by simp;omega) (by simp;omega) hb2 (by omega)
  have hlm:((l.map to106).length:Int)=l.length:=by simp
  refine Ev.succ ?_
  simp only [doc_Of.l0,hw,rd106_map l i done rest p hl ei]
  refine Ev.pos (by rw [hlm];omega) (Ev.pos (by omega) (Ev.pos (by rw [hlm];omega) ?_))
  have hcond:(((to106 p).f0.f0.toList.isEmpty&&((to106 p).f0.f1.toList.isEmpty&&(to106 p).f0.f2.toList.isEmpty))&&(!(to106 p).f1&&((to106 p).f2.toList.isEmpty&&((to106 p).f3.toList.isEmpty&&((to106 p).f4.toList.isEmpty&&((to106 p).f5.toList.isEmpty&&(!(to106 p).f6)))))))=isNoneP p:=by
   unfold isNoneP isTextP to106
   cases p.f0.toList.isEmpty<;>cases p.f1.toList.isEmpty<;>cases p.f2.toList.isEmpty<;>cases p.f3<;>cases p.f4.toList.isEmpty<;>cases p.f5.toList.isEmpty<;>cases p.f6.toList.isEmpty<;>cases p.f7.toList.isEmpty<;>cases p.f8<;>rfl
  have htext:∀ q:S60,doc_Part_isText.f (to106 q).f0.f0 (to106 q).f0.f1 (to106 q).f0.f2 (to106 q).f1 (to106 q).f2 (to106 q).f3 (to106 q).f4 (to106 q).f5 (to106 q).f6=some (isTextP q):=by
   intro q
   unfold doc_Part_isText.f isTextP to106
   congr 1
   cases q.f0.toList.isEmpty<;>cases q.f1.toList.isEmpty<;>cases q.f2.toList.isEmpty<;>cases q.f3<;>cases q.f5.toList.isEmpty<;>cases q.f6.toList.isEmpty<;>cases q.f7.toList.isEmpty<;>cases q.f8<;>rfl
  simp only [hcond]
  by_cases hnone:isNoneP p=true
  ·refine Ev.pos hnone ?_
   rw [List.foldl_cons,ofStep_none out p hnone]
   rw [ofStep_none out p hnone] at again
   exact again
  ·refine Ev.neg hnone (Ev.bind (Ev.const (htext p)) ?_)
   have put:ofStep out p=out++[p]→Ev (fun k=>if (out.map to106).length<1099511627776 then doc_Of.l0 k (out.map to106++[(⟨(⟨(to106 p).f0.f0,(to106 p).f0.f1,(to106 p).f0.f2⟩:S29),(to106 p).f1,(to106 p).f2,(to106 p).f3,(to106 p).f4,(to106 p).f5,(to106 p).f6⟩:S124)]) (l.map to106) ((l.map to106).length:Int) (i+1) else none) (((p::rest).foldl ofStep out).map to106):=by
    intro e
    refine Ev.pos (by simp;omega) ?_
    rw [List.foldl_cons,e]
    rw [e,List.map_append] at again
    exact again
   by_cases hp:isTextP p=true
   ·refine Ev.pos hp ?_
    rcases List.eq_nil_or_concat out with rfl|⟨u,z,rfl⟩
    ·refine Ev.neg (by simp) (put (ofStep_nil p hnone))
    ·rw [List.concat_eq_append] at *
     have hul:(((u++[z]).map to106).length:Int)=u.length+1:=by simp
     have hwl:wrap64 ((((u++[z]).map to106).length:Int)-1)=u.length:=by rw [hul,wrap_in (by simp at ho;omega) (by simp at ho;omega)];omega
     have hrd:rd_T124 ((u++[z]).map to106) (u.length:Int)=to106 z:=rd106_map (u++[z]) _ u [] z rfl rfl
     simp only [hwl,hrd]
     refine Ev.pos (by rw [hul];omega) (Ev.pos (by omega) (Ev.pos (by rw [hul];omega) (Ev.bind (Ev.const (htext z)) ?_)))
     by_cases hz:isTextP z=true
     ·refine Ev.pos hz (Ev.pos ?_ ?_)
      ·have:=hm z (by simp)
       show z.f4.size+p.f4.size≤9223372036854775807
       omega
      ·rw [List.foldl_cons]
       rw [ofStep_join u z p hnone hp hz] at again ⊢
       have e:((u++[z]).map to106).set (u.length:Int).toNat (to106 (joinP z p))=(u++[joinP z p]).map to106:=by
        rw [List.map_append,List.map_append,List.map_singleton,List.map_singleton,set_last _ _ _ _ (by simp)]
       rw [←e] at again
       exact again
     ·exact Ev.neg hz (put (ofStep_put u z p hnone (fun hc=>hz hc.2)))
   ·refine Ev.neg hp ?_
    rcases List.eq_nil_or_concat out with rfl|⟨u,z,rfl⟩
    ·exact put (ofStep_nil p hnone)
    ·rw [List.concat_eq_append] at *
     exact put (ofStep_put u z p hnone (fun hc=>hp hc.1))
theorem ev_doc_of (l : List S60) (hn : l.length≤4000000000) (ht : textSum l≤4000000000) : Ev (fun k=>doc_Of.f k (l.map to106)) ((ofP l).map to106) :=
 doc_of_in l hn ht l [] [] 0 0 rfl rfl (Nat.le_refl _) (fun x hx=>(by cases hx)) (by omega)
def eqP (x y : S60) : Bool := x.f0.toList==y.f0.toList&&(x.f1.toList==y.f1.toList&&(x.f2.toList==y.f2.toList&&(x.f3==y.f3&&(x.f4.toList==y.f4.toList&&(x.f5.toList==y.f5.toList&&(x.f6.toList==y.f6.toList&&(x.f7.toList==y.f7.toList&&x.f8==y.f8)))))))
theorem eqP_refl (x : S60) : eqP x x=true := by simp [eqP]
def sameP : List S60→List S60→Bool
 | [],[]=>true
 | x::a,y::b=>eqP x y&&sameP a b
 | _,_=>false
theorem sameP_refl : ∀ l : List S60,sameP l l=true
 | []=>rfl
 | x::l=>by simp [sameP,eqP_refl,sameP_refl l]
theorem sameP_length : ∀ a b : List S60,sameP a b=true→a.length=b.length
 | [],[],_=>rfl
 | x::a,y::b,h=>by simp [sameP] at h;simp [sameP_length a b h.2]
 | [],y::b,h=>by simp [sameP] at h
 | x::a,[],h=>by simp [sameP] at h
theorem doc_same_in (a b : List S60) (hn : a.length≤4000000000) (hab : a.length=b.length) : ∀ (ra rb da db : List S60) (i : Int),a=da++ra→b=db++rb→da.length=db.length→i=da.length →
  Ev (fun k=>doc_Part.l0 k (a.map to106) (b.map to106) ((a.map to106).length:Int) i) (sameP ra rb)
 | [],rb,da,db,i,ha,hb,hd,ei=>by
  have:rb=[]:=by
   rw [ha,hb] at hab;simp at hab;exact List.length_eq_zero_iff.1 (by omega)
  subst this
  refine Ev.succ ?_
  simp only [doc_Part.l0]
  refine Ev.neg (by rw [ha];simp;omega) (Ev.val rfl)
 | x::ra,[],da,db,i,ha,hb,hd,ei=>by
  rw [ha,hb] at hab;simp at hab;omega
 | x::ra,y::rb,da,db,i,ha,hb,hd,ei=>by
  have hsz:a.length=da.length+(ra.length+1):=by rw [ha];simp
  have hw:wrap64 (i+1)=i+1:=wrap_in (by omega) (by omega)
  have la:((a.map to106).length:Int)=a.length:=by simp
  have lb:((b.map to106).length:Int)=a.length:=by simp [hab]
  refine Ev.succ ?_
  simp only [doc_Part.l0,hw,rd106_map a i da ra x ha ei,rd106_map b i db rb y hb (by omega)]
  refine Ev.pos (by omega) (Ev.pos (by omega) (Ev.pos (by omega) (Ev.pos (by omega) ?_)))
  by_cases he:eqP x y=true
  ·refine Ev.neg ?_ ?_
   ·unfold eqP at he;simp only [Bool.and_eq_true] at he
    obtain⟨h0,h1,h2,h3,h4,h5,h6,h7,h8⟩:=he
    simp [to106,h0,h1,h2,h3,h4,h5,h6,h7,h8]
   ·rw [show sameP (x::ra) (y::rb)=sameP ra rb from by simp [sameP,he]]
    exact doc_same_in a b hn hab ra rb (da++[x]) (db++[y]) (i+1) (by rw [ha];simp) (by rw [hb];simp) (by simp [hd]) (by simp;omega)
  ·refine Ev.pos ?_ (Ev.val ?_)
   ·rw [Bool.not_eq_true] at he
    have h2:(!eqP x y)=true:=by rw [he];rfl
    unfold eqP at h2
    unfold to106
    simpa only [Bool.not_and,Bool.or_assoc] using h2
   ·rw [Bool.not_eq_true] at he;simp [sameP,he]
theorem ev_doc_same (a b : List S60) (hn : a.length≤4000000000) (hm : b.length≤4000000000) : Ev (fun k=>doc_Same.f k (a.map to106) (b.map to106)) (sameP a b) := by
 unfold doc_Same.f doc_Part.f
 refine Ev.bind (a:=sameP a b) ?_ (Ev.val rfl)
 by_cases h:(a.length:Int)=b.length
 ·refine Ev.pos (by simpa using h) (doc_same_in a b hn (by omega) a b [] [] 0 rfl rfl rfl rfl)
 ·refine Ev.neg (by simpa using h) (Ev.val ?_)
  cases hs:sameP a b with
  | false=>rfl
  | true=>exact absurd (by rw [sameP_length a b hs]) h
def sizesP (x : S60) : Nat := x.f4.size+x.f5.size+x.f6.size+x.f7.size+x.f0.size+x.f1.size+x.f2.size
def sumP (l : List S60) : Nat := (l.map sizesP).sum
end Go.Proofs.YtfiamddinkokbaaGreat.F
end

section
namespace Go.Proofs.YtfiamddinkokbaaGreat.F
open Go.RowKit Go.Proofs.YtfiamddinkokbaaGreatW.PrintWords Go.Proofs.YtfiamddinkokbaaGreatW.PrintLast Go.Proofs.YtfiamddinkokbaaGreatW.PrintMore
attribute [local go_sem] max2_int min2_int max_two min_two max_three min_three max_four min_four


def strings_Join.f (l0 : List ByteArray) (a1 : ByteArray) : Option ByteArray := if l0.length≤140737488355328∧(joinB l0 a1).size≤140737488355328 then some (joinB l0 a1) else none
theorem strings_Join.calls (A0 : Option Addr) (c0 : Nat) (l0 : List ByteArray) (a1 : ByteArray) (r : ByteArray) (w : World) (hr0 : Kd.C Kd.string w A0 l0.length l0) (hc0 : l0.length≤c0) (h : strings_Join.f l0 a1=some r) :
  Calls Tryz.prog 155 #[.slice A0 l0.length c0,.string a1] w fun e w'=>e = .returned (.string r)∧Below w.heap.size w w':=by
 exact ext_join A0 c0 l0 a1 r w hr0 hc0 h
def lines_Join.f (l0 : List ByteArray) : Option (ByteArray) := (strings_Join.f l0 (⟨#[]⟩ : ByteArray)).bind fun t107=>(some t107)
set_option maxHeartbeats 8000000 in
set_option maxRecDepth 100000 in
theorem lines_Join.calls (A0 : Option Addr) (c0 : Nat) (l0 : List ByteArray) (r : ByteArray) (w : World) (hr0 : Kd.C Kd.string w A0 l0.length l0) (hc0 : l0.length≤c0) (h : lines_Join.f l0=some r) :
  Calls Tryz.prog 142 #[.slice A0 l0.length c0] w fun e w'=>e = .returned (.string r)∧Below w.heap.size w w':=by
 have HR0:=Zd hr0
 have HC0:=Zd hc0
 clear hr0 hc0
 have HB:=Zd (Below.refl w.heap.size w)
 have H:((strings_Join.f l0 (⟨#[]⟩:ByteArray)).bind fun t107=>(some t107))=some r:=h
 clear h
 replace H:=Option.bind_eq_some_iff.mp H
 obtain⟨t107,A20,H⟩:=H
 replace H:(some t107)=some r:=H
 have A2:=Zd A20
 clear A20
 obtain rfl:=Option.some.inj H
 go_enter Tryz.func142,Tryz.ntmps142
 go_wp2_with (first|((with_reducible refine gate_callee (f:=155) rfl ?_);refine goesL_ (some 4) rfl rfl Tryz.func155 (by kernel_rfl) rfl #[.slice A0 l0.length c0,.string (⟨#[]⟩:ByteArray)] rfl Zl ?_;(with_reducible refine (strings_Join.calls _ _ l0 (⟨#[]⟩:ByteArray) t107 _ ?side1 ?side2 A2.out).mono ?_);(case side1=>repeat (first|exact HR0.out|(with_reducible refine Kd.C_alloc ?_ _)|(with_reducible refine Kd.C_drewN ?_ _)|(with_reducible refine Kd.C_drew ?_)));(case side2=>exact HC0.out);rintro e w3 ⟨rfl,hb⟩;refine⟨_,rfl,?_⟩;have n0_:=Zd (below_step Zb hb);clear HB;have HB:=n0_;clear n0_;(try clear hb);(try clear hb2);(try clear hk);(try clear hi)))
 go_ret
 exact⟨by first|rfl|(simp [errW_none,errW_some]<;>rfl)|(simp [*,errW_none,errW_some]<;>rfl),by repeat (first|(with_reducible first|exact HB.out|apply below_alloc|apply pw_below_drewN|apply below_drew1)|exact HB.out)⟩

end Go.Proofs.YtfiamddinkokbaaGreat.F
end

section
namespace Go.Proofs.YtfiamddinkokbaaGreat.F
open Go.RowKit Go.Proofs.YtfiamddinkokbaaGreatW.PrintWords Go.Proofs.YtfiamddinkokbaaGreatW.PrintLast Go.Proofs.YtfiamddinkokbaaGreatW.PrintMore
theorem nl_cases : ∀ p : List UInt8,(10 : UInt8)∉p∨∃ q r,(10 : UInt8)∉q∧p=q++10::r
 | [] => .inl (by simp)
 | c::p=>by
  by_cases hc:c=10
  ·subst hc;exact .inr ⟨[],p,by simp,rfl⟩
  ·rcases nl_cases p with h|⟨q,r,hq,rfl⟩
   ·left;simp [h];exact fun e=>hc e.symm
   ·right;refine⟨c::q,r,?_,rfl⟩;simp [hq];exact fun e=>hc e.symm
theorem index_no : ∀ p : List UInt8,(10 : UInt8)∉p→Lib.indexByte p 10 = -1
 | [],_=>rfl
 | c::p,h=>by
  have hc:(c==10)=false:=by simpa using fun e:c=10=>h (by simp [e])
  have ih:=index_no p (fun e=>h (by simp [e]))
  unfold Lib.indexByte;simp [hc,ih]
theorem index_at : ∀ q r : List UInt8,(10 : UInt8)∉q→Lib.indexByte (q++10::r) 10=q.length
 | [],r,_=>by simp [Lib.indexByte]
 | c::q,r,h=>by
  have hc:(c==10)=false:=by simpa using fun e:c=10=>h (by simp [e])
  have ih:=index_at q r (fun e=>h (by simp [e]))
  rw [List.cons_append]
  unfold Lib.indexByte
  rw [ih]
  have:¬ ((q.length:Int) = -1):=by omega
  simp [hc,this]
def oneL (p : List UInt8) : Bool := (splitL p).length==1
def endsL (p : List UInt8) : Bool := p.getLast? == some 10
theorem oneL_no (p : List UInt8) (h : (10 : UInt8)∉p) : oneL p = !p.isEmpty := by
 unfold oneL
 cases p with
 | nil=>rfl
 | cons c p=>rw [splitL_last (c::p) (by simp) h];rfl
theorem oneL_at (q r : List UInt8) (h : (10 : UInt8)∉q) : oneL (q++10::r)=r.isEmpty := by
 unfold oneL
 rw [splitL_line q r h]
 cases r with
 | nil=>rfl
 | cons c r =>
  have:splitL (c::r)≠[]:=fun e=>by simp [splitL_nil_iff] at e
  cases hs:splitL (c::r) with
  | nil=>exact absurd hs this
  | cons a b=>simp [hs]
theorem endsL_no (p : List UInt8) (h : (10 : UInt8)∉p) : endsL p=false := by
 unfold endsL
 rcases List.eq_nil_or_concat p with rfl|⟨u,z,rfl⟩
 ·rfl
 ·rw [List.concat_eq_append] at h ⊢
  rw [List.getLast?_concat]
  have:z≠10:=fun e=>h (by simp [e])
  simpa using this
theorem endsL_at (q : List UInt8) : endsL (q++[10])=true := by unfold endsL;rw [List.getLast?_concat];rfl
def wholeP : List ByteArray→Bool
 | []=>true
 | [x]=>oneL x.data.toList
 | x::y::r=>oneL x.data.toList&&(endsL x.data.toList&&wholeP (y::r))
theorem wholeP_cons (x : ByteArray) (r : List ByteArray) : wholeP (x::r)=(oneL x.data.toList&&((r.isEmpty||endsL x.data.toList)&&wholeP r)) := by
 cases r with
 | nil=>simp [wholeP]
 | cons y r=>simp [wholeP]
theorem toList_inj {a b : ByteArray} (h : a.toList=b.toList) : a=b := bytes_ext (by rw [←bytes_toList,←bytes_toList,h])
def catB (l : List ByteArray) : ByteArray := toB (l.flatMap fun s=>s.data.toList)
theorem joinB_empty (l : List ByteArray) : joinB l ⟨#[]⟩=catB l := by
 unfold joinB catB
 congr 1
 cases l with
 | nil=>rfl
 | cons x r =>
  rw [List.map_cons,Lib.join_cons]
  simp [Lib.joinTail,List.flatMap]
  rfl
theorem lines_join (l : List ByteArray) (hn : l.length≤4000000000) (hs : (catB l).size≤4000000000) : lines_Join.f l=some (catB l) := by
 unfold lines_Join.f strings_Join.f
 rw [joinB_empty,if_pos ⟨by omega,by omega⟩];rfl
theorem split_flat : ∀ p : List UInt8,(splitL p).flatten=p := by
 intro p
 induction h:p.length using Nat.strongRecOn generalizing p with
 | ind n ih =>
  by_cases hp:p=[]
  ·subst hp;rfl
  ·rw [splitL_next p hp,List.flatten_cons]
   have ht:=congrArg List.length (take_drop_line p)
   rw [List.length_append] at ht
   have hpos:0<(takeLine p).length:=by
    cases p with
    | nil=>exact absurd rfl hp
    | cons c t=>simp only [takeLine];split<;>simp
   rw [ih (dropLine p).length (by omega) _ rfl,take_drop_line]
theorem cat_split (s : ByteArray) : catB (splitB s)=s := by
 refine bytes_ext ?_
 unfold catB splitB
 rw [data_toB,List.flatMap_map]
 have:(splitL s.data.toList).flatMap (fun a=>(toB a).data.toList)=(splitL s.data.toList).flatten:=by
  simp [List.flatMap]
 rw [this,split_flat]
theorem whole_map : ∀ p : List UInt8,wholeP ((splitL p).map toB)=true := by
 intro p
 induction h:p.length using Nat.strongRecOn generalizing p with
 | ind n ih =>
  rcases nl_cases p with hno|⟨q,r,hq,rfl⟩
  ·by_cases hp:p=[]
   ·subst hp;rfl
   ·rw [splitL_last p hp hno]
    show oneL (toB p).data.toList=true
    rw [data_toB,oneL_no p hno]
    cases p with
    | nil=>exact absurd rfl hp
    | cons a b=>rfl
  ·rw [splitL_line q r hq,List.map_cons,wholeP_cons,data_toB,oneL_at q [] hq,endsL_at,ih r.length (by rw [←h];simp;omega) r rfl]
   simp
theorem whole_split (s : ByteArray) : wholeP (splitB s)=true := whole_map s.data.toList
theorem split_cat : ∀ l : List ByteArray,wholeP l=true→splitB (catB l)=l
 | [],_=>rfl
 | x::r,h=>by
  rw [wholeP_cons] at h
  simp only [Bool.and_eq_true] at h
  obtain⟨h1,h2,h3⟩:=h
  have ih:=split_cat r h3
  have hc:(catB (x::r)).data.toList=x.data.toList++(catB r).data.toList:=by simp [catB]
  unfold splitB at ih ⊢
  rw [hc]
  rcases nl_cases x.data.toList with hno|⟨q,s,hq,hx⟩
  ·rw [endsL_no _ hno] at h2
   have hr:r=[]:=by cases r with
    | nil=>rfl
    | cons a b=>simp at h2
   subst hr
   rw [oneL_no _ hno] at h1
   have hne:x.data.toList≠[]:=fun e=>by rw [e] at h1;simp at h1
   have:(catB []).data.toList=[]:=rfl
   rw [this,List.append_nil,splitL_last _ hne hno,List.map_singleton,toB_data]
  ·rw [hx,oneL_at q s hq] at h1
   have hs:s=[]:=by simpa using h1
   subst hs
   have:q++[10]++(catB r).data.toList=q++10::(catB r).data.toList:=by simp
   rw [hx,this,splitL_line q _ hq,List.map_cons,ih,←hx,toB_data]
end Go.Proofs.YtfiamddinkokbaaGreat.F
end

section
namespace Go.Proofs.YtfiamddinkokbaaGreat.F
open Go.RowKit Go.Proofs.YtfiamddinkokbaaGreatW.PrintWords Go.Proofs.YtfiamddinkokbaaGreatW.PrintLast Go.Proofs.YtfiamddinkokbaaGreatW.PrintMore
attribute [local go_sem] max2_int min2_int max_two min_two max_three min_three max_four min_four
def strings_Contains.f (a0 a1 : ByteArray) : Option Bool := if a1.size=1 then some (decide (0≤Lib.indexByte a0.data.toList (a1.data.toList.headD 0))) else none
theorem strings_Contains.calls (a0 : ByteArray) (a1 : ByteArray) (r : Bool) (w : World) (h : strings_Contains.f a0 a1=some r) :
  Calls Tryz.prog 116 #[.string a0,.string a1] w fun e w'=>e = .returned (.bool r)∧Drawn0 w w':=by
 exact ext_contains a0 a1 r w h
end Go.Proofs.YtfiamddinkokbaaGreat.F
end

section
namespace Go.Proofs.YtfiamddinkokbaaGreat.F
open Go.RowKit Go.Shelf Go.Proofs.YtfiamddinkokbaaGreatW.PrintWords
def signI (k : Int) : Bool := k==60||(k==124||(k==61||k==62))
def lineless (s : ByteArray) : Bool := decide (0≤Lib.indexByte s.data.toList 10)
def mayB (k : Int) (fl : Bool) (lb : ByteArray) : Bool := signI k&&(!lineless lb&&((k != 60 || !fl)&&(k != 61||lb.toList.isEmpty)))
theorem new_cell0 (W : World) (cs : Array Value) (t : TypeId) (i : Nat) (v : Value) (h : cs[i]? = some v) : (W.alloc (.cells cs t)).cell? ⟨W.heap.size,i,none⟩=some v := (blk_cell (World.alloc_heap_new W _) i).trans h
theorem tr0 {W W' : World} {p : Addr} {v : Value} (hb : Below W.heap.size W W') (h : W.cell? p=some v) : W'.cell? p=some v := (hb.cell (World.block_lt_of_cell? W _ h)).trans h
theorem encode_small : ∀ n : _root_.Fin 128,Utf8.encode ((n.val : Nat) : Int)=⟨#[UInt8.ofNat n.val]⟩ := by decide +kernel
theorem sign_small : ∀ n : _root_.Fin 128,isSign (UInt8.ofNat n.val)=signI ((n.val : Nat) : Int) := by decide +kernel
theorem may_sign (n : Nat) (h : n<128) (W : World) : Calls Tryz.prog 116 #[.string ⟨#[60,124,61,62]⟩,.string (Utf8.encode (n : Int))] W fun e w'=>e = .returned (.bool (signI n))∧Below W.heap.size W w' := by
 have e1:=encode_small ⟨n,h⟩
 have e2:=sign_small ⟨n,h⟩
 simp only at e1 e2
 rw [e1]
 refine (strings_Contains.calls ⟨#[60,124,61,62]⟩ ⟨#[UInt8.ofNat n]⟩ (signI n) W ?_).mono ?_
 ·unfold strings_Contains.f
  rw [if_pos (show (⟨#[UInt8.ofNat n]⟩:ByteArray).size=1 from rfl),←e2,←sign_index];rfl
 ·rintro e w' ⟨rfl,d,rfl⟩;exact⟨rfl,pw_below_drewN (Below.refl _ _) d⟩
theorem may_line (lb : ByteArray) (W : World) : Calls Tryz.prog 116 #[.string lb,.string ⟨#[10]⟩] W fun e w'=>e = .returned (.bool (lineless lb))∧Below W.heap.size W w' := by
 refine (strings_Contains.calls lb ⟨#[10]⟩ (lineless lb) W rfl).mono ?_
 rintro e w' ⟨rfl,d,rfl⟩;exact⟨rfl,pw_below_drewN (Below.refl _ _) d⟩
set_option maxHeartbeats 8000000 in
set_option maxRecDepth 100000 in
theorem may_calls (k : Int) (fl : Bool) (lb : ByteArray) (w : World) (h0 : 0≤k) (h1 : k<128) :
  Calls Tryz.prog 101 #[.agg #[.int .u8 k,.bool fl,.string lb]] w fun e w'=>e = .returned (.bool (mayB k fl lb))∧Below w.heap.size w w':=by
 obtain⟨n,rfl⟩:=Int.eq_ofNat_of_zero_le h0
 have h2:n<128:=by omega
 have hs:=may_sign n h2
 have hl:=may_line lb
 unfold mayB
 clear h2
 generalize hk:(n:Int)=k at *
 have k0:0≤k:=h0
 clear h0
 generalize hA:signI k=bs at hs ⊢
 generalize hL:lineless lb=bl at hl ⊢
 have HB:Below w.heap.size w (w.alloc (.cells #[.int .u8 k,.bool fl,.string lb] 134)):=below_alloc (Below.refl _ _) _
 have c0:=new_cell0 w #[.int .u8 k,.bool fl,.string lb] 134 0 _ rfl
 have c1:=new_cell0 w #[.int .u8 k,.bool fl,.string lb] 134 1 _ rfl
 have c2:=new_cell0 w #[.int .u8 k,.bool fl,.string lb] 134 2 _ rfl
 go_enter Tryz.func101,Tryz.ntmps101
 clear hk n
 go_wp2_with (first
  | (go_at_call_of 116 (Value.string ⟨#[60,124,61,62]⟩);refine (hs _).mono ?_;rintro e w1 ⟨rfl,hb1⟩;replace c0:=tr0 hb1 c0;replace c1:=tr0 hb1 c1;replace c2:=tr0 hb1 c2;replace HB:=below_step HB hb1;clear hb1)
  | (go_at_call_of 116 (Value.string lb);refine (hl _).mono ?_;rintro e w1 ⟨rfl,hb1⟩;replace c0:=tr0 hb1 c0;replace c1:=tr0 hb1 c1;replace c2:=tr0 hb1 c2;replace HB:=below_step HB hb1;clear hb1))
 all_goals go_ret
 all_goals refine⟨?_,HB⟩
 all_goals clear hs hl c0 c1 c2 HB
 all_goals simp_all
theorem ln_size_toB (l : List UInt8) : (toB l).size=l.length := by rw [←show (toB l).data.toList.length=(toB l).size from Array.length_toList,data_toB]
theorem ln_bytes_ext {a b : ByteArray} (h : a.data.toList=b.data.toList) : a=b := by rw [←toB_data a,h,toB_data]
theorem ln_toList (s : ByteArray) : s.toList=s.data.toList := ByteArray.toList_eq s
def lineB (k : Int) (fl : Bool) (lb : ByteArray) (width : Int) : ByteArray :=
 toB (List.replicate width.toNat (UInt8.ofNat k.toNat)++((if fl=true then [33] else [])++((if lb.toList.isEmpty=true then [] else 32::lb.data.toList)++[10])))
theorem repeat_one (c : UInt8) : ∀ n : Nat,Lib.repeatL [c] n=List.replicate n c := by
 intro n
 induction n with
 | zero=>rfl
 | succ n ih=>simp [Lib.repeatL,ih,List.replicate_succ]
theorem line_repeat (n : Nat) (h : n<128) (c : Nat) (hc : c≤1073741824) (W : World) :
  Calls Tryz.prog 131 #[.string (Utf8.encode (n:Int)),.int .i64 c] W fun e w'=>e = .returned (.string (toB (List.replicate c (UInt8.ofNat n))))∧Below W.heap.size W w':=by
 have e1:=encode_small ⟨n,h⟩
 simp only at e1
 rw [e1]
 have hs:(⟨#[UInt8.ofNat n]⟩:ByteArray).size=1:=rfl
 refine (Tryz.strings_Repeat ⟨#[UInt8.ofNat n]⟩ c W (by omega) (by rw [hs];omega)).mono ?_
 rintro e w' ⟨rfl,hb⟩
 refine⟨?_,hb⟩
 have:Lib.repeatL (⟨#[UInt8.ofNat n]⟩:ByteArray).data.toList c=List.replicate c (UInt8.ofNat n):=repeat_one _ c
 rw [this];rfl
set_option maxHeartbeats 8000000 in
set_option maxRecDepth 100000 in
theorem line_calls (k : Int) (fl : Bool) (lb : ByteArray) (width : Int) (w : World) (h0 : 0≤k) (h1 : k<128) (w0 : 0≤width) (w1 : width≤1073741824) (hl : lb.size≤4000000000) :
  Calls Tryz.prog 102 #[.agg #[.int .u8 k,.bool fl,.string lb],.int .i64 width] w fun e w'=>e = .returned (.string (lineB k fl lb width))∧Below w.heap.size w w':=by
 obtain⟨n,rfl⟩:=Int.eq_ofNat_of_zero_le h0
 obtain⟨c,rfl⟩:=Int.eq_ofNat_of_zero_le w0
 have h2:n<128:=by omega
 have h3:c≤1073741824:=by omega
 have hs:=line_repeat n h2 c h3
 unfold lineB
 rw [Int.toNat_natCast,Int.toNat_natCast]
 have ht:(toB (List.replicate c (UInt8.ofNat n))).size=c:=by rw [ln_size_toB];simp
 generalize hT:toB (List.replicate c (UInt8.ofNat n))=t at hs ht
 have hT2:List.replicate c (UInt8.ofNat n)=t.data.toList:=by rw [←hT,data_toB]
 rw [hT2]
 clear hT hT2
 have f1:(9223372036854775807<t.size+1)=False:=eq_false (by omega)
 have f2:(9223372036854775807<1+lb.size)=False:=eq_false (by omega)
 have f3:(9223372036854775807<t.size+(1+lb.size))=False:=eq_false (by omega)
 have f4:(9223372036854775807<t.size+1+(1+lb.size))=False:=eq_false (by omega)
 have f5:(9223372036854775807<t.size+(1+lb.size)+1)=False:=eq_false (by omega)
 have f6:(9223372036854775807<t.size+1+(1+lb.size)+1)=False:=eq_false (by omega)
 have f7:(9223372036854775807<t.size+1+1)=False:=eq_false (by omega)
 clear h2 h3 w0 w1 hl ht
 generalize hk:(n:Int)=k at *
 generalize hc:(c:Int)=cc at *
 clear hk hc n c
 have HE:Aside0 (lb.toList.isEmpty=true↔lb.data.toList=[]):=⟨by rw [List.isEmpty_iff,ln_toList]⟩
 have HB:=Zd (below_alloc (Below.refl w.heap.size w) (.cells #[.int .u8 k,.bool fl,.string lb] 134))
 have c0:=new_cell0 w #[.int .u8 k,.bool fl,.string lb] 134 0 (.int .u8 k) rfl
 have c1:=new_cell0 w #[.int .u8 k,.bool fl,.string lb] 134 1 (.bool fl) rfl
 have c2:=new_cell0 w #[.int .u8 k,.bool fl,.string lb] 134 2 (.string lb) rfl
 go_enter Tryz.func102,Tryz.ntmps102
 go_wp2_with (first
  | (go_at_call 131;refine (hs _).mono ?_;rintro e w1 ⟨rfl,hb1⟩;replace c0:=tr0 hb1 c0;replace c1:=tr0 hb1 c1;replace c2:=tr0 hb1 c2;replace HB:=Zd (below_step HB.out hb1);clear hb1 hs))
 all_goals go_ret
 all_goals refine⟨?_,HB.out⟩
 all_goals first
  | (exfalso;simp_all;done)
  | (refine (?_:Ending.returned (Value.string _)=Ending.returned (Value.string _));refine congrArg Ending.returned (congrArg Value.string (ln_bytes_ext ?_));simp [data_toB, *];done)
  | (refine (?_:Ending.returned (Value.string _)=Ending.returned (Value.string _));refine congrArg Ending.returned (congrArg Value.string (ln_bytes_ext ?_));simp_all [data_toB];done)
theorem ext_may (k : Int) (fl : Bool) (lb : ByteArray) (r : Bool) (w : World) (h : (if 0≤k∧k<128 then some (mayB k fl lb) else none)=some r) :
  Calls Tryz.prog 101 #[.agg #[.int .u8 k,.bool fl,.string lb]] w fun e w'=>e = .returned (.bool r)∧Below w.heap.size w w':=by
 split at h
 ·rename_i hk
  obtain rfl:=Option.some.inj h
  exact may_calls k fl lb w hk.1 hk.2
 ·cases h
theorem ext_line (k : Int) (fl : Bool) (lb : ByteArray) (width : Int) (r : ByteArray) (w : World) (h : (if 0≤k∧k<128∧0≤width∧width≤1073741824∧lb.size≤4000000000 then some (lineB k fl lb width) else none)=some r) :
  Calls Tryz.prog 102 #[.agg #[.int .u8 k,.bool fl,.string lb],.int .i64 width] w fun e w'=>e = .returned (.string r)∧Below w.heap.size w w':=by
 split at h
 ·rename_i hk
  obtain rfl:=Option.some.inj h
  exact line_calls k fl lb width w hk.1 hk.2.1 hk.2.2.1 hk.2.2.2.1 hk.2.2.2.2
 ·cases h
end Go.Proofs.YtfiamddinkokbaaGreat.F
end

section
namespace Go.Proofs.YtfiamddinkokbaaGreat.F
open Go.RowKit Go.Proofs.YtfiamddinkokbaaGreatW.PrintWords Go.Proofs.YtfiamddinkokbaaGreatW.PrintLast Go.Proofs.YtfiamddinkokbaaGreatW.PrintMore
attribute [local go_sem] max2_int min2_int max_two min_two max_three min_three max_four min_four
def stringslite_HasSuffix.f (a0 : ByteArray) (a1 : ByteArray) : Option (Bool) := if (a0.size : Int)≥(a1.size : Int) then (if 0≤(wrap64 ((a0.size : Int)-(a1.size : Int))) then (if (wrap64 ((a0.size : Int)-(a1.size : Int)))≤(a0.size : Int) then (some ((a0.extract ((wrap64 ((a0.size : Int)-(a1.size : Int))) : Int).toNat a0.size).toList==a1.toList)) else (none)) else (none)) else (some false)
set_option maxHeartbeats 8000000 in
set_option maxRecDepth 100000 in
theorem stringslite_HasSuffix.calls (a0 : ByteArray) (a1 : ByteArray) (r : Bool) (w : World) (h : stringslite_HasSuffix.f a0 a1=some r) :
  Calls Tryz.prog 133 #[.string a0,.string a1] w fun e w'=>e = .returned (.bool r)∧Drawn0 w w':=by
 have H:(if (a0.size:Int)≥(a1.size:Int) then (if 0≤(wrap64 ((a0.size:Int)-(a1.size:Int))) then (if (wrap64 ((a0.size:Int)-(a1.size:Int)))≤(a0.size:Int) then (some ((a0.extract ((wrap64 ((a0.size:Int)-(a1.size:Int))):Int).toNat a0.size).toList==a1.toList)) else (none)) else (none)) else (some false))=some r:=h
 clear h
 by_cases c3:(a0.size:Int)≥(a1.size:Int)
 ·rw [if_pos c3] at H
  have c3b0:decide ((a1.size:Int)≤(a0.size:Int))=true:=decide_eq_true c3
  have c3b1:decide (a1.size≤a0.size)=true:=decide_eq_true (Int.ofNat_le.mp c3)
  clear c3
  obtain⟨ji4,hji4⟩:∃ j_:Int,(wrap64 ((a0.size:Int)-(a1.size:Int)))=j_:=⟨_,rfl⟩
  replace H:(if 0≤(ji4) then (if (ji4)≤(a0.size:Int) then (some ((a0.extract ((ji4):Int).toNat a0.size).toList==a1.toList)) else (none)) else (none))=some r:=by first|(rw [hji4] at H;exact H)|(simp only [hji4] at H ⊢;exact H)
  have hji4w:(IntKind.i64.wrap ((a0.size:Int)-(a1.size:Int)))=ji4:=(i64_w _).trans hji4
  by_cases c5:0≤(ji4)
  ·rw [if_pos c5] at H
   have c5b0:=eq_true c5
   have c5b1:decide (0≤(ji4))=true:=decide_eq_true c5
   clear c5
   by_cases c6:(ji4)≤(a0.size:Int)
   ·rw [if_pos c6] at H
    have c6b0:=eq_true c6
    have c6b1:decide ((ji4)≤(a0.size:Int))=true:=decide_eq_true c6
    clear c6
    obtain rfl:=Option.some.inj H
    go_enter Tryz.func133,Tryz.ntmps133
    go_wp2
    go_ret
    exact⟨by first|rfl|(simp;done)|(simp only [←hji4]<;>(first|rfl|simp))|(simp [*];done),by repeat (first|exact Drawn0.refl _|apply Drawn0.step)⟩
   ·rw [if_neg c6] at H
    exact absurd H (by simp)
  ·rw [if_neg c5] at H
   exact absurd H (by simp)
 ·rw [if_neg c3] at H
  have c3b0:decide ((a1.size:Int)≤(a0.size:Int))=false:=decide_eq_false c3
  have c3b1:decide (a1.size≤a0.size)=false:=decide_eq_false (fun h=>c3 (Int.ofNat_le.mpr h))
  clear c3
  obtain rfl:=Option.some.inj H
  go_enter Tryz.func133,Tryz.ntmps133
  go_wp2
  go_ret
  exact⟨by first|rfl|(simp;done)|(simp [*];done),by repeat (first|exact Drawn0.refl _|apply Drawn0.step)⟩
def strings_HasSuffix.f (a0 : ByteArray) (a1 : ByteArray) : Option (Bool) := (stringslite_HasSuffix.f a0 a1).bind fun t106=>(some t106)
set_option maxHeartbeats 8000000 in
set_option maxRecDepth 100000 in
theorem strings_HasSuffix.calls (a0 : ByteArray) (a1 : ByteArray) (r : Bool) (w : World) (h : strings_HasSuffix.f a0 a1=some r) :
  Calls Tryz.prog 109 #[.string a0,.string a1] w fun e w'=>e = .returned (.bool r)∧Drawn0 w w':=by
 have H:((stringslite_HasSuffix.f a0 a1).bind fun t106=>(some t106))=some r:=h
 clear h
 replace H:=Option.bind_eq_some_iff.mp H
 obtain⟨t106,A30,H⟩:=H
 replace H:(some t106)=some r:=H
 have A3:=Zd A30
 clear A30
 obtain rfl:=Option.some.inj H
 go_enter Tryz.func109,Tryz.ntmps109
 go_wp2_with (first|((with_reducible refine gate_callee (f:=133) rfl ?_);refine goesL_ (some 7) rfl rfl Tryz.func133 (by kernel_rfl) rfl #[.string a0,.string a1] rfl Zl ?_;(with_reducible refine (stringslite_HasSuffix.calls a0 a1 t106 _ A3.out).mono ?_);rintro e w' ⟨rfl,⟨nd,rfl⟩⟩;refine⟨_,rfl,?_⟩))
 go_ret
 exact⟨by first|rfl|(simp;done)|(simp [*];done),by repeat (first|exact Drawn0.refl _|apply Drawn0.step)⟩
def mark_wide.f (a0 : Int) : Option (Bool) := if a0≥1 then (some (decide (a0≤1073741824))) else (some false)
set_option maxHeartbeats 8000000 in
set_option maxRecDepth 100000 in
theorem mark_wide.calls (a0 : Int) (r : Bool) (w : World) (h : mark_wide.f a0=some r) :
  Calls Tryz.prog 74 #[.int .i64 a0] w fun e w'=>e = .returned (.bool r)∧Drawn0 w w':=by
 have H:(if a0≥1 then (some (decide (a0≤1073741824))) else (some false))=some r:=h
 clear h
 by_cases c2:a0≥1
 ·rw [if_pos c2] at H
  have c2b0:decide (1≤a0)=true:=decide_eq_true c2
  clear c2
  obtain rfl:=Option.some.inj H
  go_enter Tryz.func74,Tryz.ntmps74
  go_wp2
  go_ret
  exact⟨by first|rfl|(simp;done)|(simp [*];done),by repeat (first|exact Drawn0.refl _|apply Drawn0.step)⟩
 ·rw [if_neg c2] at H
  have c2b0:decide (1≤a0)=false:=decide_eq_false c2
  clear c2
  obtain rfl:=Option.some.inj H
  go_enter Tryz.func74,Tryz.ntmps74
  go_wp2
  go_ret
  exact⟨by first|rfl|(simp;done)|(simp [*];done),by repeat (first|exact Drawn0.refl _|apply Drawn0.step)⟩
def stringslite_HasPrefix.f (a0 : ByteArray) (a1 : ByteArray) : Option (Bool) := if (a0.size : Int)≥(a1.size : Int) then (if 0≤(a1.size : Int) then (if (a1.size : Int)≤(a0.size : Int) then (some ((a0.extract 0 ((a1.size : Int) : Int).toNat).toList==a1.toList)) else (none)) else (none)) else (some false)
set_option maxHeartbeats 8000000 in
set_option maxRecDepth 100000 in
theorem stringslite_HasPrefix.calls (a0 : ByteArray) (a1 : ByteArray) (r : Bool) (w : World) (h : stringslite_HasPrefix.f a0 a1=some r) :
  Calls Tryz.prog 146 #[.string a0,.string a1] w fun e w'=>e = .returned (.bool r)∧Drawn0 w w':=by
 have H:(if (a0.size:Int)≥(a1.size:Int) then (if 0≤(a1.size:Int) then (if (a1.size:Int)≤(a0.size:Int) then (some ((a0.extract 0 ((a1.size:Int):Int).toNat).toList==a1.toList)) else (none)) else (none)) else (some false))=some r:=h
 clear h
 by_cases c3:(a0.size:Int)≥(a1.size:Int)
 ·rw [if_pos c3] at H
  have c3b0:decide ((a1.size:Int)≤(a0.size:Int))=true:=decide_eq_true c3
  have c3b1:decide (a1.size≤a0.size)=true:=decide_eq_true (Int.ofNat_le.mp c3)
  clear c3
  by_cases c4:0≤(a1.size:Int)
  ·rw [if_pos c4] at H
   have c4b0:=eq_true c4
   have c4b1:decide (0≤(a1.size:Int))=true:=decide_eq_true c4
   clear c4
   by_cases c5:(a1.size:Int)≤(a0.size:Int)
   ·rw [if_pos c5] at H
    have c5b0:=eq_true c5
    have c5b1:decide ((a1.size:Int)≤(a0.size:Int))=true:=decide_eq_true c5
    clear c5
    obtain rfl:=Option.some.inj H
    go_enter Tryz.func146,Tryz.ntmps146
    go_wp2
    go_ret
    exact⟨by first|rfl|(simp;done)|(simp [*];done),by repeat (first|exact Drawn0.refl _|apply Drawn0.step)⟩
   ·rw [if_neg c5] at H
    exact absurd H (by simp)
  ·rw [if_neg c4] at H
   exact absurd H (by simp)
 ·rw [if_neg c3] at H
  have c3b0:decide ((a1.size:Int)≤(a0.size:Int))=false:=decide_eq_false c3
  have c3b1:decide (a1.size≤a0.size)=false:=decide_eq_false (fun h=>c3 (Int.ofNat_le.mpr h))
  clear c3
  obtain rfl:=Option.some.inj H
  go_enter Tryz.func146,Tryz.ntmps146
  go_wp2
  go_ret
  exact⟨by first|rfl|(simp;done)|(simp [*];done),by repeat (first|exact Drawn0.refl _|apply Drawn0.step)⟩
def stringslite_CutPrefix.f (a0 : ByteArray) (a1 : ByteArray) : Option (ByteArray×Bool) := (stringslite_HasPrefix.f a0 a1).bind fun t648=>(if t648=true then (if 0≤(a1.size : Int) then (if (a1.size : Int)≤(a0.size : Int) then (some (a0.extract ((a1.size : Int) : Int).toNat a0.size,true)) else (none)) else (none)) else (some (a0,false)))
set_option maxHeartbeats 8000000 in
set_option maxRecDepth 100000 in
theorem stringslite_CutPrefix.calls (a0 : ByteArray) (a1 : ByteArray) (r1 : ByteArray) (r2 : Bool) (w : World) (h : stringslite_CutPrefix.f a0 a1=some (r1,r2)) :
  Calls Tryz.prog 129 #[.string a0,.string a1] w fun e w'=>e = .returned (.tuple #[.string r1,.bool r2])∧Drawn0 w w':=by
 have H:((stringslite_HasPrefix.f a0 a1).bind fun t648=>(if t648=true then (if 0≤(a1.size:Int) then (if (a1.size:Int)≤(a0.size:Int) then (some (a0.extract ((a1.size:Int):Int).toNat a0.size,true)) else (none)) else (none)) else (some (a0,false))))=some (r1,r2):=h
 clear h
 replace H:=Option.bind_eq_some_iff.mp H
 obtain⟨t648,A30,H⟩:=H
 replace H:(if t648=true then (if 0≤(a1.size:Int) then (if (a1.size:Int)≤(a0.size:Int) then (some (a0.extract ((a1.size:Int):Int).toNat a0.size,true)) else (none)) else (none)) else (some (a0,false)))=some (r1,r2):=H
 have A3:=Zd A30
 clear A30
 by_cases c4:t648=true
 ·subst c4
  have H1:(if 0≤(a1.size:Int) then (if (a1.size:Int)≤(a0.size:Int) then (some (a0.extract ((a1.size:Int):Int).toNat a0.size,true)) else (none)) else (none))=some (r1,r2):=by rw [if_pos rfl] at H;exact H
  clear H
  have H:=H1
  clear H1
  by_cases c5:0≤(a1.size:Int)
  ·rw [if_pos c5] at H
   have c5b0:=eq_true c5
   have c5b1:decide (0≤(a1.size:Int))=true:=decide_eq_true c5
   clear c5
   by_cases c6:(a1.size:Int)≤(a0.size:Int)
   ·rw [if_pos c6] at H
    have c6b0:=eq_true c6
    have c6b1:decide ((a1.size:Int)≤(a0.size:Int))=true:=decide_eq_true c6
    clear c6
    simp only [Option.some.injEq,Prod.mk.injEq] at H
    obtain⟨rfl,rfl⟩:=H
    go_enter Tryz.func129,Tryz.ntmps129
    go_wp2_with (first|((with_reducible refine gate_callee (f:=146) rfl ?_);refine goesL_ (some 8) rfl rfl Tryz.func146 (by kernel_rfl) rfl #[.string a0,.string a1] rfl Zl ?_;(with_reducible refine (stringslite_HasPrefix.calls a0 a1 true _ A3.out).mono ?_);rintro e w' ⟨rfl,⟨nd,rfl⟩⟩;refine⟨_,rfl,?_⟩))
    go_ret2
    exact⟨by first|rfl|(simp;done)|(simp [*];done),by repeat (first|exact Drawn0.refl _|apply Drawn0.step)⟩
   ·rw [if_neg c6] at H
    exact absurd H (by simp)
  ·rw [if_neg c5] at H
   exact absurd H (by simp)
 ·replace c4:=Bool.eq_false_iff.mpr c4
  subst c4
  have H1:(some (a0,false))=some (r1,r2):=by rw [if_neg (show ¬ (false=true) by decide)] at H;exact H
  clear H
  have H:=H1
  clear H1
  simp only [Option.some.injEq,Prod.mk.injEq] at H
  obtain⟨rfl,rfl⟩:=H
  go_enter Tryz.func129,Tryz.ntmps129
  go_wp2_with (first|((with_reducible refine gate_callee (f:=146) rfl ?_);refine goesL_ (some 8) rfl rfl Tryz.func146 (by kernel_rfl) rfl #[.string a0,.string a1] rfl Zl ?_;(with_reducible refine (stringslite_HasPrefix.calls a0 a1 false _ A3.out).mono ?_);rintro e w' ⟨rfl,⟨nd,rfl⟩⟩;refine⟨_,rfl,?_⟩))
  go_ret2
  exact⟨by first|rfl|(simp;done)|(simp [*];done),by repeat (first|exact Drawn0.refl _|apply Drawn0.step)⟩
def strings_CutPrefix.f (a0 : ByteArray) (a1 : ByteArray) : Option (ByteArray×Bool) := (stringslite_CutPrefix.f a0 a1).bind fun bt649=>(some (bt649.1,bt649.2))
set_option maxHeartbeats 8000000 in
set_option maxRecDepth 100000 in
theorem strings_CutPrefix.calls (a0 : ByteArray) (a1 : ByteArray) (r1 : ByteArray) (r2 : Bool) (w : World) (h : strings_CutPrefix.f a0 a1=some (r1,r2)) :
  Calls Tryz.prog 99 #[.string a0,.string a1] w fun e w'=>e = .returned (.tuple #[.string r1,.bool r2])∧Drawn0 w w':=by
 have H:((stringslite_CutPrefix.f a0 a1).bind fun bt649=>(some (bt649.1,bt649.2)))=some (r1,r2):=h
 clear h
 replace H:=Option.bind_eq_some_iff.mp H
 obtain⟨⟨t649,t650⟩,A30,H⟩:=H
 replace H:(some (t649,t650))=some (r1,r2):=H
 have A3:=Zd A30
 clear A30
 simp only [Option.some.injEq,Prod.mk.injEq] at H
 obtain⟨rfl,rfl⟩:=H
 go_enter Tryz.func99,Tryz.ntmps99
 go_wp2_with (first|((with_reducible refine gate_callee (f:=129) rfl ?_);refine goesL_ (some 8) rfl rfl Tryz.func129 (by kernel_rfl) rfl #[.string a0,.string a1] rfl Zl ?_;(with_reducible refine (stringslite_CutPrefix.calls a0 a1 t649 t650 _ A3.out).mono ?_);rintro e w' ⟨rfl,⟨nd,rfl⟩⟩;refine⟨_,rfl,?_⟩))
 go_ret2
 exact⟨by first|rfl|(simp;done)|(simp [*];done),by repeat (first|exact Drawn0.refl _|apply Drawn0.step)⟩
def stringslite_TrimSuffix.f (a0 : ByteArray) (a1 : ByteArray) : Option (ByteArray) := (stringslite_HasSuffix.f a0 a1).bind fun t651=>(if t651=true then (if 0≤(wrap64 ((a0.size : Int)-(a1.size : Int))) then (if (wrap64 ((a0.size : Int)-(a1.size : Int)))≤(a0.size : Int) then (some (a0.extract 0 ((wrap64 ((a0.size : Int)-(a1.size : Int))) : Int).toNat)) else (none)) else (none)) else (some a0))
set_option maxHeartbeats 8000000 in
set_option maxRecDepth 100000 in
theorem stringslite_TrimSuffix.calls (a0 : ByteArray) (a1 : ByteArray) (r : ByteArray) (w : World) (h : stringslite_TrimSuffix.f a0 a1=some r) :
  Calls Tryz.prog 130 #[.string a0,.string a1] w fun e w'=>e = .returned (.string r)∧Drawn0 w w':=by
 have H:((stringslite_HasSuffix.f a0 a1).bind fun t651=>(if t651=true then (if 0≤(wrap64 ((a0.size:Int)-(a1.size:Int))) then (if (wrap64 ((a0.size:Int)-(a1.size:Int)))≤(a0.size:Int) then (some (a0.extract 0 ((wrap64 ((a0.size:Int)-(a1.size:Int))):Int).toNat)) else (none)) else (none)) else (some a0)))=some r:=h
 clear h
 replace H:=Option.bind_eq_some_iff.mp H
 obtain⟨t651,A30,H⟩:=H
 replace H:(if t651=true then (if 0≤(wrap64 ((a0.size:Int)-(a1.size:Int))) then (if (wrap64 ((a0.size:Int)-(a1.size:Int)))≤(a0.size:Int) then (some (a0.extract 0 ((wrap64 ((a0.size:Int)-(a1.size:Int))):Int).toNat)) else (none)) else (none)) else (some a0))=some r:=H
 have A3:=Zd A30
 clear A30
 by_cases c4:t651=true
 ·subst c4
  have H1:(if 0≤(wrap64 ((a0.size:Int)-(a1.size:Int))) then (if (wrap64 ((a0.size:Int)-(a1.size:Int)))≤(a0.size:Int) then (some (a0.extract 0 ((wrap64 ((a0.size:Int)-(a1.size:Int))):Int).toNat)) else (none)) else (none))=some r:=by rw [if_pos rfl] at H;exact H
  clear H
  have H:=H1
  clear H1
  obtain⟨ji5,hji5⟩:∃ j_:Int,(wrap64 ((a0.size:Int)-(a1.size:Int)))=j_:=⟨_,rfl⟩
  replace H:(if 0≤(ji5) then (if (ji5)≤(a0.size:Int) then (some (a0.extract 0 ((ji5):Int).toNat)) else (none)) else (none))=some r:=by first|(rw [hji5] at H;exact H)|(simp only [hji5] at H ⊢;exact H)
  (try rw [hji5] at A3)
  have hji5w:(IntKind.i64.wrap ((a0.size:Int)-(a1.size:Int)))=ji5:=(i64_w _).trans hji5
  by_cases c6:0≤(ji5)
  ·rw [if_pos c6] at H
   have c6b0:=eq_true c6
   have c6b1:decide (0≤(ji5))=true:=decide_eq_true c6
   clear c6
   by_cases c7:(ji5)≤(a0.size:Int)
   ·rw [if_pos c7] at H
    have c7b0:=eq_true c7
    have c7b1:decide ((ji5)≤(a0.size:Int))=true:=decide_eq_true c7
    clear c7
    obtain rfl:=Option.some.inj H
    go_enter Tryz.func130,Tryz.ntmps130
    go_wp2_with (first|((with_reducible refine gate_callee (f:=133) rfl ?_);refine goesL_ (some 7) rfl rfl Tryz.func133 (by kernel_rfl) rfl #[.string a0,.string a1] rfl Zl ?_;(with_reducible refine (stringslite_HasSuffix.calls a0 a1 true _ A3.out).mono ?_);rintro e w' ⟨rfl,⟨nd,rfl⟩⟩;refine⟨_,rfl,?_⟩))
    go_ret
    exact⟨by first|rfl|(simp;done)|(simp only [←hji5]<;>(first|rfl|simp))|(simp [*];done),by repeat (first|exact Drawn0.refl _|apply Drawn0.step)⟩
   ·rw [if_neg c7] at H
    exact absurd H (by simp)
  ·rw [if_neg c6] at H
   exact absurd H (by simp)
 ·replace c4:=Bool.eq_false_iff.mpr c4
  subst c4
  have H1:(some a0)=some r:=by rw [if_neg (show ¬ (false=true) by decide)] at H;exact H
  clear H
  have H:=H1
  clear H1
  obtain rfl:=Option.some.inj H
  go_enter Tryz.func130,Tryz.ntmps130
  go_wp2_with (first|((with_reducible refine gate_callee (f:=133) rfl ?_);refine goesL_ (some 7) rfl rfl Tryz.func133 (by kernel_rfl) rfl #[.string a0,.string a1] rfl Zl ?_;(with_reducible refine (stringslite_HasSuffix.calls a0 a1 false _ A3.out).mono ?_);rintro e w' ⟨rfl,⟨nd,rfl⟩⟩;refine⟨_,rfl,?_⟩))
  go_ret
  exact⟨by first|rfl|(simp;done)|(simp [*];done),by repeat (first|exact Drawn0.refl _|apply Drawn0.step)⟩
def strings_TrimSuffix.f (a0 : ByteArray) (a1 : ByteArray) : Option (ByteArray) := (stringslite_TrimSuffix.f a0 a1).bind fun t652=>(some t652)
set_option maxHeartbeats 8000000 in
set_option maxRecDepth 100000 in
theorem strings_TrimSuffix.calls (a0 : ByteArray) (a1 : ByteArray) (r : ByteArray) (w : World) (h : strings_TrimSuffix.f a0 a1=some r) :
  Calls Tryz.prog 100 #[.string a0,.string a1] w fun e w'=>e = .returned (.string r)∧Drawn0 w w':=by
 have H:((stringslite_TrimSuffix.f a0 a1).bind fun t652=>(some t652))=some r:=h
 clear h
 replace H:=Option.bind_eq_some_iff.mp H
 obtain⟨t652,A30,H⟩:=H
 replace H:(some t652)=some r:=H
 have A3:=Zd A30
 clear A30
 obtain rfl:=Option.some.inj H
 go_enter Tryz.func100,Tryz.ntmps100
 go_wp2_with (first|((with_reducible refine gate_callee (f:=130) rfl ?_);refine goesL_ (some 7) rfl rfl Tryz.func130 (by kernel_rfl) rfl #[.string a0,.string a1] rfl Zl ?_;(with_reducible refine (stringslite_TrimSuffix.calls a0 a1 t652 _ A3.out).mono ?_);rintro e w' ⟨rfl,⟨nd,rfl⟩⟩;refine⟨_,rfl,?_⟩))
 go_ret
 exact⟨by first|rfl|(simp;done)|(simp [*];done),by repeat (first|exact Drawn0.refl _|apply Drawn0.step)⟩
def mark_Marker_may.f (a0_0 : Int) (a0_1 : Bool) (a0_2 : ByteArray) : Option Bool := if 0≤a0_0∧a0_0<128 then some (mayB a0_0 a0_1 a0_2) else none
theorem mark_Marker_may.calls (a0_0 : Int) (a0_1 : Bool) (a0_2 : ByteArray) (r : Bool) (w : World) (h : mark_Marker_may.f a0_0 a0_1 a0_2=some r) :
  Calls Tryz.prog 101 #[.agg #[.int .u8 a0_0,.bool a0_1,.string a0_2]] w fun e w'=>e = .returned (.bool r)∧Below w.heap.size w w':=by
 exact ext_may a0_0 a0_1 a0_2 r w h
def mark_Marker_line.f (a0_0 : Int) (a0_1 : Bool) (a0_2 : ByteArray) (a1 : Int) : Option ByteArray := if 0≤a0_0∧a0_0<128∧0≤a1∧a1≤1073741824∧a0_2.size≤4000000000 then some (lineB a0_0 a0_1 a0_2 a1) else none
theorem mark_Marker_line.calls (a0_0 : Int) (a0_1 : Bool) (a0_2 : ByteArray) (a1 : Int) (r : ByteArray) (w : World) (h : mark_Marker_line.f a0_0 a0_1 a0_2 a1=some r) :
  Calls Tryz.prog 102 #[.agg #[.int .u8 a0_0,.bool a0_1,.string a0_2],.int .i64 a1] w fun e w'=>e = .returned (.string r)∧Below w.heap.size w w':=by
 exact ext_line a0_0 a0_1 a0_2 a1 r w h
end Go.Proofs.YtfiamddinkokbaaGreat.F
end
