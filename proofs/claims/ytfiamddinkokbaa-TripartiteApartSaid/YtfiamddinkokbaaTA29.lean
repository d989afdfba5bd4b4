/- Texts joined into one file (wip/tools/pack.py): Fn102, Fn104 -/
import Derived.Test.YtfiamddinkokbaaTA3
import Derived.Test.YtfiamddinkokbaaTA28
set_option linter.unusedVariables false
set_option linter.unusedSimpArgs false
section
namespace Go.Proofs.Ytfiamddinkokbaa.F
open Go.RowKit Go.Proofs.YtfiamddinkokbaaW.PrintWords Go.Proofs.YtfiamddinkokbaaW.PrintLast Go.Proofs.YtfiamddinkokbaaW.PrintMore
attribute [local go_sem] max2_int min2_int max_two min_two max_three min_three max_four min_four
def merge_match.f (l0 : List ByteArray) (l1 : List ByteArray) : Option ((List (S196))) := (lines_Number.f (([l0,l1] : List (List ByteArray)))).bind fun t528=>(if 0<(t528.length : Int) then (if 1<(t528.length : Int) then ((lcs_Match.f (rd_L7 t528 0) (rd_L7 t528 1)).bind fun t533=>(some t533)) else (none)) else (none))
def merge_match.T2 : Bool×List (List Nat×List Nat) := (true,[([],[]),([0],[0]),([1],[1]),([],[]),([3],[3]),([4],[4]),([2,5],[2,5]),([6,6,0,1,2,3,4,5,6],[6])])
def merge_match.B2 : List Nat := [0,1,3,0,8,24,63,127]
theorem merge_match.tab2 : rtab .any (opsOf Try.f102 2)=merge_match.T2 := by kernel_rfl
theorem merge_match.bits2 : waitsOk merge_match.T2.2 merge_match.B2=true := by kernel_rfl
set_option maxHeartbeats 8000000 in
set_option maxRecDepth 100000 in
theorem merge_match.calls (P0_ : Nat→Prop) (A0 : Option Addr) (c0 : Nat) (l0 : List ByteArray) (P1_ : Nat→Prop) (A1 : Option Addr) (c1 : Nat) (l1 : List ByteArray) (r : List (S196)) (w : World) (hs0 : Kd.V Kd.string 9 w w.heap.size (fun k_=>P0_ k_) (.slice A0 l0.length c0) l0) (hs1 : Kd.V Kd.string 9 w w.heap.size (fun k_=>P1_ k_) (.slice A1 l1.length c1) l1) (h : merge_match.f l0 l1=some r) :
  Calls Try.prog 102 #[.slice A0 l0.length c0,.slice A1 l1.length c1] w fun e w'=>∃ v0_:Value,e = .returned (v0_)∧Kd.R k196 196 w' w.heap.size (fun k_=>(w.heap.size≤k_)) v0_ r∧Below w.heap.size w w':=by
 have HO0:=Aside0.mk (show Kd.V Kd.string 9 w w.heap.size (fun k_=>((P0_ k_∨P1_ k_)∨w.heap.size≤k_)) (.slice A0 l0.length c0) l0 from Kd.V_mono hs0 (fun k_ hk => .inl (.inl hk)))
 have HO1:=Aside0.mk (show Kd.V Kd.string 9 w w.heap.size (fun k_=>((P0_ k_∨P1_ k_)∨w.heap.size≤k_)) (.slice A1 l1.length c1) l1 from Kd.V_mono hs1 (fun k_ hk => .inl (.inr hk)))
 have HB:=Aside0.mk (Below.refl w.heap.size w)
 have H:((lines_Number.f (([l0,l1]:List (List ByteArray)))).bind fun t528=>(if 0<(t528.length:Int) then (if 1<(t528.length:Int) then ((lcs_Match.f (rd_L7 t528 0) (rd_L7 t528 1)).bind fun t533=>(some t533)) else (none)) else (none)))=some r:=h
 clear h
 obtain⟨y525,hy525⟩:∃ y_:List (List ByteArray),y_=(([l0,l1]:List (List ByteArray))):=⟨_,rfl⟩
 replace H:((lines_Number.f y525).bind fun t528=>(if 0<(t528.length:Int) then (if 1<(t528.length:Int) then ((lcs_Match.f (rd_L7 t528 0) (rd_L7 t528 1)).bind fun t533=>(some t533)) else (none)) else (none)))=some r:=by first|(rw [hy525];with_reducible exact H)|(have H2_:=(Option.bind_some _ _).symm.trans H;rw [hy525];with_reducible exact H2_)|(have H2_:=(Option.bind_some _ _).symm.trans H;with_reducible exact H2_)|with_reducible exact H|(rw [hy525];exact H)|exact H
 have Ny525:=Aside0.mk hy525
 clear hy525
 replace H:=Option.bind_eq_some_iff.mp H
 obtain⟨t528,A30,H⟩:=H
 replace H:(if 0<(t528.length:Int) then (if 1<(t528.length:Int) then ((lcs_Match.f (rd_L7 t528 0) (rd_L7 t528 1)).bind fun t533=>(some t533)) else (none)) else (none))=some r:=H
 have A3:=Aside0.mk A30
 clear A30
 by_cases c4:0<(t528.length:Int)
 ·rw [if_pos c4] at H
  have c4b0:decide (0<(t528.length:Int))=true:=decide_eq_true c4
  have c4b1:decide (0<t528.length)=true:=decide_eq_true (by omega)
  clear c4
  by_cases c5:1<(t528.length:Int)
  ·rw [if_pos c5] at H
   have c5b0:decide (1<(t528.length:Int))=true:=decide_eq_true c5
   have c5b1:decide (1<t528.length)=true:=decide_eq_true (by omega)
   clear c5
   replace H:=Option.bind_eq_some_iff.mp H
   obtain⟨t533,A60,H⟩:=H
   replace H:(some t533)=some r:=H
   have A6:=Aside0.mk A60
   clear A60
   obtain rfl:=Option.some.inj H
   go_enter Try.func102,Try.ntmps102
   try go_wp2_with (first|((with_reducible refine gate_dst (N:=8) rfl ?_);refine Kd.N_lit (Kd.slice 9 Kd.string) _ 36 ?hg (N':=8) ?hd (xs:=([l0,l1]:List (List ByteArray))) (inner:=[.slice A0 l0.length c0,.slice A1 l1.length c1]) (ok:=(fun k_=>((P0_ k_∨P1_ k_)∨w.heap.size≤k_))) (okp:=(fun k_=>((P0_ k_∨P1_ k_)∨w.heap.size≤k_))) ?hr ?hp (fun _ hk=>hk) ((show ∀ k_,w.heap.size≤k_→(fun k_=>((P0_ k_∨P1_ k_)∨w.heap.size≤k_)) k_ from fun k_ hk=>(.inr (Nat.le_trans (below_size (by repeat (first|(with_reducible first|exact HB.out|apply below_alloc|apply pw_below_drewN|apply below_drew1)|exact HB.out))) hk))) _ (Nat.le_refl _)) (Below.refl _ _) (Nat.le_refl _) (by simp) ?_;(case hd=>rfl);(case hg=>rfl);(case hr=>first|(go_simp;done)|(go_simp;rfl));(case hp=>exact (Reps.one (show Kd.FK (Kd.slice 9 Kd.string) _ _ l0 [.slice A0 l0.length c0] from (Kd.FK_slice_mk (Kd.V_reads' (Kd.V_mono (ok':=(fun k_=>((P0_ k_∨P1_ k_)∨w.heap.size≤k_))) (HO0.out) (fun k_ hk=>hk))).2.1 (Kd.V_F (Kd.V_mono (ok':=(fun k_=>((P0_ k_∨P1_ k_)∨w.heap.size≤k_))) (HO0.out) (fun k_ hk=>hk))))) (Reps.one (show Kd.FK (Kd.slice 9 Kd.string) _ _ l1 [.slice A1 l1.length c1] from (Kd.FK_slice_mk (Kd.V_reads' (Kd.V_mono (ok':=(fun k_=>((P0_ k_∨P1_ k_)∨w.heap.size≤k_))) (HO1.out) (fun k_ hk=>hk))).2.1 (Kd.V_F (Kd.V_mono (ok':=(fun k_=>((P0_ k_∨P1_ k_)∨w.heap.size≤k_))) (HO1.out) (fun k_ hk=>hk))))) (Reps.none _ _))));intro v526 w7 ho8 hb hg_ hnew_;clear hg_ hnew_;(first|rw [←Ny525.out] at ho8|(simp only [Int.reduceToNat] at ho8;rw [←Ny525.out] at ho8));have n0_:=Aside0.mk (Kd.V_elder' (by (with_reducible repeat (first|apply Kd.V_alloc|apply Kd.V_drewN|apply Kd.V_drew));exact HO0.out) (Kd.N_base ho8) hb);have n1_:=Aside0.mk (Kd.V_elder' (by (with_reducible repeat (first|apply Kd.V_alloc|apply Kd.V_drewN|apply Kd.V_drew));exact HO1.out) (Kd.N_base ho8) hb);have n2_:=Aside0.mk (Kd.N_lower ho8 (below_size (by repeat (first|(with_reducible first|exact HB.out|apply below_alloc|apply pw_below_drewN|apply below_drew1)|exact HB.out))));have n3_:=Aside0.mk (below_step (by repeat (first|(with_reducible first|exact HB.out|apply below_alloc|apply pw_below_drewN|apply below_drew1)|exact HB.out)) hb);clear HO0;clear HO1;clear HB;have HO0:=n0_;have HO1:=n1_;have HO527:=n2_;have HB:=n3_;clear n0_ n1_ n2_ n3_;clear hb ho8;obtain⟨Ao9,co9,eo9⟩:=Kd.N_slice HO527.out;subst eo9)|((with_reducible refine gate_callee (f:=38) rfl ?_);refine goesL_ (some 9) rfl rfl Try.func38 (by kernel_rfl) rfl #[.slice Ao9 y525.length co9] rfl (by (try simp only [List.map_toArray,List.map_cons,List.map_nil]);first|done|rfl|(simp only [List.length_drop,List.length_take];rfl)) ?_;(with_reducible refine (lines_Number.calls _ _ y525 t528 _ ?side1 ?side2 A3.out).mono ?_);(case side1=>repeat (first|exact (Kd.N_reads' HO527.out).2.2|(with_reducible refine Kd.C_alloc ?_ _)|(with_reducible refine Kd.C_drewN ?_ _)|(with_reducible refine Kd.C_drew ?_)));(case side2=>exact (Kd.N_reads' HO527.out).2.1);rintro e w10 ⟨v529,rfl,ho0,hb⟩;refine⟨_,rfl,?_⟩;have n0_:=Aside0.mk (Kd.V_elder' (by (with_reducible repeat (first|apply Kd.V_alloc|apply Kd.V_drewN|apply Kd.V_drew));exact HO0.out) (Kd.S_base ho0) hb);have n1_:=Aside0.mk (Kd.V_elder' (by (with_reducible repeat (first|apply Kd.V_alloc|apply Kd.V_drewN|apply Kd.V_drew));exact HO1.out) (Kd.S_base ho0) hb);have n2_:=Aside0.mk (Kd.N_elder' (by (with_reducible repeat (first|apply Kd.N_alloc|apply Kd.N_drewN|apply Kd.N_drew));exact HO527.out) (Kd.S_base ho0) hb);have n3_:=Aside0.mk (Kd.N_lower (Kd.N_mono (ok':=fun k_=>((P0_ k_∨P1_ k_)∨w.heap.size≤k_)∧some k_≠(.slice Ao9 y525.length co9:Value).ownBlock) (Kd.S_N (Kd.S_bound ho0)) (fun k_ hk_=>⟨(.inr (Nat.le_trans (below_size (by repeat (first|(with_reducible first|exact HB.out|apply below_alloc|apply pw_below_drewN|apply below_drew1)|exact HB.out))) hk_.2.1)),(Kd.fresh' (Kd.N_lt (by (with_reducible repeat (first|apply Kd.N_alloc|apply Kd.N_drewN|apply Kd.N_drew));exact HO527.out)) k_ hk_.2.1)⟩)) (below_size (by repeat (first|(with_reducible first|exact HB.out|apply below_alloc|apply pw_below_drewN|apply below_drew1)|exact HB.out))));have n4_:=Aside0.mk (below_step (by repeat (first|(with_reducible first|exact HB.out|apply below_alloc|apply pw_below_drewN|apply below_drew1)|exact HB.out)) hb);clear HO0;clear HO1;clear HO527;clear HB;have HO0:=n0_;have HO1:=n1_;have HO527:=n2_;have HO530:=n3_;have HB:=n4_;clear n0_ n1_ n2_ n3_ n4_;(try clear hb);(try clear hb2);(try clear hk);(try clear hi);(try clear ho0)))
   have n0_:=Aside0.mk (Kd.V_drew HO0.out)
   have n1_:=Aside0.mk (Kd.V_drew HO1.out)
   have n2_:=Aside0.mk (Kd.N_drew HO527.out)
   have n3_:=Aside0.mk (Kd.N_drew HO530.out)
   have n4_:=Aside0.mk (below_drew1 HB.out)
   clear HO0
   clear HO1
   clear HO527
   clear HO530
   clear HB
   have HO0:=n0_
   have HO1:=n1_
   have HO527:=n2_
   have HO530:=n3_
   have HB:=n4_
   clear n0_ n1_ n2_ n3_ n4_
   obtain⟨Ao12,co12,eo12⟩:=Kd.N_slice HO530.out
   (first|subst eo12|(injection eo12 with f1_ f2_ f3_;have f4_:=f1_.symm;have f5_:=f3_.symm;clear f1_ f2_ f3_;subst f4_;subst f5_))
   have p531:0≤(0:Int):=(by omega)
   have q531:0<(t528.length:Int):=of_decide_eq_true (by first|(with_reducible assumption)|assumption)
   obtain⟨ad531,A531_0,c531_0,e531,hx531_0,hl531_0,hi531_0⟩:=at_L7 (Kd.N_reads' HO530.out).2.2 0 p531 q531
   cases e531
   obtain⟨ce531,hce531,hMe531,hcc531⟩:=Kd.N_get HO530.out [] 0 p531 (by first|exact q531|exact of_decide_eq_true (by first|(with_reducible assumption)|assumption)|(have e_:=(Kd.N_reads' HO530.out).1;omega))
   obtain⟨ua531_0,uc531_0,rfl,ul531_0,ge531_0⟩:=Kd.FK_slice_open hMe531
   have hv531_0:=hcc531 0 _ rfl
   rw [Nat.add_zero,show ((Kd.slice 3 (Kd.int .i64))).sz=1 from rfl,Nat.mul_one] at hv531_0
   replace hv531_0:=Option.some.inj (hv531_0.symm.trans hx531_0)
   injection hv531_0 with hva_ hvn_ hvc_
   rw [hva_] at ge531_0
   rw [hvc_] at ul531_0
   have HL531_0:=Aside0.mk (show Kd.V (Kd.int .i64) 3 _ w.heap.size _ _ (rd_L7 t528 0) from Kd.V_mk ul531_0 ge531_0)
   clear hva_ hvn_ hvc_ ge531_0 ul531_0
   clear hcc531 hce531
   have qi531:(0<t528.length)=True:=eq_true (by omega)
   (try rw [show ((0:Int)).toNat=0 from rfl] at hx531_0)
   (try rw [Addr.add_zero'] at hx531_0)
   have HR531_0:=Aside0.mk hi531_0
   have HC531_0:=Aside0.mk hl531_0
   clear hi531_0 hl531_0
   replace p531:=eq_true p531
   replace q531:=eq_true q531
   have p532:0≤(1:Int):=(by omega)
   have q532:1<(t528.length:Int):=of_decide_eq_true (by first|(with_reducible assumption)|assumption)
   obtain⟨ad532,A532_0,c532_0,e532,hx532_0,hl532_0,hi532_0⟩:=at_L7 (Kd.N_reads' HO530.out).2.2 1 p532 q532
   obtain rfl:ad531=ad532:=(by injection e532)
   obtain⟨ce532,hce532,hMe532,hcc532⟩:=Kd.N_get HO530.out [] 1 p532 (by first|exact q532|exact of_decide_eq_true (by first|(with_reducible assumption)|assumption)|(have e_:=(Kd.N_reads' HO530.out).1;omega))
   obtain⟨ua532_0,uc532_0,rfl,ul532_0,ge532_0⟩:=Kd.FK_slice_open hMe532
   have hv532_0:=hcc532 0 _ rfl
   rw [Nat.add_zero,show ((Kd.slice 3 (Kd.int .i64))).sz=1 from rfl,Nat.mul_one] at hv532_0
   replace hv532_0:=Option.some.inj (hv532_0.symm.trans hx532_0)
   injection hv532_0 with hva_ hvn_ hvc_
   rw [hva_] at ge532_0
   rw [hvc_] at ul532_0
   have HL532_0:=Aside0.mk (show Kd.V (Kd.int .i64) 3 _ w.heap.size _ _ (rd_L7 t528 1) from Kd.V_mk ul532_0 ge532_0)
   clear hva_ hvn_ hvc_ ge532_0 ul532_0
   clear hcc532 hce532
   (try simp only [show (1:Int).toNat=1 from rfl,Nat.reduceMul,Nat.reduceEqDiff,Go.Addr.add,↓reduceIte] at hx532_0)
   have qi532:(1<t528.length)=True:=eq_true (by omega)
   (try rw [show ((1:Int)).toNat=1 from rfl] at hx532_0)
   have HR532_0:=Aside0.mk hi532_0
   have HC532_0:=Aside0.mk hl532_0
   clear hi532_0 hl532_0
   replace p532:=eq_true p532
   replace q532:=eq_true q532
   refine start_ (n:=8) (S:=fun w'=>w'.cell? ad531=some (.slice A531_0 (rd_L7 t528 0).length c531_0)∧w'.cell? ⟨ad531.block,ad531.off+1,none⟩=some (.slice A532_0 (rd_L7 t528 1).length c532_0)) (ds:=[]) #[false,false,false,false,false,false,false,false] (by kernel_rfl) rfl rfl ⟨hx531_0,hx532_0⟩ (fun hHeld=>?_);refine with_tabW merge_match.tab2 merge_match.bits2 (fun HT_ HW_=>?_)
   generalize w10.drew=w11 at HO0 HO1 HO527 HO530 HB HL531_0 HL532_0 HR531_0 HR532_0 hx531_0 hx532_0 hHeld ⊢
   refine pure_ (i:=0) (N:=some 10) (v:=?_) (a':=?_) #[true,false,false,false,false,false,false,false] rfl rfl (any_of HT_.out (by kernel_rfl)) (fun _ _ _ h=>h) (Or.inl ⟨by rfl,?_⟩) ?_ ?_
   rotate_left
   ·intro w'
    go_simp
    with_reducible rfl
   rotate_left
   ·simp only [Act.put,List.setIfInBounds_toArray,List.set_cons_zero,List.set_cons_succ,i64_w,i32_w]
    rfl
   refine pure_ (i:=1) (N:=some 11) (v:=?_) (a':=?_) #[true,true,false,false,false,false,false,false] rfl rfl (any_of HT_.out (by kernel_rfl)) (fun _ _ _ h=>h) (Or.inl ⟨by rfl,?_⟩) ?_ ?_
   rotate_left
   ·intro w'
    go_simp
    with_reducible rfl
   rotate_left
   ·simp only [Act.put,List.setIfInBounds_toArray,List.set_cons_zero,List.set_cons_succ,i64_w,i32_w]
    rfl
   refine pure_ (i:=3) (N:=some 13) (v:=?_) (a':=?_) #[true,true,false,true,false,false,false,false] rfl rfl (any_of HT_.out (by kernel_rfl)) (fun _ _ _ h=>h) (Or.inl ⟨by rfl,?_⟩) ?_ ?_
   rotate_left
   ·intro w'
    go_simp
    with_reducible rfl
   rotate_left
   ·simp only [Act.put,List.setIfInBounds_toArray,List.set_cons_zero,List.set_cons_succ,i64_w,i32_w]
    rfl
   refine pure_ (i:=4) (N:=some 14) (v:=?_) (a':=?_) #[true,true,false,true,true,false,false,false] rfl rfl (any_of HT_.out (by kernel_rfl)) (fun _ _ _ h=>h) (Or.inl ⟨by rfl,?_⟩) ?_ ?_
   rotate_left
   ·intro w'
    go_simp
    with_reducible rfl
   rotate_left
   ·simp only [Act.put,List.setIfInBounds_toArray,List.set_cons_zero,List.set_cons_succ,i64_w,i32_w]
    rfl
   refine take_ (i:=2) (N:=some 12) (v:=?_) (a':=?_) #[true,true,true,true,true,false,false,false] rfl rfl (take_ofW HT_.out HW_.out (by kernel_rfl)) (fun _ _ _ h=>h) (Or.inl ⟨by rfl,?_⟩) hHeld ?_ ?_
   rotate_left
   ·rintro w' ⟨s0,s1⟩
    go_simp
    with_reducible rfl
   rotate_left
   ·simp only [Act.put,List.setIfInBounds_toArray,List.set_cons_zero,List.set_cons_succ,i64_w,i32_w]
    rfl
   refine take_ (i:=5) (N:=some 15) (v:=?_) (a':=?_) #[true,true,true,true,true,true,false,false] rfl rfl (take_ofW HT_.out HW_.out (by kernel_rfl)) (fun _ _ _ h=>h) (Or.inl ⟨by rfl,?_⟩) hHeld ?_ ?_
   rotate_left
   ·rintro w' ⟨s0,s1⟩
    go_simp
    with_reducible rfl
   rotate_left
   ·simp only [Act.put,List.setIfInBounds_toArray,List.set_cons_zero,List.set_cons_succ,i64_w,i32_w]
    rfl
   refine one_ (i:=6) (N:=some 16) #[true,true,true,true,true,true,true,false] rfl rfl (one_of HT_.out (by kernel_rfl)) (by decide) (fun K hK=>?_)
   refine goes_ Try.func132 (by kernel_rfl) rfl #[.slice A531_0 (rd_L7 t528 0).length c531_0,.slice A532_0 (rd_L7 t528 1).length c532_0] (by rfl) rfl rfl (by (try simp only [List.map_toArray,List.map_cons,List.map_nil]);first|done|rfl|(simp only [List.length_drop,List.length_take];rfl)) ?_
   with_reducible refine (lcs_Match.calls _ _ (rd_L7 t528 0) _ _ (rd_L7 t528 1) t533 _ ?side1 ?side2 ?side3 ?side4 A6.out).mono ?_
   (case side1=>repeat (first|exact (by repeat (first|(with_reducible exact HR531_0.out)|(with_reducible refine Kd.C_alloc ?_ _)|(with_reducible refine Kd.C_drewN ?_ _)|(with_reducible refine Kd.C_drew ?_)|exact HR531_0.out))|(with_reducible refine Kd.C_alloc ?_ _)|(with_reducible refine Kd.C_drewN ?_ _)|(with_reducible refine Kd.C_drew ?_)))
   (case side2=>exact HC531_0.out)
   (case side3=>repeat (first|exact (by repeat (first|(with_reducible exact HR532_0.out)|(with_reducible refine Kd.C_alloc ?_ _)|(with_reducible refine Kd.C_drewN ?_ _)|(with_reducible refine Kd.C_drew ?_)|exact HR532_0.out))|(with_reducible refine Kd.C_alloc ?_ _)|(with_reducible refine Kd.C_drewN ?_ _)|(with_reducible refine Kd.C_drew ?_)))
   (case side4=>exact HC532_0.out)
   rintro e w13 ⟨v534,rfl,ho0,hb⟩
   have HS0_:=(hb.cell (World.block_lt_of_cell? _ _ (hHeld.1))).trans (hHeld.1)
   have HS1_:=(hb.cell (World.block_lt_of_cell? _ _ (hHeld.2))).trans (hHeld.2)
   refine⟨_,rfl,?_⟩
   have n0_:=Aside0.mk (Kd.V_elder' (by (with_reducible repeat (first|apply Kd.V_alloc|apply Kd.V_drewN|apply Kd.V_drew));exact HO0.out) (Kd.R_base ho0) hb)
   have n1_:=Aside0.mk (Kd.V_elder' (by (with_reducible repeat (first|apply Kd.V_alloc|apply Kd.V_drewN|apply Kd.V_drew));exact HO1.out) (Kd.R_base ho0) hb)
   have n2_:=Aside0.mk (Kd.N_elder' (by (with_reducible repeat (first|apply Kd.N_alloc|apply Kd.N_drewN|apply Kd.N_drew));exact HO527.out) (Kd.R_base ho0) hb)
   have n3_:=Aside0.mk (Kd.N_elder' (by (with_reducible repeat (first|apply Kd.N_alloc|apply Kd.N_drewN|apply Kd.N_drew));exact HO530.out) (Kd.R_base ho0) hb)
   have n4_:=Aside0.mk (Kd.V_elder' (by (with_reducible repeat (first|apply Kd.V_alloc|apply Kd.V_drewN|apply Kd.V_drew));exact HL531_0.out) (Kd.R_base ho0) hb)
   have n5_:=Aside0.mk (Kd.V_elder' (by (with_reducible repeat (first|apply Kd.V_alloc|apply Kd.V_drewN|apply Kd.V_drew));exact HL532_0.out) (Kd.R_base ho0) hb)
   have n6_:=Aside0.mk (Kd.R_lower (Kd.R_newM (M:=fun k_=>(w.heap.size≤k_)) ho0 (below_size (by repeat (first|(with_reducible first|exact HB.out|apply below_alloc|apply pw_below_drewN|apply below_drew1)|exact HB.out))) (fun k_ h_=>h_)) (below_size (by repeat (first|(with_reducible first|exact HB.out|apply below_alloc|apply pw_below_drewN|apply below_drew1)|exact HB.out))))
   have n7_:=Aside0.mk (Kd.C_below (by repeat (first|(with_reducible exact HR531_0.out)|(with_reducible refine Kd.C_alloc ?_ _)|(with_reducible refine Kd.C_drewN ?_ _)|(with_reducible refine Kd.C_drew ?_)|exact HR531_0.out)) hb)
   have n8_:=Aside0.mk (Kd.C_below (by repeat (first|(with_reducible exact HR532_0.out)|(with_reducible refine Kd.C_alloc ?_ _)|(with_reducible refine Kd.C_drewN ?_ _)|(with_reducible refine Kd.C_drew ?_)|exact HR532_0.out)) hb)
   have n9_:=Aside0.mk (below_step (by repeat (first|(with_reducible first|exact HB.out|apply below_alloc|apply pw_below_drewN|apply below_drew1)|exact HB.out)) hb)
   clear HO0
   clear HO1
   clear HO527
   clear HO530
   clear HL531_0
   clear HL532_0
   clear HR531_0
   clear HR532_0
   clear HB
   have HO0:=n0_
   have HO1:=n1_
   have HO527:=n2_
   have HO530:=n3_
   have HL531_0:=n4_
   have HL532_0:=n5_
   have HO535:=n6_
   have HR531_0:=n7_
   have HR532_0:=n8_
   have HB:=n9_
   clear n0_ n1_ n2_ n3_ n4_ n5_ n6_ n7_ n8_ n9_
   (try clear hb)
   (try clear hb2)
   (try clear hk)
   (try clear hi)
   (try clear ho0)
   refine hK.out _ _ ⟨HS0_,HS1_⟩ (fun hHeld=>?_)
   clear hK K
   refine norm_ (a':=?_) ?_ ?_
   rotate_left
   ·show Act.put _ (some 16) _=_
    simp only [Act.put,List.setIfInBounds_toArray,List.set_cons_zero,List.set_cons_succ,i64_w,i32_w]
    rfl
   refine pure_ (i:=7) (N:=some 4) (v:=?_) (a':=?_) #[true,true,true,true,true,true,true,true] rfl rfl (any_of HT_.out (by kernel_rfl)) (fun _ _ _ h=>h) (Or.inl ⟨by rfl,?_⟩) ?_ ?_
   rotate_left
   ·intro w'
    go_simp
    with_reducible rfl
   rotate_left
   ·simp only [Act.put,List.setIfInBounds_toArray,List.set_cons_zero,List.set_cons_succ,i64_w,i32_w]
    rfl
   refine done_ (done_of HT_.out (by kernel_rfl)) ?_
   try go_wp2
   go_ret
   exact⟨_,by first|rfl|(simp [errW_none,errW_some]<;>rfl)|(simp [*,errW_none,errW_some]<;>rfl),by (with_reducible repeat (first|apply Kd.R_alloc|apply Kd.R_drewN|apply Kd.R_drew));exact Kd.R_mono HO535.out (fun _ hk=>hk.1),by repeat (first|(with_reducible first|exact HB.out|apply below_alloc|apply pw_below_drewN|apply below_drew1)|exact HB.out)⟩
  ·rw [if_neg c5] at H
   exact absurd H (by simp)
 ·rw [if_neg c4] at H
  exact absurd H (by simp)
def build_Doc.f (k : Nat) (l0_0 l0_1 l0_2 : List ByteArray) (l1 : List S91) (a2 : Int) (a3_0 a3_1 a3_2 : ByteArray) (a4 : Int) : Option ((List S106)×Int) := docF k l0_0 l0_1 l0_2 l1 a2 a3_0 a3_1 a3_2 a4
theorem build_Doc.mono : ∀ l0_0 l0_1 l0_2 l1 a2 a3_0 a3_1 a3_2 a4 k,LeO (build_Doc.f k l0_0 l0_1 l0_2 l1 a2 a3_0 a3_1 a3_2 a4) (build_Doc.f (k+1) l0_0 l0_1 l0_2 l1 a2 a3_0 a3_1 a3_2 a4) := doc_mono
theorem build_Doc.calls (k : Nat) (A0_0 : Option Addr) (c0_0 : Nat) (l0_0 : List ByteArray) (A0_1 : Option Addr) (c0_1 : Nat) (l0_1 : List ByteArray) (A0_2 : Option Addr) (c0_2 : Nat) (l0_2 : List ByteArray) (A1 : Option Addr) (c1 : Nat) (l1 : List (S91)) (a2 : Int) (a3_0 : ByteArray) (a3_1 : ByteArray) (a3_2 : ByteArray) (a4 : Int) (r1 : List (S106)) (r2 : Int) (w : World) (hr0_0 : Kd.C Kd.string w A0_0 l0_0.length l0_0) (hc0_0 : l0_0.length≤c0_0) (hr0_1 : Kd.C Kd.string w A0_1 l0_1.length l0_1) (hc0_1 : l0_1.length≤c0_1) (hr0_2 : Kd.C Kd.string w A0_2 l0_2.length l0_2) (hc0_2 : l0_2.length≤c0_2) (hr1 : Kd.C k91 w A1 l1.length l1) (hc1 : l1.length≤c1) (h : build_Doc.f k l0_0 l0_1 l0_2 l1 a2 a3_0 a3_1 a3_2 a4=some (r1,r2)) :
  Calls Try.prog 104 #[.agg #[.slice A0_0 l0_0.length c0_0,.slice A0_1 l0_1.length c0_1,.slice A0_2 l0_2.length c0_2],.slice A1 l1.length c1,.int .i64 a2,.agg #[.string a3_0,.string a3_1,.string a3_2],.int .i64 a4] w fun e w'=>∃ v0_:Value,e = .returned (.tuple #[v0_,.int .i64 r2])∧Kd.R k106 106 w' w.heap.size (fun _=>True) v0_ r1∧Below w.heap.size w w':=by
 exact doc_calls k A0_0 c0_0 l0_0 A0_1 c0_1 l0_1 A0_2 c0_2 l0_2 A1 c1 l1 a2 a3_0 a3_1 a3_2 a4 r1 r2 w hr0_0 hc0_0 hr0_1 hc0_1 hr0_2 hc0_2 hr1 hc1 h
end Go.Proofs.Ytfiamddinkokbaa.F
end
