/- Texts joined into one file (wip/tools/pack.py): Fn66 -/
import Derived.Test.YtfiamddinkokbaaTA3
set_option linter.unusedVariables false
set_option linter.unusedSimpArgs false
namespace Go.Proofs.Ytfiamddinkokbaa.F
open Go.RowKit Go.Proofs.YtfiamddinkokbaaW.PrintWords Go.Proofs.YtfiamddinkokbaaW.PrintLast Go.Proofs.YtfiamddinkokbaaW.PrintMore
attribute [local go_sem] max2_int min2_int max_two min_two max_three min_three max_four min_four
def tripartiteref01_Num.f : Nat→Int→Option (ByteArray)
 | 0,_=>none
 | k+1,a0=>if a0<(-9223372036854775807) then (some (⟨#[45,57,50,50,51,51,55,50,48,51,54,56,53,52,55,55,53,56,48,56]⟩:ByteArray)) else (if a0<0 then ((tripartiteref01_Num.f k (wrap64 (-a0))).bind fun t713=>(if 1+t713.size≤9223372036854775807 then (some ((⟨#[45]⟩:ByteArray)++t713)) else (none))) else (if a0<10 then (if 0≤a0 then (if a0≤(wrap64 (a0+1)) then (if (wrap64 (a0+1))≤10 then (some ((⟨#[48,49,50,51,52,53,54,55,56,57]⟩:ByteArray).extract (a0:Int).toNat ((wrap64 (a0+1)):Int).toNat)) else (none)) else (none)) else (none)) else ((tripartiteref01_Num.f k (wrap64 (Int.tdiv a0 10))).bind fun t714=>(if 0≤(Int.tmod a0 10) then (if (Int.tmod a0 10)≤(wrap64 ((Int.tmod a0 10)+1)) then (if (wrap64 ((Int.tmod a0 10)+1))≤10 then (if t714.size+((⟨#[48,49,50,51,52,53,54,55,56,57]⟩:ByteArray).extract ((Int.tmod a0 10):Int).toNat ((wrap64 ((Int.tmod a0 10)+1)):Int).toNat).size≤9223372036854775807 then (some (t714++((⟨#[48,49,50,51,52,53,54,55,56,57]⟩:ByteArray).extract ((Int.tmod a0 10):Int).toNat ((wrap64 ((Int.tmod a0 10)+1)):Int).toNat))) else (none)) else (none)) else (none)) else (none)))))
theorem tripartiteref01_Num.mono_l : ∀ k,(∀ y0,LeO (tripartiteref01_Num.f k y0) (tripartiteref01_Num.f (k+1) y0))
 | 0=>fun _ r h=>by simp [tripartiteref01_Num.f] at h
 | k+1=>by
  have ih0:=tripartiteref01_Num.mono_l k
  ·intro y0
   unfold tripartiteref01_Num.f
   repeat' first
   | (with_reducible exact ih0 _)
   | (with_reducible exact LeO.refl _)
   | (with_reducible exact LeO.none _)
   | (with_reducible refine LeO.ite ?_ ?_)
   | (with_reducible refine LeO.bind ?_ (fun _=>?_))
   | exact ih0 _
   | exact LeO.none _
   | refine LeO.ite ?_ ?_
   | refine LeO.bind ?_ (fun _=>?_)
theorem tripartiteref01_Num.mono : ∀ a0 k,LeO (tripartiteref01_Num.f k a0) (tripartiteref01_Num.f (k+1) a0) := by
 intro a0 k
 have ih0:=tripartiteref01_Num.mono_l k
 exact ih0 a0
def tripartiteref01_Num.T7 : Bool×List (List Nat×List Nat) := (true,[([],[]),([0],[0]),([1],[1]),([],[]),([3],[3]),([],[]),([5],[5]),([6],[6]),([4,7],[4,7]),([2,8],[2,8]),([9,2,0,1,2,3,4,5,6,7,8,9],[9])])
def tripartiteref01_Num.B7 : List Nat := [0,1,3,0,8,0,32,96,248,511,1023]
theorem tripartiteref01_Num.tab7 : rtab .any (opsOf Try.f66 7)=tripartiteref01_Num.T7 := by kernel_rfl
theorem tripartiteref01_Num.bits7 : waitsOk tripartiteref01_Num.T7.2 tripartiteref01_Num.B7=true := by kernel_rfl
set_option maxHeartbeats 8000000 in
set_option maxRecDepth 100000 in
theorem tripartiteref01_Num.calls (k : Nat) : ∀ (a0 : Int) (r : ByteArray) (w : World) (h : tripartiteref01_Num.f k a0=some r),
  Calls Try.prog 66 #[.int .i64 a0] w fun e w'=>e = .returned (.string r)∧Below w.heap.size w w':=by
 induction k using Nat.strongRecOn with
 | _ k ih =>
 intro a0 r w h
 cases k with
 | zero=>exact absurd h (by simp [tripartiteref01_Num.f])
 | succ k =>
 simp only [tripartiteref01_Num.f] at h
 have HB:=Aside0.mk (Below.refl w.heap.size w)
 have H:(if a0<(-9223372036854775807) then (some (⟨#[45,57,50,50,51,51,55,50,48,51,54,56,53,52,55,55,53,56,48,56]⟩:ByteArray)) else (if a0<0 then ((tripartiteref01_Num.f k (wrap64 (-a0))).bind fun t713=>(if 1+t713.size≤9223372036854775807 then (some ((⟨#[45]⟩:ByteArray)++t713)) else (none))) else (if a0<10 then (if 0≤a0 then (if a0≤(wrap64 (a0+1)) then (if (wrap64 (a0+1))≤10 then (some ((⟨#[48,49,50,51,52,53,54,55,56,57]⟩:ByteArray).extract (a0:Int).toNat ((wrap64 (a0+1)):Int).toNat)) else (none)) else (none)) else (none)) else ((tripartiteref01_Num.f k (wrap64 (Int.tdiv a0 10))).bind fun t714=>(if 0≤(Int.tmod a0 10) then (if (Int.tmod a0 10)≤(wrap64 ((Int.tmod a0 10)+1)) then (if (wrap64 ((Int.tmod a0 10)+1))≤10 then (if t714.size+((⟨#[48,49,50,51,52,53,54,55,56,57]⟩:ByteArray).extract ((Int.tmod a0 10):Int).toNat ((wrap64 ((Int.tmod a0 10)+1)):Int).toNat).size≤9223372036854775807 then (some (t714++((⟨#[48,49,50,51,52,53,54,55,56,57]⟩:ByteArray).extract ((Int.tmod a0 10):Int).toNat ((wrap64 ((Int.tmod a0 10)+1)):Int).toNat))) else (none)) else (none)) else (none)) else (none))))))=some r:=h
 clear h
 by_cases c2:a0<(-9223372036854775807)
 ·rw [if_pos c2] at H
  have c2b0:decide (a0<(-9223372036854775807))=true:=decide_eq_true c2
  clear c2
  obtain rfl:=Option.some.inj H
  go_enter Try.func66,Try.ntmps66
  go_wp2
  go_ret
  exact⟨by first|rfl|(simp [errW_none,errW_some]<;>rfl)|(simp [*,errW_none,errW_some]<;>rfl),by repeat (first|(with_reducible first|exact HB.out|apply below_alloc|apply pw_below_drewN|apply below_drew1)|exact HB.out)⟩
 ·rw [if_neg c2] at H
  have c2b0:decide (a0<(-9223372036854775807))=false:=decide_eq_false c2
  clear c2
  by_cases c3:a0<0
  ·rw [if_pos c3] at H
   have c3b0:decide (a0<0)=true:=decide_eq_true c3
   clear c3
   replace H:=Option.bind_eq_some_iff.mp H
   obtain⟨t713,A40,H⟩:=H
   replace H:(if 1+t713.size≤9223372036854775807 then (some ((⟨#[45]⟩:ByteArray)++t713)) else (none))=some r:=H
   have A4:=Aside0.mk A40
   clear A40
   by_cases c5:1+t713.size≤9223372036854775807
   ·rw [if_pos c5] at H
    have c5b0:=eq_true c5
    have c5b1:decide (1+t713.size≤9223372036854775807)=true:=decide_eq_true c5
    try have c5b2:(9223372036854775807<1+t713.size)=False:=eq_false (Nat.not_lt.2 c5)
    obtain rfl:=Option.some.inj H
    go_enter Try.func66,Try.ntmps66
    go_wp2_with (first|((with_reducible refine gate_callee (f:=66) rfl ?_);refine goesL_ (some 9) rfl rfl Try.func66 (by kernel_rfl) rfl #[.int .i64 (wrap64 (-a0))] rfl (by (try simp only [List.map_toArray,List.map_cons,List.map_nil]);first|done|rfl|(simp only [List.length_drop,List.length_take];rfl)) ?_;(with_reducible refine (ih k (by omega) (wrap64 (-a0)) t713 _ A4.out).mono ?_);rintro e w6 ⟨rfl,hb⟩;refine⟨_,rfl,?_⟩;have n0_:=Aside0.mk (below_step (by repeat (first|(with_reducible first|exact HB.out|apply below_alloc|apply pw_below_drewN|apply below_drew1)|exact HB.out)) hb);clear HB;have HB:=n0_;clear n0_;(try clear hb);(try clear hb2);(try clear hk);(try clear hi)))
    go_ret
    exact⟨by first|rfl|(simp [errW_none,errW_some]<;>rfl)|(simp [*,errW_none,errW_some]<;>rfl),by repeat (first|(with_reducible first|exact HB.out|apply below_alloc|apply pw_below_drewN|apply below_drew1)|exact HB.out)⟩
   ·rw [if_neg c5] at H
    exact absurd H (by simp)
  ·rw [if_neg c3] at H
   have c3b0:decide (a0<0)=false:=decide_eq_false c3
   clear c3
   by_cases c7:a0<10
   ·rw [if_pos c7] at H
    have c7b0:decide (a0<10)=true:=decide_eq_true c7
    clear c7
    by_cases c8:0≤a0
    ·rw [if_pos c8] at H
     have c8b0:=eq_true c8
     have c8b1:decide (0≤a0)=true:=decide_eq_true c8
     clear c8
     by_cases c9:a0≤(wrap64 (a0+1))
     ·rw [if_pos c9] at H
      have c9b0:=eq_true c9
      have c9b1:decide (a0≤(wrap64 (a0+1)))=true:=decide_eq_true c9
      by_cases c10:(wrap64 (a0+1))≤10
      ·rw [if_pos c10] at H
       have c10b0:=eq_true c10
       have c10b1:decide ((wrap64 (a0+1))≤10)=true:=decide_eq_true c10
       obtain rfl:=Option.some.inj H
       go_enter Try.func66,Try.ntmps66
       go_wp2
       go_ret
       exact⟨by first|rfl|(simp [errW_none,errW_some]<;>rfl)|(simp [*,errW_none,errW_some]<;>rfl),by repeat (first|(with_reducible first|exact HB.out|apply below_alloc|apply pw_below_drewN|apply below_drew1)|exact HB.out)⟩
      ·rw [if_neg c10] at H
       exact absurd H (by simp)
     ·rw [if_neg c9] at H
      exact absurd H (by simp)
    ·rw [if_neg c8] at H
     exact absurd H (by simp)
   ·rw [if_neg c7] at H
    have c7b0:decide (a0<10)=false:=decide_eq_false c7
    clear c7
    replace H:=Option.bind_eq_some_iff.mp H
    obtain⟨t714,A110,H⟩:=H
    replace H:(if 0≤(Int.tmod a0 10) then (if (Int.tmod a0 10)≤(wrap64 ((Int.tmod a0 10)+1)) then (if (wrap64 ((Int.tmod a0 10)+1))≤10 then (if t714.size+((⟨#[48,49,50,51,52,53,54,55,56,57]⟩:ByteArray).extract ((Int.tmod a0 10):Int).toNat ((wrap64 ((Int.tmod a0 10)+1)):Int).toNat).size≤9223372036854775807 then (some (t714++((⟨#[48,49,50,51,52,53,54,55,56,57]⟩:ByteArray).extract ((Int.tmod a0 10):Int).toNat ((wrap64 ((Int.tmod a0 10)+1)):Int).toNat))) else (none)) else (none)) else (none)) else (none))=some r:=H
    have A11:=Aside0.mk A110
    clear A110
    obtain⟨ji12,hji12⟩:∃ j_:Int,(Int.tmod a0 10)=j_:=⟨_,rfl⟩
    replace H:(if 0≤(ji12) then (if (ji12)≤(wrap64 ((ji12)+1)) then (if (wrap64 ((ji12)+1))≤10 then (if t714.size+((⟨#[48,49,50,51,52,53,54,55,56,57]⟩:ByteArray).extract ((ji12):Int).toNat ((wrap64 ((ji12)+1)):Int).toNat).size≤9223372036854775807 then (some (t714++((⟨#[48,49,50,51,52,53,54,55,56,57]⟩:ByteArray).extract ((ji12):Int).toNat ((wrap64 ((ji12)+1)):Int).toNat))) else (none)) else (none)) else (none)) else (none))=some r:=by first|(rw [hji12] at H;exact H)|(simp only [hji12] at H ⊢;exact H)
    (try rw [hji12] at A11)
    by_cases c13:0≤(ji12)
    ·rw [if_pos c13] at H
     have c13b0:=eq_true c13
     have c13b1:decide (0≤(ji12))=true:=decide_eq_true c13
     clear c13
     by_cases c14:(ji12)≤(wrap64 ((ji12)+1))
     ·rw [if_pos c14] at H
      have c14b0:=eq_true c14
      have c14b1:decide ((ji12)≤(wrap64 ((ji12)+1)))=true:=decide_eq_true c14
      by_cases c15:(wrap64 ((ji12)+1))≤10
      ·rw [if_pos c15] at H
       have c15b0:=eq_true c15
       have c15b1:decide ((wrap64 ((ji12)+1))≤10)=true:=decide_eq_true c15
       by_cases c16:t714.size+((⟨#[48,49,50,51,52,53,54,55,56,57]⟩:ByteArray).extract ((ji12):Int).toNat ((wrap64 ((ji12)+1)):Int).toNat).size≤9223372036854775807
       ·rw [if_pos c16] at H
        have c16b0:=eq_true c16
        have c16b1:decide (t714.size+((⟨#[48,49,50,51,52,53,54,55,56,57]⟩:ByteArray).extract ((ji12):Int).toNat ((wrap64 ((ji12)+1)):Int).toNat).size≤9223372036854775807)=true:=decide_eq_true c16
        try have c16b2:(9223372036854775807<t714.size+((⟨#[48,49,50,51,52,53,54,55,56,57]⟩:ByteArray).extract ((ji12):Int).toNat ((wrap64 ((ji12)+1)):Int).toNat).size)=False:=eq_false (Nat.not_lt.2 c16)
        have c16b4:(9223372036854775807<t714.size+(((wrap64 ((ji12)+1)):Int).toNat-((ji12):Int).toNat))=False:=eq_false (by have h0:(⟨#[48,49,50,51,52,53,54,55,56,57]⟩:ByteArray).size=10:=rfl;rw [ByteArray.size_extract,h0] at c16;omega)
        obtain rfl:=Option.some.inj H
        go_enter Try.func66,Try.ntmps66
        try go_wp2
        have n0_:=Aside0.mk (below_drew1 HB.out)
        clear HB
        have HB:=n0_
        clear n0_
        refine start_ (n:=11) (S:=fun w'=>True) (ds:=[]) #[false,false,false,false,false,false,false,false,false,false,false] (by kernel_rfl) rfl rfl trivial (fun hHeld=>?_);refine with_tabW tripartiteref01_Num.tab7 tripartiteref01_Num.bits7 (fun HT_ HW_=>?_)
        generalize w.drew=w17 at HB hHeld ⊢
        refine pure_ (i:=0) (N:=some 17) (v:=?_) (a':=?_) #[true,false,false,false,false,false,false,false,false,false,false] rfl rfl (any_of HT_.out (by kernel_rfl)) (fun _ _ _ h=>h) (Or.inl ⟨by rfl,?_⟩) ?_ ?_
        rotate_left
        ·intro w'
         go_simp
         with_reducible rfl
        rotate_left
        ·simp only [Act.put,List.setIfInBounds_toArray,List.set_cons_zero,List.set_cons_succ,i64_w,i32_w]
         rfl
        refine pure_ (i:=1) (N:=some 18) (v:=?_) (a':=?_) #[true,true,false,false,false,false,false,false,false,false,false] rfl rfl (any_of HT_.out (by kernel_rfl)) (fun _ _ _ h=>h) (Or.inl ⟨by rfl,?_⟩) ?_ ?_
        rotate_left
        ·intro w'
         go_simp
         with_reducible rfl
        rotate_left
        ·simp only [Act.put,List.setIfInBounds_toArray,List.set_cons_zero,List.set_cons_succ,i64_w,i32_w]
         rfl
        refine pure_ (i:=3) (N:=some 20) (v:=?_) (a':=?_) #[true,true,false,true,false,false,false,false,false,false,false] rfl rfl (any_of HT_.out (by kernel_rfl)) (fun _ _ _ h=>h) (Or.inl ⟨by rfl,?_⟩) ?_ ?_
        rotate_left
        ·intro w'
         go_simp
         with_reducible rfl
        rotate_left
        ·simp only [Act.put,List.setIfInBounds_toArray,List.set_cons_zero,List.set_cons_succ,i64_w,i32_w]
         rfl
        refine pure_ (i:=4) (N:=some 21) (v:=?_) (a':=?_) #[true,true,false,true,true,false,false,false,false,false,false] rfl rfl (any_of HT_.out (by kernel_rfl)) (fun _ _ _ h=>h) (Or.inl ⟨by rfl,?_⟩) ?_ ?_
        rotate_left
        ·intro w'
         go_simp
         with_reducible rfl
        rotate_left
        ·simp only [Act.put,List.setIfInBounds_toArray,List.set_cons_zero,List.set_cons_succ,i64_w,i32_w]
         rfl
        refine pure_ (i:=5) (N:=some 22) (v:=?_) (a':=?_) #[true,true,false,true,true,true,false,false,false,false,false] rfl rfl (any_of HT_.out (by kernel_rfl)) (fun _ _ _ h=>h) (Or.inl ⟨by rfl,?_⟩) ?_ ?_
        rotate_left
        ·intro w'
         go_simp
         with_reducible rfl
        rotate_left
        ·simp only [Act.put,List.setIfInBounds_toArray,List.set_cons_zero,List.set_cons_succ,i64_w,i32_w]
         rfl
        refine pure_ (i:=6) (N:=some 23) (v:=?_) (a':=?_) #[true,true,false,true,true,true,true,false,false,false,false] rfl rfl (any_of HT_.out (by kernel_rfl)) (fun _ _ _ h=>h) (Or.inl ⟨by rfl,?_⟩) ?_ ?_
        rotate_left
        ·intro w'
         go_simp
         with_reducible rfl
        rotate_left
        ·simp only [Act.put,List.setIfInBounds_toArray,List.set_cons_zero,List.set_cons_succ,i64_w,i32_w]
         rfl
        refine pure_ (i:=7) (N:=some 24) (v:=?_) (a':=?_) #[true,true,false,true,true,true,true,true,false,false,false] rfl rfl (any_of HT_.out (by kernel_rfl)) (fun _ _ _ h=>h) (Or.inl ⟨by rfl,?_⟩) ?_ ?_
        rotate_left
        ·intro w'
         go_simp
         with_reducible rfl
        rotate_left
        ·simp only [Act.put,List.setIfInBounds_toArray,List.set_cons_zero,List.set_cons_succ,i64_w,i32_w]
         rfl
        refine pure_ (i:=8) (N:=some 25) (v:=?_) (a':=?_) #[true,true,false,true,true,true,true,true,true,false,false] rfl rfl (any_of HT_.out (by kernel_rfl)) (fun _ _ _ h=>h) (Or.inl ⟨by rfl,?_⟩) ?_ ?_
        rotate_left
        ·intro w'
         go_simp
         with_reducible rfl
        rotate_left
        ·simp only [Act.put,List.setIfInBounds_toArray,List.set_cons_zero,List.set_cons_succ,i64_w,i32_w]
         rfl
        refine one_ (i:=2) (N:=some 19) #[true,true,true,true,true,true,true,true,true,false,false] rfl rfl (one_of HT_.out (by kernel_rfl)) (by decide) (fun K hK=>?_)
        refine goes_ Try.func66 (by kernel_rfl) rfl #[.int .i64 (wrap64 (Int.tdiv a0 10))] (by rfl) rfl rfl (by (try simp only [List.map_toArray,List.map_cons,List.map_nil]);first|done|rfl|(simp only [List.length_drop,List.length_take];rfl)) ?_
        with_reducible refine (ih k (by omega) (wrap64 (Int.tdiv a0 10)) t714 _ A11.out).mono ?_
        rintro e w18 ⟨rfl,hb⟩
        refine⟨_,rfl,?_⟩
        have n0_:=Aside0.mk (below_step (by repeat (first|(with_reducible first|exact HB.out|apply below_alloc|apply pw_below_drewN|apply below_drew1)|exact HB.out)) hb)
        clear HB
        have HB:=n0_
        clear n0_
        (try clear hb)
        (try clear hb2)
        (try clear hk)
        (try clear hi)
        refine hK.out _ _ trivial (fun hHeld=>?_)
        clear hK K
        refine norm_ (a':=?_) ?_ ?_
        rotate_left
        ·show Act.put _ (some 19) _=_
         simp only [Act.put,List.setIfInBounds_toArray,List.set_cons_zero,List.set_cons_succ,i64_w,i32_w]
         rfl
        refine pure_ (i:=9) (N:=some 26) (v:=?_) (a':=?_) #[true,true,true,true,true,true,true,true,true,true,false] rfl rfl (any_of HT_.out (by kernel_rfl)) (fun _ _ _ h=>h) (Or.inl ⟨by rfl,?_⟩) ?_ ?_
        rotate_left
        ·intro w'
         go_simp
         with_reducible rfl
        rotate_left
        ·simp only [Act.put,List.setIfInBounds_toArray,List.set_cons_zero,List.set_cons_succ,i64_w,i32_w]
         rfl
        refine pure_ (i:=10) (N:=some 2) (v:=?_) (a':=?_) #[true,true,true,true,true,true,true,true,true,true,true] rfl rfl (any_of HT_.out (by kernel_rfl)) (fun _ _ _ h=>h) (Or.inl ⟨by rfl,?_⟩) ?_ ?_
        rotate_left
        ·intro w'
         go_simp
         with_reducible rfl
        rotate_left
        ·simp only [Act.put,List.setIfInBounds_toArray,List.set_cons_zero,List.set_cons_succ,i64_w,i32_w]
         rfl
        refine done_ (done_of HT_.out (by kernel_rfl)) ?_
        try go_wp2
        go_ret
        exact⟨by first|rfl|(simp [errW_none,errW_some]<;>rfl)|(simp only [←hji12];first|rfl|(simp [errW_none,errW_some]<;>rfl))|(simp [*,errW_none,errW_some]<;>rfl),by repeat (first|(with_reducible first|exact HB.out|apply below_alloc|apply pw_below_drewN|apply below_drew1)|exact HB.out)⟩
       ·rw [if_neg c16] at H
        exact absurd H (by simp)
      ·rw [if_neg c15] at H
       exact absurd H (by simp)
     ·rw [if_neg c14] at H
      exact absurd H (by simp)
    ·rw [if_neg c13] at H
     exact absurd H (by simp)
end Go.Proofs.Ytfiamddinkokbaa.F
