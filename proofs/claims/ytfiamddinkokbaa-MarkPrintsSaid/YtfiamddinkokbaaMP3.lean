/- Texts joined into one file (wip/tools/pack.py): Fn45, Fn46, Fn90, Fn83, Fn126, Fn150, Fn127, Fn91, Fn32, Fn44 -/
import Derived.Test.YtfiamddinkokbaaMP1
import Derived.Test.YtfiamddinkokbaaMP2
section
set_option linter.unusedVariables false
set_option linter.unusedSimpArgs false
namespace Go.Proofs.Ytfiamddinkokbaa.F
open Go.RowKit Go.Proofs.YtfiamddinkokbaaW.PrintWords Go.Proofs.YtfiamddinkokbaaW.PrintLast Go.Proofs.YtfiamddinkokbaaW.PrintMore
attribute [local go_sem] max2_int min2_int max_two min_two max_three min_three max_four min_four
set_option linter.unusedVariables false
set_option linter.unusedSimpArgs false
def tripartitelaw08_told.f (k : Nat)  : Option (Bool) := (mark_Print.f k (([(⟨(⟨(⟨#[]⟩ : ByteArray), (⟨#[]⟩ : ByteArray), (⟨#[]⟩ : ByteArray)⟩ : S84), true, (⟨#[]⟩ : ByteArray), (⟨#[97]⟩ : ByteArray), (⟨#[]⟩ : ByteArray), (⟨#[98, 10]⟩ : ByteArray), false⟩ : S106)] : List (S106))) 7).bind fun bt367 => ((mark_Read.f k (⟨#[61, 61, 61, 61, 61, 61, 61, 33, 10]⟩ : ByteArray) 7).bind fun bt369 => ((mark_Read.f k (⟨#[61, 61, 61, 61, 61, 61, 61, 61, 10]⟩ : ByteArray) 7).bind fun bt375 => (if bt367.2 = 0 then (if bt367.1.toList = ([60, 60, 60, 60, 60, 60, 60, 10, 97, 10, 61, 61, 61, 61, 61, 61, 61, 33, 10, 98, 10, 62, 62, 62, 62, 62, 62, 62, 10] : List UInt8) then (if bt369.2.2.2.1 = true then (if bt369.2.2.2.2 = 0 then (if bt369.2.1 = true then (if bt369.1 = 61 then (if bt375.2.2.2.1 = true then (some false) else (some (bt375.2.2.2.2 == 6))) else (some false)) else (some false)) else (some false)) else (some false)) else (some false)) else (some false))))
theorem tripartitelaw08_told.mono : ∀ k, LeO (tripartitelaw08_told.f k ) (tripartitelaw08_told.f (k + 1) ) := by
  intro  k
  unfold tripartitelaw08_told.f
  repeat' first
      | (with_reducible exact mark_Print.mono _ _ _)
      | (with_reducible exact mark_Read.mono _ _ _)
      | (with_reducible exact LeO.refl _)
      | (with_reducible exact LeO.none _)
      | (with_reducible refine LeO.ite ?_ ?_)
      | (with_reducible refine LeO.bind ?_ (fun _ => ?_))
      | exact mark_Print.mono _ _ _
      | exact mark_Read.mono _ _ _
      | exact LeO.none _
      | refine LeO.ite ?_ ?_
      | refine LeO.bind ?_ (fun _ => ?_)
set_option maxHeartbeats 8000000 in
set_option maxRecDepth 100000 in
theorem tripartitelaw08_told.calls (k : Nat)  (r : Bool) (w : World) (h : tripartitelaw08_told.f k  = some r) :
    Calls Try.prog 45 #[] w fun e w' => e = .returned (.bool r) ∧ Below w.heap.size w w' := by
  have hu106 := Try.underlying106
  have hu62 := Try.underlying62
  have HB := Aside0.mk (Below.refl w.heap.size w)
  have H : ((mark_Print.f k (([(⟨(⟨(⟨#[]⟩ : ByteArray), (⟨#[]⟩ : ByteArray), (⟨#[]⟩ : ByteArray)⟩ : S84), true, (⟨#[]⟩ : ByteArray), (⟨#[97]⟩ : ByteArray), (⟨#[]⟩ : ByteArray), (⟨#[98, 10]⟩ : ByteArray), false⟩ : S106)] : List (S106))) 7).bind fun bt367 => ((mark_Read.f k (⟨#[61, 61, 61, 61, 61, 61, 61, 33, 10]⟩ : ByteArray) 7).bind fun bt369 => ((mark_Read.f k (⟨#[61, 61, 61, 61, 61, 61, 61, 61, 10]⟩ : ByteArray) 7).bind fun bt375 => (if bt367.2 = 0 then (if bt367.1.toList = ([60, 60, 60, 60, 60, 60, 60, 10, 97, 10, 61, 61, 61, 61, 61, 61, 61, 33, 10, 98, 10, 62, 62, 62, 62, 62, 62, 62, 10] : List UInt8) then (if bt369.2.2.2.1 = true then (if bt369.2.2.2.2 = 0 then (if bt369.2.1 = true then (if bt369.1 = 61 then (if bt375.2.2.2.1 = true then (some false) else (some (bt375.2.2.2.2 == 6))) else (some false)) else (some false)) else (some false)) else (some false)) else (some false)) else (some false))))) = some r := h
  clear h
  obtain ⟨y364, hy364⟩ : ∃ y_ : List (S106), y_ = (([(⟨(⟨(⟨#[]⟩ : ByteArray), (⟨#[]⟩ : ByteArray), (⟨#[]⟩ : ByteArray)⟩ : S84), true, (⟨#[]⟩ : ByteArray), (⟨#[97]⟩ : ByteArray), (⟨#[]⟩ : ByteArray), (⟨#[98, 10]⟩ : ByteArray), false⟩ : S106)] : List (S106))) := ⟨_, rfl⟩
  replace H : ((mark_Print.f k y364 7).bind fun bt367 => ((mark_Read.f k (⟨#[61, 61, 61, 61, 61, 61, 61, 33, 10]⟩ : ByteArray) 7).bind fun bt369 => ((mark_Read.f k (⟨#[61, 61, 61, 61, 61, 61, 61, 61, 10]⟩ : ByteArray) 7).bind fun bt375 => (if bt367.2 = 0 then (if bt367.1.toList = ([60, 60, 60, 60, 60, 60, 60, 10, 97, 10, 61, 61, 61, 61, 61, 61, 61, 33, 10, 98, 10, 62, 62, 62, 62, 62, 62, 62, 10] : List UInt8) then (if bt369.2.2.2.1 = true then (if bt369.2.2.2.2 = 0 then (if bt369.2.1 = true then (if bt369.1 = 61 then (if bt375.2.2.2.1 = true then (some false) else (some (bt375.2.2.2.2 == 6))) else (some false)) else (some false)) else (some false)) else (some false)) else (some false)) else (some false))))) = some r := by first | (rw [hy364]; with_reducible exact H) | (have H2_ := (Option.bind_some _ _).symm.trans H; rw [hy364]; with_reducible exact H2_) | (have H2_ := (Option.bind_some _ _).symm.trans H; with_reducible exact H2_) | with_reducible exact H | (rw [hy364]; exact H) | exact H
  have Ny364 := Aside0.mk hy364
  clear hy364
  replace H := Option.bind_eq_some_iff.mp H
  obtain ⟨⟨t367, t368⟩, A10, H⟩ := H
  replace H : ((mark_Read.f k (⟨#[61, 61, 61, 61, 61, 61, 61, 33, 10]⟩ : ByteArray) 7).bind fun bt369 => ((mark_Read.f k (⟨#[61, 61, 61, 61, 61, 61, 61, 61, 10]⟩ : ByteArray) 7).bind fun bt375 => (if t368 = 0 then (if t367.toList = ([60, 60, 60, 60, 60, 60, 60, 10, 97, 10, 61, 61, 61, 61, 61, 61, 61, 33, 10, 98, 10, 62, 62, 62, 62, 62, 62, 62, 10] : List UInt8) then (if bt369.2.2.2.1 = true then (if bt369.2.2.2.2 = 0 then (if bt369.2.1 = true then (if bt369.1 = 61 then (if bt375.2.2.2.1 = true then (some false) else (some (bt375.2.2.2.2 == 6))) else (some false)) else (some false)) else (some false)) else (some false)) else (some false)) else (some false)))) = some r := H
  have A1 := Aside0.mk A10
  clear A10
  replace H := Option.bind_eq_some_iff.mp H
  obtain ⟨⟨t369, t370, t371, t372, t373⟩, A20, H⟩ := H
  replace H : ((mark_Read.f k (⟨#[61, 61, 61, 61, 61, 61, 61, 61, 10]⟩ : ByteArray) 7).bind fun bt375 => (if t368 = 0 then (if t367.toList = ([60, 60, 60, 60, 60, 60, 60, 10, 97, 10, 61, 61, 61, 61, 61, 61, 61, 33, 10, 98, 10, 62, 62, 62, 62, 62, 62, 62, 10] : List UInt8) then (if t372 = true then (if t373 = 0 then (if t370 = true then (if t369 = 61 then (if bt375.2.2.2.1 = true then (some false) else (some (bt375.2.2.2.2 == 6))) else (some false)) else (some false)) else (some false)) else (some false)) else (some false)) else (some false))) = some r := H
  have A2 := Aside0.mk A20
  clear A20
  replace H := Option.bind_eq_some_iff.mp H
  obtain ⟨⟨t375, t376, t377, t378, t379⟩, A30, H⟩ := H
  replace H : (if t368 = 0 then (if t367.toList = ([60, 60, 60, 60, 60, 60, 60, 10, 97, 10, 61, 61, 61, 61, 61, 61, 61, 33, 10, 98, 10, 62, 62, 62, 62, 62, 62, 62, 10] : List UInt8) then (if t372 = true then (if t373 = 0 then (if t370 = true then (if t369 = 61 then (if t378 = true then (some false) else (some (t379 == 6))) else (some false)) else (some false)) else (some false)) else (some false)) else (some false)) else (some false)) = some r := H
  have A3 := Aside0.mk A30
  clear A30
  by_cases c4 : t368 = 0
  · rw [if_pos c4] at H
    have c4b0 : (t368 == 0) = true := beq_iff_eq.mpr c4
    have c4b1 : (t368 != 0) = false := bne_eq_false_iff_eq.mpr c4
    clear c4
    by_cases c5 : t367.toList = ([60, 60, 60, 60, 60, 60, 60, 10, 97, 10, 61, 61, 61, 61, 61, 61, 61, 33, 10, 98, 10, 62, 62, 62, 62, 62, 62, 62, 10] : List UInt8)
    · rw [if_pos c5] at H
      have c5b0 : (t367.toList == ([60, 60, 60, 60, 60, 60, 60, 10, 97, 10, 61, 61, 61, 61, 61, 61, 61, 33, 10, 98, 10, 62, 62, 62, 62, 62, 62, 62, 10] : List UInt8)) = true := beq_iff_eq.mpr c5
      have c5b1 : (t367.toList != ([60, 60, 60, 60, 60, 60, 60, 10, 97, 10, 61, 61, 61, 61, 61, 61, 61, 33, 10, 98, 10, 62, 62, 62, 62, 62, 62, 62, 10] : List UInt8)) = false := bne_eq_false_iff_eq.mpr c5
      clear c5
      by_cases c6 : t372 = true
      · subst c6
        have H1 : (if t373 = 0 then (if t370 = true then (if t369 = 61 then (if t378 = true then (some false) else (some (t379 == 6))) else (some false)) else (some false)) else (some false)) = some r := by rw [if_pos rfl] at H; exact H
        clear H
        have H := H1
        clear H1
        by_cases c7 : t373 = 0
        · rw [if_pos c7] at H
          have c7b0 : (t373 == 0) = true := beq_iff_eq.mpr c7
          have c7b1 : (t373 != 0) = false := bne_eq_false_iff_eq.mpr c7
          clear c7
          by_cases c8 : t370 = true
          · subst c8
            have H1 : (if t369 = 61 then (if t378 = true then (some false) else (some (t379 == 6))) else (some false)) = some r := by rw [if_pos rfl] at H; exact H
            clear H
            have H := H1
            clear H1
            by_cases c9 : t369 = 61
            · rw [if_pos c9] at H
              have c9b0 : (t369 == 61) = true := beq_iff_eq.mpr c9
              have c9b1 : (t369 != 61) = false := bne_eq_false_iff_eq.mpr c9
              clear c9
              by_cases c10 : t378 = true
              · subst c10
                have H1 : (some false) = some r := by rw [if_pos rfl] at H; exact H
                clear H
                have H := H1
                clear H1
                obtain rfl := Option.some.inj H
                go_enter Try.func45, Try.ntmps45
                go_wp2_with (first | ((with_reducible refine gate_dst (N := 11) rfl ?_); refine Kd.R_lit k106 _ 106 ?hg (N := 11) ?hd (xs := ([(⟨(⟨(⟨#[]⟩ : ByteArray), (⟨#[]⟩ : ByteArray), (⟨#[]⟩ : ByteArray)⟩ : S84), true, (⟨#[]⟩ : ByteArray), (⟨#[97]⟩ : ByteArray), (⟨#[]⟩ : ByteArray), (⟨#[98, 10]⟩ : ByteArray), false⟩ : S106)] : List (S106))) (inner := [.string (⟨#[]⟩ : ByteArray), .string (⟨#[]⟩ : ByteArray), .string (⟨#[]⟩ : ByteArray), .bool true, .string (⟨#[]⟩ : ByteArray), .string (⟨#[97]⟩ : ByteArray), .string (⟨#[]⟩ : ByteArray), .string (⟨#[98, 10]⟩ : ByteArray), .bool false]) (ok := fun _ => True) (okp := fun _ => True) ?hr ?hp (fun _ hk => hk) trivial (Below.refl _ _) (Nat.le_refl _) (by simp) ?_; (case hd => rfl); (case hg => rfl); (case hr => first | (go_simp; done) | (go_simp; rfl)); (case hp => exact (Reps.c9 (show Kd.M k106 _ _ _ (⟨(⟨(⟨#[]⟩ : ByteArray), (⟨#[]⟩ : ByteArray), (⟨#[]⟩ : ByteArray)⟩ : S84), true, (⟨#[]⟩ : ByteArray), (⟨#[97]⟩ : ByteArray), (⟨#[]⟩ : ByteArray), (⟨#[98, 10]⟩ : ByteArray), false⟩ : S106) [.string (⟨#[]⟩ : ByteArray), .string (⟨#[]⟩ : ByteArray), .string (⟨#[]⟩ : ByteArray), .bool true, .string (⟨#[]⟩ : ByteArray), .string (⟨#[97]⟩ : ByteArray), .string (⟨#[]⟩ : ByteArray), .string (⟨#[98, 10]⟩ : ByteArray), .bool false] from (k106_mkM _ _ _ (⟨(⟨(⟨#[]⟩ : ByteArray), (⟨#[]⟩ : ByteArray), (⟨#[]⟩ : ByteArray)⟩ : S84), true, (⟨#[]⟩ : ByteArray), (⟨#[97]⟩ : ByteArray), (⟨#[]⟩ : ByteArray), (⟨#[98, 10]⟩ : ByteArray), false⟩ : S106) )) (Reps.none _ _))); intro v365 w11 ho12 hb hg_ hnew_; clear hg_ hnew_; (first | rw [← Ny364.out] at ho12 | (simp only [Int.reduceToNat] at ho12; rw [← Ny364.out] at ho12)); have n0_ := Aside0.mk (Kd.R_lower ho12 (below_size (by repeat (first | (with_reducible first | exact HB.out | apply below_alloc | apply pw_below_drewN | apply below_drew1) | exact HB.out)))); have n1_ := Aside0.mk (below_step (by repeat (first | (with_reducible first | exact HB.out | apply below_alloc | apply pw_below_drewN | apply below_drew1) | exact HB.out)) hb); clear HB; have HO366 := n0_; have HB := n1_; clear n0_ n1_; clear hb ho12; obtain ⟨Ao13, co13, eo13⟩ := Kd.R_slice HO366.out; subst eo13) | ((with_reducible refine gate_callee (f := 47) rfl ?_); refine goesL_ (some 12) rfl rfl Try.func47 (by kernel_rfl) rfl #[.slice Ao13 y364.length co13, .int .i64 7] rfl (by (try simp only [List.map_toArray, List.map_cons, List.map_nil]); first | done | rfl | (simp only [List.length_drop, List.length_take]; rfl)) ?_; (with_reducible refine (mark_Print.calls k _ _ y364 7 t367 t368 _ ?side1 ?side2 A1.out).mono ?_); (case side1 => repeat (first | exact (Kd.R_reads' HO366.out).2.2 | (with_reducible refine Kd.C_alloc ?_ _) | (with_reducible refine Kd.C_drewN ?_ _) | (with_reducible refine Kd.C_drew ?_))); (case side2 => exact (Kd.R_reads' HO366.out).2.1); rintro e w14 ⟨rfl, hb⟩; refine ⟨_, rfl, ?_⟩; have n0_ := Aside0.mk (Kd.R_below (by (with_reducible repeat (first | apply Kd.R_alloc | apply Kd.R_drewN | apply Kd.R_drew)); exact HO366.out) hb); have n1_ := Aside0.mk (below_step (by repeat (first | (with_reducible first | exact HB.out | apply below_alloc | apply pw_below_drewN | apply below_drew1) | exact HB.out)) hb); clear HO366; clear HB; have HO366 := n0_; have HB := n1_; clear n0_ n1_; (try clear hb); (try clear hb2); (try clear hk); (try clear hi)) | ((with_reducible refine gate_callee (f := 52) rfl ?_); refine goesL_ (some 16) rfl rfl Try.func52 (by kernel_rfl) rfl #[.string (⟨#[61, 61, 61, 61, 61, 61, 61, 33, 10]⟩ : ByteArray), .int .i64 7] rfl (by (try simp only [List.map_toArray, List.map_cons, List.map_nil]); first | done | rfl | (simp only [List.length_drop, List.length_take]; rfl)) ?_; (with_reducible refine (mark_Read.calls k (⟨#[61, 61, 61, 61, 61, 61, 61, 33, 10]⟩ : ByteArray) 7 t369 true t371 true t373 _ A2.out).mono ?_); rintro e w15 ⟨rfl, hb⟩; refine ⟨_, rfl, ?_⟩; have n0_ := Aside0.mk (Kd.R_below (by (with_reducible repeat (first | apply Kd.R_alloc | apply Kd.R_drewN | apply Kd.R_drew)); exact HO366.out) hb); have n1_ := Aside0.mk (below_step (by repeat (first | (with_reducible first | exact HB.out | apply below_alloc | apply pw_below_drewN | apply below_drew1) | exact HB.out)) hb); clear HO366; clear HB; have HO366 := n0_; have HB := n1_; clear n0_ n1_; (try clear hb); (try clear hb2); (try clear hk); (try clear hi)) | ((with_reducible refine gate_dst (N := 3) rfl ?_); refine box_event ?hg (N := 3) ?hd (cs := #[.int .u8 0, .bool false, .string (⟨#[]⟩ : ByteArray)]) (t := 62) ?hr ?_; (case hd => rfl); (case hg => rfl); (case hr => first | (go_simp; done) | (go_simp; rfl)); intro gb374 hg w16 hbox hb; have n0_ := Aside0.mk (Kd.R_below (by (with_reducible repeat (first | apply Kd.R_alloc | apply Kd.R_drewN | apply Kd.R_drew)); exact HO366.out) hb); have n1_ := Aside0.mk (below_step (by repeat (first | (with_reducible first | exact HB.out | apply below_alloc | apply pw_below_drewN | apply below_drew1) | exact HB.out)) hb); have n2_ := Aside0.mk (hbox); have n3_ := Aside0.mk ((by rw [hg]; exact (below_size (by repeat (first | (with_reducible first | exact HB.out | apply below_alloc | apply pw_below_drewN | apply below_drew1) | exact HB.out))) : w.heap.size ≤ gb374)); have n4_ := Aside0.mk ((by rw [hg]; exact (below_size (by repeat (first | (with_reducible first | exact HB.out | apply below_alloc | apply pw_below_drewN | apply below_drew1) | exact HB.out))) : w.heap.size ≤ gb374)); clear HO366; clear HB; have HO366 := n0_; have HB := n1_; have BK374 := n2_; have GW374 := n3_; have GE374 := n4_; clear n0_ n1_ n2_ n3_ n4_; clear hb hbox hg; have hcz17_0 : w16.cell? ⟨gb374, 0, none⟩ = some (.int .u8 0) := (blk_cell BK374.out 0).trans rfl; have hcz17_1 : w16.cell? ⟨gb374, 1, none⟩ = some (.bool false) := (blk_cell BK374.out 1).trans rfl; have hcz17_2 : w16.cell? ⟨gb374, 2, none⟩ = some (.string (⟨#[]⟩ : ByteArray)) := (blk_cell BK374.out 2).trans rfl; have hfz17_0 := blk_frozen BK374.out 0; have hfz17_1 := blk_frozen BK374.out 1; have hfz17_2 := blk_frozen BK374.out 2) | ((with_reducible refine gate_callee (f := 52) rfl ?_); refine goesL_ (some 21) rfl rfl Try.func52 (by kernel_rfl) rfl #[.string (⟨#[61, 61, 61, 61, 61, 61, 61, 61, 10]⟩ : ByteArray), .int .i64 7] rfl (by (try simp only [List.map_toArray, List.map_cons, List.map_nil]); first | done | rfl | (simp only [List.length_drop, List.length_take]; rfl)) ?_; (with_reducible refine (mark_Read.calls k (⟨#[61, 61, 61, 61, 61, 61, 61, 61, 10]⟩ : ByteArray) 7 t375 t376 t377 true t379 _ A3.out).mono ?_); rintro e w18 ⟨rfl, hb⟩; refine ⟨_, rfl, ?_⟩; have n0_ := Aside0.mk (Kd.R_below (by (with_reducible repeat (first | apply Kd.R_alloc | apply Kd.R_drewN | apply Kd.R_drew)); exact (Kd.R_mono (Kd.R_far (p := ⟨gb374, 2, none⟩) (Kd.R_far (p := ⟨gb374, 1, none⟩) (Kd.R_far (p := ⟨gb374, 0, none⟩) (Kd.R_types HO366.out BK374.out (by decide)) (fun _ hk => hk.2) (.int .u8 t369)) (fun _ hk => hk.2) (.bool true)) (fun _ hk => hk.2) (.string t371)) (fun _ h_ => h_.1))) hb); have n1_ := Aside0.mk (blk_below (g := gb374) (o := .cells #[.int .u8 t369, .bool true, .string t371] 62 (0, 0)) (by (with_reducible repeat (first | refine blk_drewN ?_ _ | refine blk_drew ?_ | refine blk_alloc ?_ _)); refine blk_put (cs := #[.int .u8 t369, .bool true, .string (⟨#[]⟩ : ByteArray)]) ?_ 2 _ rfl; (with_reducible repeat (first | refine blk_drewN ?_ _ | refine blk_drew ?_ | refine blk_alloc ?_ _)); refine blk_put (cs := #[.int .u8 t369, .bool false, .string (⟨#[]⟩ : ByteArray)]) ?_ 1 _ rfl; (with_reducible repeat (first | refine blk_drewN ?_ _ | refine blk_drew ?_ | refine blk_alloc ?_ _)); refine blk_put (cs := #[.int .u8 0, .bool false, .string (⟨#[]⟩ : ByteArray)]) ?_ 0 _ rfl; (with_reducible repeat (first | refine blk_drewN ?_ _ | refine blk_drew ?_ | refine blk_alloc ?_ _)); exact BK374.out) hb); have n2_ := Aside0.mk (below_step (by repeat (first | (with_reducible first | exact HB.out | apply below_alloc | apply pw_below_drewN | apply below_drew1 | refine below_set ?_ GE374.out) | exact HB.out)) hb); clear HO366; clear BK374; clear HB; have HO366 := n0_; have BK374 := n1_; have HB := n2_; clear n0_ n1_ n2_; (try clear hb); (try clear hb2); (try clear hk); (try clear hi)) | ((with_reducible refine gate_dst (N := 6) rfl ?_); refine box_event ?hg (N := 6) ?hd (cs := #[.int .u8 0, .bool false, .string (⟨#[]⟩ : ByteArray)]) (t := 62) ?hr ?_; (case hd => rfl); (case hg => rfl); (case hr => first | (go_simp; done) | (go_simp; rfl)); intro gb380 hg w19 hbox hb; have n0_ := Aside0.mk (Kd.R_below (by (with_reducible repeat (first | apply Kd.R_alloc | apply Kd.R_drewN | apply Kd.R_drew)); exact HO366.out) hb); have n1_ := Aside0.mk (blk_below (g := gb374) (o := .cells #[.int .u8 t369, .bool true, .string t371] 62 (0, 0)) (by (with_reducible repeat (first | refine blk_drewN ?_ _ | refine blk_drew ?_ | refine blk_alloc ?_ _)); exact BK374.out) hb); have n2_ := Aside0.mk (below_step (by repeat (first | (with_reducible first | exact HB.out | apply below_alloc | apply pw_below_drewN | apply below_drew1 | refine below_set ?_ GE374.out) | exact HB.out)) hb); have n3_ := Aside0.mk (hbox); have n4_ := Aside0.mk ((by rw [hg]; exact (below_size (by repeat (first | (with_reducible first | exact HB.out | apply below_alloc | apply pw_below_drewN | apply below_drew1 | refine below_set ?_ GE374.out) | exact HB.out))) : w.heap.size ≤ gb380)); have n5_ := Aside0.mk ((by rw [hg]; exact (below_size (by repeat (first | (with_reducible first | exact HB.out | apply below_alloc | apply pw_below_drewN | apply below_drew1 | refine below_set ?_ GE374.out) | exact HB.out))) : w.heap.size ≤ gb380)); have n6_ := Aside0.mk ((by rw [hg]; exact Nat.ne_of_lt (blk_lt (g := gb374) (o := .cells #[.int .u8 t369, .bool true, .string t371] 62 (0, 0)) (by (with_reducible repeat (first | refine blk_drewN ?_ _ | refine blk_drew ?_ | refine blk_alloc ?_ _)); exact BK374.out)) : gb374 ≠ gb380)); have n7_ := Aside0.mk ((by rw [hg]; exact Nat.ne_of_gt (blk_lt (g := gb374) (o := .cells #[.int .u8 t369, .bool true, .string t371] 62 (0, 0)) (by (with_reducible repeat (first | refine blk_drewN ?_ _ | refine blk_drew ?_ | refine blk_alloc ?_ _)); exact BK374.out)) : gb380 ≠ gb374)); clear HO366; clear BK374; clear HB; have HO366 := n0_; have BK374 := n1_; have HB := n2_; have BK380 := n3_; have GW380 := n4_; have GE380 := n5_; have NB374_380 := n6_; have NB380_374 := n7_; clear n0_ n1_ n2_ n3_ n4_ n5_ n6_ n7_; clear hb hbox hg; have hnb20 := NB380_374.out; have hnc20 := NB374_380.out; have hcz21_0 : w19.cell? ⟨gb380, 0, none⟩ = some (.int .u8 0) := (blk_cell BK380.out 0).trans rfl; have hcz21_1 : w19.cell? ⟨gb380, 1, none⟩ = some (.bool false) := (blk_cell BK380.out 1).trans rfl; have hcz21_2 : w19.cell? ⟨gb380, 2, none⟩ = some (.string (⟨#[]⟩ : ByteArray)) := (blk_cell BK380.out 2).trans rfl; have hfz21_0 := blk_frozen BK380.out 0; have hfz21_1 := blk_frozen BK380.out 1; have hfz21_2 := blk_frozen BK380.out 2; have hcz22_0 : w19.cell? ⟨gb374, 0, none⟩ = some (.int .u8 t369) := (blk_cell BK374.out 0).trans rfl; have hcz22_1 : w19.cell? ⟨gb374, 1, none⟩ = some (.bool true) := (blk_cell BK374.out 1).trans rfl; have hcz22_2 : w19.cell? ⟨gb374, 2, none⟩ = some (.string t371) := (blk_cell BK374.out 2).trans rfl; have hfz22_0 := blk_frozen BK374.out 0; have hfz22_1 := blk_frozen BK374.out 1; have hfz22_2 := blk_frozen BK374.out 2))
                go_ret
                exact ⟨by first | rfl | (simp [errW_none, errW_some] <;> rfl) | (simp [*, errW_none, errW_some] <;> rfl), by repeat (first | (with_reducible first | exact HB.out | apply below_alloc | apply pw_below_drewN | apply below_drew1 | refine below_set ?_ GE374.out | refine below_set ?_ GE380.out) | exact HB.out)⟩
              · replace c10 := Bool.eq_false_iff.mpr c10
                subst c10
                have H1 : (some (t379 == 6)) = some r := by rw [if_neg (show ¬ (false = true) by decide)] at H; exact H
                clear H
                have H := H1
                clear H1
                obtain rfl := Option.some.inj H
                go_enter Try.func45, Try.ntmps45
                go_wp2_with (first | ((with_reducible refine gate_dst (N := 11) rfl ?_); refine Kd.R_lit k106 _ 106 ?hg (N := 11) ?hd (xs := ([(⟨(⟨(⟨#[]⟩ : ByteArray), (⟨#[]⟩ : ByteArray), (⟨#[]⟩ : ByteArray)⟩ : S84), true, (⟨#[]⟩ : ByteArray), (⟨#[97]⟩ : ByteArray), (⟨#[]⟩ : ByteArray), (⟨#[98, 10]⟩ : ByteArray), false⟩ : S106)] : List (S106))) (inner := [.string (⟨#[]⟩ : ByteArray), .string (⟨#[]⟩ : ByteArray), .string (⟨#[]⟩ : ByteArray), .bool true, .string (⟨#[]⟩ : ByteArray), .string (⟨#[97]⟩ : ByteArray), .string (⟨#[]⟩ : ByteArray), .string (⟨#[98, 10]⟩ : ByteArray), .bool false]) (ok := fun _ => True) (okp := fun _ => True) ?hr ?hp (fun _ hk => hk) trivial (Below.refl _ _) (Nat.le_refl _) (by simp) ?_; (case hd => rfl); (case hg => rfl); (case hr => first | (go_simp; done) | (go_simp; rfl)); (case hp => exact (Reps.c9 (show Kd.M k106 _ _ _ (⟨(⟨(⟨#[]⟩ : ByteArray), (⟨#[]⟩ : ByteArray), (⟨#[]⟩ : ByteArray)⟩ : S84), true, (⟨#[]⟩ : ByteArray), (⟨#[97]⟩ : ByteArray), (⟨#[]⟩ : ByteArray), (⟨#[98, 10]⟩ : ByteArray), false⟩ : S106) [.string (⟨#[]⟩ : ByteArray), .string (⟨#[]⟩ : ByteArray), .string (⟨#[]⟩ : ByteArray), .bool true, .string (⟨#[]⟩ : ByteArray), .string (⟨#[97]⟩ : ByteArray), .string (⟨#[]⟩ : ByteArray), .string (⟨#[98, 10]⟩ : ByteArray), .bool false] from (k106_mkM _ _ _ (⟨(⟨(⟨#[]⟩ : ByteArray), (⟨#[]⟩ : ByteArray), (⟨#[]⟩ : ByteArray)⟩ : S84), true, (⟨#[]⟩ : ByteArray), (⟨#[97]⟩ : ByteArray), (⟨#[]⟩ : ByteArray), (⟨#[98, 10]⟩ : ByteArray), false⟩ : S106) )) (Reps.none _ _))); intro v365 w23 ho24 hb hg_ hnew_; clear hg_ hnew_; (first | rw [← Ny364.out] at ho24 | (simp only [Int.reduceToNat] at ho24; rw [← Ny364.out] at ho24)); have n0_ := Aside0.mk (Kd.R_lower ho24 (below_size (by repeat (first | (with_reducible first | exact HB.out | apply below_alloc | apply pw_below_drewN | apply below_drew1) | exact HB.out)))); have n1_ := Aside0.mk (below_step (by repeat (first | (with_reducible first | exact HB.out | apply below_alloc | apply pw_below_drewN | apply below_drew1) | exact HB.out)) hb); clear HB; have HO366 := n0_; have HB := n1_; clear n0_ n1_; clear hb ho24; obtain ⟨Ao25, co25, eo25⟩ := Kd.R_slice HO366.out; subst eo25) | ((with_reducible refine gate_callee (f := 47) rfl ?_); refine goesL_ (some 12) rfl rfl Try.func47 (by kernel_rfl) rfl #[.slice Ao25 y364.length co25, .int .i64 7] rfl (by (try simp only [List.map_toArray, List.map_cons, List.map_nil]); first | done | rfl | (simp only [List.length_drop, List.length_take]; rfl)) ?_; (with_reducible refine (mark_Print.calls k _ _ y364 7 t367 t368 _ ?side1 ?side2 A1.out).mono ?_); (case side1 => repeat (first | exact (Kd.R_reads' HO366.out).2.2 | (with_reducible refine Kd.C_alloc ?_ _) | (with_reducible refine Kd.C_drewN ?_ _) | (with_reducible refine Kd.C_drew ?_))); (case side2 => exact (Kd.R_reads' HO366.out).2.1); rintro e w26 ⟨rfl, hb⟩; refine ⟨_, rfl, ?_⟩; have n0_ := Aside0.mk (Kd.R_below (by (with_reducible repeat (first | apply Kd.R_alloc | apply Kd.R_drewN | apply Kd.R_drew)); exact HO366.out) hb); have n1_ := Aside0.mk (below_step (by repeat (first | (with_reducible first | exact HB.out | apply below_alloc | apply pw_below_drewN | apply below_drew1) | exact HB.out)) hb); clear HO366; clear HB; have HO366 := n0_; have HB := n1_; clear n0_ n1_; (try clear hb); (try clear hb2); (try clear hk); (try clear hi)) | ((with_reducible refine gate_callee (f := 52) rfl ?_); refine goesL_ (some 16) rfl rfl Try.func52 (by kernel_rfl) rfl #[.string (⟨#[61, 61, 61, 61, 61, 61, 61, 33, 10]⟩ : ByteArray), .int .i64 7] rfl (by (try simp only [List.map_toArray, List.map_cons, List.map_nil]); first | done | rfl | (simp only [List.length_drop, List.length_take]; rfl)) ?_; (with_reducible refine (mark_Read.calls k (⟨#[61, 61, 61, 61, 61, 61, 61, 33, 10]⟩ : ByteArray) 7 t369 true t371 true t373 _ A2.out).mono ?_); rintro e w27 ⟨rfl, hb⟩; refine ⟨_, rfl, ?_⟩; have n0_ := Aside0.mk (Kd.R_below (by (with_reducible repeat (first | apply Kd.R_alloc | apply Kd.R_drewN | apply Kd.R_drew)); exact HO366.out) hb); have n1_ := Aside0.mk (below_step (by repeat (first | (with_reducible first | exact HB.out | apply below_alloc | apply pw_below_drewN | apply below_drew1) | exact HB.out)) hb); clear HO366; clear HB; have HO366 := n0_; have HB := n1_; clear n0_ n1_; (try clear hb); (try clear hb2); (try clear hk); (try clear hi)) | ((with_reducible refine gate_dst (N := 3) rfl ?_); refine box_event ?hg (N := 3) ?hd (cs := #[.int .u8 0, .bool false, .string (⟨#[]⟩ : ByteArray)]) (t := 62) ?hr ?_; (case hd => rfl); (case hg => rfl); (case hr => first | (go_simp; done) | (go_simp; rfl)); intro gb374 hg w28 hbox hb; have n0_ := Aside0.mk (Kd.R_below (by (with_reducible repeat (first | apply Kd.R_alloc | apply Kd.R_drewN | apply Kd.R_drew)); exact HO366.out) hb); have n1_ := Aside0.mk (below_step (by repeat (first | (with_reducible first | exact HB.out | apply below_alloc | apply pw_below_drewN | apply below_drew1) | exact HB.out)) hb); have n2_ := Aside0.mk (hbox); have n3_ := Aside0.mk ((by rw [hg]; exact (below_size (by repeat (first | (with_reducible first | exact HB.out | apply below_alloc | apply pw_below_drewN | apply below_drew1) | exact HB.out))) : w.heap.size ≤ gb374)); have n4_ := Aside0.mk ((by rw [hg]; exact (below_size (by repeat (first | (with_reducible first | exact HB.out | apply below_alloc | apply pw_below_drewN | apply below_drew1) | exact HB.out))) : w.heap.size ≤ gb374)); clear HO366; clear HB; have HO366 := n0_; have HB := n1_; have BK374 := n2_; have GW374 := n3_; have GE374 := n4_; clear n0_ n1_ n2_ n3_ n4_; clear hb hbox hg; have hcz29_0 : w28.cell? ⟨gb374, 0, none⟩ = some (.int .u8 0) := (blk_cell BK374.out 0).trans rfl; have hcz29_1 : w28.cell? ⟨gb374, 1, none⟩ = some (.bool false) := (blk_cell BK374.out 1).trans rfl; have hcz29_2 : w28.cell? ⟨gb374, 2, none⟩ = some (.string (⟨#[]⟩ : ByteArray)) := (blk_cell BK374.out 2).trans rfl; have hfz29_0 := blk_frozen BK374.out 0; have hfz29_1 := blk_frozen BK374.out 1; have hfz29_2 := blk_frozen BK374.out 2) | ((with_reducible refine gate_callee (f := 52) rfl ?_); refine goesL_ (some 21) rfl rfl Try.func52 (by kernel_rfl) rfl #[.string (⟨#[61, 61, 61, 61, 61, 61, 61, 61, 10]⟩ : ByteArray), .int .i64 7] rfl (by (try simp only [List.map_toArray, List.map_cons, List.map_nil]); first | done | rfl | (simp only [List.length_drop, List.length_take]; rfl)) ?_; (with_reducible refine (mark_Read.calls k (⟨#[61, 61, 61, 61, 61, 61, 61, 61, 10]⟩ : ByteArray) 7 t375 t376 t377 false t379 _ A3.out).mono ?_); rintro e w30 ⟨rfl, hb⟩; refine ⟨_, rfl, ?_⟩; have n0_ := Aside0.mk (Kd.R_below (by (with_reducible repeat (first | apply Kd.R_alloc | apply Kd.R_drewN | apply Kd.R_drew)); exact (Kd.R_mono (Kd.R_far (p := ⟨gb374, 2, none⟩) (Kd.R_far (p := ⟨gb374, 1, none⟩) (Kd.R_far (p := ⟨gb374, 0, none⟩) (Kd.R_types HO366.out BK374.out (by decide)) (fun _ hk => hk.2) (.int .u8 t369)) (fun _ hk => hk.2) (.bool true)) (fun _ hk => hk.2) (.string t371)) (fun _ h_ => h_.1))) hb); have n1_ := Aside0.mk (blk_below (g := gb374) (o := .cells #[.int .u8 t369, .bool true, .string t371] 62 (0, 0)) (by (with_reducible repeat (first | refine blk_drewN ?_ _ | refine blk_drew ?_ | refine blk_alloc ?_ _)); refine blk_put (cs := #[.int .u8 t369, .bool true, .string (⟨#[]⟩ : ByteArray)]) ?_ 2 _ rfl; (with_reducible repeat (first | refine blk_drewN ?_ _ | refine blk_drew ?_ | refine blk_alloc ?_ _)); refine blk_put (cs := #[.int .u8 t369, .bool false, .string (⟨#[]⟩ : ByteArray)]) ?_ 1 _ rfl; (with_reducible repeat (first | refine blk_drewN ?_ _ | refine blk_drew ?_ | refine blk_alloc ?_ _)); refine blk_put (cs := #[.int .u8 0, .bool false, .string (⟨#[]⟩ : ByteArray)]) ?_ 0 _ rfl; (with_reducible repeat (first | refine blk_drewN ?_ _ | refine blk_drew ?_ | refine blk_alloc ?_ _)); exact BK374.out) hb); have n2_ := Aside0.mk (below_step (by repeat (first | (with_reducible first | exact HB.out | apply below_alloc | apply pw_below_drewN | apply below_drew1 | refine below_set ?_ GE374.out) | exact HB.out)) hb); clear HO366; clear BK374; clear HB; have HO366 := n0_; have BK374 := n1_; have HB := n2_; clear n0_ n1_ n2_; (try clear hb); (try clear hb2); (try clear hk); (try clear hi)) | ((with_reducible refine gate_dst (N := 6) rfl ?_); refine box_event ?hg (N := 6) ?hd (cs := #[.int .u8 0, .bool false, .string (⟨#[]⟩ : ByteArray)]) (t := 62) ?hr ?_; (case hd => rfl); (case hg => rfl); (case hr => first | (go_simp; done) | (go_simp; rfl)); intro gb380 hg w31 hbox hb; have n0_ := Aside0.mk (Kd.R_below (by (with_reducible repeat (first | apply Kd.R_alloc | apply Kd.R_drewN | apply Kd.R_drew)); exact HO366.out) hb); have n1_ := Aside0.mk (blk_below (g := gb374) (o := .cells #[.int .u8 t369, .bool true, .string t371] 62 (0, 0)) (by (with_reducible repeat (first | refine blk_drewN ?_ _ | refine blk_drew ?_ | refine blk_alloc ?_ _)); exact BK374.out) hb); have n2_ := Aside0.mk (below_step (by repeat (first | (with_reducible first | exact HB.out | apply below_alloc | apply pw_below_drewN | apply below_drew1 | refine below_set ?_ GE374.out) | exact HB.out)) hb); have n3_ := Aside0.mk (hbox); have n4_ := Aside0.mk ((by rw [hg]; exact (below_size (by repeat (first | (with_reducible first | exact HB.out | apply below_alloc | apply pw_below_drewN | apply below_drew1 | refine below_set ?_ GE374.out) | exact HB.out))) : w.heap.size ≤ gb380)); have n5_ := Aside0.mk ((by rw [hg]; exact (below_size (by repeat (first | (with_reducible first | exact HB.out | apply below_alloc | apply pw_below_drewN | apply below_drew1 | refine below_set ?_ GE374.out) | exact HB.out))) : w.heap.size ≤ gb380)); have n6_ := Aside0.mk ((by rw [hg]; exact Nat.ne_of_lt (blk_lt (g := gb374) (o := .cells #[.int .u8 t369, .bool true, .string t371] 62 (0, 0)) (by (with_reducible repeat (first | refine blk_drewN ?_ _ | refine blk_drew ?_ | refine blk_alloc ?_ _)); exact BK374.out)) : gb374 ≠ gb380)); have n7_ := Aside0.mk ((by rw [hg]; exact Nat.ne_of_gt (blk_lt (g := gb374) (o := .cells #[.int .u8 t369, .bool true, .string t371] 62 (0, 0)) (by (with_reducible repeat (first | refine blk_drewN ?_ _ | refine blk_drew ?_ | refine blk_alloc ?_ _)); exact BK374.out)) : gb380 ≠ gb374)); clear HO366; clear BK374; clear HB; have HO366 := n0_; have BK374 := n1_; have HB := n2_; have BK380 := n3_; have GW380 := n4_; have GE380 := n5_; have NB374_380 := n6_; have NB380_374 := n7_; clear n0_ n1_ n2_ n3_ n4_ n5_ n6_ n7_; clear hb hbox hg; have hnb32 := NB380_374.out; have hnc32 := NB374_380.out; have hcz33_0 : w31.cell? ⟨gb380, 0, none⟩ = some (.int .u8 0) := (blk_cell BK380.out 0).trans rfl; have hcz33_1 : w31.cell? ⟨gb380, 1, none⟩ = some (.bool false) := (blk_cell BK380.out 1).trans rfl; have hcz33_2 : w31.cell? ⟨gb380, 2, none⟩ = some (.string (⟨#[]⟩ : ByteArray)) := (blk_cell BK380.out 2).trans rfl; have hfz33_0 := blk_frozen BK380.out 0; have hfz33_1 := blk_frozen BK380.out 1; have hfz33_2 := blk_frozen BK380.out 2; have hcz34_0 : w31.cell? ⟨gb374, 0, none⟩ = some (.int .u8 t369) := (blk_cell BK374.out 0).trans rfl; have hcz34_1 : w31.cell? ⟨gb374, 1, none⟩ = some (.bool true) := (blk_cell BK374.out 1).trans rfl; have hcz34_2 : w31.cell? ⟨gb374, 2, none⟩ = some (.string t371) := (blk_cell BK374.out 2).trans rfl; have hfz34_0 := blk_frozen BK374.out 0; have hfz34_1 := blk_frozen BK374.out 1; have hfz34_2 := blk_frozen BK374.out 2))
                go_ret
                exact ⟨by first | rfl | (simp [errW_none, errW_some] <;> rfl) | (simp [*, errW_none, errW_some] <;> rfl), by repeat (first | (with_reducible first | exact HB.out | apply below_alloc | apply pw_below_drewN | apply below_drew1 | refine below_set ?_ GE374.out | refine below_set ?_ GE380.out) | exact HB.out)⟩
            · rw [if_neg c9] at H
              have c9b0 : (t369 == 61) = false := beq_eq_false_iff_ne.mpr c9
              have c9b1 : (t369 != 61) = true := bne_iff_ne.mpr c9
              obtain rfl := Option.some.inj H
              go_enter Try.func45, Try.ntmps45
              go_wp2_with (first | ((with_reducible refine gate_dst (N := 11) rfl ?_); refine Kd.R_lit k106 _ 106 ?hg (N := 11) ?hd (xs := ([(⟨(⟨(⟨#[]⟩ : ByteArray), (⟨#[]⟩ : ByteArray), (⟨#[]⟩ : ByteArray)⟩ : S84), true, (⟨#[]⟩ : ByteArray), (⟨#[97]⟩ : ByteArray), (⟨#[]⟩ : ByteArray), (⟨#[98, 10]⟩ : ByteArray), false⟩ : S106)] : List (S106))) (inner := [.string (⟨#[]⟩ : ByteArray), .string (⟨#[]⟩ : ByteArray), .string (⟨#[]⟩ : ByteArray), .bool true, .string (⟨#[]⟩ : ByteArray), .string (⟨#[97]⟩ : ByteArray), .string (⟨#[]⟩ : ByteArray), .string (⟨#[98, 10]⟩ : ByteArray), .bool false]) (ok := fun _ => True) (okp := fun _ => True) ?hr ?hp (fun _ hk => hk) trivial (Below.refl _ _) (Nat.le_refl _) (by simp) ?_; (case hd => rfl); (case hg => rfl); (case hr => first | (go_simp; done) | (go_simp; rfl)); (case hp => exact (Reps.c9 (show Kd.M k106 _ _ _ (⟨(⟨(⟨#[]⟩ : ByteArray), (⟨#[]⟩ : ByteArray), (⟨#[]⟩ : ByteArray)⟩ : S84), true, (⟨#[]⟩ : ByteArray), (⟨#[97]⟩ : ByteArray), (⟨#[]⟩ : ByteArray), (⟨#[98, 10]⟩ : ByteArray), false⟩ : S106) [.string (⟨#[]⟩ : ByteArray), .string (⟨#[]⟩ : ByteArray), .string (⟨#[]⟩ : ByteArray), .bool true, .string (⟨#[]⟩ : ByteArray), .string (⟨#[97]⟩ : ByteArray), .string (⟨#[]⟩ : ByteArray), .string (⟨#[98, 10]⟩ : ByteArray), .bool false] from (k106_mkM _ _ _ (⟨(⟨(⟨#[]⟩ : ByteArray), (⟨#[]⟩ : ByteArray), (⟨#[]⟩ : ByteArray)⟩ : S84), true, (⟨#[]⟩ : ByteArray), (⟨#[97]⟩ : ByteArray), (⟨#[]⟩ : ByteArray), (⟨#[98, 10]⟩ : ByteArray), false⟩ : S106) )) (Reps.none _ _))); intro v365 w35 ho36 hb hg_ hnew_; clear hg_ hnew_; (first | rw [← Ny364.out] at ho36 | (simp only [Int.reduceToNat] at ho36; rw [← Ny364.out] at ho36)); have n0_ := Aside0.mk (Kd.R_lower ho36 (below_size (by repeat (first | (with_reducible first | exact HB.out | apply below_alloc | apply pw_below_drewN | apply below_drew1) | exact HB.out)))); have n1_ := Aside0.mk (below_step (by repeat (first | (with_reducible first | exact HB.out | apply below_alloc | apply pw_below_drewN | apply below_drew1) | exact HB.out)) hb); clear HB; have HO366 := n0_; have HB := n1_; clear n0_ n1_; clear hb ho36; obtain ⟨Ao37, co37, eo37⟩ := Kd.R_slice HO366.out; subst eo37) | ((with_reducible refine gate_callee (f := 47) rfl ?_); refine goesL_ (some 12) rfl rfl Try.func47 (by kernel_rfl) rfl #[.slice Ao37 y364.length co37, .int .i64 7] rfl (by (try simp only [List.map_toArray, List.map_cons, List.map_nil]); first | done | rfl | (simp only [List.length_drop, List.length_take]; rfl)) ?_; (with_reducible refine (mark_Print.calls k _ _ y364 7 t367 t368 _ ?side1 ?side2 A1.out).mono ?_); (case side1 => repeat (first | exact (Kd.R_reads' HO366.out).2.2 | (with_reducible refine Kd.C_alloc ?_ _) | (with_reducible refine Kd.C_drewN ?_ _) | (with_reducible refine Kd.C_drew ?_))); (case side2 => exact (Kd.R_reads' HO366.out).2.1); rintro e w38 ⟨rfl, hb⟩; refine ⟨_, rfl, ?_⟩; have n0_ := Aside0.mk (Kd.R_below (by (with_reducible repeat (first | apply Kd.R_alloc | apply Kd.R_drewN | apply Kd.R_drew)); exact HO366.out) hb); have n1_ := Aside0.mk (below_step (by repeat (first | (with_reducible first | exact HB.out | apply below_alloc | apply pw_below_drewN | apply below_drew1) | exact HB.out)) hb); clear HO366; clear HB; have HO366 := n0_; have HB := n1_; clear n0_ n1_; (try clear hb); (try clear hb2); (try clear hk); (try clear hi)) | ((with_reducible refine gate_callee (f := 52) rfl ?_); refine goesL_ (some 16) rfl rfl Try.func52 (by kernel_rfl) rfl #[.string (⟨#[61, 61, 61, 61, 61, 61, 61, 33, 10]⟩ : ByteArray), .int .i64 7] rfl (by (try simp only [List.map_toArray, List.map_cons, List.map_nil]); first | done | rfl | (simp only [List.length_drop, List.length_take]; rfl)) ?_; (with_reducible refine (mark_Read.calls k (⟨#[61, 61, 61, 61, 61, 61, 61, 33, 10]⟩ : ByteArray) 7 t369 true t371 true t373 _ A2.out).mono ?_); rintro e w39 ⟨rfl, hb⟩; refine ⟨_, rfl, ?_⟩; have n0_ := Aside0.mk (Kd.R_below (by (with_reducible repeat (first | apply Kd.R_alloc | apply Kd.R_drewN | apply Kd.R_drew)); exact HO366.out) hb); have n1_ := Aside0.mk (below_step (by repeat (first | (with_reducible first | exact HB.out | apply below_alloc | apply pw_below_drewN | apply below_drew1) | exact HB.out)) hb); clear HO366; clear HB; have HO366 := n0_; have HB := n1_; clear n0_ n1_; (try clear hb); (try clear hb2); (try clear hk); (try clear hi)) | ((with_reducible refine gate_dst (N := 3) rfl ?_); refine box_event ?hg (N := 3) ?hd (cs := #[.int .u8 0, .bool false, .string (⟨#[]⟩ : ByteArray)]) (t := 62) ?hr ?_; (case hd => rfl); (case hg => rfl); (case hr => first | (go_simp; done) | (go_simp; rfl)); intro gb374 hg w40 hbox hb; have n0_ := Aside0.mk (Kd.R_below (by (with_reducible repeat (first | apply Kd.R_alloc | apply Kd.R_drewN | apply Kd.R_drew)); exact HO366.out) hb); have n1_ := Aside0.mk (below_step (by repeat (first | (with_reducible first | exact HB.out | apply below_alloc | apply pw_below_drewN | apply below_drew1) | exact HB.out)) hb); have n2_ := Aside0.mk (hbox); have n3_ := Aside0.mk ((by rw [hg]; exact (below_size (by repeat (first | (with_reducible first | exact HB.out | apply below_alloc | apply pw_below_drewN | apply below_drew1) | exact HB.out))) : w.heap.size ≤ gb374)); have n4_ := Aside0.mk ((by rw [hg]; exact (below_size (by repeat (first | (with_reducible first | exact HB.out | apply below_alloc | apply pw_below_drewN | apply below_drew1) | exact HB.out))) : w.heap.size ≤ gb374)); clear HO366; clear HB; have HO366 := n0_; have HB := n1_; have BK374 := n2_; have GW374 := n3_; have GE374 := n4_; clear n0_ n1_ n2_ n3_ n4_; clear hb hbox hg; have hcz41_0 : w40.cell? ⟨gb374, 0, none⟩ = some (.int .u8 0) := (blk_cell BK374.out 0).trans rfl; have hcz41_1 : w40.cell? ⟨gb374, 1, none⟩ = some (.bool false) := (blk_cell BK374.out 1).trans rfl; have hcz41_2 : w40.cell? ⟨gb374, 2, none⟩ = some (.string (⟨#[]⟩ : ByteArray)) := (blk_cell BK374.out 2).trans rfl; have hfz41_0 := blk_frozen BK374.out 0; have hfz41_1 := blk_frozen BK374.out 1; have hfz41_2 := blk_frozen BK374.out 2) | ((with_reducible refine gate_callee (f := 52) rfl ?_); refine goesL_ (some 21) rfl rfl Try.func52 (by kernel_rfl) rfl #[.string (⟨#[61, 61, 61, 61, 61, 61, 61, 61, 10]⟩ : ByteArray), .int .i64 7] rfl (by (try simp only [List.map_toArray, List.map_cons, List.map_nil]); first | done | rfl | (simp only [List.length_drop, List.length_take]; rfl)) ?_; (with_reducible refine (mark_Read.calls k (⟨#[61, 61, 61, 61, 61, 61, 61, 61, 10]⟩ : ByteArray) 7 t375 t376 t377 t378 t379 _ A3.out).mono ?_); rintro e w42 ⟨rfl, hb⟩; refine ⟨_, rfl, ?_⟩; have n0_ := Aside0.mk (Kd.R_below (by (with_reducible repeat (first | apply Kd.R_alloc | apply Kd.R_drewN | apply Kd.R_drew)); exact (Kd.R_mono (Kd.R_far (p := ⟨gb374, 2, none⟩) (Kd.R_far (p := ⟨gb374, 1, none⟩) (Kd.R_far (p := ⟨gb374, 0, none⟩) (Kd.R_types HO366.out BK374.out (by decide)) (fun _ hk => hk.2) (.int .u8 t369)) (fun _ hk => hk.2) (.bool true)) (fun _ hk => hk.2) (.string t371)) (fun _ h_ => h_.1))) hb); have n1_ := Aside0.mk (blk_below (g := gb374) (o := .cells #[.int .u8 t369, .bool true, .string t371] 62 (0, 0)) (by (with_reducible repeat (first | refine blk_drewN ?_ _ | refine blk_drew ?_ | refine blk_alloc ?_ _)); refine blk_put (cs := #[.int .u8 t369, .bool true, .string (⟨#[]⟩ : ByteArray)]) ?_ 2 _ rfl; (with_reducible repeat (first | refine blk_drewN ?_ _ | refine blk_drew ?_ | refine blk_alloc ?_ _)); refine blk_put (cs := #[.int .u8 t369, .bool false, .string (⟨#[]⟩ : ByteArray)]) ?_ 1 _ rfl; (with_reducible repeat (first | refine blk_drewN ?_ _ | refine blk_drew ?_ | refine blk_alloc ?_ _)); refine blk_put (cs := #[.int .u8 0, .bool false, .string (⟨#[]⟩ : ByteArray)]) ?_ 0 _ rfl; (with_reducible repeat (first | refine blk_drewN ?_ _ | refine blk_drew ?_ | refine blk_alloc ?_ _)); exact BK374.out) hb); have n2_ := Aside0.mk (below_step (by repeat (first | (with_reducible first | exact HB.out | apply below_alloc | apply pw_below_drewN | apply below_drew1 | refine below_set ?_ GE374.out) | exact HB.out)) hb); clear HO366; clear BK374; clear HB; have HO366 := n0_; have BK374 := n1_; have HB := n2_; clear n0_ n1_ n2_; (try clear hb); (try clear hb2); (try clear hk); (try clear hi)) | ((with_reducible refine gate_dst (N := 6) rfl ?_); refine box_event ?hg (N := 6) ?hd (cs := #[.int .u8 0, .bool false, .string (⟨#[]⟩ : ByteArray)]) (t := 62) ?hr ?_; (case hd => rfl); (case hg => rfl); (case hr => first | (go_simp; done) | (go_simp; rfl)); intro gb380 hg w43 hbox hb; have n0_ := Aside0.mk (Kd.R_below (by (with_reducible repeat (first | apply Kd.R_alloc | apply Kd.R_drewN | apply Kd.R_drew)); exact HO366.out) hb); have n1_ := Aside0.mk (blk_below (g := gb374) (o := .cells #[.int .u8 t369, .bool true, .string t371] 62 (0, 0)) (by (with_reducible repeat (first | refine blk_drewN ?_ _ | refine blk_drew ?_ | refine blk_alloc ?_ _)); exact BK374.out) hb); have n2_ := Aside0.mk (below_step (by repeat (first | (with_reducible first | exact HB.out | apply below_alloc | apply pw_below_drewN | apply below_drew1 | refine below_set ?_ GE374.out) | exact HB.out)) hb); have n3_ := Aside0.mk (hbox); have n4_ := Aside0.mk ((by rw [hg]; exact (below_size (by repeat (first | (with_reducible first | exact HB.out | apply below_alloc | apply pw_below_drewN | apply below_drew1 | refine below_set ?_ GE374.out) | exact HB.out))) : w.heap.size ≤ gb380)); have n5_ := Aside0.mk ((by rw [hg]; exact (below_size (by repeat (first | (with_reducible first | exact HB.out | apply below_alloc | apply pw_below_drewN | apply below_drew1 | refine below_set ?_ GE374.out) | exact HB.out))) : w.heap.size ≤ gb380)); have n6_ := Aside0.mk ((by rw [hg]; exact Nat.ne_of_lt (blk_lt (g := gb374) (o := .cells #[.int .u8 t369, .bool true, .string t371] 62 (0, 0)) (by (with_reducible repeat (first | refine blk_drewN ?_ _ | refine blk_drew ?_ | refine blk_alloc ?_ _)); exact BK374.out)) : gb374 ≠ gb380)); have n7_ := Aside0.mk ((by rw [hg]; exact Nat.ne_of_gt (blk_lt (g := gb374) (o := .cells #[.int .u8 t369, .bool true, .string t371] 62 (0, 0)) (by (with_reducible repeat (first | refine blk_drewN ?_ _ | refine blk_drew ?_ | refine blk_alloc ?_ _)); exact BK374.out)) : gb380 ≠ gb374)); clear HO366; clear BK374; clear HB; have HO366 := n0_; have BK374 := n1_; have HB := n2_; have BK380 := n3_; have GW380 := n4_; have GE380 := n5_; have NB374_380 := n6_; have NB380_374 := n7_; clear n0_ n1_ n2_ n3_ n4_ n5_ n6_ n7_; clear hb hbox hg; have hnb44 := NB380_374.out; have hnc44 := NB374_380.out; have hcz45_0 : w43.cell? ⟨gb380, 0, none⟩ = some (.int .u8 0) := (blk_cell BK380.out 0).trans rfl; have hcz45_1 : w43.cell? ⟨gb380, 1, none⟩ = some (.bool false) := (blk_cell BK380.out 1).trans rfl; have hcz45_2 : w43.cell? ⟨gb380, 2, none⟩ = some (.string (⟨#[]⟩ : ByteArray)) := (blk_cell BK380.out 2).trans rfl; have hfz45_0 := blk_frozen BK380.out 0; have hfz45_1 := blk_frozen BK380.out 1; have hfz45_2 := blk_frozen BK380.out 2; have hcz46_0 : w43.cell? ⟨gb374, 0, none⟩ = some (.int .u8 t369) := (blk_cell BK374.out 0).trans rfl; have hcz46_1 : w43.cell? ⟨gb374, 1, none⟩ = some (.bool true) := (blk_cell BK374.out 1).trans rfl; have hcz46_2 : w43.cell? ⟨gb374, 2, none⟩ = some (.string t371) := (blk_cell BK374.out 2).trans rfl; have hfz46_0 := blk_frozen BK374.out 0; have hfz46_1 := blk_frozen BK374.out 1; have hfz46_2 := blk_frozen BK374.out 2))
              go_ret
              exact ⟨by first | rfl | (simp [errW_none, errW_some] <;> rfl) | (simp [*, errW_none, errW_some] <;> rfl), by repeat (first | (with_reducible first | exact HB.out | apply below_alloc | apply pw_below_drewN | apply below_drew1 | refine below_set ?_ GE374.out | refine below_set ?_ GE380.out) | exact HB.out)⟩
          · replace c8 := Bool.eq_false_iff.mpr c8
            subst c8
            have H1 : (some false) = some r := by rw [if_neg (show ¬ (false = true) by decide)] at H; exact H
            clear H
            have H := H1
            clear H1
            obtain rfl := Option.some.inj H
            go_enter Try.func45, Try.ntmps45
            go_wp2_with (first | ((with_reducible refine gate_dst (N := 11) rfl ?_); refine Kd.R_lit k106 _ 106 ?hg (N := 11) ?hd (xs := ([(⟨(⟨(⟨#[]⟩ : ByteArray), (⟨#[]⟩ : ByteArray), (⟨#[]⟩ : ByteArray)⟩ : S84), true, (⟨#[]⟩ : ByteArray), (⟨#[97]⟩ : ByteArray), (⟨#[]⟩ : ByteArray), (⟨#[98, 10]⟩ : ByteArray), false⟩ : S106)] : List (S106))) (inner := [.string (⟨#[]⟩ : ByteArray), .string (⟨#[]⟩ : ByteArray), .string (⟨#[]⟩ : ByteArray), .bool true, .string (⟨#[]⟩ : ByteArray), .string (⟨#[97]⟩ : ByteArray), .string (⟨#[]⟩ : ByteArray), .string (⟨#[98, 10]⟩ : ByteArray), .bool false]) (ok := fun _ => True) (okp := fun _ => True) ?hr ?hp (fun _ hk => hk) trivial (Below.refl _ _) (Nat.le_refl _) (by simp) ?_; (case hd => rfl); (case hg => rfl); (case hr => first | (go_simp; done) | (go_simp; rfl)); (case hp => exact (Reps.c9 (show Kd.M k106 _ _ _ (⟨(⟨(⟨#[]⟩ : ByteArray), (⟨#[]⟩ : ByteArray), (⟨#[]⟩ : ByteArray)⟩ : S84), true, (⟨#[]⟩ : ByteArray), (⟨#[97]⟩ : ByteArray), (⟨#[]⟩ : ByteArray), (⟨#[98, 10]⟩ : ByteArray), false⟩ : S106) [.string (⟨#[]⟩ : ByteArray), .string (⟨#[]⟩ : ByteArray), .string (⟨#[]⟩ : ByteArray), .bool true, .string (⟨#[]⟩ : ByteArray), .string (⟨#[97]⟩ : ByteArray), .string (⟨#[]⟩ : ByteArray), .string (⟨#[98, 10]⟩ : ByteArray), .bool false] from (k106_mkM _ _ _ (⟨(⟨(⟨#[]⟩ : ByteArray), (⟨#[]⟩ : ByteArray), (⟨#[]⟩ : ByteArray)⟩ : S84), true, (⟨#[]⟩ : ByteArray), (⟨#[97]⟩ : ByteArray), (⟨#[]⟩ : ByteArray), (⟨#[98, 10]⟩ : ByteArray), false⟩ : S106) )) (Reps.none _ _))); intro v365 w47 ho48 hb hg_ hnew_; clear hg_ hnew_; (first | rw [← Ny364.out] at ho48 | (simp only [Int.reduceToNat] at ho48; rw [← Ny364.out] at ho48)); have n0_ := Aside0.mk (Kd.R_lower ho48 (below_size (by repeat (first | (with_reducible first | exact HB.out | apply below_alloc | apply pw_below_drewN | apply below_drew1) | exact HB.out)))); have n1_ := Aside0.mk (below_step (by repeat (first | (with_reducible first | exact HB.out | apply below_alloc | apply pw_below_drewN | apply below_drew1) | exact HB.out)) hb); clear HB; have HO366 := n0_; have HB := n1_; clear n0_ n1_; clear hb ho48; obtain ⟨Ao49, co49, eo49⟩ := Kd.R_slice HO366.out; subst eo49) | ((with_reducible refine gate_callee (f := 47) rfl ?_); refine goesL_ (some 12) rfl rfl Try.func47 (by kernel_rfl) rfl #[.slice Ao49 y364.length co49, .int .i64 7] rfl (by (try simp only [List.map_toArray, List.map_cons, List.map_nil]); first | done | rfl | (simp only [List.length_drop, List.length_take]; rfl)) ?_; (with_reducible refine (mark_Print.calls k _ _ y364 7 t367 t368 _ ?side1 ?side2 A1.out).mono ?_); (case side1 => repeat (first | exact (Kd.R_reads' HO366.out).2.2 | (with_reducible refine Kd.C_alloc ?_ _) | (with_reducible refine Kd.C_drewN ?_ _) | (with_reducible refine Kd.C_drew ?_))); (case side2 => exact (Kd.R_reads' HO366.out).2.1); rintro e w50 ⟨rfl, hb⟩; refine ⟨_, rfl, ?_⟩; have n0_ := Aside0.mk (Kd.R_below (by (with_reducible repeat (first | apply Kd.R_alloc | apply Kd.R_drewN | apply Kd.R_drew)); exact HO366.out) hb); have n1_ := Aside0.mk (below_step (by repeat (first | (with_reducible first | exact HB.out | apply below_alloc | apply pw_below_drewN | apply below_drew1) | exact HB.out)) hb); clear HO366; clear HB; have HO366 := n0_; have HB := n1_; clear n0_ n1_; (try clear hb); (try clear hb2); (try clear hk); (try clear hi)) | ((with_reducible refine gate_callee (f := 52) rfl ?_); refine goesL_ (some 16) rfl rfl Try.func52 (by kernel_rfl) rfl #[.string (⟨#[61, 61, 61, 61, 61, 61, 61, 33, 10]⟩ : ByteArray), .int .i64 7] rfl (by (try simp only [List.map_toArray, List.map_cons, List.map_nil]); first | done | rfl | (simp only [List.length_drop, List.length_take]; rfl)) ?_; (with_reducible refine (mark_Read.calls k (⟨#[61, 61, 61, 61, 61, 61, 61, 33, 10]⟩ : ByteArray) 7 t369 false t371 true t373 _ A2.out).mono ?_); rintro e w51 ⟨rfl, hb⟩; refine ⟨_, rfl, ?_⟩; have n0_ := Aside0.mk (Kd.R_below (by (with_reducible repeat (first | apply Kd.R_alloc | apply Kd.R_drewN | apply Kd.R_drew)); exact HO366.out) hb); have n1_ := Aside0.mk (below_step (by repeat (first | (with_reducible first | exact HB.out | apply below_alloc | apply pw_below_drewN | apply below_drew1) | exact HB.out)) hb); clear HO366; clear HB; have HO366 := n0_; have HB := n1_; clear n0_ n1_; (try clear hb); (try clear hb2); (try clear hk); (try clear hi)) | ((with_reducible refine gate_dst (N := 3) rfl ?_); refine box_event ?hg (N := 3) ?hd (cs := #[.int .u8 0, .bool false, .string (⟨#[]⟩ : ByteArray)]) (t := 62) ?hr ?_; (case hd => rfl); (case hg => rfl); (case hr => first | (go_simp; done) | (go_simp; rfl)); intro gb374 hg w52 hbox hb; have n0_ := Aside0.mk (Kd.R_below (by (with_reducible repeat (first | apply Kd.R_alloc | apply Kd.R_drewN | apply Kd.R_drew)); exact HO366.out) hb); have n1_ := Aside0.mk (below_step (by repeat (first | (with_reducible first | exact HB.out | apply below_alloc | apply pw_below_drewN | apply below_drew1) | exact HB.out)) hb); have n2_ := Aside0.mk (hbox); have n3_ := Aside0.mk ((by rw [hg]; exact (below_size (by repeat (first | (with_reducible first | exact HB.out | apply below_alloc | apply pw_below_drewN | apply below_drew1) | exact HB.out))) : w.heap.size ≤ gb374)); have n4_ := Aside0.mk ((by rw [hg]; exact (below_size (by repeat (first | (with_reducible first | exact HB.out | apply below_alloc | apply pw_below_drewN | apply below_drew1) | exact HB.out))) : w.heap.size ≤ gb374)); clear HO366; clear HB; have HO366 := n0_; have HB := n1_; have BK374 := n2_; have GW374 := n3_; have GE374 := n4_; clear n0_ n1_ n2_ n3_ n4_; clear hb hbox hg; have hcz53_0 : w52.cell? ⟨gb374, 0, none⟩ = some (.int .u8 0) := (blk_cell BK374.out 0).trans rfl; have hcz53_1 : w52.cell? ⟨gb374, 1, none⟩ = some (.bool false) := (blk_cell BK374.out 1).trans rfl; have hcz53_2 : w52.cell? ⟨gb374, 2, none⟩ = some (.string (⟨#[]⟩ : ByteArray)) := (blk_cell BK374.out 2).trans rfl; have hfz53_0 := blk_frozen BK374.out 0; have hfz53_1 := blk_frozen BK374.out 1; have hfz53_2 := blk_frozen BK374.out 2) | ((with_reducible refine gate_callee (f := 52) rfl ?_); refine goesL_ (some 21) rfl rfl Try.func52 (by kernel_rfl) rfl #[.string (⟨#[61, 61, 61, 61, 61, 61, 61, 61, 10]⟩ : ByteArray), .int .i64 7] rfl (by (try simp only [List.map_toArray, List.map_cons, List.map_nil]); first | done | rfl | (simp only [List.length_drop, List.length_take]; rfl)) ?_; (with_reducible refine (mark_Read.calls k (⟨#[61, 61, 61, 61, 61, 61, 61, 61, 10]⟩ : ByteArray) 7 t375 t376 t377 t378 t379 _ A3.out).mono ?_); rintro e w54 ⟨rfl, hb⟩; refine ⟨_, rfl, ?_⟩; have n0_ := Aside0.mk (Kd.R_below (by (with_reducible repeat (first | apply Kd.R_alloc | apply Kd.R_drewN | apply Kd.R_drew)); exact (Kd.R_mono (Kd.R_far (p := ⟨gb374, 2, none⟩) (Kd.R_far (p := ⟨gb374, 1, none⟩) (Kd.R_far (p := ⟨gb374, 0, none⟩) (Kd.R_types HO366.out BK374.out (by decide)) (fun _ hk => hk.2) (.int .u8 t369)) (fun _ hk => hk.2) (.bool false)) (fun _ hk => hk.2) (.string t371)) (fun _ h_ => h_.1))) hb); have n1_ := Aside0.mk (blk_below (g := gb374) (o := .cells #[.int .u8 t369, .bool false, .string t371] 62 (0, 0)) (by (with_reducible repeat (first | refine blk_drewN ?_ _ | refine blk_drew ?_ | refine blk_alloc ?_ _)); refine blk_put (cs := #[.int .u8 t369, .bool false, .string (⟨#[]⟩ : ByteArray)]) ?_ 2 _ rfl; (with_reducible repeat (first | refine blk_drewN ?_ _ | refine blk_drew ?_ | refine blk_alloc ?_ _)); refine blk_put (cs := #[.int .u8 t369, .bool false, .string (⟨#[]⟩ : ByteArray)]) ?_ 1 _ rfl; (with_reducible repeat (first | refine blk_drewN ?_ _ | refine blk_drew ?_ | refine blk_alloc ?_ _)); refine blk_put (cs := #[.int .u8 0, .bool false, .string (⟨#[]⟩ : ByteArray)]) ?_ 0 _ rfl; (with_reducible repeat (first | refine blk_drewN ?_ _ | refine blk_drew ?_ | refine blk_alloc ?_ _)); exact BK374.out) hb); have n2_ := Aside0.mk (below_step (by repeat (first | (with_reducible first | exact HB.out | apply below_alloc | apply pw_below_drewN | apply below_drew1 | refine below_set ?_ GE374.out) | exact HB.out)) hb); clear HO366; clear BK374; clear HB; have HO366 := n0_; have BK374 := n1_; have HB := n2_; clear n0_ n1_ n2_; (try clear hb); (try clear hb2); (try clear hk); (try clear hi)) | ((with_reducible refine gate_dst (N := 6) rfl ?_); refine box_event ?hg (N := 6) ?hd (cs := #[.int .u8 0, .bool false, .string (⟨#[]⟩ : ByteArray)]) (t := 62) ?hr ?_; (case hd => rfl); (case hg => rfl); (case hr => first | (go_simp; done) | (go_simp; rfl)); intro gb380 hg w55 hbox hb; have n0_ := Aside0.mk (Kd.R_below (by (with_reducible repeat (first | apply Kd.R_alloc | apply Kd.R_drewN | apply Kd.R_drew)); exact HO366.out) hb); have n1_ := Aside0.mk (blk_below (g := gb374) (o := .cells #[.int .u8 t369, .bool false, .string t371] 62 (0, 0)) (by (with_reducible repeat (first | refine blk_drewN ?_ _ | refine blk_drew ?_ | refine blk_alloc ?_ _)); exact BK374.out) hb); have n2_ := Aside0.mk (below_step (by repeat (first | (with_reducible first | exact HB.out | apply below_alloc | apply pw_below_drewN | apply below_drew1 | refine below_set ?_ GE374.out) | exact HB.out)) hb); have n3_ := Aside0.mk (hbox); have n4_ := Aside0.mk ((by rw [hg]; exact (below_size (by repeat (first | (with_reducible first | exact HB.out | apply below_alloc | apply pw_below_drewN | apply below_drew1 | refine below_set ?_ GE374.out) | exact HB.out))) : w.heap.size ≤ gb380)); have n5_ := Aside0.mk ((by rw [hg]; exact (below_size (by repeat (first | (with_reducible first | exact HB.out | apply below_alloc | apply pw_below_drewN | apply below_drew1 | refine below_set ?_ GE374.out) | exact HB.out))) : w.heap.size ≤ gb380)); have n6_ := Aside0.mk ((by rw [hg]; exact Nat.ne_of_lt (blk_lt (g := gb374) (o := .cells #[.int .u8 t369, .bool false, .string t371] 62 (0, 0)) (by (with_reducible repeat (first | refine blk_drewN ?_ _ | refine blk_drew ?_ | refine blk_alloc ?_ _)); exact BK374.out)) : gb374 ≠ gb380)); have n7_ := Aside0.mk ((by rw [hg]; exact Nat.ne_of_gt (blk_lt (g := gb374) (o := .cells #[.int .u8 t369, .bool false, .string t371] 62 (0, 0)) (by (with_reducible repeat (first | refine blk_drewN ?_ _ | refine blk_drew ?_ | refine blk_alloc ?_ _)); exact BK374.out)) : gb380 ≠ gb374)); clear HO366; clear BK374; clear HB; have HO366 := n0_; have BK374 := n1_; have HB := n2_; have BK380 := n3_; have GW380 := n4_; have GE380 := n5_; have NB374_380 := n6_; have NB380_374 := n7_; clear n0_ n1_ n2_ n3_ n4_ n5_ n6_ n7_; clear hb hbox hg; have hnb56 := NB380_374.out; have hnc56 := NB374_380.out; have hcz57_0 : w55.cell? ⟨gb380, 0, none⟩ = some (.int .u8 0) := (blk_cell BK380.out 0).trans rfl; have hcz57_1 : w55.cell? ⟨gb380, 1, none⟩ = some (.bool false) := (blk_cell BK380.out 1).trans rfl; have hcz57_2 : w55.cell? ⟨gb380, 2, none⟩ = some (.string (⟨#[]⟩ : ByteArray)) := (blk_cell BK380.out 2).trans rfl; have hfz57_0 := blk_frozen BK380.out 0; have hfz57_1 := blk_frozen BK380.out 1; have hfz57_2 := blk_frozen BK380.out 2; have hcz58_0 : w55.cell? ⟨gb374, 0, none⟩ = some (.int .u8 t369) := (blk_cell BK374.out 0).trans rfl; have hcz58_1 : w55.cell? ⟨gb374, 1, none⟩ = some (.bool false) := (blk_cell BK374.out 1).trans rfl; have hcz58_2 : w55.cell? ⟨gb374, 2, none⟩ = some (.string t371) := (blk_cell BK374.out 2).trans rfl; have hfz58_0 := blk_frozen BK374.out 0; have hfz58_1 := blk_frozen BK374.out 1; have hfz58_2 := blk_frozen BK374.out 2))
            go_ret
            exact ⟨by first | rfl | (simp [errW_none, errW_some] <;> rfl) | (simp [*, errW_none, errW_some] <;> rfl), by repeat (first | (with_reducible first | exact HB.out | apply below_alloc | apply pw_below_drewN | apply below_drew1 | refine below_set ?_ GE374.out | refine below_set ?_ GE380.out) | exact HB.out)⟩
        · rw [if_neg c7] at H
          have c7b0 : (t373 == 0) = false := beq_eq_false_iff_ne.mpr c7
          have c7b1 : (t373 != 0) = true := bne_iff_ne.mpr c7
          obtain rfl := Option.some.inj H
          go_enter Try.func45, Try.ntmps45
          go_wp2_with (first | ((with_reducible refine gate_dst (N := 11) rfl ?_); refine Kd.R_lit k106 _ 106 ?hg (N := 11) ?hd (xs := ([(⟨(⟨(⟨#[]⟩ : ByteArray), (⟨#[]⟩ : ByteArray), (⟨#[]⟩ : ByteArray)⟩ : S84), true, (⟨#[]⟩ : ByteArray), (⟨#[97]⟩ : ByteArray), (⟨#[]⟩ : ByteArray), (⟨#[98, 10]⟩ : ByteArray), false⟩ : S106)] : List (S106))) (inner := [.string (⟨#[]⟩ : ByteArray), .string (⟨#[]⟩ : ByteArray), .string (⟨#[]⟩ : ByteArray), .bool true, .string (⟨#[]⟩ : ByteArray), .string (⟨#[97]⟩ : ByteArray), .string (⟨#[]⟩ : ByteArray), .string (⟨#[98, 10]⟩ : ByteArray), .bool false]) (ok := fun _ => True) (okp := fun _ => True) ?hr ?hp (fun _ hk => hk) trivial (Below.refl _ _) (Nat.le_refl _) (by simp) ?_; (case hd => rfl); (case hg => rfl); (case hr => first | (go_simp; done) | (go_simp; rfl)); (case hp => exact (Reps.c9 (show Kd.M k106 _ _ _ (⟨(⟨(⟨#[]⟩ : ByteArray), (⟨#[]⟩ : ByteArray), (⟨#[]⟩ : ByteArray)⟩ : S84), true, (⟨#[]⟩ : ByteArray), (⟨#[97]⟩ : ByteArray), (⟨#[]⟩ : ByteArray), (⟨#[98, 10]⟩ : ByteArray), false⟩ : S106) [.string (⟨#[]⟩ : ByteArray), .string (⟨#[]⟩ : ByteArray), .string (⟨#[]⟩ : ByteArray), .bool true, .string (⟨#[]⟩ : ByteArray), .string (⟨#[97]⟩ : ByteArray), .string (⟨#[]⟩ : ByteArray), .string (⟨#[98, 10]⟩ : ByteArray), .bool false] from (k106_mkM _ _ _ (⟨(⟨(⟨#[]⟩ : ByteArray), (⟨#[]⟩ : ByteArray), (⟨#[]⟩ : ByteArray)⟩ : S84), true, (⟨#[]⟩ : ByteArray), (⟨#[97]⟩ : ByteArray), (⟨#[]⟩ : ByteArray), (⟨#[98, 10]⟩ : ByteArray), false⟩ : S106) )) (Reps.none _ _))); intro v365 w59 ho60 hb hg_ hnew_; clear hg_ hnew_; (first | rw [← Ny364.out] at ho60 | (simp only [Int.reduceToNat] at ho60; rw [← Ny364.out] at ho60)); have n0_ := Aside0.mk (Kd.R_lower ho60 (below_size (by repeat (first | (with_reducible first | exact HB.out | apply below_alloc | apply pw_below_drewN | apply below_drew1) | exact HB.out)))); have n1_ := Aside0.mk (below_step (by repeat (first | (with_reducible first | exact HB.out | apply below_alloc | apply pw_below_drewN | apply below_drew1) | exact HB.out)) hb); clear HB; have HO366 := n0_; have HB := n1_; clear n0_ n1_; clear hb ho60; obtain ⟨Ao61, co61, eo61⟩ := Kd.R_slice HO366.out; subst eo61) | ((with_reducible refine gate_callee (f := 47) rfl ?_); refine goesL_ (some 12) rfl rfl Try.func47 (by kernel_rfl) rfl #[.slice Ao61 y364.length co61, .int .i64 7] rfl (by (try simp only [List.map_toArray, List.map_cons, List.map_nil]); first | done | rfl | (simp only [List.length_drop, List.length_take]; rfl)) ?_; (with_reducible refine (mark_Print.calls k _ _ y364 7 t367 t368 _ ?side1 ?side2 A1.out).mono ?_); (case side1 => repeat (first | exact (Kd.R_reads' HO366.out).2.2 | (with_reducible refine Kd.C_alloc ?_ _) | (with_reducible refine Kd.C_drewN ?_ _) | (with_reducible refine Kd.C_drew ?_))); (case side2 => exact (Kd.R_reads' HO366.out).2.1); rintro e w62 ⟨rfl, hb⟩; refine ⟨_, rfl, ?_⟩; have n0_ := Aside0.mk (Kd.R_below (by (with_reducible repeat (first | apply Kd.R_alloc | apply Kd.R_drewN | apply Kd.R_drew)); exact HO366.out) hb); have n1_ := Aside0.mk (below_step (by repeat (first | (with_reducible first | exact HB.out | apply below_alloc | apply pw_below_drewN | apply below_drew1) | exact HB.out)) hb); clear HO366; clear HB; have HO366 := n0_; have HB := n1_; clear n0_ n1_; (try clear hb); (try clear hb2); (try clear hk); (try clear hi)) | ((with_reducible refine gate_callee (f := 52) rfl ?_); refine goesL_ (some 16) rfl rfl Try.func52 (by kernel_rfl) rfl #[.string (⟨#[61, 61, 61, 61, 61, 61, 61, 33, 10]⟩ : ByteArray), .int .i64 7] rfl (by (try simp only [List.map_toArray, List.map_cons, List.map_nil]); first | done | rfl | (simp only [List.length_drop, List.length_take]; rfl)) ?_; (with_reducible refine (mark_Read.calls k (⟨#[61, 61, 61, 61, 61, 61, 61, 33, 10]⟩ : ByteArray) 7 t369 t370 t371 true t373 _ A2.out).mono ?_); rintro e w63 ⟨rfl, hb⟩; refine ⟨_, rfl, ?_⟩; have n0_ := Aside0.mk (Kd.R_below (by (with_reducible repeat (first | apply Kd.R_alloc | apply Kd.R_drewN | apply Kd.R_drew)); exact HO366.out) hb); have n1_ := Aside0.mk (below_step (by repeat (first | (with_reducible first | exact HB.out | apply below_alloc | apply pw_below_drewN | apply below_drew1) | exact HB.out)) hb); clear HO366; clear HB; have HO366 := n0_; have HB := n1_; clear n0_ n1_; (try clear hb); (try clear hb2); (try clear hk); (try clear hi)) | ((with_reducible refine gate_dst (N := 3) rfl ?_); refine box_event ?hg (N := 3) ?hd (cs := #[.int .u8 0, .bool false, .string (⟨#[]⟩ : ByteArray)]) (t := 62) ?hr ?_; (case hd => rfl); (case hg => rfl); (case hr => first | (go_simp; done) | (go_simp; rfl)); intro gb374 hg w64 hbox hb; have n0_ := Aside0.mk (Kd.R_below (by (with_reducible repeat (first | apply Kd.R_alloc | apply Kd.R_drewN | apply Kd.R_drew)); exact HO366.out) hb); have n1_ := Aside0.mk (below_step (by repeat (first | (with_reducible first | exact HB.out | apply below_alloc | apply pw_below_drewN | apply below_drew1) | exact HB.out)) hb); have n2_ := Aside0.mk (hbox); have n3_ := Aside0.mk ((by rw [hg]; exact (below_size (by repeat (first | (with_reducible first | exact HB.out | apply below_alloc | apply pw_below_drewN | apply below_drew1) | exact HB.out))) : w.heap.size ≤ gb374)); have n4_ := Aside0.mk ((by rw [hg]; exact (below_size (by repeat (first | (with_reducible first | exact HB.out | apply below_alloc | apply pw_below_drewN | apply below_drew1) | exact HB.out))) : w.heap.size ≤ gb374)); clear HO366; clear HB; have HO366 := n0_; have HB := n1_; have BK374 := n2_; have GW374 := n3_; have GE374 := n4_; clear n0_ n1_ n2_ n3_ n4_; clear hb hbox hg; have hcz65_0 : w64.cell? ⟨gb374, 0, none⟩ = some (.int .u8 0) := (blk_cell BK374.out 0).trans rfl; have hcz65_1 : w64.cell? ⟨gb374, 1, none⟩ = some (.bool false) := (blk_cell BK374.out 1).trans rfl; have hcz65_2 : w64.cell? ⟨gb374, 2, none⟩ = some (.string (⟨#[]⟩ : ByteArray)) := (blk_cell BK374.out 2).trans rfl; have hfz65_0 := blk_frozen BK374.out 0; have hfz65_1 := blk_frozen BK374.out 1; have hfz65_2 := blk_frozen BK374.out 2) | ((with_reducible refine gate_callee (f := 52) rfl ?_); refine goesL_ (some 21) rfl rfl Try.func52 (by kernel_rfl) rfl #[.string (⟨#[61, 61, 61, 61, 61, 61, 61, 61, 10]⟩ : ByteArray), .int .i64 7] rfl (by (try simp only [List.map_toArray, List.map_cons, List.map_nil]); first | done | rfl | (simp only [List.length_drop, List.length_take]; rfl)) ?_; (with_reducible refine (mark_Read.calls k (⟨#[61, 61, 61, 61, 61, 61, 61, 61, 10]⟩ : ByteArray) 7 t375 t376 t377 t378 t379 _ A3.out).mono ?_); rintro e w66 ⟨rfl, hb⟩; refine ⟨_, rfl, ?_⟩; have n0_ := Aside0.mk (Kd.R_below (by (with_reducible repeat (first | apply Kd.R_alloc | apply Kd.R_drewN | apply Kd.R_drew)); exact (Kd.R_mono (Kd.R_far (p := ⟨gb374, 2, none⟩) (Kd.R_far (p := ⟨gb374, 1, none⟩) (Kd.R_far (p := ⟨gb374, 0, none⟩) (Kd.R_types HO366.out BK374.out (by decide)) (fun _ hk => hk.2) (.int .u8 t369)) (fun _ hk => hk.2) (.bool t370)) (fun _ hk => hk.2) (.string t371)) (fun _ h_ => h_.1))) hb); have n1_ := Aside0.mk (blk_below (g := gb374) (o := .cells #[.int .u8 t369, .bool t370, .string t371] 62 (0, 0)) (by (with_reducible repeat (first | refine blk_drewN ?_ _ | refine blk_drew ?_ | refine blk_alloc ?_ _)); refine blk_put (cs := #[.int .u8 t369, .bool t370, .string (⟨#[]⟩ : ByteArray)]) ?_ 2 _ rfl; (with_reducible repeat (first | refine blk_drewN ?_ _ | refine blk_drew ?_ | refine blk_alloc ?_ _)); refine blk_put (cs := #[.int .u8 t369, .bool false, .string (⟨#[]⟩ : ByteArray)]) ?_ 1 _ rfl; (with_reducible repeat (first | refine blk_drewN ?_ _ | refine blk_drew ?_ | refine blk_alloc ?_ _)); refine blk_put (cs := #[.int .u8 0, .bool false, .string (⟨#[]⟩ : ByteArray)]) ?_ 0 _ rfl; (with_reducible repeat (first | refine blk_drewN ?_ _ | refine blk_drew ?_ | refine blk_alloc ?_ _)); exact BK374.out) hb); have n2_ := Aside0.mk (below_step (by repeat (first | (with_reducible first | exact HB.out | apply below_alloc | apply pw_below_drewN | apply below_drew1 | refine below_set ?_ GE374.out) | exact HB.out)) hb); clear HO366; clear BK374; clear HB; have HO366 := n0_; have BK374 := n1_; have HB := n2_; clear n0_ n1_ n2_; (try clear hb); (try clear hb2); (try clear hk); (try clear hi)) | ((with_reducible refine gate_dst (N := 6) rfl ?_); refine box_event ?hg (N := 6) ?hd (cs := #[.int .u8 0, .bool false, .string (⟨#[]⟩ : ByteArray)]) (t := 62) ?hr ?_; (case hd => rfl); (case hg => rfl); (case hr => first | (go_simp; done) | (go_simp; rfl)); intro gb380 hg w67 hbox hb; have n0_ := Aside0.mk (Kd.R_below (by (with_reducible repeat (first | apply Kd.R_alloc | apply Kd.R_drewN | apply Kd.R_drew)); exact HO366.out) hb); have n1_ := Aside0.mk (blk_below (g := gb374) (o := .cells #[.int .u8 t369, .bool t370, .string t371] 62 (0, 0)) (by (with_reducible repeat (first | refine blk_drewN ?_ _ | refine blk_drew ?_ | refine blk_alloc ?_ _)); exact BK374.out) hb); have n2_ := Aside0.mk (below_step (by repeat (first | (with_reducible first | exact HB.out | apply below_alloc | apply pw_below_drewN | apply below_drew1 | refine below_set ?_ GE374.out) | exact HB.out)) hb); have n3_ := Aside0.mk (hbox); have n4_ := Aside0.mk ((by rw [hg]; exact (below_size (by repeat (first | (with_reducible first | exact HB.out | apply below_alloc | apply pw_below_drewN | apply below_drew1 | refine below_set ?_ GE374.out) | exact HB.out))) : w.heap.size ≤ gb380)); have n5_ := Aside0.mk ((by rw [hg]; exact (below_size (by repeat (first | (with_reducible first | exact HB.out | apply below_alloc | apply pw_below_drewN | apply below_drew1 | refine below_set ?_ GE374.out) | exact HB.out))) : w.heap.size ≤ gb380)); have n6_ := Aside0.mk ((by rw [hg]; exact Nat.ne_of_lt (blk_lt (g := gb374) (o := .cells #[.int .u8 t369, .bool t370, .string t371] 62 (0, 0)) (by (with_reducible repeat (first | refine blk_drewN ?_ _ | refine blk_drew ?_ | refine blk_alloc ?_ _)); exact BK374.out)) : gb374 ≠ gb380)); have n7_ := Aside0.mk ((by rw [hg]; exact Nat.ne_of_gt (blk_lt (g := gb374) (o := .cells #[.int .u8 t369, .bool t370, .string t371] 62 (0, 0)) (by (with_reducible repeat (first | refine blk_drewN ?_ _ | refine blk_drew ?_ | refine blk_alloc ?_ _)); exact BK374.out)) : gb380 ≠ gb374)); clear HO366; clear BK374; clear HB; have HO366 := n0_; have BK374 := n1_; have HB := n2_; have BK380 := n3_; have GW380 := n4_; have GE380 := n5_; have NB374_380 := n6_; have NB380_374 := n7_; clear n0_ n1_ n2_ n3_ n4_ n5_ n6_ n7_; clear hb hbox hg; have hnb68 := NB380_374.out; have hnc68 := NB374_380.out; have hcz69_0 : w67.cell? ⟨gb380, 0, none⟩ = some (.int .u8 0) := (blk_cell BK380.out 0).trans rfl; have hcz69_1 : w67.cell? ⟨gb380, 1, none⟩ = some (.bool false) := (blk_cell BK380.out 1).trans rfl; have hcz69_2 : w67.cell? ⟨gb380, 2, none⟩ = some (.string (⟨#[]⟩ : ByteArray)) := (blk_cell BK380.out 2).trans rfl; have hfz69_0 := blk_frozen BK380.out 0; have hfz69_1 := blk_frozen BK380.out 1; have hfz69_2 := blk_frozen BK380.out 2))
          go_ret
          exact ⟨by first | rfl | (simp [errW_none, errW_some] <;> rfl) | (simp [*, errW_none, errW_some] <;> rfl), by repeat (first | (with_reducible first | exact HB.out | apply below_alloc | apply pw_below_drewN | apply below_drew1 | refine below_set ?_ GE374.out | refine below_set ?_ GE380.out) | exact HB.out)⟩
      · replace c6 := Bool.eq_false_iff.mpr c6
        subst c6
        have H1 : (some false) = some r := by rw [if_neg (show ¬ (false = true) by decide)] at H; exact H
        clear H
        have H := H1
        clear H1
        obtain rfl := Option.some.inj H
        go_enter Try.func45, Try.ntmps45
        go_wp2_with (first | ((with_reducible refine gate_dst (N := 11) rfl ?_); refine Kd.R_lit k106 _ 106 ?hg (N := 11) ?hd (xs := ([(⟨(⟨(⟨#[]⟩ : ByteArray), (⟨#[]⟩ : ByteArray), (⟨#[]⟩ : ByteArray)⟩ : S84), true, (⟨#[]⟩ : ByteArray), (⟨#[97]⟩ : ByteArray), (⟨#[]⟩ : ByteArray), (⟨#[98, 10]⟩ : ByteArray), false⟩ : S106)] : List (S106))) (inner := [.string (⟨#[]⟩ : ByteArray), .string (⟨#[]⟩ : ByteArray), .string (⟨#[]⟩ : ByteArray), .bool true, .string (⟨#[]⟩ : ByteArray), .string (⟨#[97]⟩ : ByteArray), .string (⟨#[]⟩ : ByteArray), .string (⟨#[98, 10]⟩ : ByteArray), .bool false]) (ok := fun _ => True) (okp := fun _ => True) ?hr ?hp (fun _ hk => hk) trivial (Below.refl _ _) (Nat.le_refl _) (by simp) ?_; (case hd => rfl); (case hg => rfl); (case hr => first | (go_simp; done) | (go_simp; rfl)); (case hp => exact (Reps.c9 (show Kd.M k106 _ _ _ (⟨(⟨(⟨#[]⟩ : ByteArray), (⟨#[]⟩ : ByteArray), (⟨#[]⟩ : ByteArray)⟩ : S84), true, (⟨#[]⟩ : ByteArray), (⟨#[97]⟩ : ByteArray), (⟨#[]⟩ : ByteArray), (⟨#[98, 10]⟩ : ByteArray), false⟩ : S106) [.string (⟨#[]⟩ : ByteArray), .string (⟨#[]⟩ : ByteArray), .string (⟨#[]⟩ : ByteArray), .bool true, .string (⟨#[]⟩ : ByteArray), .string (⟨#[97]⟩ : ByteArray), .string (⟨#[]⟩ : ByteArray), .string (⟨#[98, 10]⟩ : ByteArray), .bool false] from (k106_mkM _ _ _ (⟨(⟨(⟨#[]⟩ : ByteArray), (⟨#[]⟩ : ByteArray), (⟨#[]⟩ : ByteArray)⟩ : S84), true, (⟨#[]⟩ : ByteArray), (⟨#[97]⟩ : ByteArray), (⟨#[]⟩ : ByteArray), (⟨#[98, 10]⟩ : ByteArray), false⟩ : S106) )) (Reps.none _ _))); intro v365 w70 ho71 hb hg_ hnew_; clear hg_ hnew_; (first | rw [← Ny364.out] at ho71 | (simp only [Int.reduceToNat] at ho71; rw [← Ny364.out] at ho71)); have n0_ := Aside0.mk (Kd.R_lower ho71 (below_size (by repeat (first | (with_reducible first | exact HB.out | apply below_alloc | apply pw_below_drewN | apply below_drew1) | exact HB.out)))); have n1_ := Aside0.mk (below_step (by repeat (first | (with_reducible first | exact HB.out | apply below_alloc | apply pw_below_drewN | apply below_drew1) | exact HB.out)) hb); clear HB; have HO366 := n0_; have HB := n1_; clear n0_ n1_; clear hb ho71; obtain ⟨Ao72, co72, eo72⟩ := Kd.R_slice HO366.out; subst eo72) | ((with_reducible refine gate_callee (f := 47) rfl ?_); refine goesL_ (some 12) rfl rfl Try.func47 (by kernel_rfl) rfl #[.slice Ao72 y364.length co72, .int .i64 7] rfl (by (try simp only [List.map_toArray, List.map_cons, List.map_nil]); first | done | rfl | (simp only [List.length_drop, List.length_take]; rfl)) ?_; (with_reducible refine (mark_Print.calls k _ _ y364 7 t367 t368 _ ?side1 ?side2 A1.out).mono ?_); (case side1 => repeat (first | exact (Kd.R_reads' HO366.out).2.2 | (with_reducible refine Kd.C_alloc ?_ _) | (with_reducible refine Kd.C_drewN ?_ _) | (with_reducible refine Kd.C_drew ?_))); (case side2 => exact (Kd.R_reads' HO366.out).2.1); rintro e w73 ⟨rfl, hb⟩; refine ⟨_, rfl, ?_⟩; have n0_ := Aside0.mk (Kd.R_below (by (with_reducible repeat (first | apply Kd.R_alloc | apply Kd.R_drewN | apply Kd.R_drew)); exact HO366.out) hb); have n1_ := Aside0.mk (below_step (by repeat (first | (with_reducible first | exact HB.out | apply below_alloc | apply pw_below_drewN | apply below_drew1) | exact HB.out)) hb); clear HO366; clear HB; have HO366 := n0_; have HB := n1_; clear n0_ n1_; (try clear hb); (try clear hb2); (try clear hk); (try clear hi)) | ((with_reducible refine gate_callee (f := 52) rfl ?_); refine goesL_ (some 16) rfl rfl Try.func52 (by kernel_rfl) rfl #[.string (⟨#[61, 61, 61, 61, 61, 61, 61, 33, 10]⟩ : ByteArray), .int .i64 7] rfl (by (try simp only [List.map_toArray, List.map_cons, List.map_nil]); first | done | rfl | (simp only [List.length_drop, List.length_take]; rfl)) ?_; (with_reducible refine (mark_Read.calls k (⟨#[61, 61, 61, 61, 61, 61, 61, 33, 10]⟩ : ByteArray) 7 t369 t370 t371 false t373 _ A2.out).mono ?_); rintro e w74 ⟨rfl, hb⟩; refine ⟨_, rfl, ?_⟩; have n0_ := Aside0.mk (Kd.R_below (by (with_reducible repeat (first | apply Kd.R_alloc | apply Kd.R_drewN | apply Kd.R_drew)); exact HO366.out) hb); have n1_ := Aside0.mk (below_step (by repeat (first | (with_reducible first | exact HB.out | apply below_alloc | apply pw_below_drewN | apply below_drew1) | exact HB.out)) hb); clear HO366; clear HB; have HO366 := n0_; have HB := n1_; clear n0_ n1_; (try clear hb); (try clear hb2); (try clear hk); (try clear hi)) | ((with_reducible refine gate_dst (N := 3) rfl ?_); refine box_event ?hg (N := 3) ?hd (cs := #[.int .u8 0, .bool false, .string (⟨#[]⟩ : ByteArray)]) (t := 62) ?hr ?_; (case hd => rfl); (case hg => rfl); (case hr => first | (go_simp; done) | (go_simp; rfl)); intro gb374 hg w75 hbox hb; have n0_ := Aside0.mk (Kd.R_below (by (with_reducible repeat (first | apply Kd.R_alloc | apply Kd.R_drewN | apply Kd.R_drew)); exact HO366.out) hb); have n1_ := Aside0.mk (below_step (by repeat (first | (with_reducible first | exact HB.out | apply below_alloc | apply pw_below_drewN | apply below_drew1) | exact HB.out)) hb); have n2_ := Aside0.mk (hbox); have n3_ := Aside0.mk ((by rw [hg]; exact (below_size (by repeat (first | (with_reducible first | exact HB.out | apply below_alloc | apply pw_below_drewN | apply below_drew1) | exact HB.out))) : w.heap.size ≤ gb374)); have n4_ := Aside0.mk ((by rw [hg]; exact (below_size (by repeat (first | (with_reducible first | exact HB.out | apply below_alloc | apply pw_below_drewN | apply below_drew1) | exact HB.out))) : w.heap.size ≤ gb374)); clear HO366; clear HB; have HO366 := n0_; have HB := n1_; have BK374 := n2_; have GW374 := n3_; have GE374 := n4_; clear n0_ n1_ n2_ n3_ n4_; clear hb hbox hg; have hcz76_0 : w75.cell? ⟨gb374, 0, none⟩ = some (.int .u8 0) := (blk_cell BK374.out 0).trans rfl; have hcz76_1 : w75.cell? ⟨gb374, 1, none⟩ = some (.bool false) := (blk_cell BK374.out 1).trans rfl; have hcz76_2 : w75.cell? ⟨gb374, 2, none⟩ = some (.string (⟨#[]⟩ : ByteArray)) := (blk_cell BK374.out 2).trans rfl; have hfz76_0 := blk_frozen BK374.out 0; have hfz76_1 := blk_frozen BK374.out 1; have hfz76_2 := blk_frozen BK374.out 2) | ((with_reducible refine gate_callee (f := 52) rfl ?_); refine goesL_ (some 21) rfl rfl Try.func52 (by kernel_rfl) rfl #[.string (⟨#[61, 61, 61, 61, 61, 61, 61, 61, 10]⟩ : ByteArray), .int .i64 7] rfl (by (try simp only [List.map_toArray, List.map_cons, List.map_nil]); first | done | rfl | (simp only [List.length_drop, List.length_take]; rfl)) ?_; (with_reducible refine (mark_Read.calls k (⟨#[61, 61, 61, 61, 61, 61, 61, 61, 10]⟩ : ByteArray) 7 t375 t376 t377 t378 t379 _ A3.out).mono ?_); rintro e w77 ⟨rfl, hb⟩; refine ⟨_, rfl, ?_⟩; have n0_ := Aside0.mk (Kd.R_below (by (with_reducible repeat (first | apply Kd.R_alloc | apply Kd.R_drewN | apply Kd.R_drew)); exact (Kd.R_mono (Kd.R_far (p := ⟨gb374, 2, none⟩) (Kd.R_far (p := ⟨gb374, 1, none⟩) (Kd.R_far (p := ⟨gb374, 0, none⟩) (Kd.R_types HO366.out BK374.out (by decide)) (fun _ hk => hk.2) (.int .u8 t369)) (fun _ hk => hk.2) (.bool t370)) (fun _ hk => hk.2) (.string t371)) (fun _ h_ => h_.1))) hb); have n1_ := Aside0.mk (blk_below (g := gb374) (o := .cells #[.int .u8 t369, .bool t370, .string t371] 62 (0, 0)) (by (with_reducible repeat (first | refine blk_drewN ?_ _ | refine blk_drew ?_ | refine blk_alloc ?_ _)); refine blk_put (cs := #[.int .u8 t369, .bool t370, .string (⟨#[]⟩ : ByteArray)]) ?_ 2 _ rfl; (with_reducible repeat (first | refine blk_drewN ?_ _ | refine blk_drew ?_ | refine blk_alloc ?_ _)); refine blk_put (cs := #[.int .u8 t369, .bool false, .string (⟨#[]⟩ : ByteArray)]) ?_ 1 _ rfl; (with_reducible repeat (first | refine blk_drewN ?_ _ | refine blk_drew ?_ | refine blk_alloc ?_ _)); refine blk_put (cs := #[.int .u8 0, .bool false, .string (⟨#[]⟩ : ByteArray)]) ?_ 0 _ rfl; (with_reducible repeat (first | refine blk_drewN ?_ _ | refine blk_drew ?_ | refine blk_alloc ?_ _)); exact BK374.out) hb); have n2_ := Aside0.mk (below_step (by repeat (first | (with_reducible first | exact HB.out | apply below_alloc | apply pw_below_drewN | apply below_drew1 | refine below_set ?_ GE374.out) | exact HB.out)) hb); clear HO366; clear BK374; clear HB; have HO366 := n0_; have BK374 := n1_; have HB := n2_; clear n0_ n1_ n2_; (try clear hb); (try clear hb2); (try clear hk); (try clear hi)) | ((with_reducible refine gate_dst (N := 6) rfl ?_); refine box_event ?hg (N := 6) ?hd (cs := #[.int .u8 0, .bool false, .string (⟨#[]⟩ : ByteArray)]) (t := 62) ?hr ?_; (case hd => rfl); (case hg => rfl); (case hr => first | (go_simp; done) | (go_simp; rfl)); intro gb380 hg w78 hbox hb; have n0_ := Aside0.mk (Kd.R_below (by (with_reducible repeat (first | apply Kd.R_alloc | apply Kd.R_drewN | apply Kd.R_drew)); exact HO366.out) hb); have n1_ := Aside0.mk (blk_below (g := gb374) (o := .cells #[.int .u8 t369, .bool t370, .string t371] 62 (0, 0)) (by (with_reducible repeat (first | refine blk_drewN ?_ _ | refine blk_drew ?_ | refine blk_alloc ?_ _)); exact BK374.out) hb); have n2_ := Aside0.mk (below_step (by repeat (first | (with_reducible first | exact HB.out | apply below_alloc | apply pw_below_drewN | apply below_drew1 | refine below_set ?_ GE374.out) | exact HB.out)) hb); have n3_ := Aside0.mk (hbox); have n4_ := Aside0.mk ((by rw [hg]; exact (below_size (by repeat (first | (with_reducible first | exact HB.out | apply below_alloc | apply pw_below_drewN | apply below_drew1 | refine below_set ?_ GE374.out) | exact HB.out))) : w.heap.size ≤ gb380)); have n5_ := Aside0.mk ((by rw [hg]; exact (below_size (by repeat (first | (with_reducible first | exact HB.out | apply below_alloc | apply pw_below_drewN | apply below_drew1 | refine below_set ?_ GE374.out) | exact HB.out))) : w.heap.size ≤ gb380)); have n6_ := Aside0.mk ((by rw [hg]; exact Nat.ne_of_lt (blk_lt (g := gb374) (o := .cells #[.int .u8 t369, .bool t370, .string t371] 62 (0, 0)) (by (with_reducible repeat (first | refine blk_drewN ?_ _ | refine blk_drew ?_ | refine blk_alloc ?_ _)); exact BK374.out)) : gb374 ≠ gb380)); have n7_ := Aside0.mk ((by rw [hg]; exact Nat.ne_of_gt (blk_lt (g := gb374) (o := .cells #[.int .u8 t369, .bool t370, .string t371] 62 (0, 0)) (by (with_reducible repeat (first | refine blk_drewN ?_ _ | refine blk_drew ?_ | refine blk_alloc ?_ _)); exact BK374.out)) : gb380 ≠ gb374)); clear HO366; clear BK374; clear HB; have HO366 := n0_; have BK374 := n1_; have HB := n2_; have BK380 := n3_; have GW380 := n4_; have GE380 := n5_; have NB374_380 := n6_; have NB380_374 := n7_; clear n0_ n1_ n2_ n3_ n4_ n5_ n6_ n7_; clear hb hbox hg; have hnb79 := NB380_374.out; have hnc79 := NB374_380.out; have hcz80_0 : w78.cell? ⟨gb380, 0, none⟩ = some (.int .u8 0) := (blk_cell BK380.out 0).trans rfl; have hcz80_1 : w78.cell? ⟨gb380, 1, none⟩ = some (.bool false) := (blk_cell BK380.out 1).trans rfl; have hcz80_2 : w78.cell? ⟨gb380, 2, none⟩ = some (.string (⟨#[]⟩ : ByteArray)) := (blk_cell BK380.out 2).trans rfl; have hfz80_0 := blk_frozen BK380.out 0; have hfz80_1 := blk_frozen BK380.out 1; have hfz80_2 := blk_frozen BK380.out 2))
        go_ret
        exact ⟨by first | rfl | (simp [errW_none, errW_some] <;> rfl) | (simp [*, errW_none, errW_some] <;> rfl), by repeat (first | (with_reducible first | exact HB.out | apply below_alloc | apply pw_below_drewN | apply below_drew1 | refine below_set ?_ GE374.out | refine below_set ?_ GE380.out) | exact HB.out)⟩
    · rw [if_neg c5] at H
      have c5b0 : (t367.toList == ([60, 60, 60, 60, 60, 60, 60, 10, 97, 10, 61, 61, 61, 61, 61, 61, 61, 33, 10, 98, 10, 62, 62, 62, 62, 62, 62, 62, 10] : List UInt8)) = false := beq_eq_false_iff_ne.mpr c5
      have c5b1 : (t367.toList != ([60, 60, 60, 60, 60, 60, 60, 10, 97, 10, 61, 61, 61, 61, 61, 61, 61, 33, 10, 98, 10, 62, 62, 62, 62, 62, 62, 62, 10] : List UInt8)) = true := bne_iff_ne.mpr c5
      obtain rfl := Option.some.inj H
      go_enter Try.func45, Try.ntmps45
      go_wp2_with (first | ((with_reducible refine gate_dst (N := 11) rfl ?_); refine Kd.R_lit k106 _ 106 ?hg (N := 11) ?hd (xs := ([(⟨(⟨(⟨#[]⟩ : ByteArray), (⟨#[]⟩ : ByteArray), (⟨#[]⟩ : ByteArray)⟩ : S84), true, (⟨#[]⟩ : ByteArray), (⟨#[97]⟩ : ByteArray), (⟨#[]⟩ : ByteArray), (⟨#[98, 10]⟩ : ByteArray), false⟩ : S106)] : List (S106))) (inner := [.string (⟨#[]⟩ : ByteArray), .string (⟨#[]⟩ : ByteArray), .string (⟨#[]⟩ : ByteArray), .bool true, .string (⟨#[]⟩ : ByteArray), .string (⟨#[97]⟩ : ByteArray), .string (⟨#[]⟩ : ByteArray), .string (⟨#[98, 10]⟩ : ByteArray), .bool false]) (ok := fun _ => True) (okp := fun _ => True) ?hr ?hp (fun _ hk => hk) trivial (Below.refl _ _) (Nat.le_refl _) (by simp) ?_; (case hd => rfl); (case hg => rfl); (case hr => first | (go_simp; done) | (go_simp; rfl)); (case hp => exact (Reps.c9 (show Kd.M k106 _ _ _ (⟨(⟨(⟨#[]⟩ : ByteArray), (⟨#[]⟩ : ByteArray), (⟨#[]⟩ : ByteArray)⟩ : S84), true, (⟨#[]⟩ : ByteArray), (⟨#[97]⟩ : ByteArray), (⟨#[]⟩ : ByteArray), (⟨#[98, 10]⟩ : ByteArray), false⟩ : S106) [.string (⟨#[]⟩ : ByteArray), .string (⟨#[]⟩ : ByteArray), .string (⟨#[]⟩ : ByteArray), .bool true, .string (⟨#[]⟩ : ByteArray), .string (⟨#[97]⟩ : ByteArray), .string (⟨#[]⟩ : ByteArray), .string (⟨#[98, 10]⟩ : ByteArray), .bool false] from (k106_mkM _ _ _ (⟨(⟨(⟨#[]⟩ : ByteArray), (⟨#[]⟩ : ByteArray), (⟨#[]⟩ : ByteArray)⟩ : S84), true, (⟨#[]⟩ : ByteArray), (⟨#[97]⟩ : ByteArray), (⟨#[]⟩ : ByteArray), (⟨#[98, 10]⟩ : ByteArray), false⟩ : S106) )) (Reps.none _ _))); intro v365 w81 ho82 hb hg_ hnew_; clear hg_ hnew_; (first | rw [← Ny364.out] at ho82 | (simp only [Int.reduceToNat] at ho82; rw [← Ny364.out] at ho82)); have n0_ := Aside0.mk (Kd.R_lower ho82 (below_size (by repeat (first | (with_reducible first | exact HB.out | apply below_alloc | apply pw_below_drewN | apply below_drew1) | exact HB.out)))); have n1_ := Aside0.mk (below_step (by repeat (first | (with_reducible first | exact HB.out | apply below_alloc | apply pw_below_drewN | apply below_drew1) | exact HB.out)) hb); clear HB; have HO366 := n0_; have HB := n1_; clear n0_ n1_; clear hb ho82; obtain ⟨Ao83, co83, eo83⟩ := Kd.R_slice HO366.out; subst eo83) | ((with_reducible refine gate_callee (f := 47) rfl ?_); refine goesL_ (some 12) rfl rfl Try.func47 (by kernel_rfl) rfl #[.slice Ao83 y364.length co83, .int .i64 7] rfl (by (try simp only [List.map_toArray, List.map_cons, List.map_nil]); first | done | rfl | (simp only [List.length_drop, List.length_take]; rfl)) ?_; (with_reducible refine (mark_Print.calls k _ _ y364 7 t367 t368 _ ?side1 ?side2 A1.out).mono ?_); (case side1 => repeat (first | exact (Kd.R_reads' HO366.out).2.2 | (with_reducible refine Kd.C_alloc ?_ _) | (with_reducible refine Kd.C_drewN ?_ _) | (with_reducible refine Kd.C_drew ?_))); (case side2 => exact (Kd.R_reads' HO366.out).2.1); rintro e w84 ⟨rfl, hb⟩; refine ⟨_, rfl, ?_⟩; have n0_ := Aside0.mk (Kd.R_below (by (with_reducible repeat (first | apply Kd.R_alloc | apply Kd.R_drewN | apply Kd.R_drew)); exact HO366.out) hb); have n1_ := Aside0.mk (below_step (by repeat (first | (with_reducible first | exact HB.out | apply below_alloc | apply pw_below_drewN | apply below_drew1) | exact HB.out)) hb); clear HO366; clear HB; have HO366 := n0_; have HB := n1_; clear n0_ n1_; (try clear hb); (try clear hb2); (try clear hk); (try clear hi)) | ((with_reducible refine gate_callee (f := 52) rfl ?_); refine goesL_ (some 16) rfl rfl Try.func52 (by kernel_rfl) rfl #[.string (⟨#[61, 61, 61, 61, 61, 61, 61, 33, 10]⟩ : ByteArray), .int .i64 7] rfl (by (try simp only [List.map_toArray, List.map_cons, List.map_nil]); first | done | rfl | (simp only [List.length_drop, List.length_take]; rfl)) ?_; (with_reducible refine (mark_Read.calls k (⟨#[61, 61, 61, 61, 61, 61, 61, 33, 10]⟩ : ByteArray) 7 t369 t370 t371 t372 t373 _ A2.out).mono ?_); rintro e w85 ⟨rfl, hb⟩; refine ⟨_, rfl, ?_⟩; have n0_ := Aside0.mk (Kd.R_below (by (with_reducible repeat (first | apply Kd.R_alloc | apply Kd.R_drewN | apply Kd.R_drew)); exact HO366.out) hb); have n1_ := Aside0.mk (below_step (by repeat (first | (with_reducible first | exact HB.out | apply below_alloc | apply pw_below_drewN | apply below_drew1) | exact HB.out)) hb); clear HO366; clear HB; have HO366 := n0_; have HB := n1_; clear n0_ n1_; (try clear hb); (try clear hb2); (try clear hk); (try clear hi)) | ((with_reducible refine gate_dst (N := 3) rfl ?_); refine box_event ?hg (N := 3) ?hd (cs := #[.int .u8 0, .bool false, .string (⟨#[]⟩ : ByteArray)]) (t := 62) ?hr ?_; (case hd => rfl); (case hg => rfl); (case hr => first | (go_simp; done) | (go_simp; rfl)); intro gb374 hg w86 hbox hb; have n0_ := Aside0.mk (Kd.R_below (by (with_reducible repeat (first | apply Kd.R_alloc | apply Kd.R_drewN | apply Kd.R_drew)); exact HO366.out) hb); have n1_ := Aside0.mk (below_step (by repeat (first | (with_reducible first | exact HB.out | apply below_alloc | apply pw_below_drewN | apply below_drew1) | exact HB.out)) hb); have n2_ := Aside0.mk (hbox); have n3_ := Aside0.mk ((by rw [hg]; exact (below_size (by repeat (first | (with_reducible first | exact HB.out | apply below_alloc | apply pw_below_drewN | apply below_drew1) | exact HB.out))) : w.heap.size ≤ gb374)); have n4_ := Aside0.mk ((by rw [hg]; exact (below_size (by repeat (first | (with_reducible first | exact HB.out | apply below_alloc | apply pw_below_drewN | apply below_drew1) | exact HB.out))) : w.heap.size ≤ gb374)); clear HO366; clear HB; have HO366 := n0_; have HB := n1_; have BK374 := n2_; have GW374 := n3_; have GE374 := n4_; clear n0_ n1_ n2_ n3_ n4_; clear hb hbox hg; have hcz87_0 : w86.cell? ⟨gb374, 0, none⟩ = some (.int .u8 0) := (blk_cell BK374.out 0).trans rfl; have hcz87_1 : w86.cell? ⟨gb374, 1, none⟩ = some (.bool false) := (blk_cell BK374.out 1).trans rfl; have hcz87_2 : w86.cell? ⟨gb374, 2, none⟩ = some (.string (⟨#[]⟩ : ByteArray)) := (blk_cell BK374.out 2).trans rfl; have hfz87_0 := blk_frozen BK374.out 0; have hfz87_1 := blk_frozen BK374.out 1; have hfz87_2 := blk_frozen BK374.out 2) | ((with_reducible refine gate_callee (f := 52) rfl ?_); refine goesL_ (some 21) rfl rfl Try.func52 (by kernel_rfl) rfl #[.string (⟨#[61, 61, 61, 61, 61, 61, 61, 61, 10]⟩ : ByteArray), .int .i64 7] rfl (by (try simp only [List.map_toArray, List.map_cons, List.map_nil]); first | done | rfl | (simp only [List.length_drop, List.length_take]; rfl)) ?_; (with_reducible refine (mark_Read.calls k (⟨#[61, 61, 61, 61, 61, 61, 61, 61, 10]⟩ : ByteArray) 7 t375 t376 t377 t378 t379 _ A3.out).mono ?_); rintro e w88 ⟨rfl, hb⟩; refine ⟨_, rfl, ?_⟩; have n0_ := Aside0.mk (Kd.R_below (by (with_reducible repeat (first | apply Kd.R_alloc | apply Kd.R_drewN | apply Kd.R_drew)); exact (Kd.R_mono (Kd.R_far (p := ⟨gb374, 2, none⟩) (Kd.R_far (p := ⟨gb374, 1, none⟩) (Kd.R_far (p := ⟨gb374, 0, none⟩) (Kd.R_types HO366.out BK374.out (by decide)) (fun _ hk => hk.2) (.int .u8 t369)) (fun _ hk => hk.2) (.bool t370)) (fun _ hk => hk.2) (.string t371)) (fun _ h_ => h_.1))) hb); have n1_ := Aside0.mk (blk_below (g := gb374) (o := .cells #[.int .u8 t369, .bool t370, .string t371] 62 (0, 0)) (by (with_reducible repeat (first | refine blk_drewN ?_ _ | refine blk_drew ?_ | refine blk_alloc ?_ _)); refine blk_put (cs := #[.int .u8 t369, .bool t370, .string (⟨#[]⟩ : ByteArray)]) ?_ 2 _ rfl; (with_reducible repeat (first | refine blk_drewN ?_ _ | refine blk_drew ?_ | refine blk_alloc ?_ _)); refine blk_put (cs := #[.int .u8 t369, .bool false, .string (⟨#[]⟩ : ByteArray)]) ?_ 1 _ rfl; (with_reducible repeat (first | refine blk_drewN ?_ _ | refine blk_drew ?_ | refine blk_alloc ?_ _)); refine blk_put (cs := #[.int .u8 0, .bool false, .string (⟨#[]⟩ : ByteArray)]) ?_ 0 _ rfl; (with_reducible repeat (first | refine blk_drewN ?_ _ | refine blk_drew ?_ | refine blk_alloc ?_ _)); exact BK374.out) hb); have n2_ := Aside0.mk (below_step (by repeat (first | (with_reducible first | exact HB.out | apply below_alloc | apply pw_below_drewN | apply below_drew1 | refine below_set ?_ GE374.out) | exact HB.out)) hb); clear HO366; clear BK374; clear HB; have HO366 := n0_; have BK374 := n1_; have HB := n2_; clear n0_ n1_ n2_; (try clear hb); (try clear hb2); (try clear hk); (try clear hi)) | ((with_reducible refine gate_dst (N := 6) rfl ?_); refine box_event ?hg (N := 6) ?hd (cs := #[.int .u8 0, .bool false, .string (⟨#[]⟩ : ByteArray)]) (t := 62) ?hr ?_; (case hd => rfl); (case hg => rfl); (case hr => first | (go_simp; done) | (go_simp; rfl)); intro gb380 hg w89 hbox hb; have n0_ := Aside0.mk (Kd.R_below (by (with_reducible repeat (first | apply Kd.R_alloc | apply Kd.R_drewN | apply Kd.R_drew)); exact HO366.out) hb); have n1_ := Aside0.mk (blk_below (g := gb374) (o := .cells #[.int .u8 t369, .bool t370, .string t371] 62 (0, 0)) (by (with_reducible repeat (first | refine blk_drewN ?_ _ | refine blk_drew ?_ | refine blk_alloc ?_ _)); exact BK374.out) hb); have n2_ := Aside0.mk (below_step (by repeat (first | (with_reducible first | exact HB.out | apply below_alloc | apply pw_below_drewN | apply below_drew1 | refine below_set ?_ GE374.out) | exact HB.out)) hb); have n3_ := Aside0.mk (hbox); have n4_ := Aside0.mk ((by rw [hg]; exact (below_size (by repeat (first | (with_reducible first | exact HB.out | apply below_alloc | apply pw_below_drewN | apply below_drew1 | refine below_set ?_ GE374.out) | exact HB.out))) : w.heap.size ≤ gb380)); have n5_ := Aside0.mk ((by rw [hg]; exact (below_size (by repeat (first | (with_reducible first | exact HB.out | apply below_alloc | apply pw_below_drewN | apply below_drew1 | refine below_set ?_ GE374.out) | exact HB.out))) : w.heap.size ≤ gb380)); have n6_ := Aside0.mk ((by rw [hg]; exact Nat.ne_of_lt (blk_lt (g := gb374) (o := .cells #[.int .u8 t369, .bool t370, .string t371] 62 (0, 0)) (by (with_reducible repeat (first | refine blk_drewN ?_ _ | refine blk_drew ?_ | refine blk_alloc ?_ _)); exact BK374.out)) : gb374 ≠ gb380)); have n7_ := Aside0.mk ((by rw [hg]; exact Nat.ne_of_gt (blk_lt (g := gb374) (o := .cells #[.int .u8 t369, .bool t370, .string t371] 62 (0, 0)) (by (with_reducible repeat (first | refine blk_drewN ?_ _ | refine blk_drew ?_ | refine blk_alloc ?_ _)); exact BK374.out)) : gb380 ≠ gb374)); clear HO366; clear BK374; clear HB; have HO366 := n0_; have BK374 := n1_; have HB := n2_; have BK380 := n3_; have GW380 := n4_; have GE380 := n5_; have NB374_380 := n6_; have NB380_374 := n7_; clear n0_ n1_ n2_ n3_ n4_ n5_ n6_ n7_; clear hb hbox hg; have hnb90 := NB380_374.out; have hnc90 := NB374_380.out; have hcz91_0 : w89.cell? ⟨gb380, 0, none⟩ = some (.int .u8 0) := (blk_cell BK380.out 0).trans rfl; have hcz91_1 : w89.cell? ⟨gb380, 1, none⟩ = some (.bool false) := (blk_cell BK380.out 1).trans rfl; have hcz91_2 : w89.cell? ⟨gb380, 2, none⟩ = some (.string (⟨#[]⟩ : ByteArray)) := (blk_cell BK380.out 2).trans rfl; have hfz91_0 := blk_frozen BK380.out 0; have hfz91_1 := blk_frozen BK380.out 1; have hfz91_2 := blk_frozen BK380.out 2))
      go_ret
      exact ⟨by first | rfl | (simp [errW_none, errW_some] <;> rfl) | (simp [*, errW_none, errW_some] <;> rfl), by repeat (first | (with_reducible first | exact HB.out | apply below_alloc | apply pw_below_drewN | apply below_drew1 | refine below_set ?_ GE374.out | refine below_set ?_ GE380.out) | exact HB.out)⟩
  · rw [if_neg c4] at H
    have c4b0 : (t368 == 0) = false := beq_eq_false_iff_ne.mpr c4
    have c4b1 : (t368 != 0) = true := bne_iff_ne.mpr c4
    obtain rfl := Option.some.inj H
    go_enter Try.func45, Try.ntmps45
    go_wp2_with (first | ((with_reducible refine gate_dst (N := 11) rfl ?_); refine Kd.R_lit k106 _ 106 ?hg (N := 11) ?hd (xs := ([(⟨(⟨(⟨#[]⟩ : ByteArray), (⟨#[]⟩ : ByteArray), (⟨#[]⟩ : ByteArray)⟩ : S84), true, (⟨#[]⟩ : ByteArray), (⟨#[97]⟩ : ByteArray), (⟨#[]⟩ : ByteArray), (⟨#[98, 10]⟩ : ByteArray), false⟩ : S106)] : List (S106))) (inner := [.string (⟨#[]⟩ : ByteArray), .string (⟨#[]⟩ : ByteArray), .string (⟨#[]⟩ : ByteArray), .bool true, .string (⟨#[]⟩ : ByteArray), .string (⟨#[97]⟩ : ByteArray), .string (⟨#[]⟩ : ByteArray), .string (⟨#[98, 10]⟩ : ByteArray), .bool false]) (ok := fun _ => True) (okp := fun _ => True) ?hr ?hp (fun _ hk => hk) trivial (Below.refl _ _) (Nat.le_refl _) (by simp) ?_; (case hd => rfl); (case hg => rfl); (case hr => first | (go_simp; done) | (go_simp; rfl)); (case hp => exact (Reps.c9 (show Kd.M k106 _ _ _ (⟨(⟨(⟨#[]⟩ : ByteArray), (⟨#[]⟩ : ByteArray), (⟨#[]⟩ : ByteArray)⟩ : S84), true, (⟨#[]⟩ : ByteArray), (⟨#[97]⟩ : ByteArray), (⟨#[]⟩ : ByteArray), (⟨#[98, 10]⟩ : ByteArray), false⟩ : S106) [.string (⟨#[]⟩ : ByteArray), .string (⟨#[]⟩ : ByteArray), .string (⟨#[]⟩ : ByteArray), .bool true, .string (⟨#[]⟩ : ByteArray), .string (⟨#[97]⟩ : ByteArray), .string (⟨#[]⟩ : ByteArray), .string (⟨#[98, 10]⟩ : ByteArray), .bool false] from (k106_mkM _ _ _ (⟨(⟨(⟨#[]⟩ : ByteArray), (⟨#[]⟩ : ByteArray), (⟨#[]⟩ : ByteArray)⟩ : S84), true, (⟨#[]⟩ : ByteArray), (⟨#[97]⟩ : ByteArray), (⟨#[]⟩ : ByteArray), (⟨#[98, 10]⟩ : ByteArray), false⟩ : S106) )) (Reps.none _ _))); intro v365 w92 ho93 hb hg_ hnew_; clear hg_ hnew_; (first | rw [← Ny364.out] at ho93 | (simp only [Int.reduceToNat] at ho93; rw [← Ny364.out] at ho93)); have n0_ := Aside0.mk (Kd.R_lower ho93 (below_size (by repeat (first | (with_reducible first | exact HB.out | apply below_alloc | apply pw_below_drewN | apply below_drew1) | exact HB.out)))); have n1_ := Aside0.mk (below_step (by repeat (first | (with_reducible first | exact HB.out | apply below_alloc | apply pw_below_drewN | apply below_drew1) | exact HB.out)) hb); clear HB; have HO366 := n0_; have HB := n1_; clear n0_ n1_; clear hb ho93; obtain ⟨Ao94, co94, eo94⟩ := Kd.R_slice HO366.out; subst eo94) | ((with_reducible refine gate_callee (f := 47) rfl ?_); refine goesL_ (some 12) rfl rfl Try.func47 (by kernel_rfl) rfl #[.slice Ao94 y364.length co94, .int .i64 7] rfl (by (try simp only [List.map_toArray, List.map_cons, List.map_nil]); first | done | rfl | (simp only [List.length_drop, List.length_take]; rfl)) ?_; (with_reducible refine (mark_Print.calls k _ _ y364 7 t367 t368 _ ?side1 ?side2 A1.out).mono ?_); (case side1 => repeat (first | exact (Kd.R_reads' HO366.out).2.2 | (with_reducible refine Kd.C_alloc ?_ _) | (with_reducible refine Kd.C_drewN ?_ _) | (with_reducible refine Kd.C_drew ?_))); (case side2 => exact (Kd.R_reads' HO366.out).2.1); rintro e w95 ⟨rfl, hb⟩; refine ⟨_, rfl, ?_⟩; have n0_ := Aside0.mk (Kd.R_below (by (with_reducible repeat (first | apply Kd.R_alloc | apply Kd.R_drewN | apply Kd.R_drew)); exact HO366.out) hb); have n1_ := Aside0.mk (below_step (by repeat (first | (with_reducible first | exact HB.out | apply below_alloc | apply pw_below_drewN | apply below_drew1) | exact HB.out)) hb); clear HO366; clear HB; have HO366 := n0_; have HB := n1_; clear n0_ n1_; (try clear hb); (try clear hb2); (try clear hk); (try clear hi)) | ((with_reducible refine gate_callee (f := 52) rfl ?_); refine goesL_ (some 16) rfl rfl Try.func52 (by kernel_rfl) rfl #[.string (⟨#[61, 61, 61, 61, 61, 61, 61, 33, 10]⟩ : ByteArray), .int .i64 7] rfl (by (try simp only [List.map_toArray, List.map_cons, List.map_nil]); first | done | rfl | (simp only [List.length_drop, List.length_take]; rfl)) ?_; (with_reducible refine (mark_Read.calls k (⟨#[61, 61, 61, 61, 61, 61, 61, 33, 10]⟩ : ByteArray) 7 t369 t370 t371 t372 t373 _ A2.out).mono ?_); rintro e w96 ⟨rfl, hb⟩; refine ⟨_, rfl, ?_⟩; have n0_ := Aside0.mk (Kd.R_below (by (with_reducible repeat (first | apply Kd.R_alloc | apply Kd.R_drewN | apply Kd.R_drew)); exact HO366.out) hb); have n1_ := Aside0.mk (below_step (by repeat (first | (with_reducible first | exact HB.out | apply below_alloc | apply pw_below_drewN | apply below_drew1) | exact HB.out)) hb); clear HO366; clear HB; have HO366 := n0_; have HB := n1_; clear n0_ n1_; (try clear hb); (try clear hb2); (try clear hk); (try clear hi)) | ((with_reducible refine gate_dst (N := 3) rfl ?_); refine box_event ?hg (N := 3) ?hd (cs := #[.int .u8 0, .bool false, .string (⟨#[]⟩ : ByteArray)]) (t := 62) ?hr ?_; (case hd => rfl); (case hg => rfl); (case hr => first | (go_simp; done) | (go_simp; rfl)); intro gb374 hg w97 hbox hb; have n0_ := Aside0.mk (Kd.R_below (by (with_reducible repeat (first | apply Kd.R_alloc | apply Kd.R_drewN | apply Kd.R_drew)); exact HO366.out) hb); have n1_ := Aside0.mk (below_step (by repeat (first | (with_reducible first | exact HB.out | apply below_alloc | apply pw_below_drewN | apply below_drew1) | exact HB.out)) hb); have n2_ := Aside0.mk (hbox); have n3_ := Aside0.mk ((by rw [hg]; exact (below_size (by repeat (first | (with_reducible first | exact HB.out | apply below_alloc | apply pw_below_drewN | apply below_drew1) | exact HB.out))) : w.heap.size ≤ gb374)); have n4_ := Aside0.mk ((by rw [hg]; exact (below_size (by repeat (first | (with_reducible first | exact HB.out | apply below_alloc | apply pw_below_drewN | apply below_drew1) | exact HB.out))) : w.heap.size ≤ gb374)); clear HO366; clear HB; have HO366 := n0_; have HB := n1_; have BK374 := n2_; have GW374 := n3_; have GE374 := n4_; clear n0_ n1_ n2_ n3_ n4_; clear hb hbox hg; have hcz98_0 : w97.cell? ⟨gb374, 0, none⟩ = some (.int .u8 0) := (blk_cell BK374.out 0).trans rfl; have hcz98_1 : w97.cell? ⟨gb374, 1, none⟩ = some (.bool false) := (blk_cell BK374.out 1).trans rfl; have hcz98_2 : w97.cell? ⟨gb374, 2, none⟩ = some (.string (⟨#[]⟩ : ByteArray)) := (blk_cell BK374.out 2).trans rfl; have hfz98_0 := blk_frozen BK374.out 0; have hfz98_1 := blk_frozen BK374.out 1; have hfz98_2 := blk_frozen BK374.out 2) | ((with_reducible refine gate_callee (f := 52) rfl ?_); refine goesL_ (some 21) rfl rfl Try.func52 (by kernel_rfl) rfl #[.string (⟨#[61, 61, 61, 61, 61, 61, 61, 61, 10]⟩ : ByteArray), .int .i64 7] rfl (by (try simp only [List.map_toArray, List.map_cons, List.map_nil]); first | done | rfl | (simp only [List.length_drop, List.length_take]; rfl)) ?_; (with_reducible refine (mark_Read.calls k (⟨#[61, 61, 61, 61, 61, 61, 61, 61, 10]⟩ : ByteArray) 7 t375 t376 t377 t378 t379 _ A3.out).mono ?_); rintro e w99 ⟨rfl, hb⟩; refine ⟨_, rfl, ?_⟩; have n0_ := Aside0.mk (Kd.R_below (by (with_reducible repeat (first | apply Kd.R_alloc | apply Kd.R_drewN | apply Kd.R_drew)); exact (Kd.R_mono (Kd.R_far (p := ⟨gb374, 2, none⟩) (Kd.R_far (p := ⟨gb374, 1, none⟩) (Kd.R_far (p := ⟨gb374, 0, none⟩) (Kd.R_types HO366.out BK374.out (by decide)) (fun _ hk => hk.2) (.int .u8 t369)) (fun _ hk => hk.2) (.bool t370)) (fun _ hk => hk.2) (.string t371)) (fun _ h_ => h_.1))) hb); have n1_ := Aside0.mk (blk_below (g := gb374) (o := .cells #[.int .u8 t369, .bool t370, .string t371] 62 (0, 0)) (by (with_reducible repeat (first | refine blk_drewN ?_ _ | refine blk_drew ?_ | refine blk_alloc ?_ _)); refine blk_put (cs := #[.int .u8 t369, .bool t370, .string (⟨#[]⟩ : ByteArray)]) ?_ 2 _ rfl; (with_reducible repeat (first | refine blk_drewN ?_ _ | refine blk_drew ?_ | refine blk_alloc ?_ _)); refine blk_put (cs := #[.int .u8 t369, .bool false, .string (⟨#[]⟩ : ByteArray)]) ?_ 1 _ rfl; (with_reducible repeat (first | refine blk_drewN ?_ _ | refine blk_drew ?_ | refine blk_alloc ?_ _)); refine blk_put (cs := #[.int .u8 0, .bool false, .string (⟨#[]⟩ : ByteArray)]) ?_ 0 _ rfl; (with_reducible repeat (first | refine blk_drewN ?_ _ | refine blk_drew ?_ | refine blk_alloc ?_ _)); exact BK374.out) hb); have n2_ := Aside0.mk (below_step (by repeat (first | (with_reducible first | exact HB.out | apply below_alloc | apply pw_below_drewN | apply below_drew1 | refine below_set ?_ GE374.out) | exact HB.out)) hb); clear HO366; clear BK374; clear HB; have HO366 := n0_; have BK374 := n1_; have HB := n2_; clear n0_ n1_ n2_; (try clear hb); (try clear hb2); (try clear hk); (try clear hi)) | ((with_reducible refine gate_dst (N := 6) rfl ?_); refine box_event ?hg (N := 6) ?hd (cs := #[.int .u8 0, .bool false, .string (⟨#[]⟩ : ByteArray)]) (t := 62) ?hr ?_; (case hd => rfl); (case hg => rfl); (case hr => first | (go_simp; done) | (go_simp; rfl)); intro gb380 hg w100 hbox hb; have n0_ := Aside0.mk (Kd.R_below (by (with_reducible repeat (first | apply Kd.R_alloc | apply Kd.R_drewN | apply Kd.R_drew)); exact HO366.out) hb); have n1_ := Aside0.mk (blk_below (g := gb374) (o := .cells #[.int .u8 t369, .bool t370, .string t371] 62 (0, 0)) (by (with_reducible repeat (first | refine blk_drewN ?_ _ | refine blk_drew ?_ | refine blk_alloc ?_ _)); exact BK374.out) hb); have n2_ := Aside0.mk (below_step (by repeat (first | (with_reducible first | exact HB.out | apply below_alloc | apply pw_below_drewN | apply below_drew1 | refine below_set ?_ GE374.out) | exact HB.out)) hb); have n3_ := Aside0.mk (hbox); have n4_ := Aside0.mk ((by rw [hg]; exact (below_size (by repeat (first | (with_reducible first | exact HB.out | apply below_alloc | apply pw_below_drewN | apply below_drew1 | refine below_set ?_ GE374.out) | exact HB.out))) : w.heap.size ≤ gb380)); have n5_ := Aside0.mk ((by rw [hg]; exact (below_size (by repeat (first | (with_reducible first | exact HB.out | apply below_alloc | apply pw_below_drewN | apply below_drew1 | refine below_set ?_ GE374.out) | exact HB.out))) : w.heap.size ≤ gb380)); have n6_ := Aside0.mk ((by rw [hg]; exact Nat.ne_of_lt (blk_lt (g := gb374) (o := .cells #[.int .u8 t369, .bool t370, .string t371] 62 (0, 0)) (by (with_reducible repeat (first | refine blk_drewN ?_ _ | refine blk_drew ?_ | refine blk_alloc ?_ _)); exact BK374.out)) : gb374 ≠ gb380)); have n7_ := Aside0.mk ((by rw [hg]; exact Nat.ne_of_gt (blk_lt (g := gb374) (o := .cells #[.int .u8 t369, .bool t370, .string t371] 62 (0, 0)) (by (with_reducible repeat (first | refine blk_drewN ?_ _ | refine blk_drew ?_ | refine blk_alloc ?_ _)); exact BK374.out)) : gb380 ≠ gb374)); clear HO366; clear BK374; clear HB; have HO366 := n0_; have BK374 := n1_; have HB := n2_; have BK380 := n3_; have GW380 := n4_; have GE380 := n5_; have NB374_380 := n6_; have NB380_374 := n7_; clear n0_ n1_ n2_ n3_ n4_ n5_ n6_ n7_; clear hb hbox hg; have hnb101 := NB380_374.out; have hnc101 := NB374_380.out; have hcz102_0 : w100.cell? ⟨gb380, 0, none⟩ = some (.int .u8 0) := (blk_cell BK380.out 0).trans rfl; have hcz102_1 : w100.cell? ⟨gb380, 1, none⟩ = some (.bool false) := (blk_cell BK380.out 1).trans rfl; have hcz102_2 : w100.cell? ⟨gb380, 2, none⟩ = some (.string (⟨#[]⟩ : ByteArray)) := (blk_cell BK380.out 2).trans rfl; have hfz102_0 := blk_frozen BK380.out 0; have hfz102_1 := blk_frozen BK380.out 1; have hfz102_2 := blk_frozen BK380.out 2))
    go_ret
    exact ⟨by first | rfl | (simp [errW_none, errW_some] <;> rfl) | (simp [*, errW_none, errW_some] <;> rfl), by repeat (first | (with_reducible first | exact HB.out | apply below_alloc | apply pw_below_drewN | apply below_drew1 | refine below_set ?_ GE374.out | refine below_set ?_ GE380.out) | exact HB.out)⟩
end Go.Proofs.Ytfiamddinkokbaa.F
end

section
set_option linter.unusedVariables false
set_option linter.unusedSimpArgs false
namespace Go.Proofs.Ytfiamddinkokbaa.F
open Go.RowKit Go.Proofs.YtfiamddinkokbaaW.PrintWords Go.Proofs.YtfiamddinkokbaaW.PrintLast Go.Proofs.YtfiamddinkokbaaW.PrintMore
attribute [local go_sem] max2_int min2_int max_two min_two max_three min_three max_four min_four
set_option linter.unusedVariables false
set_option linter.unusedSimpArgs false
def tripartitelaw08_narrow.f (a0 : Int) : Option (Int) := if a0 > 300 then (if a0 ≤ 1073741824 then (some (wrap64 ((Int.tmod a0 300) + 1))) else (some a0)) else (some a0)
set_option maxHeartbeats 8000000 in
set_option maxRecDepth 100000 in
theorem tripartitelaw08_narrow.calls (a0 : Int) (r : Int) (w : World) (h : tripartitelaw08_narrow.f a0 = some r) :
    Calls Try.prog 46 #[.int .i64 a0] w fun e w' => e = .returned (.int .i64 r) ∧ Drawn0 w w' := by
  have H : (if a0 > 300 then (if a0 ≤ 1073741824 then (some (wrap64 ((Int.tmod a0 300) + 1))) else (some a0)) else (some a0)) = some r := h
  clear h
  by_cases c2 : a0 > 300
  · rw [if_pos c2] at H
    have c2b0 : decide (300 < a0) = true := decide_eq_true c2
    clear c2
    by_cases c3 : a0 ≤ 1073741824
    · rw [if_pos c3] at H
      have c3b0 : decide (a0 ≤ 1073741824) = true := decide_eq_true c3
      clear c3
      obtain rfl := Option.some.inj H
      go_enter Try.func46, Try.ntmps46
      go_wp2
      go_ret
      exact ⟨by first | rfl | (simp; done) | (simp [*]; done), by repeat (first | exact Drawn0.refl _ | apply Drawn0.step)⟩
    · rw [if_neg c3] at H
      have c3b0 : decide (a0 ≤ 1073741824) = false := decide_eq_false c3
      clear c3
      obtain rfl := Option.some.inj H
      go_enter Try.func46, Try.ntmps46
      go_wp2
      go_ret
      exact ⟨by first | rfl | (simp; done) | (simp [*]; done), by repeat (first | exact Drawn0.refl _ | apply Drawn0.step)⟩
  · rw [if_neg c2] at H
    have c2b0 : decide (300 < a0) = false := decide_eq_false c2
    clear c2
    obtain rfl := Option.some.inj H
    go_enter Try.func46, Try.ntmps46
    go_wp2
    go_ret
    exact ⟨by first | rfl | (simp; done) | (simp [*]; done), by repeat (first | exact Drawn0.refl _ | apply Drawn0.step)⟩
end Go.Proofs.Ytfiamddinkokbaa.F
end

section
set_option linter.unusedVariables false
set_option linter.unusedSimpArgs false
namespace Go.Proofs.Ytfiamddinkokbaa.F
open Go.RowKit Go.Proofs.YtfiamddinkokbaaW.PrintWords Go.Proofs.YtfiamddinkokbaaW.PrintLast Go.Proofs.YtfiamddinkokbaaW.PrintMore
attribute [local go_sem] max2_int min2_int max_two min_two max_three min_three max_four min_four
set_option linter.unusedVariables false
set_option linter.unusedSimpArgs false
def tripartiteref08_wide.f (a0 : Int) : Option (Bool) := if a0 ≥ 1 then (some (decide (a0 ≤ 1073741824))) else (some false)
set_option maxHeartbeats 8000000 in
set_option maxRecDepth 100000 in
theorem tripartiteref08_wide.calls (a0 : Int) (r : Bool) (w : World) (h : tripartiteref08_wide.f a0 = some r) :
    Calls Try.prog 90 #[.int .i64 a0] w fun e w' => e = .returned (.bool r) ∧ Drawn0 w w' := by
  have H : (if a0 ≥ 1 then (some (decide (a0 ≤ 1073741824))) else (some false)) = some r := h
  clear h
  by_cases c2 : a0 ≥ 1
  · rw [if_pos c2] at H
    have c2b0 : decide (1 ≤ a0) = true := decide_eq_true c2
    clear c2
    obtain rfl := Option.some.inj H
    go_enter Try.func90, Try.ntmps90
    go_wp2
    go_ret
    exact ⟨by first | rfl | (simp; done) | (simp [*]; done), by repeat (first | exact Drawn0.refl _ | apply Drawn0.step)⟩
  · rw [if_neg c2] at H
    have c2b0 : decide (1 ≤ a0) = false := decide_eq_false c2
    clear c2
    obtain rfl := Option.some.inj H
    go_enter Try.func90, Try.ntmps90
    go_wp2
    go_ret
    exact ⟨by first | rfl | (simp; done) | (simp [*]; done), by repeat (first | exact Drawn0.refl _ | apply Drawn0.step)⟩
end Go.Proofs.Ytfiamddinkokbaa.F
end

section
set_option linter.unusedVariables false
set_option linter.unusedSimpArgs false
namespace Go.Proofs.Ytfiamddinkokbaa.F
open Go.RowKit Go.Proofs.YtfiamddinkokbaaW.PrintWords Go.Proofs.YtfiamddinkokbaaW.PrintLast Go.Proofs.YtfiamddinkokbaaW.PrintMore
attribute [local go_sem] max2_int min2_int max_two min_two max_three min_three max_four min_four
set_option linter.unusedVariables false
set_option linter.unusedSimpArgs false
def tripartiteref01_Ends.f (a0 : ByteArray) : Option (Bool) := if (a0.size : Int) > 0 then (if 0 ≤ (wrap64 ((a0.size : Int) - 1)) then (if (wrap64 ((a0.size : Int) - 1)) < (a0.size : Int) then (some ((bt a0 (wrap64 ((a0.size : Int) - 1))) == 10)) else (none)) else (none)) else (some false)
set_option maxHeartbeats 8000000 in
set_option maxRecDepth 100000 in
theorem tripartiteref01_Ends.calls (a0 : ByteArray) (r : Bool) (w : World) (h : tripartiteref01_Ends.f a0 = some r) :
    Calls Try.prog 83 #[.string a0] w fun e w' => e = .returned (.bool r) ∧ Drawn0 w w' := by
  have H : (if (a0.size : Int) > 0 then (if 0 ≤ (wrap64 ((a0.size : Int) - 1)) then (if (wrap64 ((a0.size : Int) - 1)) < (a0.size : Int) then (some ((bt a0 (wrap64 ((a0.size : Int) - 1))) == 10)) else (none)) else (none)) else (some false)) = some r := h
  clear h
  by_cases c2 : (a0.size : Int) > 0
  · rw [if_pos c2] at H
    have c2b0 : decide (0 < (a0.size : Int)) = true := decide_eq_true c2
    have c2b1 : decide (0 < a0.size) = true := decide_eq_true (by omega)
    clear c2
    obtain ⟨ji3, hji3⟩ : ∃ j_ : Int, (wrap64 ((a0.size : Int) - 1)) = j_ := ⟨_, rfl⟩
    replace H : (if 0 ≤ (ji3) then (if (ji3) < (a0.size : Int) then (some ((bt a0 (ji3)) == 10)) else (none)) else (none)) = some r := by first | (rw [hji3] at H; exact H) | (simp only [hji3] at H ⊢; exact H)
    have hji3w : (IntKind.i64.wrap ((a0.size : Int) - 1)) = ji3 := (i64_w _).trans hji3
    by_cases c4 : 0 ≤ (ji3)
    · rw [if_pos c4] at H
      have c4b0 : decide (0 ≤ (ji3)) = true := decide_eq_true c4
      clear c4
      by_cases c5 : (ji3) < (a0.size : Int)
      · rw [if_pos c5] at H
        have c5b0 : decide ((ji3) < (a0.size : Int)) = true := decide_eq_true c5
        clear c5
        obtain rfl := Option.some.inj H
        have p6 : 0 ≤ ((ji3) : Int) := of_decide_eq_true (by first | (with_reducible assumption) | assumption)
        have q6 : (ji3) < (a0.size : Int) := of_decide_eq_true (by first | (with_reducible assumption) | assumption)
        have hx6 := bt_at a0 (ji3)
        replace p6 := eq_true p6
        replace q6 := eq_true q6
        go_enter Try.func83, Try.ntmps83
        go_wp2
        go_ret
        exact ⟨by first | rfl | (simp; done) | (simp only [← hji3] <;> (first | rfl | simp)) | (simp [*]; done), by repeat (first | exact Drawn0.refl _ | apply Drawn0.step)⟩
      · rw [if_neg c5] at H
        exact absurd H (by simp)
    · rw [if_neg c4] at H
      exact absurd H (by simp)
  · rw [if_neg c2] at H
    have c2b0 : decide (0 < (a0.size : Int)) = false := decide_eq_false c2
    have c2b1 : decide (0 < a0.size) = false := decide_eq_false (by omega)
    clear c2
    obtain rfl := Option.some.inj H
    go_enter Try.func83, Try.ntmps83
    go_wp2
    go_ret
    exact ⟨by first | rfl | (simp; done) | (simp [*]; done), by repeat (first | exact Drawn0.refl _ | apply Drawn0.step)⟩
end Go.Proofs.Ytfiamddinkokbaa.F
end

section
set_option linter.unusedVariables false
set_option linter.unusedSimpArgs false
namespace Go.Proofs.Ytfiamddinkokbaa.F
open Go.RowKit Go.Proofs.YtfiamddinkokbaaW.PrintWords Go.Proofs.YtfiamddinkokbaaW.PrintLast Go.Proofs.YtfiamddinkokbaaW.PrintMore
attribute [local go_sem] max2_int min2_int max_two min_two max_three min_three max_four min_four
set_option linter.unusedVariables false
set_option linter.unusedSimpArgs false
attribute [local go_sem high] eqA109
def tripartiteref07_one.f (a0_0 : ByteArray) (a0_1 : ByteArray) (a0_2 : ByteArray) (a0_3 : Bool) (a0_4 : ByteArray) (a0_5 : ByteArray) (a0_6 : ByteArray) (a0_7 : ByteArray) (a0_8 : Bool) : Option (Bool) := if a0_3 = true then (if a0_4.toList = ([] : List UInt8) then (if a0_8 = true then (some true) else (if a0_6.toList = ([] : List UInt8) then (some (a0_1.toList == ([] : List UInt8))) else (some false))) else (some false)) else (some (a0_0.toList.isEmpty && (a0_1.toList.isEmpty && (a0_2.toList.isEmpty && (!a0_3 && (a0_5.toList.isEmpty && (a0_6.toList.isEmpty && (a0_7.toList.isEmpty && (!a0_8)))))))))
set_option maxHeartbeats 8000000 in
set_option maxRecDepth 100000 in
theorem tripartiteref07_one.calls (a0_0 : ByteArray) (a0_1 : ByteArray) (a0_2 : ByteArray) (a0_3 : Bool) (a0_4 : ByteArray) (a0_5 : ByteArray) (a0_6 : ByteArray) (a0_7 : ByteArray) (a0_8 : Bool) (r : Bool) (w : World) (h : tripartiteref07_one.f a0_0 a0_1 a0_2 a0_3 a0_4 a0_5 a0_6 a0_7 a0_8 = some r) :
    Calls Try.prog 126 #[.agg #[.string a0_0, .string a0_1, .string a0_2, .bool a0_3, .string a0_4, .string a0_5, .string a0_6, .string a0_7, .bool a0_8]] w fun e w' => e = .returned (.bool r) ∧ Below w.heap.size w w' := by
  have hu109 := Try.underlying109
  have HB := Aside0.mk (Below.refl w.heap.size w)
  have H : (if a0_3 = true then (if a0_4.toList = ([] : List UInt8) then (if a0_8 = true then (some true) else (if a0_6.toList = ([] : List UInt8) then (some (a0_1.toList == ([] : List UInt8))) else (some false))) else (some false)) else (some (a0_0.toList.isEmpty && (a0_1.toList.isEmpty && (a0_2.toList.isEmpty && (!a0_3 && (a0_5.toList.isEmpty && (a0_6.toList.isEmpty && (a0_7.toList.isEmpty && (!a0_8)))))))))) = some r := h
  clear h
  by_cases c2 : a0_3 = true
  · subst c2
    have H1 : (if a0_4.toList = ([] : List UInt8) then (if a0_8 = true then (some true) else (if a0_6.toList = ([] : List UInt8) then (some (a0_1.toList == ([] : List UInt8))) else (some false))) else (some false)) = some r := by rw [if_pos rfl] at H; exact H
    clear H
    have H := H1
    clear H1
    by_cases c3 : a0_4.toList = ([] : List UInt8)
    · rw [if_pos c3] at H
      have c3b0 : (a0_4.toList == ([] : List UInt8)) = true := beq_iff_eq.mpr c3
      have c3b1 : (a0_4.toList != ([] : List UInt8)) = false := bne_eq_false_iff_eq.mpr c3
      clear c3
      by_cases c4 : a0_8 = true
      · subst c4
        have H1 : (some true) = some r := by rw [if_pos rfl] at H; exact H
        clear H
        have H := H1
        clear H1
        obtain rfl := Option.some.inj H
        go_enter Try.func126, Try.ntmps126
        go_wp2_with (first | ((with_reducible refine gate_dst (N := 1) rfl ?_); refine box_event ?hg (N := 1) ?hd (cs := #[.string a0_0, .string a0_1, .string a0_2, .bool true, .string a0_4, .string a0_5, .string a0_6, .string a0_7, .bool true]) (t := 109) ?hr ?_; (case hd => rfl); (case hg => rfl); (case hr => first | (go_simp; done) | (go_simp; rfl)); intro gb381 hg w5 hbox hb; have n0_ := Aside0.mk (below_step (by repeat (first | (with_reducible first | exact HB.out | apply below_alloc | apply pw_below_drewN | apply below_drew1) | exact HB.out)) hb); have n1_ := Aside0.mk (hbox); have n2_ := Aside0.mk ((by rw [hg]; exact (below_size (by repeat (first | (with_reducible first | exact HB.out | apply below_alloc | apply pw_below_drewN | apply below_drew1) | exact HB.out))) : w.heap.size ≤ gb381)); have n3_ := Aside0.mk ((by rw [hg]; exact (below_size (by repeat (first | (with_reducible first | exact HB.out | apply below_alloc | apply pw_below_drewN | apply below_drew1) | exact HB.out))) : w.heap.size ≤ gb381)); clear HB; have HB := n0_; have BK381 := n1_; have GW381 := n2_; have GE381 := n3_; clear n0_ n1_ n2_ n3_; clear hb hbox hg; have hcz6_0 : w5.cell? ⟨gb381, 0, none⟩ = some (.string a0_0) := (blk_cell BK381.out 0).trans rfl; have hcz6_1 : w5.cell? ⟨gb381, 1, none⟩ = some (.string a0_1) := (blk_cell BK381.out 1).trans rfl; have hcz6_2 : w5.cell? ⟨gb381, 2, none⟩ = some (.string a0_2) := (blk_cell BK381.out 2).trans rfl; have hcz6_3 : w5.cell? ⟨gb381, 3, none⟩ = some (.bool true) := (blk_cell BK381.out 3).trans rfl; have hcz6_4 : w5.cell? ⟨gb381, 4, none⟩ = some (.string a0_4) := (blk_cell BK381.out 4).trans rfl; have hcz6_5 : w5.cell? ⟨gb381, 5, none⟩ = some (.string a0_5) := (blk_cell BK381.out 5).trans rfl; have hcz6_6 : w5.cell? ⟨gb381, 6, none⟩ = some (.string a0_6) := (blk_cell BK381.out 6).trans rfl; have hcz6_7 : w5.cell? ⟨gb381, 7, none⟩ = some (.string a0_7) := (blk_cell BK381.out 7).trans rfl; have hcz6_8 : w5.cell? ⟨gb381, 8, none⟩ = some (.bool true) := (blk_cell BK381.out 8).trans rfl; have hfz6_0 := blk_frozen BK381.out 0; have hfz6_1 := blk_frozen BK381.out 1; have hfz6_2 := blk_frozen BK381.out 2; have hfz6_3 := blk_frozen BK381.out 3; have hfz6_4 := blk_frozen BK381.out 4; have hfz6_5 := blk_frozen BK381.out 5; have hfz6_6 := blk_frozen BK381.out 6; have hfz6_7 := blk_frozen BK381.out 7; have hfz6_8 := blk_frozen BK381.out 8))
        go_ret
        exact ⟨by first | rfl | (simp [errW_none, errW_some] <;> rfl) | (simp [*, errW_none, errW_some] <;> rfl), by repeat (first | (with_reducible first | exact HB.out | apply below_alloc | apply pw_below_drewN | apply below_drew1 | refine below_set ?_ GE381.out) | exact HB.out)⟩
      · replace c4 := Bool.eq_false_iff.mpr c4
        subst c4
        have H1 : (if a0_6.toList = ([] : List UInt8) then (some (a0_1.toList == ([] : List UInt8))) else (some false)) = some r := by rw [if_neg (show ¬ (false = true) by decide)] at H; exact H
        clear H
        have H := H1
        clear H1
        by_cases c7 : a0_6.toList = ([] : List UInt8)
        · rw [if_pos c7] at H
          have c7b0 : (a0_6.toList == ([] : List UInt8)) = true := beq_iff_eq.mpr c7
          have c7b1 : (a0_6.toList != ([] : List UInt8)) = false := bne_eq_false_iff_eq.mpr c7
          clear c7
          obtain rfl := Option.some.inj H
          go_enter Try.func126, Try.ntmps126
          go_wp2_with (first | ((with_reducible refine gate_dst (N := 1) rfl ?_); refine box_event ?hg (N := 1) ?hd (cs := #[.string a0_0, .string a0_1, .string a0_2, .bool true, .string a0_4, .string a0_5, .string a0_6, .string a0_7, .bool false]) (t := 109) ?hr ?_; (case hd => rfl); (case hg => rfl); (case hr => first | (go_simp; done) | (go_simp; rfl)); intro gb381 hg w8 hbox hb; have n0_ := Aside0.mk (below_step (by repeat (first | (with_reducible first | exact HB.out | apply below_alloc | apply pw_below_drewN | apply below_drew1) | exact HB.out)) hb); have n1_ := Aside0.mk (hbox); have n2_ := Aside0.mk ((by rw [hg]; exact (below_size (by repeat (first | (with_reducible first | exact HB.out | apply below_alloc | apply pw_below_drewN | apply below_drew1) | exact HB.out))) : w.heap.size ≤ gb381)); have n3_ := Aside0.mk ((by rw [hg]; exact (below_size (by repeat (first | (with_reducible first | exact HB.out | apply below_alloc | apply pw_below_drewN | apply below_drew1) | exact HB.out))) : w.heap.size ≤ gb381)); clear HB; have HB := n0_; have BK381 := n1_; have GW381 := n2_; have GE381 := n3_; clear n0_ n1_ n2_ n3_; clear hb hbox hg; have hcz9_0 : w8.cell? ⟨gb381, 0, none⟩ = some (.string a0_0) := (blk_cell BK381.out 0).trans rfl; have hcz9_1 : w8.cell? ⟨gb381, 1, none⟩ = some (.string a0_1) := (blk_cell BK381.out 1).trans rfl; have hcz9_2 : w8.cell? ⟨gb381, 2, none⟩ = some (.string a0_2) := (blk_cell BK381.out 2).trans rfl; have hcz9_3 : w8.cell? ⟨gb381, 3, none⟩ = some (.bool true) := (blk_cell BK381.out 3).trans rfl; have hcz9_4 : w8.cell? ⟨gb381, 4, none⟩ = some (.string a0_4) := (blk_cell BK381.out 4).trans rfl; have hcz9_5 : w8.cell? ⟨gb381, 5, none⟩ = some (.string a0_5) := (blk_cell BK381.out 5).trans rfl; have hcz9_6 : w8.cell? ⟨gb381, 6, none⟩ = some (.string a0_6) := (blk_cell BK381.out 6).trans rfl; have hcz9_7 : w8.cell? ⟨gb381, 7, none⟩ = some (.string a0_7) := (blk_cell BK381.out 7).trans rfl; have hcz9_8 : w8.cell? ⟨gb381, 8, none⟩ = some (.bool false) := (blk_cell BK381.out 8).trans rfl; have hfz9_0 := blk_frozen BK381.out 0; have hfz9_1 := blk_frozen BK381.out 1; have hfz9_2 := blk_frozen BK381.out 2; have hfz9_3 := blk_frozen BK381.out 3; have hfz9_4 := blk_frozen BK381.out 4; have hfz9_5 := blk_frozen BK381.out 5; have hfz9_6 := blk_frozen BK381.out 6; have hfz9_7 := blk_frozen BK381.out 7; have hfz9_8 := blk_frozen BK381.out 8))
          go_ret
          exact ⟨by first | rfl | (simp [errW_none, errW_some] <;> rfl) | (simp [*, errW_none, errW_some] <;> rfl), by repeat (first | (with_reducible first | exact HB.out | apply below_alloc | apply pw_below_drewN | apply below_drew1 | refine below_set ?_ GE381.out) | exact HB.out)⟩
        · rw [if_neg c7] at H
          have c7b0 : (a0_6.toList == ([] : List UInt8)) = false := beq_eq_false_iff_ne.mpr c7
          have c7b1 : (a0_6.toList != ([] : List UInt8)) = true := bne_iff_ne.mpr c7
          obtain rfl := Option.some.inj H
          go_enter Try.func126, Try.ntmps126
          go_wp2_with (first | ((with_reducible refine gate_dst (N := 1) rfl ?_); refine box_event ?hg (N := 1) ?hd (cs := #[.string a0_0, .string a0_1, .string a0_2, .bool true, .string a0_4, .string a0_5, .string a0_6, .string a0_7, .bool false]) (t := 109) ?hr ?_; (case hd => rfl); (case hg => rfl); (case hr => first | (go_simp; done) | (go_simp; rfl)); intro gb381 hg w10 hbox hb; have n0_ := Aside0.mk (below_step (by repeat (first | (with_reducible first | exact HB.out | apply below_alloc | apply pw_below_drewN | apply below_drew1) | exact HB.out)) hb); have n1_ := Aside0.mk (hbox); have n2_ := Aside0.mk ((by rw [hg]; exact (below_size (by repeat (first | (with_reducible first | exact HB.out | apply below_alloc | apply pw_below_drewN | apply below_drew1) | exact HB.out))) : w.heap.size ≤ gb381)); have n3_ := Aside0.mk ((by rw [hg]; exact (below_size (by repeat (first | (with_reducible first | exact HB.out | apply below_alloc | apply pw_below_drewN | apply below_drew1) | exact HB.out))) : w.heap.size ≤ gb381)); clear HB; have HB := n0_; have BK381 := n1_; have GW381 := n2_; have GE381 := n3_; clear n0_ n1_ n2_ n3_; clear hb hbox hg; have hcz11_0 : w10.cell? ⟨gb381, 0, none⟩ = some (.string a0_0) := (blk_cell BK381.out 0).trans rfl; have hcz11_1 : w10.cell? ⟨gb381, 1, none⟩ = some (.string a0_1) := (blk_cell BK381.out 1).trans rfl; have hcz11_2 : w10.cell? ⟨gb381, 2, none⟩ = some (.string a0_2) := (blk_cell BK381.out 2).trans rfl; have hcz11_3 : w10.cell? ⟨gb381, 3, none⟩ = some (.bool true) := (blk_cell BK381.out 3).trans rfl; have hcz11_4 : w10.cell? ⟨gb381, 4, none⟩ = some (.string a0_4) := (blk_cell BK381.out 4).trans rfl; have hcz11_5 : w10.cell? ⟨gb381, 5, none⟩ = some (.string a0_5) := (blk_cell BK381.out 5).trans rfl; have hcz11_6 : w10.cell? ⟨gb381, 6, none⟩ = some (.string a0_6) := (blk_cell BK381.out 6).trans rfl; have hcz11_7 : w10.cell? ⟨gb381, 7, none⟩ = some (.string a0_7) := (blk_cell BK381.out 7).trans rfl; have hcz11_8 : w10.cell? ⟨gb381, 8, none⟩ = some (.bool false) := (blk_cell BK381.out 8).trans rfl; have hfz11_0 := blk_frozen BK381.out 0; have hfz11_1 := blk_frozen BK381.out 1; have hfz11_2 := blk_frozen BK381.out 2; have hfz11_3 := blk_frozen BK381.out 3; have hfz11_4 := blk_frozen BK381.out 4; have hfz11_5 := blk_frozen BK381.out 5; have hfz11_6 := blk_frozen BK381.out 6; have hfz11_7 := blk_frozen BK381.out 7; have hfz11_8 := blk_frozen BK381.out 8))
          go_ret
          exact ⟨by first | rfl | (simp [errW_none, errW_some] <;> rfl) | (simp [*, errW_none, errW_some] <;> rfl), by repeat (first | (with_reducible first | exact HB.out | apply below_alloc | apply pw_below_drewN | apply below_drew1 | refine below_set ?_ GE381.out) | exact HB.out)⟩
    · rw [if_neg c3] at H
      have c3b0 : (a0_4.toList == ([] : List UInt8)) = false := beq_eq_false_iff_ne.mpr c3
      have c3b1 : (a0_4.toList != ([] : List UInt8)) = true := bne_iff_ne.mpr c3
      obtain rfl := Option.some.inj H
      go_enter Try.func126, Try.ntmps126
      go_wp2_with (first | ((with_reducible refine gate_dst (N := 1) rfl ?_); refine box_event ?hg (N := 1) ?hd (cs := #[.string a0_0, .string a0_1, .string a0_2, .bool true, .string a0_4, .string a0_5, .string a0_6, .string a0_7, .bool a0_8]) (t := 109) ?hr ?_; (case hd => rfl); (case hg => rfl); (case hr => first | (go_simp; done) | (go_simp; rfl)); intro gb381 hg w12 hbox hb; have n0_ := Aside0.mk (below_step (by repeat (first | (with_reducible first | exact HB.out | apply below_alloc | apply pw_below_drewN | apply below_drew1) | exact HB.out)) hb); have n1_ := Aside0.mk (hbox); have n2_ := Aside0.mk ((by rw [hg]; exact (below_size (by repeat (first | (with_reducible first | exact HB.out | apply below_alloc | apply pw_below_drewN | apply below_drew1) | exact HB.out))) : w.heap.size ≤ gb381)); have n3_ := Aside0.mk ((by rw [hg]; exact (below_size (by repeat (first | (with_reducible first | exact HB.out | apply below_alloc | apply pw_below_drewN | apply below_drew1) | exact HB.out))) : w.heap.size ≤ gb381)); clear HB; have HB := n0_; have BK381 := n1_; have GW381 := n2_; have GE381 := n3_; clear n0_ n1_ n2_ n3_; clear hb hbox hg; have hcz13_0 : w12.cell? ⟨gb381, 0, none⟩ = some (.string a0_0) := (blk_cell BK381.out 0).trans rfl; have hcz13_1 : w12.cell? ⟨gb381, 1, none⟩ = some (.string a0_1) := (blk_cell BK381.out 1).trans rfl; have hcz13_2 : w12.cell? ⟨gb381, 2, none⟩ = some (.string a0_2) := (blk_cell BK381.out 2).trans rfl; have hcz13_3 : w12.cell? ⟨gb381, 3, none⟩ = some (.bool true) := (blk_cell BK381.out 3).trans rfl; have hcz13_4 : w12.cell? ⟨gb381, 4, none⟩ = some (.string a0_4) := (blk_cell BK381.out 4).trans rfl; have hcz13_5 : w12.cell? ⟨gb381, 5, none⟩ = some (.string a0_5) := (blk_cell BK381.out 5).trans rfl; have hcz13_6 : w12.cell? ⟨gb381, 6, none⟩ = some (.string a0_6) := (blk_cell BK381.out 6).trans rfl; have hcz13_7 : w12.cell? ⟨gb381, 7, none⟩ = some (.string a0_7) := (blk_cell BK381.out 7).trans rfl; have hcz13_8 : w12.cell? ⟨gb381, 8, none⟩ = some (.bool a0_8) := (blk_cell BK381.out 8).trans rfl; have hfz13_0 := blk_frozen BK381.out 0; have hfz13_1 := blk_frozen BK381.out 1; have hfz13_2 := blk_frozen BK381.out 2; have hfz13_3 := blk_frozen BK381.out 3; have hfz13_4 := blk_frozen BK381.out 4; have hfz13_5 := blk_frozen BK381.out 5; have hfz13_6 := blk_frozen BK381.out 6; have hfz13_7 := blk_frozen BK381.out 7; have hfz13_8 := blk_frozen BK381.out 8))
      go_ret
      exact ⟨by first | rfl | (simp [errW_none, errW_some] <;> rfl) | (simp [*, errW_none, errW_some] <;> rfl), by repeat (first | (with_reducible first | exact HB.out | apply below_alloc | apply pw_below_drewN | apply below_drew1 | refine below_set ?_ GE381.out) | exact HB.out)⟩
  · replace c2 := Bool.eq_false_iff.mpr c2
    subst c2
    have H1 : (some (a0_0.toList.isEmpty && (a0_1.toList.isEmpty && (a0_2.toList.isEmpty && (!false && (a0_5.toList.isEmpty && (a0_6.toList.isEmpty && (a0_7.toList.isEmpty && (!a0_8))))))))) = some r := by rw [if_neg (show ¬ (false = true) by decide)] at H; exact H
    clear H
    have H := H1
    clear H1
    obtain rfl := Option.some.inj H
    go_enter Try.func126, Try.ntmps126
    go_wp2_with (first | ((with_reducible refine gate_dst (N := 1) rfl ?_); refine box_event ?hg (N := 1) ?hd (cs := #[.string a0_0, .string a0_1, .string a0_2, .bool false, .string a0_4, .string a0_5, .string a0_6, .string a0_7, .bool a0_8]) (t := 109) ?hr ?_; (case hd => rfl); (case hg => rfl); (case hr => first | (go_simp; done) | (go_simp; rfl)); intro gb381 hg w14 hbox hb; have n0_ := Aside0.mk (below_step (by repeat (first | (with_reducible first | exact HB.out | apply below_alloc | apply pw_below_drewN | apply below_drew1) | exact HB.out)) hb); have n1_ := Aside0.mk (hbox); have n2_ := Aside0.mk ((by rw [hg]; exact (below_size (by repeat (first | (with_reducible first | exact HB.out | apply below_alloc | apply pw_below_drewN | apply below_drew1) | exact HB.out))) : w.heap.size ≤ gb381)); have n3_ := Aside0.mk ((by rw [hg]; exact (below_size (by repeat (first | (with_reducible first | exact HB.out | apply below_alloc | apply pw_below_drewN | apply below_drew1) | exact HB.out))) : w.heap.size ≤ gb381)); clear HB; have HB := n0_; have BK381 := n1_; have GW381 := n2_; have GE381 := n3_; clear n0_ n1_ n2_ n3_; clear hb hbox hg; have hcz15_0 : w14.cell? ⟨gb381, 0, none⟩ = some (.string a0_0) := (blk_cell BK381.out 0).trans rfl; have hcz15_1 : w14.cell? ⟨gb381, 1, none⟩ = some (.string a0_1) := (blk_cell BK381.out 1).trans rfl; have hcz15_2 : w14.cell? ⟨gb381, 2, none⟩ = some (.string a0_2) := (blk_cell BK381.out 2).trans rfl; have hcz15_3 : w14.cell? ⟨gb381, 3, none⟩ = some (.bool false) := (blk_cell BK381.out 3).trans rfl; have hcz15_4 : w14.cell? ⟨gb381, 4, none⟩ = some (.string a0_4) := (blk_cell BK381.out 4).trans rfl; have hcz15_5 : w14.cell? ⟨gb381, 5, none⟩ = some (.string a0_5) := (blk_cell BK381.out 5).trans rfl; have hcz15_6 : w14.cell? ⟨gb381, 6, none⟩ = some (.string a0_6) := (blk_cell BK381.out 6).trans rfl; have hcz15_7 : w14.cell? ⟨gb381, 7, none⟩ = some (.string a0_7) := (blk_cell BK381.out 7).trans rfl; have hcz15_8 : w14.cell? ⟨gb381, 8, none⟩ = some (.bool a0_8) := (blk_cell BK381.out 8).trans rfl; have hfz15_0 := blk_frozen BK381.out 0; have hfz15_1 := blk_frozen BK381.out 1; have hfz15_2 := blk_frozen BK381.out 2; have hfz15_3 := blk_frozen BK381.out 3; have hfz15_4 := blk_frozen BK381.out 4; have hfz15_5 := blk_frozen BK381.out 5; have hfz15_6 := blk_frozen BK381.out 6; have hfz15_7 := blk_frozen BK381.out 7; have hfz15_8 := blk_frozen BK381.out 8))
    go_ret
    exact ⟨by first | rfl | (simp [errW_none, errW_some] <;> rfl) | (simp [*, errW_none, errW_some] <;> rfl), by repeat (first | (with_reducible first | exact HB.out | apply below_alloc | apply pw_below_drewN | apply below_drew1 | refine below_set ?_ GE381.out) | exact HB.out)⟩
end Go.Proofs.Ytfiamddinkokbaa.F
end

section
set_option linter.unusedVariables false
set_option linter.unusedSimpArgs false
namespace Go.Proofs.Ytfiamddinkokbaa.F
open Go.RowKit Go.Proofs.YtfiamddinkokbaaW.PrintWords Go.Proofs.YtfiamddinkokbaaW.PrintLast Go.Proofs.YtfiamddinkokbaaW.PrintMore
attribute [local go_sem] max2_int min2_int max_two min_two max_three min_three max_four min_four
set_option linter.unusedVariables false
set_option linter.unusedSimpArgs false
def tripartiteref07_plain.l0 : Nat → ByteArray → Int → Option (Bool)
  | 0, _, _ => none
  | k + 1, x0, x3 => if x3 < (x0.size : Int) then (if 0 ≤ x3 then (if (bt x0 x3) = 10 then (some false) else (tripartiteref07_plain.l0 k x0 (wrap64 (x3 + 1)))) else (none)) else (some true)
def tripartiteref07_plain.f (k : Nat) (a0 : ByteArray) : Option (Bool) := tripartiteref07_plain.l0 k a0 0
theorem tripartiteref07_plain.mono_l : ∀ k, (∀ y0 y1, LeO (tripartiteref07_plain.l0 k y0 y1) (tripartiteref07_plain.l0 (k + 1) y0 y1))
  | 0 => fun _ _ r h => by simp [tripartiteref07_plain.l0] at h
  | k + 1 => by
    have ih0 := tripartiteref07_plain.mono_l k
    · intro y0 y1
      unfold tripartiteref07_plain.l0
      repeat' first
      | (with_reducible exact ih0 _ _)
      | (with_reducible exact LeO.refl _)
      | (with_reducible exact LeO.none _)
      | (with_reducible refine LeO.ite ?_ ?_)
      | (with_reducible refine LeO.bind ?_ (fun _ => ?_))
      | exact ih0 _ _
      | exact LeO.none _
      | refine LeO.ite ?_ ?_
      | refine LeO.bind ?_ (fun _ => ?_)
theorem tripartiteref07_plain.mono : ∀ a0 k, LeO (tripartiteref07_plain.f k a0) (tripartiteref07_plain.f (k + 1) a0) := by
  intro a0 k
  have ih0 := tripartiteref07_plain.mono_l k
  unfold tripartiteref07_plain.f
  repeat' first
      | (with_reducible exact ih0 _ _)
      | (with_reducible exact LeO.refl _)
      | (with_reducible exact LeO.none _)
      | (with_reducible refine LeO.ite ?_ ?_)
      | (with_reducible refine LeO.bind ?_ (fun _ => ?_))
      | exact ih0 _ _
      | exact LeO.none _
      | refine LeO.ite ?_ ?_
      | refine LeO.bind ?_ (fun _ => ?_)
set_option maxHeartbeats 8000000 in
set_option maxRecDepth 100000 in
theorem tripartiteref07_plain.calls (k : Nat) (a0 : ByteArray) (r : Bool) (w : World) (h : tripartiteref07_plain.f k a0 = some r) :
    Calls Try.prog 150 #[.string a0] w fun e w' => e = .returned (.bool r) ∧ Drawn0 w w' := by
  have H : (tripartiteref07_plain.l0 k a0 0) = some r := h
  clear h
  have H' := Aside0.mk H
  clear H
  go_enter Try.func150, Try.ntmps150
  go_wp2
  go_loopg [3] k (fun kq v3 w' => ∃ (x3_1 : Int), v3 = .int .i64 x3_1 ∧ Aside0 (tripartiteref07_plain.l0 kq a0 x3_1 = some r) ∧ Aside0 (kq ≤ k) ∧ Drawn0 w w')
  case atStart => exact ⟨(0), (by first | rfl | (simp; done) | (simp [*]; done)), H', ⟨Nat.le_refl _⟩, by repeat (first | exact Drawn0.refl _ | apply Drawn0.step)⟩
  case round =>
    clear H'
    try clear c1
    obtain ⟨x3_1, rfl, HA, HK1, ⟨m1, rfl⟩⟩ := hrel
    cases gk with
    | zero => exact absurd HA.out (by simp [tripartiteref07_plain.l0])
    | succ k1 =>
      have H := HA.out
      clear HA
      simp only [tripartiteref07_plain.l0] at H
      by_cases c2 : x3_1 < (a0.size : Int)
      · rw [if_pos c2] at H
        have c2b0 : decide (x3_1 < (a0.size : Int)) = true := decide_eq_true c2
        clear c2
        by_cases c3 : 0 ≤ x3_1
        · rw [if_pos c3] at H
          have c3b0 : decide (0 ≤ x3_1) = true := decide_eq_true c3
          clear c3
          by_cases c5 : (bt a0 x3_1) = 10
          · rw [if_pos c5] at H
            have c5b0 : ((bt a0 x3_1) == 10) = true := beq_iff_eq.mpr c5
            have c5b1 : ((bt a0 x3_1) != 10) = false := bne_eq_false_iff_eq.mpr c5
            clear c5
            obtain rfl := Option.some.inj H
            have p4 : 0 ≤ (x3_1 : Int) := of_decide_eq_true (by first | (with_reducible assumption) | assumption)
            have q4 : x3_1 < (a0.size : Int) := of_decide_eq_true (by first | (with_reducible assumption) | assumption)
            have hx4 := bt_at a0 x3_1
            replace p4 := eq_true p4
            replace q4 := eq_true q4
            go_wp2
            go_ret
            exact ⟨by first | rfl | (simp; done) | (simp [*]; done), by repeat (first | exact Drawn0.refl _ | apply Drawn0.step)⟩
          · rw [if_neg c5] at H
            have c5b0 : ((bt a0 x3_1) == 10) = false := beq_eq_false_iff_ne.mpr c5
            have c5b1 : ((bt a0 x3_1) != 10) = true := bne_iff_ne.mpr c5
            have H' := Aside0.mk H
            clear H
            have p4 : 0 ≤ (x3_1 : Int) := of_decide_eq_true (by first | (with_reducible assumption) | assumption)
            have q4 : x3_1 < (a0.size : Int) := of_decide_eq_true (by first | (with_reducible assumption) | assumption)
            have hx4 := bt_at a0 x3_1
            replace p4 := eq_true p4
            replace q4 := eq_true q4
            go_wp2
            go_roundg k1
            case measure => have := HK1.out; omega
            case rel => exact ⟨(wrap64 (x3_1 + 1)), (by first | rfl | (simp; done) | (simp [*]; done)), H', ⟨by have := HK1.out; omega⟩, by repeat (first | exact Drawn0.refl _ | apply Drawn0.step)⟩
        · rw [if_neg c3] at H
          exact absurd H (by simp)
      · rw [if_neg c2] at H
        have c2b0 : decide (x3_1 < (a0.size : Int)) = false := decide_eq_false c2
        clear c2
        obtain rfl := Option.some.inj H
        go_wp2
        go_ret
        exact ⟨by first | rfl | (simp; done) | (simp [*]; done), by repeat (first | exact Drawn0.refl _ | apply Drawn0.step)⟩
end Go.Proofs.Ytfiamddinkokbaa.F
end

section
set_option linter.unusedVariables false
set_option linter.unusedSimpArgs false
namespace Go.Proofs.Ytfiamddinkokbaa.F
open Go.RowKit Go.Proofs.YtfiamddinkokbaaW.PrintWords Go.Proofs.YtfiamddinkokbaaW.PrintLast Go.Proofs.YtfiamddinkokbaaW.PrintMore
attribute [local go_sem] max2_int min2_int max_two min_two max_three min_three max_four min_four
set_option linter.unusedVariables false
set_option linter.unusedSimpArgs false
def tripartiteref07_Plain.f (k : Nat) (a0_0 : ByteArray) (a0_1 : ByteArray) (a0_2 : ByteArray) (a0_3 : Bool) (a0_4 : ByteArray) (a0_5 : ByteArray) (a0_6 : ByteArray) (a0_7 : ByteArray) (a0_8 : Bool) : Option (Bool) := (tripartiteref07_plain.f k a0_0).bind fun t383 => (if t383 = true then ((tripartiteref07_plain.f k a0_1).bind fun t384 => (if t384 = true then ((tripartiteref07_plain.f k a0_2).bind fun t385 => (some t385)) else (some false))) else (some false))
theorem tripartiteref07_Plain.mono : ∀ a0 a1 a2 a3 a4 a5 a6 a7 a8 k, LeO (tripartiteref07_Plain.f k a0 a1 a2 a3 a4 a5 a6 a7 a8) (tripartiteref07_Plain.f (k + 1) a0 a1 a2 a3 a4 a5 a6 a7 a8) := by
  intro a0 a1 a2 a3 a4 a5 a6 a7 a8 k
  unfold tripartiteref07_Plain.f
  repeat' first
      | (with_reducible exact tripartiteref07_plain.mono _ _)
      | (with_reducible exact LeO.refl _)
      | (with_reducible exact LeO.none _)
      | (with_reducible refine LeO.ite ?_ ?_)
      | (with_reducible refine LeO.bind ?_ (fun _ => ?_))
      | exact tripartiteref07_plain.mono _ _
      | exact LeO.none _
      | refine LeO.ite ?_ ?_
      | refine LeO.bind ?_ (fun _ => ?_)
set_option maxHeartbeats 8000000 in
set_option maxRecDepth 100000 in
theorem tripartiteref07_Plain.calls (k : Nat) (a0_0 : ByteArray) (a0_1 : ByteArray) (a0_2 : ByteArray) (a0_3 : Bool) (a0_4 : ByteArray) (a0_5 : ByteArray) (a0_6 : ByteArray) (a0_7 : ByteArray) (a0_8 : Bool) (r : Bool) (w : World) (h : tripartiteref07_Plain.f k a0_0 a0_1 a0_2 a0_3 a0_4 a0_5 a0_6 a0_7 a0_8 = some r) :
    Calls Try.prog 127 #[.agg #[.string a0_0, .string a0_1, .string a0_2, .bool a0_3, .string a0_4, .string a0_5, .string a0_6, .string a0_7, .bool a0_8]] w fun e w' => e = .returned (.bool r) ∧ Below w.heap.size w w' := by
  have hu109 := Try.underlying109
  have HB := Aside0.mk (Below.refl w.heap.size w)
  have H : ((tripartiteref07_plain.f k a0_0).bind fun t383 => (if t383 = true then ((tripartiteref07_plain.f k a0_1).bind fun t384 => (if t384 = true then ((tripartiteref07_plain.f k a0_2).bind fun t385 => (some t385)) else (some false))) else (some false))) = some r := h
  clear h
  replace H := Option.bind_eq_some_iff.mp H
  obtain ⟨t383, A20, H⟩ := H
  replace H : (if t383 = true then ((tripartiteref07_plain.f k a0_1).bind fun t384 => (if t384 = true then ((tripartiteref07_plain.f k a0_2).bind fun t385 => (some t385)) else (some false))) else (some false)) = some r := H
  have A2 := Aside0.mk A20
  clear A20
  by_cases c3 : t383 = true
  · subst c3
    have H1 : ((tripartiteref07_plain.f k a0_1).bind fun t384 => (if t384 = true then ((tripartiteref07_plain.f k a0_2).bind fun t385 => (some t385)) else (some false))) = some r := by rw [if_pos rfl] at H; exact H
    clear H
    have H := H1
    clear H1
    replace H := Option.bind_eq_some_iff.mp H
    obtain ⟨t384, A40, H⟩ := H
    replace H : (if t384 = true then ((tripartiteref07_plain.f k a0_2).bind fun t385 => (some t385)) else (some false)) = some r := H
    have A4 := Aside0.mk A40
    clear A40
    by_cases c5 : t384 = true
    · subst c5
      have H1 : ((tripartiteref07_plain.f k a0_2).bind fun t385 => (some t385)) = some r := by rw [if_pos rfl] at H; exact H
      clear H
      have H := H1
      clear H1
      replace H := Option.bind_eq_some_iff.mp H
      obtain ⟨t385, A60, H⟩ := H
      replace H : (some t385) = some r := H
      have A6 := Aside0.mk A60
      clear A60
      obtain rfl := Option.some.inj H
      go_enter Try.func127, Try.ntmps127
      go_wp2_with (first | ((with_reducible refine gate_dst (N := 1) rfl ?_); refine box_event ?hg (N := 1) ?hd (cs := #[.string a0_0, .string a0_1, .string a0_2, .bool a0_3, .string a0_4, .string a0_5, .string a0_6, .string a0_7, .bool a0_8]) (t := 109) ?hr ?_; (case hd => rfl); (case hg => rfl); (case hr => first | (go_simp; done) | (go_simp; rfl)); intro gb382 hg w7 hbox hb; have n0_ := Aside0.mk (below_step (by repeat (first | (with_reducible first | exact HB.out | apply below_alloc | apply pw_below_drewN | apply below_drew1) | exact HB.out)) hb); have n1_ := Aside0.mk (hbox); have n2_ := Aside0.mk ((by rw [hg]; exact (below_size (by repeat (first | (with_reducible first | exact HB.out | apply below_alloc | apply pw_below_drewN | apply below_drew1) | exact HB.out))) : w.heap.size ≤ gb382)); have n3_ := Aside0.mk ((by rw [hg]; exact (below_size (by repeat (first | (with_reducible first | exact HB.out | apply below_alloc | apply pw_below_drewN | apply below_drew1) | exact HB.out))) : w.heap.size ≤ gb382)); clear HB; have HB := n0_; have BK382 := n1_; have GW382 := n2_; have GE382 := n3_; clear n0_ n1_ n2_ n3_; clear hb hbox hg; have hcz8_0 : w7.cell? ⟨gb382, 0, none⟩ = some (.string a0_0) := (blk_cell BK382.out 0).trans rfl; have hcz8_1 : w7.cell? ⟨gb382, 1, none⟩ = some (.string a0_1) := (blk_cell BK382.out 1).trans rfl; have hcz8_2 : w7.cell? ⟨gb382, 2, none⟩ = some (.string a0_2) := (blk_cell BK382.out 2).trans rfl; have hcz8_3 : w7.cell? ⟨gb382, 3, none⟩ = some (.bool a0_3) := (blk_cell BK382.out 3).trans rfl; have hcz8_4 : w7.cell? ⟨gb382, 4, none⟩ = some (.string a0_4) := (blk_cell BK382.out 4).trans rfl; have hcz8_5 : w7.cell? ⟨gb382, 5, none⟩ = some (.string a0_5) := (blk_cell BK382.out 5).trans rfl; have hcz8_6 : w7.cell? ⟨gb382, 6, none⟩ = some (.string a0_6) := (blk_cell BK382.out 6).trans rfl; have hcz8_7 : w7.cell? ⟨gb382, 7, none⟩ = some (.string a0_7) := (blk_cell BK382.out 7).trans rfl; have hcz8_8 : w7.cell? ⟨gb382, 8, none⟩ = some (.bool a0_8) := (blk_cell BK382.out 8).trans rfl; have hfz8_0 := blk_frozen BK382.out 0; have hfz8_1 := blk_frozen BK382.out 1; have hfz8_2 := blk_frozen BK382.out 2; have hfz8_3 := blk_frozen BK382.out 3; have hfz8_4 := blk_frozen BK382.out 4; have hfz8_5 := blk_frozen BK382.out 5; have hfz8_6 := blk_frozen BK382.out 6; have hfz8_7 := blk_frozen BK382.out 7; have hfz8_8 := blk_frozen BK382.out 8) | ((with_reducible refine gate_callee (f := 150) rfl ?_); refine goesL_ (some 5) rfl rfl Try.func150 (by kernel_rfl) rfl #[.string a0_0] rfl (by (try simp only [List.map_toArray, List.map_cons, List.map_nil]); first | done | rfl | (simp only [List.length_drop, List.length_take]; rfl)) ?_; (with_reducible refine (tripartiteref07_plain.calls k a0_0 true _ A2.out).mono ?_); rintro e w' ⟨rfl, ⟨nd, rfl⟩⟩; refine ⟨_, rfl, ?_⟩) | (go_at_call 150; (with_reducible refine (tripartiteref07_plain.calls k a0_1 true _ A4.out).mono ?_); rintro e w' ⟨rfl, ⟨nd, rfl⟩⟩) | (go_at_call 150; (with_reducible refine (tripartiteref07_plain.calls k a0_2 t385 _ A6.out).mono ?_); rintro e w' ⟨rfl, ⟨nd, rfl⟩⟩))
      go_ret
      exact ⟨by first | rfl | (simp [errW_none, errW_some] <;> rfl) | (simp [*, errW_none, errW_some] <;> rfl), by repeat (first | (with_reducible first | exact HB.out | apply below_alloc | apply pw_below_drewN | apply below_drew1 | refine below_set ?_ GE382.out) | exact HB.out)⟩
    · replace c5 := Bool.eq_false_iff.mpr c5
      subst c5
      have H1 : (some false) = some r := by rw [if_neg (show ¬ (false = true) by decide)] at H; exact H
      clear H
      have H := H1
      clear H1
      obtain rfl := Option.some.inj H
      go_enter Try.func127, Try.ntmps127
      go_wp2_with (first | ((with_reducible refine gate_dst (N := 1) rfl ?_); refine box_event ?hg (N := 1) ?hd (cs := #[.string a0_0, .string a0_1, .string a0_2, .bool a0_3, .string a0_4, .string a0_5, .string a0_6, .string a0_7, .bool a0_8]) (t := 109) ?hr ?_; (case hd => rfl); (case hg => rfl); (case hr => first | (go_simp; done) | (go_simp; rfl)); intro gb382 hg w9 hbox hb; have n0_ := Aside0.mk (below_step (by repeat (first | (with_reducible first | exact HB.out | apply below_alloc | apply pw_below_drewN | apply below_drew1) | exact HB.out)) hb); have n1_ := Aside0.mk (hbox); have n2_ := Aside0.mk ((by rw [hg]; exact (below_size (by repeat (first | (with_reducible first | exact HB.out | apply below_alloc | apply pw_below_drewN | apply below_drew1) | exact HB.out))) : w.heap.size ≤ gb382)); have n3_ := Aside0.mk ((by rw [hg]; exact (below_size (by repeat (first | (with_reducible first | exact HB.out | apply below_alloc | apply pw_below_drewN | apply below_drew1) | exact HB.out))) : w.heap.size ≤ gb382)); clear HB; have HB := n0_; have BK382 := n1_; have GW382 := n2_; have GE382 := n3_; clear n0_ n1_ n2_ n3_; clear hb hbox hg; have hcz10_0 : w9.cell? ⟨gb382, 0, none⟩ = some (.string a0_0) := (blk_cell BK382.out 0).trans rfl; have hcz10_1 : w9.cell? ⟨gb382, 1, none⟩ = some (.string a0_1) := (blk_cell BK382.out 1).trans rfl; have hcz10_2 : w9.cell? ⟨gb382, 2, none⟩ = some (.string a0_2) := (blk_cell BK382.out 2).trans rfl; have hcz10_3 : w9.cell? ⟨gb382, 3, none⟩ = some (.bool a0_3) := (blk_cell BK382.out 3).trans rfl; have hcz10_4 : w9.cell? ⟨gb382, 4, none⟩ = some (.string a0_4) := (blk_cell BK382.out 4).trans rfl; have hcz10_5 : w9.cell? ⟨gb382, 5, none⟩ = some (.string a0_5) := (blk_cell BK382.out 5).trans rfl; have hcz10_6 : w9.cell? ⟨gb382, 6, none⟩ = some (.string a0_6) := (blk_cell BK382.out 6).trans rfl; have hcz10_7 : w9.cell? ⟨gb382, 7, none⟩ = some (.string a0_7) := (blk_cell BK382.out 7).trans rfl; have hcz10_8 : w9.cell? ⟨gb382, 8, none⟩ = some (.bool a0_8) := (blk_cell BK382.out 8).trans rfl; have hfz10_0 := blk_frozen BK382.out 0; have hfz10_1 := blk_frozen BK382.out 1; have hfz10_2 := blk_frozen BK382.out 2; have hfz10_3 := blk_frozen BK382.out 3; have hfz10_4 := blk_frozen BK382.out 4; have hfz10_5 := blk_frozen BK382.out 5; have hfz10_6 := blk_frozen BK382.out 6; have hfz10_7 := blk_frozen BK382.out 7; have hfz10_8 := blk_frozen BK382.out 8) | ((with_reducible refine gate_callee (f := 150) rfl ?_); refine goesL_ (some 5) rfl rfl Try.func150 (by kernel_rfl) rfl #[.string a0_0] rfl (by (try simp only [List.map_toArray, List.map_cons, List.map_nil]); first | done | rfl | (simp only [List.length_drop, List.length_take]; rfl)) ?_; (with_reducible refine (tripartiteref07_plain.calls k a0_0 true _ A2.out).mono ?_); rintro e w' ⟨rfl, ⟨nd, rfl⟩⟩; refine ⟨_, rfl, ?_⟩) | (go_at_call 150; (with_reducible refine (tripartiteref07_plain.calls k a0_1 false _ A4.out).mono ?_); rintro e w' ⟨rfl, ⟨nd, rfl⟩⟩))
      go_ret
      exact ⟨by first | rfl | (simp [errW_none, errW_some] <;> rfl) | (simp [*, errW_none, errW_some] <;> rfl), by repeat (first | (with_reducible first | exact HB.out | apply below_alloc | apply pw_below_drewN | apply below_drew1 | refine below_set ?_ GE382.out) | exact HB.out)⟩
  · replace c3 := Bool.eq_false_iff.mpr c3
    subst c3
    have H1 : (some false) = some r := by rw [if_neg (show ¬ (false = true) by decide)] at H; exact H
    clear H
    have H := H1
    clear H1
    obtain rfl := Option.some.inj H
    go_enter Try.func127, Try.ntmps127
    go_wp2_with (first | ((with_reducible refine gate_dst (N := 1) rfl ?_); refine box_event ?hg (N := 1) ?hd (cs := #[.string a0_0, .string a0_1, .string a0_2, .bool a0_3, .string a0_4, .string a0_5, .string a0_6, .string a0_7, .bool a0_8]) (t := 109) ?hr ?_; (case hd => rfl); (case hg => rfl); (case hr => first | (go_simp; done) | (go_simp; rfl)); intro gb382 hg w11 hbox hb; have n0_ := Aside0.mk (below_step (by repeat (first | (with_reducible first | exact HB.out | apply below_alloc | apply pw_below_drewN | apply below_drew1) | exact HB.out)) hb); have n1_ := Aside0.mk (hbox); have n2_ := Aside0.mk ((by rw [hg]; exact (below_size (by repeat (first | (with_reducible first | exact HB.out | apply below_alloc | apply pw_below_drewN | apply below_drew1) | exact HB.out))) : w.heap.size ≤ gb382)); have n3_ := Aside0.mk ((by rw [hg]; exact (below_size (by repeat (first | (with_reducible first | exact HB.out | apply below_alloc | apply pw_below_drewN | apply below_drew1) | exact HB.out))) : w.heap.size ≤ gb382)); clear HB; have HB := n0_; have BK382 := n1_; have GW382 := n2_; have GE382 := n3_; clear n0_ n1_ n2_ n3_; clear hb hbox hg; have hcz12_0 : w11.cell? ⟨gb382, 0, none⟩ = some (.string a0_0) := (blk_cell BK382.out 0).trans rfl; have hcz12_1 : w11.cell? ⟨gb382, 1, none⟩ = some (.string a0_1) := (blk_cell BK382.out 1).trans rfl; have hcz12_2 : w11.cell? ⟨gb382, 2, none⟩ = some (.string a0_2) := (blk_cell BK382.out 2).trans rfl; have hcz12_3 : w11.cell? ⟨gb382, 3, none⟩ = some (.bool a0_3) := (blk_cell BK382.out 3).trans rfl; have hcz12_4 : w11.cell? ⟨gb382, 4, none⟩ = some (.string a0_4) := (blk_cell BK382.out 4).trans rfl; have hcz12_5 : w11.cell? ⟨gb382, 5, none⟩ = some (.string a0_5) := (blk_cell BK382.out 5).trans rfl; have hcz12_6 : w11.cell? ⟨gb382, 6, none⟩ = some (.string a0_6) := (blk_cell BK382.out 6).trans rfl; have hcz12_7 : w11.cell? ⟨gb382, 7, none⟩ = some (.string a0_7) := (blk_cell BK382.out 7).trans rfl; have hcz12_8 : w11.cell? ⟨gb382, 8, none⟩ = some (.bool a0_8) := (blk_cell BK382.out 8).trans rfl; have hfz12_0 := blk_frozen BK382.out 0; have hfz12_1 := blk_frozen BK382.out 1; have hfz12_2 := blk_frozen BK382.out 2; have hfz12_3 := blk_frozen BK382.out 3; have hfz12_4 := blk_frozen BK382.out 4; have hfz12_5 := blk_frozen BK382.out 5; have hfz12_6 := blk_frozen BK382.out 6; have hfz12_7 := blk_frozen BK382.out 7; have hfz12_8 := blk_frozen BK382.out 8) | ((with_reducible refine gate_callee (f := 150) rfl ?_); refine goesL_ (some 5) rfl rfl Try.func150 (by kernel_rfl) rfl #[.string a0_0] rfl (by (try simp only [List.map_toArray, List.map_cons, List.map_nil]); first | done | rfl | (simp only [List.length_drop, List.length_take]; rfl)) ?_; (with_reducible refine (tripartiteref07_plain.calls k a0_0 false _ A2.out).mono ?_); rintro e w' ⟨rfl, ⟨nd, rfl⟩⟩; refine ⟨_, rfl, ?_⟩))
    go_ret
    exact ⟨by first | rfl | (simp [errW_none, errW_some] <;> rfl) | (simp [*, errW_none, errW_some] <;> rfl), by repeat (first | (with_reducible first | exact HB.out | apply below_alloc | apply pw_below_drewN | apply below_drew1 | refine below_set ?_ GE382.out) | exact HB.out)⟩
end Go.Proofs.Ytfiamddinkokbaa.F
end

section
set_option linter.unusedVariables false
set_option linter.unusedSimpArgs false
namespace Go.Proofs.Ytfiamddinkokbaa.F
open Go.RowKit Go.Proofs.YtfiamddinkokbaaW.PrintWords Go.Proofs.YtfiamddinkokbaaW.PrintLast Go.Proofs.YtfiamddinkokbaaW.PrintMore
attribute [local go_sem] max2_int min2_int max_two min_two max_three min_three max_four min_four
set_option linter.unusedVariables false
set_option linter.unusedSimpArgs false
mutual
def tripartiteref07_Right.l0 : Nat → List (S109) → Int → Option (Bool)
  | 0, _, _ => none
  | k + 1, x0, x3 => if x3 < (x0.length : Int) then (if 0 ≤ x3 then ((tripartiteref07_one.f ((rd_T109 x0 x3).f0) ((rd_T109 x0 x3).f1) ((rd_T109 x0 x3).f2) ((rd_T109 x0 x3).f3) ((rd_T109 x0 x3).f4) ((rd_T109 x0 x3).f5) ((rd_T109 x0 x3).f6) ((rd_T109 x0 x3).f7) ((rd_T109 x0 x3).f8)).bind fun t388 => (if t388 = true then ((tripartiteref07_Plain.f k ((rd_T109 x0 x3).f0) ((rd_T109 x0 x3).f1) ((rd_T109 x0 x3).f2) ((rd_T109 x0 x3).f3) ((rd_T109 x0 x3).f4) ((rd_T109 x0 x3).f5) ((rd_T109 x0 x3).f6) ((rd_T109 x0 x3).f7) ((rd_T109 x0 x3).f8)).bind fun t389 => (tripartiteref07_Right.j1 k x0 x3 (!t389) ((rd_T109 x0 x3).f0) ((rd_T109 x0 x3).f1) ((rd_T109 x0 x3).f2) ((rd_T109 x0 x3).f3) ((rd_T109 x0 x3).f4) ((rd_T109 x0 x3).f5) ((rd_T109 x0 x3).f6) ((rd_T109 x0 x3).f7) ((rd_T109 x0 x3).f8))) else (tripartiteref07_Right.j1 k x0 x3 true ((rd_T109 x0 x3).f0) ((rd_T109 x0 x3).f1) ((rd_T109 x0 x3).f2) ((rd_T109 x0 x3).f3) ((rd_T109 x0 x3).f4) ((rd_T109 x0 x3).f5) ((rd_T109 x0 x3).f6) ((rd_T109 x0 x3).f7) ((rd_T109 x0 x3).f8)))) else (none)) else (some true)
def tripartiteref07_Right.j1 : Nat → List (S109) → Int → Bool → ByteArray → ByteArray → ByteArray → Bool → ByteArray → ByteArray → ByteArray → ByteArray → Bool → Option (Bool)
  | 0, _, _, _, _, _, _, _, _, _, _, _, _ => none
  | k + 1, x0, x3, x22, x388000, x388001, x388002, x388003, x388004, x388005, x388006, x388007, x388008 => if x22 = true then (some false) else (if x388003 = true then (tripartiteref07_Right.l0 k x0 (wrap64 (x3 + 1))) else (if x388004.toList = ([] : List UInt8) then (some false) else (if x3 > 0 then (if 0 ≤ (wrap64 (x3 - 1)) then (if (wrap64 (x3 - 1)) < (x0.length : Int) then (if ((rd_T109 x0 (wrap64 (x3 - 1))).f3 = true) then (if (wrap64 (x3 + 1)) < (x0.length : Int) then ((tripartiteref01_Ends.f x388004).bind fun t391 => (if t391 = true then (tripartiteref07_Right.l0 k x0 (wrap64 (x3 + 1))) else (some false))) else (tripartiteref07_Right.l0 k x0 (wrap64 (x3 + 1)))) else (some false)) else (none)) else (none)) else (if (wrap64 (x3 + 1)) < (x0.length : Int) then ((tripartiteref01_Ends.f x388004).bind fun t392 => (if t392 = true then (tripartiteref07_Right.l0 k x0 (wrap64 (x3 + 1))) else (some false))) else (tripartiteref07_Right.l0 k x0 (wrap64 (x3 + 1)))))))
end
def tripartiteref07_Right.f (k : Nat) (l0 : List (S109)) : Option (Bool) := tripartiteref07_Right.l0 k l0 0
theorem tripartiteref07_Right.mono_l : ∀ k, (∀ y0 y1, LeO (tripartiteref07_Right.l0 k y0 y1) (tripartiteref07_Right.l0 (k + 1) y0 y1)) ∧ (∀ y0 y1 y2 y3 y4 y5 y6 y7 y8 y9 y10 y11, LeO (tripartiteref07_Right.j1 k y0 y1 y2 y3 y4 y5 y6 y7 y8 y9 y10 y11) (tripartiteref07_Right.j1 (k + 1) y0 y1 y2 y3 y4 y5 y6 y7 y8 y9 y10 y11))
  | 0 => ⟨fun _ _ r h => by simp [tripartiteref07_Right.l0] at h, fun _ _ _ _ _ _ _ _ _ _ _ _ r h => by simp [tripartiteref07_Right.j1] at h⟩
  | k + 1 => by
    obtain ⟨ih0, ih1⟩ := tripartiteref07_Right.mono_l k
    refine ⟨?_, ?_⟩
    · intro y0 y1
      unfold tripartiteref07_Right.l0
      repeat' first
      | (with_reducible exact ih0 _ _)
      | (with_reducible exact ih1 _ _ _ _ _ _ _ _ _ _ _ _)
      | (with_reducible exact tripartiteref07_Plain.mono _ _ _ _ _ _ _ _ _ _)
      | (with_reducible exact LeO.refl _)
      | (with_reducible exact LeO.none _)
      | (with_reducible refine LeO.ite ?_ ?_)
      | (with_reducible refine LeO.bind ?_ (fun _ => ?_))
      | exact ih0 _ _
      | exact ih1 _ _ _ _ _ _ _ _ _ _ _ _
      | exact tripartiteref07_Plain.mono _ _ _ _ _ _ _ _ _ _
      | exact LeO.none _
      | refine LeO.ite ?_ ?_
      | refine LeO.bind ?_ (fun _ => ?_)
    · intro y0 y1 y2 y3 y4 y5 y6 y7 y8 y9 y10 y11
      unfold tripartiteref07_Right.j1
      repeat' first
      | (with_reducible exact ih0 _ _)
      | (with_reducible exact ih1 _ _ _ _ _ _ _ _ _ _ _ _)
      | (with_reducible exact tripartiteref07_Plain.mono _ _ _ _ _ _ _ _ _ _)
      | (with_reducible exact LeO.refl _)
      | (with_reducible exact LeO.none _)
      | (with_reducible refine LeO.ite ?_ ?_)
      | (with_reducible refine LeO.bind ?_ (fun _ => ?_))
      | exact ih0 _ _
      | exact ih1 _ _ _ _ _ _ _ _ _ _ _ _
      | exact tripartiteref07_Plain.mono _ _ _ _ _ _ _ _ _ _
      | exact LeO.none _
      | refine LeO.ite ?_ ?_
      | refine LeO.bind ?_ (fun _ => ?_)
theorem tripartiteref07_Right.mono : ∀ a0 k, LeO (tripartiteref07_Right.f k a0) (tripartiteref07_Right.f (k + 1) a0) := by
  intro a0 k
  obtain ⟨ih0, ih1⟩ := tripartiteref07_Right.mono_l k
  unfold tripartiteref07_Right.f
  repeat' first
      | (with_reducible exact ih0 _ _)
      | (with_reducible exact ih1 _ _ _ _ _ _ _ _ _ _ _ _)
      | (with_reducible exact tripartiteref07_Plain.mono _ _ _ _ _ _ _ _ _ _)
      | (with_reducible exact LeO.refl _)
      | (with_reducible exact LeO.none _)
      | (with_reducible refine LeO.ite ?_ ?_)
      | (with_reducible refine LeO.bind ?_ (fun _ => ?_))
      | exact ih0 _ _
      | exact ih1 _ _ _ _ _ _ _ _ _ _ _ _
      | exact tripartiteref07_Plain.mono _ _ _ _ _ _ _ _ _ _
      | exact LeO.none _
      | refine LeO.ite ?_ ?_
      | refine LeO.bind ?_ (fun _ => ?_)
set_option maxHeartbeats 8000000 in
set_option maxRecDepth 100000 in
theorem tripartiteref07_Right.calls (k : Nat) (A0 : Option Addr) (c0 : Nat) (l0 : List (S109)) (r : Bool) (w : World) (hr0 : Kd.C k109 w A0 l0.length l0) (hc0 : l0.length ≤ c0) (h : tripartiteref07_Right.f k l0 = some r) :
    Calls Try.prog 91 #[.slice A0 l0.length c0] w fun e w' => e = .returned (.bool r) ∧ Below w.heap.size w w' := by
  have hu109 := Try.underlying109
  have HR0 := Aside0.mk hr0
  have HC0 := Aside0.mk hc0
  clear hr0 hc0
  have HB := Aside0.mk (Below.refl w.heap.size w)
  have H : (tripartiteref07_Right.l0 k l0 0) = some r := h
  clear h
  have H' := Aside0.mk H
  clear H
  go_enter Try.func91, Try.ntmps91
  go_wp2
  go_loopg [3] k (fun kq v3 w' => ∃ (x3_1 : Int), v3 = .int .i64 x3_1 ∧ Aside0 (tripartiteref07_Right.l0 kq l0 x3_1 = some r) ∧ Aside0 (kq ≤ k) ∧ Aside0 (Below w.heap.size w w'))
  case atStart => exact ⟨(0), (by first | rfl | (simp; done) | (simp [*]; done)), H', ⟨Nat.le_refl _⟩, ⟨by repeat (first | (with_reducible first | exact HB.out | apply below_alloc | apply pw_below_drewN | apply below_drew1) | exact HB.out)⟩⟩
  case round =>
    clear H'
    obtain ⟨x3_1, rfl, HA, HK1, HB⟩ := hrel
    cases gk with
    | zero => exact absurd HA.out (by simp [tripartiteref07_Right.l0])
    | succ k1 =>
      have H := HA.out
      clear HA
      simp only [tripartiteref07_Right.l0] at H
      by_cases c2 : x3_1 < (l0.length : Int)
      · rw [if_pos c2] at H
        have c2b0 : decide (x3_1 < (l0.length : Int)) = true := decide_eq_true c2
        clear c2
        by_cases c3 : 0 ≤ x3_1
        · rw [if_pos c3] at H
          have c3b0 : decide (0 ≤ x3_1) = true := decide_eq_true c3
          clear c3
          have HC4 := Aside0.mk H
          clear H
          have p386 : 0 ≤ (x3_1 : Int) := of_decide_eq_true (by first | (with_reducible assumption) | assumption)
          have q386 : x3_1 < (l0.length : Int) := of_decide_eq_true (by first | (with_reducible assumption) | assumption)
          obtain ⟨ad386, e386, hx386_0, hx386_1, hx386_2, hx386_3, hx386_4, hx386_5, hx386_6, hx386_7, hx386_8⟩ := at_T109 HR0.out x3_1 p386 q386
          cases e386
          replace hx386_0 := (HB.out.cell (World.block_lt_of_cell? w _ hx386_0)).trans hx386_0
          replace hx386_1 := (HB.out.cell (World.block_lt_of_cell? w _ hx386_1)).trans hx386_1
          replace hx386_2 := (HB.out.cell (World.block_lt_of_cell? w _ hx386_2)).trans hx386_2
          replace hx386_3 := (HB.out.cell (World.block_lt_of_cell? w _ hx386_3)).trans hx386_3
          replace hx386_4 := (HB.out.cell (World.block_lt_of_cell? w _ hx386_4)).trans hx386_4
          replace hx386_5 := (HB.out.cell (World.block_lt_of_cell? w _ hx386_5)).trans hx386_5
          replace hx386_6 := (HB.out.cell (World.block_lt_of_cell? w _ hx386_6)).trans hx386_6
          replace hx386_7 := (HB.out.cell (World.block_lt_of_cell? w _ hx386_7)).trans hx386_7
          replace hx386_8 := (HB.out.cell (World.block_lt_of_cell? w _ hx386_8)).trans hx386_8
          replace p386 := eq_true p386
          replace q386 := eq_true q386
          go_upto_region 5 with (first | ((with_reducible refine gate_dst (N := 4) rfl ?_); (try (refine gate_guard (by rfl) ?_; dsimp only)); refine box_event ?hg (N := 4) ?hd (cs := #[.string (⟨#[]⟩ : ByteArray), .string (⟨#[]⟩ : ByteArray), .string (⟨#[]⟩ : ByteArray), .bool false, .string (⟨#[]⟩ : ByteArray), .string (⟨#[]⟩ : ByteArray), .string (⟨#[]⟩ : ByteArray), .string (⟨#[]⟩ : ByteArray), .bool false]) (t := 109) ?hr ?_; (case hd => rfl); (case hg => rfl); (case hr => first | (go_simp; done) | (go_simp; rfl)); intro gb387 hg w5 hbox hb; have n0_ := Aside0.mk (below_step (by repeat (first | (with_reducible first | exact HB.out | apply below_alloc | apply pw_below_drewN | apply below_drew1) | exact HB.out)) hb); have n1_ := Aside0.mk (hbox); have n2_ := Aside0.mk ((by rw [hg]; exact (below_size (by repeat (first | (with_reducible first | exact HB.out | apply below_alloc | apply pw_below_drewN | apply below_drew1) | exact HB.out))) : w.heap.size ≤ gb387)); have n3_ := Aside0.mk ((by rw [hg]; exact (below_size (by repeat (first | (with_reducible first | exact HB.out | apply below_alloc | apply pw_below_drewN | apply below_drew1) | exact HB.out))) : w.heap.size ≤ gb387)); clear HB; have HB := n0_; have BK387 := n1_; have GW387 := n2_; have GE387 := n3_; clear n0_ n1_ n2_ n3_; clear hb hbox hg; have hcz6_0 : w5.cell? ⟨gb387, 0, none⟩ = some (.string (⟨#[]⟩ : ByteArray)) := (blk_cell BK387.out 0).trans rfl; have hcz6_1 : w5.cell? ⟨gb387, 1, none⟩ = some (.string (⟨#[]⟩ : ByteArray)) := (blk_cell BK387.out 1).trans rfl; have hcz6_2 : w5.cell? ⟨gb387, 2, none⟩ = some (.string (⟨#[]⟩ : ByteArray)) := (blk_cell BK387.out 2).trans rfl; have hcz6_3 : w5.cell? ⟨gb387, 3, none⟩ = some (.bool false) := (blk_cell BK387.out 3).trans rfl; have hcz6_4 : w5.cell? ⟨gb387, 4, none⟩ = some (.string (⟨#[]⟩ : ByteArray)) := (blk_cell BK387.out 4).trans rfl; have hcz6_5 : w5.cell? ⟨gb387, 5, none⟩ = some (.string (⟨#[]⟩ : ByteArray)) := (blk_cell BK387.out 5).trans rfl; have hcz6_6 : w5.cell? ⟨gb387, 6, none⟩ = some (.string (⟨#[]⟩ : ByteArray)) := (blk_cell BK387.out 6).trans rfl; have hcz6_7 : w5.cell? ⟨gb387, 7, none⟩ = some (.string (⟨#[]⟩ : ByteArray)) := (blk_cell BK387.out 7).trans rfl; have hcz6_8 : w5.cell? ⟨gb387, 8, none⟩ = some (.bool false) := (blk_cell BK387.out 8).trans rfl; have hfz6_0 := blk_frozen BK387.out 0; have hfz6_1 := blk_frozen BK387.out 1; have hfz6_2 := blk_frozen BK387.out 2; have hfz6_3 := blk_frozen BK387.out 3; have hfz6_4 := blk_frozen BK387.out 4; have hfz6_5 := blk_frozen BK387.out 5; have hfz6_6 := blk_frozen BK387.out 6; have hfz6_7 := blk_frozen BK387.out 7; have hfz6_8 := blk_frozen BK387.out 8))
          (try simp only [Act.put, List.setIfInBounds_toArray, List.set_cons_zero, List.set_cons_succ])
          go_cut [22] (fun v22 wc => ∃ (kq : Nat) (x22_3 : Bool), v22 = .bool x22_3 ∧ Aside0 (tripartiteref07_Right.j1 kq l0 x3_1 x22_3 ((rd_T109 l0 x3_1).f0) ((rd_T109 l0 x3_1).f1) ((rd_T109 l0 x3_1).f2) ((rd_T109 l0 x3_1).f3) ((rd_T109 l0 x3_1).f4) ((rd_T109 l0 x3_1).f5) ((rd_T109 l0 x3_1).f6) ((rd_T109 l0 x3_1).f7) ((rd_T109 l0 x3_1).f8) = some r) ∧ Aside0 (kq ≤ k1) ∧ Aside0 (wc.heap[gb387]? = some (.cells #[.string ((rd_T109 l0 x3_1).f0), .string ((rd_T109 l0 x3_1).f1), .string ((rd_T109 l0 x3_1).f2), .bool ((rd_T109 l0 x3_1).f3), .string ((rd_T109 l0 x3_1).f4), .string ((rd_T109 l0 x3_1).f5), .string ((rd_T109 l0 x3_1).f6), .string ((rd_T109 l0 x3_1).f7), .bool ((rd_T109 l0 x3_1).f8)] 109 (0, 0))) ∧ Aside0 (Below w.heap.size w wc))
          case first =>
            have H := HC4.out
            clear HC4
            replace H := Option.bind_eq_some_iff.mp H
            obtain ⟨t388, A70, H⟩ := H
            replace H : (if t388 = true then ((tripartiteref07_Plain.f k1 ((rd_T109 l0 x3_1).f0) ((rd_T109 l0 x3_1).f1) ((rd_T109 l0 x3_1).f2) ((rd_T109 l0 x3_1).f3) ((rd_T109 l0 x3_1).f4) ((rd_T109 l0 x3_1).f5) ((rd_T109 l0 x3_1).f6) ((rd_T109 l0 x3_1).f7) ((rd_T109 l0 x3_1).f8)).bind fun t389 => (tripartiteref07_Right.j1 k1 l0 x3_1 (!t389) ((rd_T109 l0 x3_1).f0) ((rd_T109 l0 x3_1).f1) ((rd_T109 l0 x3_1).f2) ((rd_T109 l0 x3_1).f3) ((rd_T109 l0 x3_1).f4) ((rd_T109 l0 x3_1).f5) ((rd_T109 l0 x3_1).f6) ((rd_T109 l0 x3_1).f7) ((rd_T109 l0 x3_1).f8))) else (tripartiteref07_Right.j1 k1 l0 x3_1 true ((rd_T109 l0 x3_1).f0) ((rd_T109 l0 x3_1).f1) ((rd_T109 l0 x3_1).f2) ((rd_T109 l0 x3_1).f3) ((rd_T109 l0 x3_1).f4) ((rd_T109 l0 x3_1).f5) ((rd_T109 l0 x3_1).f6) ((rd_T109 l0 x3_1).f7) ((rd_T109 l0 x3_1).f8))) = some r := H
            have A7 := Aside0.mk A70
            clear A70
            by_cases c8 : t388 = true
            · subst c8
              have H1 : ((tripartiteref07_Plain.f k1 ((rd_T109 l0 x3_1).f0) ((rd_T109 l0 x3_1).f1) ((rd_T109 l0 x3_1).f2) ((rd_T109 l0 x3_1).f3) ((rd_T109 l0 x3_1).f4) ((rd_T109 l0 x3_1).f5) ((rd_T109 l0 x3_1).f6) ((rd_T109 l0 x3_1).f7) ((rd_T109 l0 x3_1).f8)).bind fun t389 => (tripartiteref07_Right.j1 k1 l0 x3_1 (!t389) ((rd_T109 l0 x3_1).f0) ((rd_T109 l0 x3_1).f1) ((rd_T109 l0 x3_1).f2) ((rd_T109 l0 x3_1).f3) ((rd_T109 l0 x3_1).f4) ((rd_T109 l0 x3_1).f5) ((rd_T109 l0 x3_1).f6) ((rd_T109 l0 x3_1).f7) ((rd_T109 l0 x3_1).f8))) = some r := by rw [if_pos rfl] at H; exact H
              clear H
              have H := H1
              clear H1
              replace H := Option.bind_eq_some_iff.mp H
              obtain ⟨t389, A90, H⟩ := H
              replace H : (tripartiteref07_Right.j1 k1 l0 x3_1 (!t389) ((rd_T109 l0 x3_1).f0) ((rd_T109 l0 x3_1).f1) ((rd_T109 l0 x3_1).f2) ((rd_T109 l0 x3_1).f3) ((rd_T109 l0 x3_1).f4) ((rd_T109 l0 x3_1).f5) ((rd_T109 l0 x3_1).f6) ((rd_T109 l0 x3_1).f7) ((rd_T109 l0 x3_1).f8)) = some r := H
              have A9 := Aside0.mk A90
              clear A90
              have H' := Aside0.mk H
              clear H
              have hcz10_0 : w5.cell? ⟨gb387, 0, none⟩ = some (.string (⟨#[]⟩ : ByteArray)) := (blk_cell BK387.out 0).trans rfl
              have hcz10_1 : w5.cell? ⟨gb387, 1, none⟩ = some (.string (⟨#[]⟩ : ByteArray)) := (blk_cell BK387.out 1).trans rfl
              have hcz10_2 : w5.cell? ⟨gb387, 2, none⟩ = some (.string (⟨#[]⟩ : ByteArray)) := (blk_cell BK387.out 2).trans rfl
              have hcz10_3 : w5.cell? ⟨gb387, 3, none⟩ = some (.bool false) := (blk_cell BK387.out 3).trans rfl
              have hcz10_4 : w5.cell? ⟨gb387, 4, none⟩ = some (.string (⟨#[]⟩ : ByteArray)) := (blk_cell BK387.out 4).trans rfl
              have hcz10_5 : w5.cell? ⟨gb387, 5, none⟩ = some (.string (⟨#[]⟩ : ByteArray)) := (blk_cell BK387.out 5).trans rfl
              have hcz10_6 : w5.cell? ⟨gb387, 6, none⟩ = some (.string (⟨#[]⟩ : ByteArray)) := (blk_cell BK387.out 6).trans rfl
              have hcz10_7 : w5.cell? ⟨gb387, 7, none⟩ = some (.string (⟨#[]⟩ : ByteArray)) := (blk_cell BK387.out 7).trans rfl
              have hcz10_8 : w5.cell? ⟨gb387, 8, none⟩ = some (.bool false) := (blk_cell BK387.out 8).trans rfl
              have hfz10_0 := blk_frozen BK387.out 0
              have hfz10_1 := blk_frozen BK387.out 1
              have hfz10_2 := blk_frozen BK387.out 2
              have hfz10_3 := blk_frozen BK387.out 3
              have hfz10_4 := blk_frozen BK387.out 4
              have hfz10_5 := blk_frozen BK387.out 5
              have hfz10_6 := blk_frozen BK387.out 6
              have hfz10_7 := blk_frozen BK387.out 7
              have hfz10_8 := blk_frozen BK387.out 8
              go_wp2_with (first | ((with_reducible refine gate_callee (f := 126) rfl ?_); refine goesL_ (some 16) rfl rfl Try.func126 (by kernel_rfl) rfl #[.agg #[.string ((rd_T109 l0 x3_1).f0), .string ((rd_T109 l0 x3_1).f1), .string ((rd_T109 l0 x3_1).f2), .bool ((rd_T109 l0 x3_1).f3), .string ((rd_T109 l0 x3_1).f4), .string ((rd_T109 l0 x3_1).f5), .string ((rd_T109 l0 x3_1).f6), .string ((rd_T109 l0 x3_1).f7), .bool ((rd_T109 l0 x3_1).f8)]] rfl (by (try simp only [List.map_toArray, List.map_cons, List.map_nil]); first | done | rfl | (simp only [List.length_drop, List.length_take]; rfl)) ?_; (with_reducible refine (tripartiteref07_one.calls ((rd_T109 l0 x3_1).f0) ((rd_T109 l0 x3_1).f1) ((rd_T109 l0 x3_1).f2) ((rd_T109 l0 x3_1).f3) ((rd_T109 l0 x3_1).f4) ((rd_T109 l0 x3_1).f5) ((rd_T109 l0 x3_1).f6) ((rd_T109 l0 x3_1).f7) ((rd_T109 l0 x3_1).f8) true _ A7.out).mono ?_); rintro e w11 ⟨rfl, hb⟩; refine ⟨_, rfl, ?_⟩; have n0_ := Aside0.mk (blk_below (g := gb387) (o := .cells #[.string ((rd_T109 l0 x3_1).f0), .string ((rd_T109 l0 x3_1).f1), .string ((rd_T109 l0 x3_1).f2), .bool ((rd_T109 l0 x3_1).f3), .string ((rd_T109 l0 x3_1).f4), .string ((rd_T109 l0 x3_1).f5), .string ((rd_T109 l0 x3_1).f6), .string ((rd_T109 l0 x3_1).f7), .bool ((rd_T109 l0 x3_1).f8)] 109 (0, 0)) (by (with_reducible repeat (first | refine blk_drewN ?_ _ | refine blk_drew ?_ | refine blk_alloc ?_ _)); refine blk_put (cs := #[.string ((rd_T109 l0 x3_1).f0), .string ((rd_T109 l0 x3_1).f1), .string ((rd_T109 l0 x3_1).f2), .bool ((rd_T109 l0 x3_1).f3), .string ((rd_T109 l0 x3_1).f4), .string ((rd_T109 l0 x3_1).f5), .string ((rd_T109 l0 x3_1).f6), .string ((rd_T109 l0 x3_1).f7), .bool false]) ?_ 8 _ rfl; (with_reducible repeat (first | refine blk_drewN ?_ _ | refine blk_drew ?_ | refine blk_alloc ?_ _)); refine blk_put (cs := #[.string ((rd_T109 l0 x3_1).f0), .string ((rd_T109 l0 x3_1).f1), .string ((rd_T109 l0 x3_1).f2), .bool ((rd_T109 l0 x3_1).f3), .string ((rd_T109 l0 x3_1).f4), .string ((rd_T109 l0 x3_1).f5), .string ((rd_T109 l0 x3_1).f6), .string (⟨#[]⟩ : ByteArray), .bool false]) ?_ 7 _ rfl; (with_reducible repeat (first | refine blk_drewN ?_ _ | refine blk_drew ?_ | refine blk_alloc ?_ _)); refine blk_put (cs := #[.string ((rd_T109 l0 x3_1).f0), .string ((rd_T109 l0 x3_1).f1), .string ((rd_T109 l0 x3_1).f2), .bool ((rd_T109 l0 x3_1).f3), .string ((rd_T109 l0 x3_1).f4), .string ((rd_T109 l0 x3_1).f5), .string (⟨#[]⟩ : ByteArray), .string (⟨#[]⟩ : ByteArray), .bool false]) ?_ 6 _ rfl; (with_reducible repeat (first | refine blk_drewN ?_ _ | refine blk_drew ?_ | refine blk_alloc ?_ _)); refine blk_put (cs := #[.string ((rd_T109 l0 x3_1).f0), .string ((rd_T109 l0 x3_1).f1), .string ((rd_T109 l0 x3_1).f2), .bool ((rd_T109 l0 x3_1).f3), .string ((rd_T109 l0 x3_1).f4), .string (⟨#[]⟩ : ByteArray), .string (⟨#[]⟩ : ByteArray), .string (⟨#[]⟩ : ByteArray), .bool false]) ?_ 5 _ rfl; (with_reducible repeat (first | refine blk_drewN ?_ _ | refine blk_drew ?_ | refine blk_alloc ?_ _)); refine blk_put (cs := #[.string ((rd_T109 l0 x3_1).f0), .string ((rd_T109 l0 x3_1).f1), .string ((rd_T109 l0 x3_1).f2), .bool ((rd_T109 l0 x3_1).f3), .string (⟨#[]⟩ : ByteArray), .string (⟨#[]⟩ : ByteArray), .string (⟨#[]⟩ : ByteArray), .string (⟨#[]⟩ : ByteArray), .bool false]) ?_ 4 _ rfl; (with_reducible repeat (first | refine blk_drewN ?_ _ | refine blk_drew ?_ | refine blk_alloc ?_ _)); refine blk_put (cs := #[.string ((rd_T109 l0 x3_1).f0), .string ((rd_T109 l0 x3_1).f1), .string ((rd_T109 l0 x3_1).f2), .bool false, .string (⟨#[]⟩ : ByteArray), .string (⟨#[]⟩ : ByteArray), .string (⟨#[]⟩ : ByteArray), .string (⟨#[]⟩ : ByteArray), .bool false]) ?_ 3 _ rfl; (with_reducible repeat (first | refine blk_drewN ?_ _ | refine blk_drew ?_ | refine blk_alloc ?_ _)); refine blk_put (cs := #[.string ((rd_T109 l0 x3_1).f0), .string ((rd_T109 l0 x3_1).f1), .string (⟨#[]⟩ : ByteArray), .bool false, .string (⟨#[]⟩ : ByteArray), .string (⟨#[]⟩ : ByteArray), .string (⟨#[]⟩ : ByteArray), .string (⟨#[]⟩ : ByteArray), .bool false]) ?_ 2 _ rfl; (with_reducible repeat (first | refine blk_drewN ?_ _ | refine blk_drew ?_ | refine blk_alloc ?_ _)); refine blk_put (cs := #[.string ((rd_T109 l0 x3_1).f0), .string (⟨#[]⟩ : ByteArray), .string (⟨#[]⟩ : ByteArray), .bool false, .string (⟨#[]⟩ : ByteArray), .string (⟨#[]⟩ : ByteArray), .string (⟨#[]⟩ : ByteArray), .string (⟨#[]⟩ : ByteArray), .bool false]) ?_ 1 _ rfl; (with_reducible repeat (first | refine blk_drewN ?_ _ | refine blk_drew ?_ | refine blk_alloc ?_ _)); refine blk_put (cs := #[.string (⟨#[]⟩ : ByteArray), .string (⟨#[]⟩ : ByteArray), .string (⟨#[]⟩ : ByteArray), .bool false, .string (⟨#[]⟩ : ByteArray), .string (⟨#[]⟩ : ByteArray), .string (⟨#[]⟩ : ByteArray), .string (⟨#[]⟩ : ByteArray), .bool false]) ?_ 0 _ rfl; (with_reducible repeat (first | refine blk_drewN ?_ _ | refine blk_drew ?_ | refine blk_alloc ?_ _)); exact BK387.out) hb); have n1_ := Aside0.mk (below_step (by repeat (first | (with_reducible first | exact HB.out | apply below_alloc | apply pw_below_drewN | apply below_drew1 | refine below_set ?_ GE387.out) | exact HB.out)) hb); clear BK387; clear HB; have BK387 := n0_; have HB := n1_; clear n0_ n1_; (try clear hb); (try clear hb2); (try clear hk); (try clear hi); have hcz12_0 : w11.cell? ⟨gb387, 0, none⟩ = some (.string ((rd_T109 l0 x3_1).f0)) := (blk_cell BK387.out 0).trans rfl; have hcz12_1 : w11.cell? ⟨gb387, 1, none⟩ = some (.string ((rd_T109 l0 x3_1).f1)) := (blk_cell BK387.out 1).trans rfl; have hcz12_2 : w11.cell? ⟨gb387, 2, none⟩ = some (.string ((rd_T109 l0 x3_1).f2)) := (blk_cell BK387.out 2).trans rfl; have hcz12_3 : w11.cell? ⟨gb387, 3, none⟩ = some (.bool ((rd_T109 l0 x3_1).f3)) := (blk_cell BK387.out 3).trans rfl; have hcz12_4 : w11.cell? ⟨gb387, 4, none⟩ = some (.string ((rd_T109 l0 x3_1).f4)) := (blk_cell BK387.out 4).trans rfl; have hcz12_5 : w11.cell? ⟨gb387, 5, none⟩ = some (.string ((rd_T109 l0 x3_1).f5)) := (blk_cell BK387.out 5).trans rfl; have hcz12_6 : w11.cell? ⟨gb387, 6, none⟩ = some (.string ((rd_T109 l0 x3_1).f6)) := (blk_cell BK387.out 6).trans rfl; have hcz12_7 : w11.cell? ⟨gb387, 7, none⟩ = some (.string ((rd_T109 l0 x3_1).f7)) := (blk_cell BK387.out 7).trans rfl; have hcz12_8 : w11.cell? ⟨gb387, 8, none⟩ = some (.bool ((rd_T109 l0 x3_1).f8)) := (blk_cell BK387.out 8).trans rfl; have hfz12_0 := blk_frozen BK387.out 0; have hfz12_1 := blk_frozen BK387.out 1; have hfz12_2 := blk_frozen BK387.out 2; have hfz12_3 := blk_frozen BK387.out 3; have hfz12_4 := blk_frozen BK387.out 4; have hfz12_5 := blk_frozen BK387.out 5; have hfz12_6 := blk_frozen BK387.out 6; have hfz12_7 := blk_frozen BK387.out 7; have hfz12_8 := blk_frozen BK387.out 8) | (go_at_call 127; (with_reducible refine (tripartiteref07_Plain.calls k1 ((rd_T109 l0 x3_1).f0) ((rd_T109 l0 x3_1).f1) ((rd_T109 l0 x3_1).f2) ((rd_T109 l0 x3_1).f3) ((rd_T109 l0 x3_1).f4) ((rd_T109 l0 x3_1).f5) ((rd_T109 l0 x3_1).f6) ((rd_T109 l0 x3_1).f7) ((rd_T109 l0 x3_1).f8) t389 _ A9.out).mono ?_); rintro e w13 ⟨rfl, hb⟩; have n0_ := Aside0.mk (blk_below (g := gb387) (o := .cells #[.string ((rd_T109 l0 x3_1).f0), .string ((rd_T109 l0 x3_1).f1), .string ((rd_T109 l0 x3_1).f2), .bool ((rd_T109 l0 x3_1).f3), .string ((rd_T109 l0 x3_1).f4), .string ((rd_T109 l0 x3_1).f5), .string ((rd_T109 l0 x3_1).f6), .string ((rd_T109 l0 x3_1).f7), .bool ((rd_T109 l0 x3_1).f8)] 109 (0, 0)) (by (with_reducible repeat (first | refine blk_drewN ?_ _ | refine blk_drew ?_ | refine blk_alloc ?_ _)); exact BK387.out) hb); have n1_ := Aside0.mk (below_step (by repeat (first | (with_reducible first | exact HB.out | apply below_alloc | apply pw_below_drewN | apply below_drew1 | refine below_set ?_ GE387.out) | exact HB.out)) hb); clear BK387; clear HB; have BK387 := n0_; have HB := n1_; clear n0_ n1_; (try clear hb); (try clear hb2); (try clear hk); (try clear hi)))
              go_meet
              case rel => exact ⟨_, (!t389), (by first | rfl | (simp; done) | (simp [*]; done)), H', ⟨by have := HK1.out; first | omega | exact Nat.le_refl _⟩, ⟨by (with_reducible repeat (first | refine blk_drewN ?_ _ | refine blk_drew ?_ | refine blk_alloc ?_ _)); exact BK387.out⟩, ⟨by repeat (first | (with_reducible first | exact HB.out | apply below_alloc | apply pw_below_drewN | apply below_drew1 | refine below_set ?_ GE387.out) | exact HB.out)⟩⟩
            · replace c8 := Bool.eq_false_iff.mpr c8
              subst c8
              have H1 : (tripartiteref07_Right.j1 k1 l0 x3_1 true ((rd_T109 l0 x3_1).f0) ((rd_T109 l0 x3_1).f1) ((rd_T109 l0 x3_1).f2) ((rd_T109 l0 x3_1).f3) ((rd_T109 l0 x3_1).f4) ((rd_T109 l0 x3_1).f5) ((rd_T109 l0 x3_1).f6) ((rd_T109 l0 x3_1).f7) ((rd_T109 l0 x3_1).f8)) = some r := by rw [if_neg (show ¬ (false = true) by decide)] at H; exact H
              clear H
              have H := H1
              clear H1
              have H' := Aside0.mk H
              clear H
              have hcz14_0 : w5.cell? ⟨gb387, 0, none⟩ = some (.string (⟨#[]⟩ : ByteArray)) := (blk_cell BK387.out 0).trans rfl
              have hcz14_1 : w5.cell? ⟨gb387, 1, none⟩ = some (.string (⟨#[]⟩ : ByteArray)) := (blk_cell BK387.out 1).trans rfl
              have hcz14_2 : w5.cell? ⟨gb387, 2, none⟩ = some (.string (⟨#[]⟩ : ByteArray)) := (blk_cell BK387.out 2).trans rfl
              have hcz14_3 : w5.cell? ⟨gb387, 3, none⟩ = some (.bool false) := (blk_cell BK387.out 3).trans rfl
              have hcz14_4 : w5.cell? ⟨gb387, 4, none⟩ = some (.string (⟨#[]⟩ : ByteArray)) := (blk_cell BK387.out 4).trans rfl
              have hcz14_5 : w5.cell? ⟨gb387, 5, none⟩ = some (.string (⟨#[]⟩ : ByteArray)) := (blk_cell BK387.out 5).trans rfl
              have hcz14_6 : w5.cell? ⟨gb387, 6, none⟩ = some (.string (⟨#[]⟩ : ByteArray)) := (blk_cell BK387.out 6).trans rfl
              have hcz14_7 : w5.cell? ⟨gb387, 7, none⟩ = some (.string (⟨#[]⟩ : ByteArray)) := (blk_cell BK387.out 7).trans rfl
              have hcz14_8 : w5.cell? ⟨gb387, 8, none⟩ = some (.bool false) := (blk_cell BK387.out 8).trans rfl
              have hfz14_0 := blk_frozen BK387.out 0
              have hfz14_1 := blk_frozen BK387.out 1
              have hfz14_2 := blk_frozen BK387.out 2
              have hfz14_3 := blk_frozen BK387.out 3
              have hfz14_4 := blk_frozen BK387.out 4
              have hfz14_5 := blk_frozen BK387.out 5
              have hfz14_6 := blk_frozen BK387.out 6
              have hfz14_7 := blk_frozen BK387.out 7
              have hfz14_8 := blk_frozen BK387.out 8
              go_wp2_with (first | ((with_reducible refine gate_callee (f := 126) rfl ?_); refine goesL_ (some 16) rfl rfl Try.func126 (by kernel_rfl) rfl #[.agg #[.string ((rd_T109 l0 x3_1).f0), .string ((rd_T109 l0 x3_1).f1), .string ((rd_T109 l0 x3_1).f2), .bool ((rd_T109 l0 x3_1).f3), .string ((rd_T109 l0 x3_1).f4), .string ((rd_T109 l0 x3_1).f5), .string ((rd_T109 l0 x3_1).f6), .string ((rd_T109 l0 x3_1).f7), .bool ((rd_T109 l0 x3_1).f8)]] rfl (by (try simp only [List.map_toArray, List.map_cons, List.map_nil]); first | done | rfl | (simp only [List.length_drop, List.length_take]; rfl)) ?_; (with_reducible refine (tripartiteref07_one.calls ((rd_T109 l0 x3_1).f0) ((rd_T109 l0 x3_1).f1) ((rd_T109 l0 x3_1).f2) ((rd_T109 l0 x3_1).f3) ((rd_T109 l0 x3_1).f4) ((rd_T109 l0 x3_1).f5) ((rd_T109 l0 x3_1).f6) ((rd_T109 l0 x3_1).f7) ((rd_T109 l0 x3_1).f8) false _ A7.out).mono ?_); rintro e w15 ⟨rfl, hb⟩; refine ⟨_, rfl, ?_⟩; have n0_ := Aside0.mk (blk_below (g := gb387) (o := .cells #[.string ((rd_T109 l0 x3_1).f0), .string ((rd_T109 l0 x3_1).f1), .string ((rd_T109 l0 x3_1).f2), .bool ((rd_T109 l0 x3_1).f3), .string ((rd_T109 l0 x3_1).f4), .string ((rd_T109 l0 x3_1).f5), .string ((rd_T109 l0 x3_1).f6), .string ((rd_T109 l0 x3_1).f7), .bool ((rd_T109 l0 x3_1).f8)] 109 (0, 0)) (by (with_reducible repeat (first | refine blk_drewN ?_ _ | refine blk_drew ?_ | refine blk_alloc ?_ _)); refine blk_put (cs := #[.string ((rd_T109 l0 x3_1).f0), .string ((rd_T109 l0 x3_1).f1), .string ((rd_T109 l0 x3_1).f2), .bool ((rd_T109 l0 x3_1).f3), .string ((rd_T109 l0 x3_1).f4), .string ((rd_T109 l0 x3_1).f5), .string ((rd_T109 l0 x3_1).f6), .string ((rd_T109 l0 x3_1).f7), .bool false]) ?_ 8 _ rfl; (with_reducible repeat (first | refine blk_drewN ?_ _ | refine blk_drew ?_ | refine blk_alloc ?_ _)); refine blk_put (cs := #[.string ((rd_T109 l0 x3_1).f0), .string ((rd_T109 l0 x3_1).f1), .string ((rd_T109 l0 x3_1).f2), .bool ((rd_T109 l0 x3_1).f3), .string ((rd_T109 l0 x3_1).f4), .string ((rd_T109 l0 x3_1).f5), .string ((rd_T109 l0 x3_1).f6), .string (⟨#[]⟩ : ByteArray), .bool false]) ?_ 7 _ rfl; (with_reducible repeat (first | refine blk_drewN ?_ _ | refine blk_drew ?_ | refine blk_alloc ?_ _)); refine blk_put (cs := #[.string ((rd_T109 l0 x3_1).f0), .string ((rd_T109 l0 x3_1).f1), .string ((rd_T109 l0 x3_1).f2), .bool ((rd_T109 l0 x3_1).f3), .string ((rd_T109 l0 x3_1).f4), .string ((rd_T109 l0 x3_1).f5), .string (⟨#[]⟩ : ByteArray), .string (⟨#[]⟩ : ByteArray), .bool false]) ?_ 6 _ rfl; (with_reducible repeat (first | refine blk_drewN ?_ _ | refine blk_drew ?_ | refine blk_alloc ?_ _)); refine blk_put (cs := #[.string ((rd_T109 l0 x3_1).f0), .string ((rd_T109 l0 x3_1).f1), .string ((rd_T109 l0 x3_1).f2), .bool ((rd_T109 l0 x3_1).f3), .string ((rd_T109 l0 x3_1).f4), .string (⟨#[]⟩ : ByteArray), .string (⟨#[]⟩ : ByteArray), .string (⟨#[]⟩ : ByteArray), .bool false]) ?_ 5 _ rfl; (with_reducible repeat (first | refine blk_drewN ?_ _ | refine blk_drew ?_ | refine blk_alloc ?_ _)); refine blk_put (cs := #[.string ((rd_T109 l0 x3_1).f0), .string ((rd_T109 l0 x3_1).f1), .string ((rd_T109 l0 x3_1).f2), .bool ((rd_T109 l0 x3_1).f3), .string (⟨#[]⟩ : ByteArray), .string (⟨#[]⟩ : ByteArray), .string (⟨#[]⟩ : ByteArray), .string (⟨#[]⟩ : ByteArray), .bool false]) ?_ 4 _ rfl; (with_reducible repeat (first | refine blk_drewN ?_ _ | refine blk_drew ?_ | refine blk_alloc ?_ _)); refine blk_put (cs := #[.string ((rd_T109 l0 x3_1).f0), .string ((rd_T109 l0 x3_1).f1), .string ((rd_T109 l0 x3_1).f2), .bool false, .string (⟨#[]⟩ : ByteArray), .string (⟨#[]⟩ : ByteArray), .string (⟨#[]⟩ : ByteArray), .string (⟨#[]⟩ : ByteArray), .bool false]) ?_ 3 _ rfl; (with_reducible repeat (first | refine blk_drewN ?_ _ | refine blk_drew ?_ | refine blk_alloc ?_ _)); refine blk_put (cs := #[.string ((rd_T109 l0 x3_1).f0), .string ((rd_T109 l0 x3_1).f1), .string (⟨#[]⟩ : ByteArray), .bool false, .string (⟨#[]⟩ : ByteArray), .string (⟨#[]⟩ : ByteArray), .string (⟨#[]⟩ : ByteArray), .string (⟨#[]⟩ : ByteArray), .bool false]) ?_ 2 _ rfl; (with_reducible repeat (first | refine blk_drewN ?_ _ | refine blk_drew ?_ | refine blk_alloc ?_ _)); refine blk_put (cs := #[.string ((rd_T109 l0 x3_1).f0), .string (⟨#[]⟩ : ByteArray), .string (⟨#[]⟩ : ByteArray), .bool false, .string (⟨#[]⟩ : ByteArray), .string (⟨#[]⟩ : ByteArray), .string (⟨#[]⟩ : ByteArray), .string (⟨#[]⟩ : ByteArray), .bool false]) ?_ 1 _ rfl; (with_reducible repeat (first | refine blk_drewN ?_ _ | refine blk_drew ?_ | refine blk_alloc ?_ _)); refine blk_put (cs := #[.string (⟨#[]⟩ : ByteArray), .string (⟨#[]⟩ : ByteArray), .string (⟨#[]⟩ : ByteArray), .bool false, .string (⟨#[]⟩ : ByteArray), .string (⟨#[]⟩ : ByteArray), .string (⟨#[]⟩ : ByteArray), .string (⟨#[]⟩ : ByteArray), .bool false]) ?_ 0 _ rfl; (with_reducible repeat (first | refine blk_drewN ?_ _ | refine blk_drew ?_ | refine blk_alloc ?_ _)); exact BK387.out) hb); have n1_ := Aside0.mk (below_step (by repeat (first | (with_reducible first | exact HB.out | apply below_alloc | apply pw_below_drewN | apply below_drew1 | refine below_set ?_ GE387.out) | exact HB.out)) hb); clear BK387; clear HB; have BK387 := n0_; have HB := n1_; clear n0_ n1_; (try clear hb); (try clear hb2); (try clear hk); (try clear hi)))
              go_meet
              case rel => exact ⟨_, (true), (by first | rfl | (simp; done) | (simp [*]; done)), H', ⟨by have := HK1.out; first | omega | exact Nat.le_refl _⟩, ⟨by (with_reducible repeat (first | refine blk_drewN ?_ _ | refine blk_drew ?_ | refine blk_alloc ?_ _)); exact BK387.out⟩, ⟨by repeat (first | (with_reducible first | exact HB.out | apply below_alloc | apply pw_below_drewN | apply below_drew1 | refine below_set ?_ GE387.out) | exact HB.out)⟩⟩
          case rest =>
            clear HC4
            try clear c1
            try clear c2
            try clear c2b0
            try clear p2
            try clear c3
            try clear c3b0
            try clear p3
            try clear q3
            try clear hx3
            try clear c8
            try clear c9
            try clear c12
            try clear hcz10_0
            try clear hcz10_1
            try clear hcz10_2
            try clear hcz10_3
            try clear hcz10_4
            try clear hcz10_5
            try clear hcz10_6
            try clear hcz10_7
            try clear hcz10_8
            try clear hcz12_0
            try clear hcz12_1
            try clear hcz12_2
            try clear hcz12_3
            try clear hcz12_4
            try clear hcz12_5
            try clear hcz12_6
            try clear hcz12_7
            try clear hcz12_8
            try clear hcz14_0
            try clear hcz14_1
            try clear hcz14_2
            try clear hcz14_3
            try clear hcz14_4
            try clear hcz14_5
            try clear hcz14_6
            try clear hcz14_7
            try clear hcz14_8
            try clear hcz6_0
            try clear hcz6_1
            try clear hcz6_2
            try clear hcz6_3
            try clear hcz6_4
            try clear hcz6_5
            try clear hcz6_6
            try clear hcz6_7
            try clear hcz6_8
            try clear hfz10_0
            try clear hfz10_1
            try clear hfz10_2
            try clear hfz10_3
            try clear hfz10_4
            try clear hfz10_5
            try clear hfz10_6
            try clear hfz10_7
            try clear hfz10_8
            try clear hfz12_0
            try clear hfz12_1
            try clear hfz12_2
            try clear hfz12_3
            try clear hfz12_4
            try clear hfz12_5
            try clear hfz12_6
            try clear hfz12_7
            try clear hfz12_8
            try clear hfz14_0
            try clear hfz14_1
            try clear hfz14_2
            try clear hfz14_3
            try clear hfz14_4
            try clear hfz14_5
            try clear hfz14_6
            try clear hfz14_7
            try clear hfz14_8
            try clear hfz6_0
            try clear hfz6_1
            try clear hfz6_2
            try clear hfz6_3
            try clear hfz6_4
            try clear hfz6_5
            try clear hfz6_6
            try clear hfz6_7
            try clear hfz6_8
            try clear hx386_0
            try clear hx386_1
            try clear hx386_2
            try clear hx386_3
            try clear hx386_4
            try clear hx386_5
            try clear hx386_6
            try clear hx386_7
            try clear hx386_8
            try clear p386
            try clear q386
            obtain ⟨kq, x22_3, rfl, HA, HJ3, BK387, HB⟩ := hcut
            cases kq with
            | zero => exact absurd HA.out (by simp [tripartiteref07_Right.j1])
            | succ kj3 =>
              have H := HA.out
              clear HA
              simp only [tripartiteref07_Right.j1] at H
              by_cases c16 : x22_3 = true
              · subst c16
                have H1 : (some false) = some r := by rw [if_pos rfl] at H; exact H
                clear H
                have H := H1
                clear H1
                obtain rfl := Option.some.inj H
                go_wp2
                go_ret
                exact ⟨by first | rfl | (simp [errW_none, errW_some] <;> rfl) | (simp [*, errW_none, errW_some] <;> rfl), by repeat (first | (with_reducible first | exact HB.out | apply below_alloc | apply pw_below_drewN | apply below_drew1 | refine below_set ?_ GE387.out) | exact HB.out)⟩
              · replace c16 := Bool.eq_false_iff.mpr c16
                subst c16
                have H1 : (if ((rd_T109 l0 x3_1).f3) = true then (tripartiteref07_Right.l0 kj3 l0 (wrap64 (x3_1 + 1))) else (if ((rd_T109 l0 x3_1).f4).toList = ([] : List UInt8) then (some false) else (if x3_1 > 0 then (if 0 ≤ (wrap64 (x3_1 - 1)) then (if (wrap64 (x3_1 - 1)) < (l0.length : Int) then (if ((rd_T109 l0 (wrap64 (x3_1 - 1))).f3 = true) then (if (wrap64 (x3_1 + 1)) < (l0.length : Int) then ((tripartiteref01_Ends.f ((rd_T109 l0 x3_1).f4)).bind fun t391 => (if t391 = true then (tripartiteref07_Right.l0 kj3 l0 (wrap64 (x3_1 + 1))) else (some false))) else (tripartiteref07_Right.l0 kj3 l0 (wrap64 (x3_1 + 1)))) else (some false)) else (none)) else (none)) else (if (wrap64 (x3_1 + 1)) < (l0.length : Int) then ((tripartiteref01_Ends.f ((rd_T109 l0 x3_1).f4)).bind fun t392 => (if t392 = true then (tripartiteref07_Right.l0 kj3 l0 (wrap64 (x3_1 + 1))) else (some false))) else (tripartiteref07_Right.l0 kj3 l0 (wrap64 (x3_1 + 1))))))) = some r := by rw [if_neg (show ¬ (false = true) by decide)] at H; exact H
                clear H
                have H := H1
                clear H1
                by_cases c17 : ((rd_T109 l0 x3_1).f3) = true
                · rw [if_pos c17] at H
                  have c17b0 : ((rd_T109 l0 x3_1).f3) = true := c17
                  clear c17
                  have H' := Aside0.mk H
                  clear H
                  have hcz18_0 : wc.cell? ⟨gb387, 0, none⟩ = some (.string ((rd_T109 l0 x3_1).f0)) := (blk_cell BK387.out 0).trans rfl
                  have hcz18_1 : wc.cell? ⟨gb387, 1, none⟩ = some (.string ((rd_T109 l0 x3_1).f1)) := (blk_cell BK387.out 1).trans rfl
                  have hcz18_2 : wc.cell? ⟨gb387, 2, none⟩ = some (.string ((rd_T109 l0 x3_1).f2)) := (blk_cell BK387.out 2).trans rfl
                  have hcz18_3 : wc.cell? ⟨gb387, 3, none⟩ = some (.bool ((rd_T109 l0 x3_1).f3)) := (blk_cell BK387.out 3).trans rfl
                  have hcz18_4 : wc.cell? ⟨gb387, 4, none⟩ = some (.string ((rd_T109 l0 x3_1).f4)) := (blk_cell BK387.out 4).trans rfl
                  have hcz18_5 : wc.cell? ⟨gb387, 5, none⟩ = some (.string ((rd_T109 l0 x3_1).f5)) := (blk_cell BK387.out 5).trans rfl
                  have hcz18_6 : wc.cell? ⟨gb387, 6, none⟩ = some (.string ((rd_T109 l0 x3_1).f6)) := (blk_cell BK387.out 6).trans rfl
                  have hcz18_7 : wc.cell? ⟨gb387, 7, none⟩ = some (.string ((rd_T109 l0 x3_1).f7)) := (blk_cell BK387.out 7).trans rfl
                  have hcz18_8 : wc.cell? ⟨gb387, 8, none⟩ = some (.bool ((rd_T109 l0 x3_1).f8)) := (blk_cell BK387.out 8).trans rfl
                  have hfz18_0 := blk_frozen BK387.out 0
                  have hfz18_1 := blk_frozen BK387.out 1
                  have hfz18_2 := blk_frozen BK387.out 2
                  have hfz18_3 := blk_frozen BK387.out 3
                  have hfz18_4 := blk_frozen BK387.out 4
                  have hfz18_5 := blk_frozen BK387.out 5
                  have hfz18_6 := blk_frozen BK387.out 6
                  have hfz18_7 := blk_frozen BK387.out 7
                  have hfz18_8 := blk_frozen BK387.out 8
                  go_wp2
                  go_roundg kj3
                  case measure => have := HK1.out; have := HJ3.out; omega
                  case rel => exact ⟨(wrap64 (x3_1 + 1)), (by first | rfl | (simp; done) | (simp [*]; done)), H', ⟨by have := HK1.out; have := HJ3.out; omega⟩, ⟨by repeat (first | (with_reducible first | exact HB.out | apply below_alloc | apply pw_below_drewN | apply below_drew1 | refine below_set ?_ GE387.out) | exact HB.out)⟩⟩
                · rw [if_neg c17] at H
                  have c17b0 : ((rd_T109 l0 x3_1).f3) = false := by simpa using c17
                  clear c17
                  by_cases c19 : ((rd_T109 l0 x3_1).f4).toList = ([] : List UInt8)
                  · rw [if_pos c19] at H
                    have c19b0 : (((rd_T109 l0 x3_1).f4).toList == ([] : List UInt8)) = true := beq_iff_eq.mpr c19
                    have c19b1 : (((rd_T109 l0 x3_1).f4).toList != ([] : List UInt8)) = false := bne_eq_false_iff_eq.mpr c19
                    clear c19
                    obtain rfl := Option.some.inj H
                    have hcz20_0 : wc.cell? ⟨gb387, 0, none⟩ = some (.string ((rd_T109 l0 x3_1).f0)) := (blk_cell BK387.out 0).trans rfl
                    have hcz20_1 : wc.cell? ⟨gb387, 1, none⟩ = some (.string ((rd_T109 l0 x3_1).f1)) := (blk_cell BK387.out 1).trans rfl
                    have hcz20_2 : wc.cell? ⟨gb387, 2, none⟩ = some (.string ((rd_T109 l0 x3_1).f2)) := (blk_cell BK387.out 2).trans rfl
                    have hcz20_3 : wc.cell? ⟨gb387, 3, none⟩ = some (.bool ((rd_T109 l0 x3_1).f3)) := (blk_cell BK387.out 3).trans rfl
                    have hcz20_4 : wc.cell? ⟨gb387, 4, none⟩ = some (.string ((rd_T109 l0 x3_1).f4)) := (blk_cell BK387.out 4).trans rfl
                    have hcz20_5 : wc.cell? ⟨gb387, 5, none⟩ = some (.string ((rd_T109 l0 x3_1).f5)) := (blk_cell BK387.out 5).trans rfl
                    have hcz20_6 : wc.cell? ⟨gb387, 6, none⟩ = some (.string ((rd_T109 l0 x3_1).f6)) := (blk_cell BK387.out 6).trans rfl
                    have hcz20_7 : wc.cell? ⟨gb387, 7, none⟩ = some (.string ((rd_T109 l0 x3_1).f7)) := (blk_cell BK387.out 7).trans rfl
                    have hcz20_8 : wc.cell? ⟨gb387, 8, none⟩ = some (.bool ((rd_T109 l0 x3_1).f8)) := (blk_cell BK387.out 8).trans rfl
                    have hfz20_0 := blk_frozen BK387.out 0
                    have hfz20_1 := blk_frozen BK387.out 1
                    have hfz20_2 := blk_frozen BK387.out 2
                    have hfz20_3 := blk_frozen BK387.out 3
                    have hfz20_4 := blk_frozen BK387.out 4
                    have hfz20_5 := blk_frozen BK387.out 5
                    have hfz20_6 := blk_frozen BK387.out 6
                    have hfz20_7 := blk_frozen BK387.out 7
                    have hfz20_8 := blk_frozen BK387.out 8
                    go_wp2
                    go_ret
                    exact ⟨by first | rfl | (simp [errW_none, errW_some] <;> rfl) | (simp [*, errW_none, errW_some] <;> rfl), by repeat (first | (with_reducible first | exact HB.out | apply below_alloc | apply pw_below_drewN | apply below_drew1 | refine below_set ?_ GE387.out) | exact HB.out)⟩
                  · rw [if_neg c19] at H
                    have c19b0 : (((rd_T109 l0 x3_1).f4).toList == ([] : List UInt8)) = false := beq_eq_false_iff_ne.mpr c19
                    have c19b1 : (((rd_T109 l0 x3_1).f4).toList != ([] : List UInt8)) = true := bne_iff_ne.mpr c19
                    by_cases c21 : x3_1 > 0
                    · rw [if_pos c21] at H
                      have c21b0 : decide (0 < x3_1) = true := decide_eq_true c21
                      clear c21
                      obtain ⟨ji22, hji22⟩ : ∃ j_ : Int, (wrap64 (x3_1 - 1)) = j_ := ⟨_, rfl⟩
                      replace H : (if 0 ≤ (ji22) then (if (ji22) < (l0.length : Int) then (if ((rd_T109 l0 (ji22)).f3 = true) then (if (wrap64 (x3_1 + 1)) < (l0.length : Int) then ((tripartiteref01_Ends.f ((rd_T109 l0 x3_1).f4)).bind fun t391 => (if t391 = true then (tripartiteref07_Right.l0 kj3 l0 (wrap64 (x3_1 + 1))) else (some false))) else (tripartiteref07_Right.l0 kj3 l0 (wrap64 (x3_1 + 1)))) else (some false)) else (none)) else (none)) = some r := by first | (rw [hji22] at H; exact H) | (simp only [hji22] at H ⊢; exact H)
                      have hji22w : (IntKind.i64.wrap (x3_1 - 1)) = ji22 := (i64_w _).trans hji22
                      by_cases c23 : 0 ≤ (ji22)
                      · rw [if_pos c23] at H
                        have c23b0 : decide (0 ≤ (ji22)) = true := decide_eq_true c23
                        clear c23
                        by_cases c24 : (ji22) < (l0.length : Int)
                        · rw [if_pos c24] at H
                          have c24b0 : decide ((ji22) < (l0.length : Int)) = true := decide_eq_true c24
                          clear c24
                          obtain ⟨bq25, hbq25⟩ : ∃ b_ : Bool, b_ = ((rd_T109 l0 (ji22)).f3) := ⟨_, rfl⟩
                          replace H : (if (bq25 = true) then (if (wrap64 (x3_1 + 1)) < (l0.length : Int) then ((tripartiteref01_Ends.f ((rd_T109 l0 x3_1).f4)).bind fun t391 => (if t391 = true then (tripartiteref07_Right.l0 kj3 l0 (wrap64 (x3_1 + 1))) else (some false))) else (tripartiteref07_Right.l0 kj3 l0 (wrap64 (x3_1 + 1)))) else (some false)) = some r := by rw [← hbq25] at H; exact H
                          have Nbq25 := Aside0.mk hbq25
                          clear hbq25
                          by_cases c26 : (bq25 = true)
                          · subst c26
                            have H1 : (if (wrap64 (x3_1 + 1)) < (l0.length : Int) then ((tripartiteref01_Ends.f ((rd_T109 l0 x3_1).f4)).bind fun t391 => (if t391 = true then (tripartiteref07_Right.l0 kj3 l0 (wrap64 (x3_1 + 1))) else (some false))) else (tripartiteref07_Right.l0 kj3 l0 (wrap64 (x3_1 + 1)))) = some r := by rw [if_pos rfl] at H; exact H
                            clear H
                            have H := H1
                            clear H1
                            by_cases c27 : (wrap64 (x3_1 + 1)) < (l0.length : Int)
                            · rw [if_pos c27] at H
                              have c27b0 : decide ((wrap64 (x3_1 + 1)) < (l0.length : Int)) = true := decide_eq_true c27
                              clear c27
                              replace H := Option.bind_eq_some_iff.mp H
                              obtain ⟨t391, A280, H⟩ := H
                              replace H : (if t391 = true then (tripartiteref07_Right.l0 kj3 l0 (wrap64 (x3_1 + 1))) else (some false)) = some r := H
                              have A28 := Aside0.mk A280
                              clear A280
                              by_cases c29 : t391 = true
                              · subst c29
                                have H1 : (tripartiteref07_Right.l0 kj3 l0 (wrap64 (x3_1 + 1))) = some r := by rw [if_pos rfl] at H; exact H
                                clear H
                                have H := H1
                                clear H1
                                have H' := Aside0.mk H
                                clear H
                                have hcz30_0 : wc.cell? ⟨gb387, 0, none⟩ = some (.string ((rd_T109 l0 x3_1).f0)) := (blk_cell BK387.out 0).trans rfl
                                have hcz30_1 : wc.cell? ⟨gb387, 1, none⟩ = some (.string ((rd_T109 l0 x3_1).f1)) := (blk_cell BK387.out 1).trans rfl
                                have hcz30_2 : wc.cell? ⟨gb387, 2, none⟩ = some (.string ((rd_T109 l0 x3_1).f2)) := (blk_cell BK387.out 2).trans rfl
                                have hcz30_3 : wc.cell? ⟨gb387, 3, none⟩ = some (.bool ((rd_T109 l0 x3_1).f3)) := (blk_cell BK387.out 3).trans rfl
                                have hcz30_4 : wc.cell? ⟨gb387, 4, none⟩ = some (.string ((rd_T109 l0 x3_1).f4)) := (blk_cell BK387.out 4).trans rfl
                                have hcz30_5 : wc.cell? ⟨gb387, 5, none⟩ = some (.string ((rd_T109 l0 x3_1).f5)) := (blk_cell BK387.out 5).trans rfl
                                have hcz30_6 : wc.cell? ⟨gb387, 6, none⟩ = some (.string ((rd_T109 l0 x3_1).f6)) := (blk_cell BK387.out 6).trans rfl
                                have hcz30_7 : wc.cell? ⟨gb387, 7, none⟩ = some (.string ((rd_T109 l0 x3_1).f7)) := (blk_cell BK387.out 7).trans rfl
                                have hcz30_8 : wc.cell? ⟨gb387, 8, none⟩ = some (.bool ((rd_T109 l0 x3_1).f8)) := (blk_cell BK387.out 8).trans rfl
                                have hfz30_0 := blk_frozen BK387.out 0
                                have hfz30_1 := blk_frozen BK387.out 1
                                have hfz30_2 := blk_frozen BK387.out 2
                                have hfz30_3 := blk_frozen BK387.out 3
                                have hfz30_4 := blk_frozen BK387.out 4
                                have hfz30_5 := blk_frozen BK387.out 5
                                have hfz30_6 := blk_frozen BK387.out 6
                                have hfz30_7 := blk_frozen BK387.out 7
                                have hfz30_8 := blk_frozen BK387.out 8
                                have p390 : 0 ≤ ((ji22) : Int) := of_decide_eq_true (by first | (with_reducible assumption) | assumption)
                                have q390 : (ji22) < (l0.length : Int) := of_decide_eq_true (by first | (with_reducible assumption) | assumption)
                                obtain ⟨ad390, e390, hx390_0, hx390_1, hx390_2, hx390_3, hx390_4, hx390_5, hx390_6, hx390_7, hx390_8⟩ := at_T109 HR0.out (ji22) p390 q390
                                (try rw [← Nbq25.out] at hx390_3)
                                (try rw [← Nbq25.out] at hx390_8)
                                obtain rfl : ad386 = ad390 := (by injection e390)
                                replace hx390_0 := (HB.out.cell (World.block_lt_of_cell? w _ hx390_0)).trans hx390_0
                                replace hx390_1 := (HB.out.cell (World.block_lt_of_cell? w _ hx390_1)).trans hx390_1
                                replace hx390_2 := (HB.out.cell (World.block_lt_of_cell? w _ hx390_2)).trans hx390_2
                                replace hx390_3 := (HB.out.cell (World.block_lt_of_cell? w _ hx390_3)).trans hx390_3
                                replace hx390_4 := (HB.out.cell (World.block_lt_of_cell? w _ hx390_4)).trans hx390_4
                                replace hx390_5 := (HB.out.cell (World.block_lt_of_cell? w _ hx390_5)).trans hx390_5
                                replace hx390_6 := (HB.out.cell (World.block_lt_of_cell? w _ hx390_6)).trans hx390_6
                                replace hx390_7 := (HB.out.cell (World.block_lt_of_cell? w _ hx390_7)).trans hx390_7
                                replace hx390_8 := (HB.out.cell (World.block_lt_of_cell? w _ hx390_8)).trans hx390_8
                                replace p390 := eq_true p390
                                replace q390 := eq_true q390
                                go_wp2_with (first | (go_at_call 83; (with_reducible refine (tripartiteref01_Ends.calls ((rd_T109 l0 x3_1).f4) true _ A28.out).mono ?_); rintro e w' ⟨rfl, ⟨nd, rfl⟩⟩))
                                go_roundg kj3
                                case measure => have := HK1.out; have := HJ3.out; omega
                                case rel => exact ⟨(wrap64 (x3_1 + 1)), (by first | rfl | (simp; done) | (simp [*]; done)), H', ⟨by have := HK1.out; have := HJ3.out; omega⟩, ⟨by repeat (first | (with_reducible first | exact HB.out | apply below_alloc | apply pw_below_drewN | apply below_drew1 | refine below_set ?_ GE387.out) | exact HB.out)⟩⟩
                              · replace c29 := Bool.eq_false_iff.mpr c29
                                subst c29
                                have H1 : (some false) = some r := by rw [if_neg (show ¬ (false = true) by decide)] at H; exact H
                                clear H
                                have H := H1
                                clear H1
                                obtain rfl := Option.some.inj H
                                have hcz31_0 : wc.cell? ⟨gb387, 0, none⟩ = some (.string ((rd_T109 l0 x3_1).f0)) := (blk_cell BK387.out 0).trans rfl
                                have hcz31_1 : wc.cell? ⟨gb387, 1, none⟩ = some (.string ((rd_T109 l0 x3_1).f1)) := (blk_cell BK387.out 1).trans rfl
                                have hcz31_2 : wc.cell? ⟨gb387, 2, none⟩ = some (.string ((rd_T109 l0 x3_1).f2)) := (blk_cell BK387.out 2).trans rfl
                                have hcz31_3 : wc.cell? ⟨gb387, 3, none⟩ = some (.bool ((rd_T109 l0 x3_1).f3)) := (blk_cell BK387.out 3).trans rfl
                                have hcz31_4 : wc.cell? ⟨gb387, 4, none⟩ = some (.string ((rd_T109 l0 x3_1).f4)) := (blk_cell BK387.out 4).trans rfl
                                have hcz31_5 : wc.cell? ⟨gb387, 5, none⟩ = some (.string ((rd_T109 l0 x3_1).f5)) := (blk_cell BK387.out 5).trans rfl
                                have hcz31_6 : wc.cell? ⟨gb387, 6, none⟩ = some (.string ((rd_T109 l0 x3_1).f6)) := (blk_cell BK387.out 6).trans rfl
                                have hcz31_7 : wc.cell? ⟨gb387, 7, none⟩ = some (.string ((rd_T109 l0 x3_1).f7)) := (blk_cell BK387.out 7).trans rfl
                                have hcz31_8 : wc.cell? ⟨gb387, 8, none⟩ = some (.bool ((rd_T109 l0 x3_1).f8)) := (blk_cell BK387.out 8).trans rfl
                                have hfz31_0 := blk_frozen BK387.out 0
                                have hfz31_1 := blk_frozen BK387.out 1
                                have hfz31_2 := blk_frozen BK387.out 2
                                have hfz31_3 := blk_frozen BK387.out 3
                                have hfz31_4 := blk_frozen BK387.out 4
                                have hfz31_5 := blk_frozen BK387.out 5
                                have hfz31_6 := blk_frozen BK387.out 6
                                have hfz31_7 := blk_frozen BK387.out 7
                                have hfz31_8 := blk_frozen BK387.out 8
                                have p390 : 0 ≤ ((ji22) : Int) := of_decide_eq_true (by first | (with_reducible assumption) | assumption)
                                have q390 : (ji22) < (l0.length : Int) := of_decide_eq_true (by first | (with_reducible assumption) | assumption)
                                obtain ⟨ad390, e390, hx390_0, hx390_1, hx390_2, hx390_3, hx390_4, hx390_5, hx390_6, hx390_7, hx390_8⟩ := at_T109 HR0.out (ji22) p390 q390
                                (try rw [← Nbq25.out] at hx390_3)
                                (try rw [← Nbq25.out] at hx390_8)
                                obtain rfl : ad386 = ad390 := (by injection e390)
                                replace hx390_0 := (HB.out.cell (World.block_lt_of_cell? w _ hx390_0)).trans hx390_0
                                replace hx390_1 := (HB.out.cell (World.block_lt_of_cell? w _ hx390_1)).trans hx390_1
                                replace hx390_2 := (HB.out.cell (World.block_lt_of_cell? w _ hx390_2)).trans hx390_2
                                replace hx390_3 := (HB.out.cell (World.block_lt_of_cell? w _ hx390_3)).trans hx390_3
                                replace hx390_4 := (HB.out.cell (World.block_lt_of_cell? w _ hx390_4)).trans hx390_4
                                replace hx390_5 := (HB.out.cell (World.block_lt_of_cell? w _ hx390_5)).trans hx390_5
                                replace hx390_6 := (HB.out.cell (World.block_lt_of_cell? w _ hx390_6)).trans hx390_6
                                replace hx390_7 := (HB.out.cell (World.block_lt_of_cell? w _ hx390_7)).trans hx390_7
                                replace hx390_8 := (HB.out.cell (World.block_lt_of_cell? w _ hx390_8)).trans hx390_8
                                replace p390 := eq_true p390
                                replace q390 := eq_true q390
                                go_wp2_with (first | (go_at_call 83; (with_reducible refine (tripartiteref01_Ends.calls ((rd_T109 l0 x3_1).f4) false _ A28.out).mono ?_); rintro e w' ⟨rfl, ⟨nd, rfl⟩⟩))
                                go_ret
                                exact ⟨by first | rfl | (simp [errW_none, errW_some] <;> rfl) | (simp only [← hji22]; first | rfl | (simp [errW_none, errW_some] <;> rfl)) | (simp [*, errW_none, errW_some] <;> rfl), by repeat (first | (with_reducible first | exact HB.out | apply below_alloc | apply pw_below_drewN | apply below_drew1 | refine below_set ?_ GE387.out) | exact HB.out)⟩
                            · rw [if_neg c27] at H
                              have c27b0 : decide ((wrap64 (x3_1 + 1)) < (l0.length : Int)) = false := decide_eq_false c27
                              clear c27
                              have H' := Aside0.mk H
                              clear H
                              have hcz32_0 : wc.cell? ⟨gb387, 0, none⟩ = some (.string ((rd_T109 l0 x3_1).f0)) := (blk_cell BK387.out 0).trans rfl
                              have hcz32_1 : wc.cell? ⟨gb387, 1, none⟩ = some (.string ((rd_T109 l0 x3_1).f1)) := (blk_cell BK387.out 1).trans rfl
                              have hcz32_2 : wc.cell? ⟨gb387, 2, none⟩ = some (.string ((rd_T109 l0 x3_1).f2)) := (blk_cell BK387.out 2).trans rfl
                              have hcz32_3 : wc.cell? ⟨gb387, 3, none⟩ = some (.bool ((rd_T109 l0 x3_1).f3)) := (blk_cell BK387.out 3).trans rfl
                              have hcz32_4 : wc.cell? ⟨gb387, 4, none⟩ = some (.string ((rd_T109 l0 x3_1).f4)) := (blk_cell BK387.out 4).trans rfl
                              have hcz32_5 : wc.cell? ⟨gb387, 5, none⟩ = some (.string ((rd_T109 l0 x3_1).f5)) := (blk_cell BK387.out 5).trans rfl
                              have hcz32_6 : wc.cell? ⟨gb387, 6, none⟩ = some (.string ((rd_T109 l0 x3_1).f6)) := (blk_cell BK387.out 6).trans rfl
                              have hcz32_7 : wc.cell? ⟨gb387, 7, none⟩ = some (.string ((rd_T109 l0 x3_1).f7)) := (blk_cell BK387.out 7).trans rfl
                              have hcz32_8 : wc.cell? ⟨gb387, 8, none⟩ = some (.bool ((rd_T109 l0 x3_1).f8)) := (blk_cell BK387.out 8).trans rfl
                              have hfz32_0 := blk_frozen BK387.out 0
                              have hfz32_1 := blk_frozen BK387.out 1
                              have hfz32_2 := blk_frozen BK387.out 2
                              have hfz32_3 := blk_frozen BK387.out 3
                              have hfz32_4 := blk_frozen BK387.out 4
                              have hfz32_5 := blk_frozen BK387.out 5
                              have hfz32_6 := blk_frozen BK387.out 6
                              have hfz32_7 := blk_frozen BK387.out 7
                              have hfz32_8 := blk_frozen BK387.out 8
                              have p390 : 0 ≤ ((ji22) : Int) := of_decide_eq_true (by first | (with_reducible assumption) | assumption)
                              have q390 : (ji22) < (l0.length : Int) := of_decide_eq_true (by first | (with_reducible assumption) | assumption)
                              obtain ⟨ad390, e390, hx390_0, hx390_1, hx390_2, hx390_3, hx390_4, hx390_5, hx390_6, hx390_7, hx390_8⟩ := at_T109 HR0.out (ji22) p390 q390
                              (try rw [← Nbq25.out] at hx390_3)
                              (try rw [← Nbq25.out] at hx390_8)
                              obtain rfl : ad386 = ad390 := (by injection e390)
                              replace hx390_0 := (HB.out.cell (World.block_lt_of_cell? w _ hx390_0)).trans hx390_0
                              replace hx390_1 := (HB.out.cell (World.block_lt_of_cell? w _ hx390_1)).trans hx390_1
                              replace hx390_2 := (HB.out.cell (World.block_lt_of_cell? w _ hx390_2)).trans hx390_2
                              replace hx390_3 := (HB.out.cell (World.block_lt_of_cell? w _ hx390_3)).trans hx390_3
                              replace hx390_4 := (HB.out.cell (World.block_lt_of_cell? w _ hx390_4)).trans hx390_4
                              replace hx390_5 := (HB.out.cell (World.block_lt_of_cell? w _ hx390_5)).trans hx390_5
                              replace hx390_6 := (HB.out.cell (World.block_lt_of_cell? w _ hx390_6)).trans hx390_6
                              replace hx390_7 := (HB.out.cell (World.block_lt_of_cell? w _ hx390_7)).trans hx390_7
                              replace hx390_8 := (HB.out.cell (World.block_lt_of_cell? w _ hx390_8)).trans hx390_8
                              replace p390 := eq_true p390
                              replace q390 := eq_true q390
                              go_wp2
                              go_roundg kj3
                              case measure => have := HK1.out; have := HJ3.out; omega
                              case rel => exact ⟨(wrap64 (x3_1 + 1)), (by first | rfl | (simp; done) | (simp [*]; done)), H', ⟨by have := HK1.out; have := HJ3.out; omega⟩, ⟨by repeat (first | (with_reducible first | exact HB.out | apply below_alloc | apply pw_below_drewN | apply below_drew1 | refine below_set ?_ GE387.out) | exact HB.out)⟩⟩
                          · replace c26 := Bool.eq_false_iff.mpr c26
                            subst c26
                            have H1 : (some false) = some r := by rw [if_neg (show ¬ (false = true) by decide)] at H; exact H
                            clear H
                            have H := H1
                            clear H1
                            obtain rfl := Option.some.inj H
                            have hcz33_0 : wc.cell? ⟨gb387, 0, none⟩ = some (.string ((rd_T109 l0 x3_1).f0)) := (blk_cell BK387.out 0).trans rfl
                            have hcz33_1 : wc.cell? ⟨gb387, 1, none⟩ = some (.string ((rd_T109 l0 x3_1).f1)) := (blk_cell BK387.out 1).trans rfl
                            have hcz33_2 : wc.cell? ⟨gb387, 2, none⟩ = some (.string ((rd_T109 l0 x3_1).f2)) := (blk_cell BK387.out 2).trans rfl
                            have hcz33_3 : wc.cell? ⟨gb387, 3, none⟩ = some (.bool ((rd_T109 l0 x3_1).f3)) := (blk_cell BK387.out 3).trans rfl
                            have hcz33_4 : wc.cell? ⟨gb387, 4, none⟩ = some (.string ((rd_T109 l0 x3_1).f4)) := (blk_cell BK387.out 4).trans rfl
                            have hcz33_5 : wc.cell? ⟨gb387, 5, none⟩ = some (.string ((rd_T109 l0 x3_1).f5)) := (blk_cell BK387.out 5).trans rfl
                            have hcz33_6 : wc.cell? ⟨gb387, 6, none⟩ = some (.string ((rd_T109 l0 x3_1).f6)) := (blk_cell BK387.out 6).trans rfl
                            have hcz33_7 : wc.cell? ⟨gb387, 7, none⟩ = some (.string ((rd_T109 l0 x3_1).f7)) := (blk_cell BK387.out 7).trans rfl
                            have hcz33_8 : wc.cell? ⟨gb387, 8, none⟩ = some (.bool ((rd_T109 l0 x3_1).f8)) := (blk_cell BK387.out 8).trans rfl
                            have hfz33_0 := blk_frozen BK387.out 0
                            have hfz33_1 := blk_frozen BK387.out 1
                            have hfz33_2 := blk_frozen BK387.out 2
                            have hfz33_3 := blk_frozen BK387.out 3
                            have hfz33_4 := blk_frozen BK387.out 4
                            have hfz33_5 := blk_frozen BK387.out 5
                            have hfz33_6 := blk_frozen BK387.out 6
                            have hfz33_7 := blk_frozen BK387.out 7
                            have hfz33_8 := blk_frozen BK387.out 8
                            have p390 : 0 ≤ ((ji22) : Int) := of_decide_eq_true (by first | (with_reducible assumption) | assumption)
                            have q390 : (ji22) < (l0.length : Int) := of_decide_eq_true (by first | (with_reducible assumption) | assumption)
                            obtain ⟨ad390, e390, hx390_0, hx390_1, hx390_2, hx390_3, hx390_4, hx390_5, hx390_6, hx390_7, hx390_8⟩ := at_T109 HR0.out (ji22) p390 q390
                            (try rw [← Nbq25.out] at hx390_3)
                            (try rw [← Nbq25.out] at hx390_8)
                            obtain rfl : ad386 = ad390 := (by injection e390)
                            replace hx390_0 := (HB.out.cell (World.block_lt_of_cell? w _ hx390_0)).trans hx390_0
                            replace hx390_1 := (HB.out.cell (World.block_lt_of_cell? w _ hx390_1)).trans hx390_1
                            replace hx390_2 := (HB.out.cell (World.block_lt_of_cell? w _ hx390_2)).trans hx390_2
                            replace hx390_3 := (HB.out.cell (World.block_lt_of_cell? w _ hx390_3)).trans hx390_3
                            replace hx390_4 := (HB.out.cell (World.block_lt_of_cell? w _ hx390_4)).trans hx390_4
                            replace hx390_5 := (HB.out.cell (World.block_lt_of_cell? w _ hx390_5)).trans hx390_5
                            replace hx390_6 := (HB.out.cell (World.block_lt_of_cell? w _ hx390_6)).trans hx390_6
                            replace hx390_7 := (HB.out.cell (World.block_lt_of_cell? w _ hx390_7)).trans hx390_7
                            replace hx390_8 := (HB.out.cell (World.block_lt_of_cell? w _ hx390_8)).trans hx390_8
                            replace p390 := eq_true p390
                            replace q390 := eq_true q390
                            go_wp2
                            go_ret
                            exact ⟨by first | rfl | (simp [errW_none, errW_some] <;> rfl) | (simp only [← hji22]; first | rfl | (simp [errW_none, errW_some] <;> rfl)) | (simp [*, errW_none, errW_some] <;> rfl), by repeat (first | (with_reducible first | exact HB.out | apply below_alloc | apply pw_below_drewN | apply below_drew1 | refine below_set ?_ GE387.out) | exact HB.out)⟩
                        · rw [if_neg c24] at H
                          exact absurd H (by simp)
                      · rw [if_neg c23] at H
                        exact absurd H (by simp)
                    · rw [if_neg c21] at H
                      have c21b0 : decide (0 < x3_1) = false := decide_eq_false c21
                      clear c21
                      by_cases c34 : (wrap64 (x3_1 + 1)) < (l0.length : Int)
                      · rw [if_pos c34] at H
                        have c34b0 : decide ((wrap64 (x3_1 + 1)) < (l0.length : Int)) = true := decide_eq_true c34
                        clear c34
                        replace H := Option.bind_eq_some_iff.mp H
                        obtain ⟨t392, A350, H⟩ := H
                        replace H : (if t392 = true then (tripartiteref07_Right.l0 kj3 l0 (wrap64 (x3_1 + 1))) else (some false)) = some r := H
                        have A35 := Aside0.mk A350
                        clear A350
                        by_cases c36 : t392 = true
                        · subst c36
                          have H1 : (tripartiteref07_Right.l0 kj3 l0 (wrap64 (x3_1 + 1))) = some r := by rw [if_pos rfl] at H; exact H
                          clear H
                          have H := H1
                          clear H1
                          have H' := Aside0.mk H
                          clear H
                          have hcz37_0 : wc.cell? ⟨gb387, 0, none⟩ = some (.string ((rd_T109 l0 x3_1).f0)) := (blk_cell BK387.out 0).trans rfl
                          have hcz37_1 : wc.cell? ⟨gb387, 1, none⟩ = some (.string ((rd_T109 l0 x3_1).f1)) := (blk_cell BK387.out 1).trans rfl
                          have hcz37_2 : wc.cell? ⟨gb387, 2, none⟩ = some (.string ((rd_T109 l0 x3_1).f2)) := (blk_cell BK387.out 2).trans rfl
                          have hcz37_3 : wc.cell? ⟨gb387, 3, none⟩ = some (.bool ((rd_T109 l0 x3_1).f3)) := (blk_cell BK387.out 3).trans rfl
                          have hcz37_4 : wc.cell? ⟨gb387, 4, none⟩ = some (.string ((rd_T109 l0 x3_1).f4)) := (blk_cell BK387.out 4).trans rfl
                          have hcz37_5 : wc.cell? ⟨gb387, 5, none⟩ = some (.string ((rd_T109 l0 x3_1).f5)) := (blk_cell BK387.out 5).trans rfl
                          have hcz37_6 : wc.cell? ⟨gb387, 6, none⟩ = some (.string ((rd_T109 l0 x3_1).f6)) := (blk_cell BK387.out 6).trans rfl
                          have hcz37_7 : wc.cell? ⟨gb387, 7, none⟩ = some (.string ((rd_T109 l0 x3_1).f7)) := (blk_cell BK387.out 7).trans rfl
                          have hcz37_8 : wc.cell? ⟨gb387, 8, none⟩ = some (.bool ((rd_T109 l0 x3_1).f8)) := (blk_cell BK387.out 8).trans rfl
                          have hfz37_0 := blk_frozen BK387.out 0
                          have hfz37_1 := blk_frozen BK387.out 1
                          have hfz37_2 := blk_frozen BK387.out 2
                          have hfz37_3 := blk_frozen BK387.out 3
                          have hfz37_4 := blk_frozen BK387.out 4
                          have hfz37_5 := blk_frozen BK387.out 5
                          have hfz37_6 := blk_frozen BK387.out 6
                          have hfz37_7 := blk_frozen BK387.out 7
                          have hfz37_8 := blk_frozen BK387.out 8
                          go_wp2_with (first | (go_at_call 83; (with_reducible refine (tripartiteref01_Ends.calls ((rd_T109 l0 x3_1).f4) true _ A35.out).mono ?_); rintro e w' ⟨rfl, ⟨nd, rfl⟩⟩))
                          go_roundg kj3
                          case measure => have := HK1.out; have := HJ3.out; omega
                          case rel => exact ⟨(wrap64 (x3_1 + 1)), (by first | rfl | (simp; done) | (simp [*]; done)), H', ⟨by have := HK1.out; have := HJ3.out; omega⟩, ⟨by repeat (first | (with_reducible first | exact HB.out | apply below_alloc | apply pw_below_drewN | apply below_drew1 | refine below_set ?_ GE387.out) | exact HB.out)⟩⟩
                        · replace c36 := Bool.eq_false_iff.mpr c36
                          subst c36
                          have H1 : (some false) = some r := by rw [if_neg (show ¬ (false = true) by decide)] at H; exact H
                          clear H
                          have H := H1
                          clear H1
                          obtain rfl := Option.some.inj H
                          have hcz38_0 : wc.cell? ⟨gb387, 0, none⟩ = some (.string ((rd_T109 l0 x3_1).f0)) := (blk_cell BK387.out 0).trans rfl
                          have hcz38_1 : wc.cell? ⟨gb387, 1, none⟩ = some (.string ((rd_T109 l0 x3_1).f1)) := (blk_cell BK387.out 1).trans rfl
                          have hcz38_2 : wc.cell? ⟨gb387, 2, none⟩ = some (.string ((rd_T109 l0 x3_1).f2)) := (blk_cell BK387.out 2).trans rfl
                          have hcz38_3 : wc.cell? ⟨gb387, 3, none⟩ = some (.bool ((rd_T109 l0 x3_1).f3)) := (blk_cell BK387.out 3).trans rfl
                          have hcz38_4 : wc.cell? ⟨gb387, 4, none⟩ = some (.string ((rd_T109 l0 x3_1).f4)) := (blk_cell BK387.out 4).trans rfl
                          have hcz38_5 : wc.cell? ⟨gb387, 5, none⟩ = some (.string ((rd_T109 l0 x3_1).f5)) := (blk_cell BK387.out 5).trans rfl
                          have hcz38_6 : wc.cell? ⟨gb387, 6, none⟩ = some (.string ((rd_T109 l0 x3_1).f6)) := (blk_cell BK387.out 6).trans rfl
                          have hcz38_7 : wc.cell? ⟨gb387, 7, none⟩ = some (.string ((rd_T109 l0 x3_1).f7)) := (blk_cell BK387.out 7).trans rfl
                          have hcz38_8 : wc.cell? ⟨gb387, 8, none⟩ = some (.bool ((rd_T109 l0 x3_1).f8)) := (blk_cell BK387.out 8).trans rfl
                          have hfz38_0 := blk_frozen BK387.out 0
                          have hfz38_1 := blk_frozen BK387.out 1
                          have hfz38_2 := blk_frozen BK387.out 2
                          have hfz38_3 := blk_frozen BK387.out 3
                          have hfz38_4 := blk_frozen BK387.out 4
                          have hfz38_5 := blk_frozen BK387.out 5
                          have hfz38_6 := blk_frozen BK387.out 6
                          have hfz38_7 := blk_frozen BK387.out 7
                          have hfz38_8 := blk_frozen BK387.out 8
                          go_wp2_with (first | (go_at_call 83; (with_reducible refine (tripartiteref01_Ends.calls ((rd_T109 l0 x3_1).f4) false _ A35.out).mono ?_); rintro e w' ⟨rfl, ⟨nd, rfl⟩⟩))
                          go_ret
                          exact ⟨by first | rfl | (simp [errW_none, errW_some] <;> rfl) | (simp [*, errW_none, errW_some] <;> rfl), by repeat (first | (with_reducible first | exact HB.out | apply below_alloc | apply pw_below_drewN | apply below_drew1 | refine below_set ?_ GE387.out) | exact HB.out)⟩
                      · rw [if_neg c34] at H
                        have c34b0 : decide ((wrap64 (x3_1 + 1)) < (l0.length : Int)) = false := decide_eq_false c34
                        clear c34
                        have H' := Aside0.mk H
                        clear H
                        have hcz39_0 : wc.cell? ⟨gb387, 0, none⟩ = some (.string ((rd_T109 l0 x3_1).f0)) := (blk_cell BK387.out 0).trans rfl
                        have hcz39_1 : wc.cell? ⟨gb387, 1, none⟩ = some (.string ((rd_T109 l0 x3_1).f1)) := (blk_cell BK387.out 1).trans rfl
                        have hcz39_2 : wc.cell? ⟨gb387, 2, none⟩ = some (.string ((rd_T109 l0 x3_1).f2)) := (blk_cell BK387.out 2).trans rfl
                        have hcz39_3 : wc.cell? ⟨gb387, 3, none⟩ = some (.bool ((rd_T109 l0 x3_1).f3)) := (blk_cell BK387.out 3).trans rfl
                        have hcz39_4 : wc.cell? ⟨gb387, 4, none⟩ = some (.string ((rd_T109 l0 x3_1).f4)) := (blk_cell BK387.out 4).trans rfl
                        have hcz39_5 : wc.cell? ⟨gb387, 5, none⟩ = some (.string ((rd_T109 l0 x3_1).f5)) := (blk_cell BK387.out 5).trans rfl
                        have hcz39_6 : wc.cell? ⟨gb387, 6, none⟩ = some (.string ((rd_T109 l0 x3_1).f6)) := (blk_cell BK387.out 6).trans rfl
                        have hcz39_7 : wc.cell? ⟨gb387, 7, none⟩ = some (.string ((rd_T109 l0 x3_1).f7)) := (blk_cell BK387.out 7).trans rfl
                        have hcz39_8 : wc.cell? ⟨gb387, 8, none⟩ = some (.bool ((rd_T109 l0 x3_1).f8)) := (blk_cell BK387.out 8).trans rfl
                        have hfz39_0 := blk_frozen BK387.out 0
                        have hfz39_1 := blk_frozen BK387.out 1
                        have hfz39_2 := blk_frozen BK387.out 2
                        have hfz39_3 := blk_frozen BK387.out 3
                        have hfz39_4 := blk_frozen BK387.out 4
                        have hfz39_5 := blk_frozen BK387.out 5
                        have hfz39_6 := blk_frozen BK387.out 6
                        have hfz39_7 := blk_frozen BK387.out 7
                        have hfz39_8 := blk_frozen BK387.out 8
                        go_wp2
                        go_roundg kj3
                        case measure => have := HK1.out; have := HJ3.out; omega
                        case rel => exact ⟨(wrap64 (x3_1 + 1)), (by first | rfl | (simp; done) | (simp [*]; done)), H', ⟨by have := HK1.out; have := HJ3.out; omega⟩, ⟨by repeat (first | (with_reducible first | exact HB.out | apply below_alloc | apply pw_below_drewN | apply below_drew1 | refine below_set ?_ GE387.out) | exact HB.out)⟩⟩
        · rw [if_neg c3] at H
          exact absurd H (by simp)
      · rw [if_neg c2] at H
        have c2b0 : decide (x3_1 < (l0.length : Int)) = false := decide_eq_false c2
        clear c2
        obtain rfl := Option.some.inj H
        go_wp2
        go_ret
        exact ⟨by first | rfl | (simp [errW_none, errW_some] <;> rfl) | (simp [*, errW_none, errW_some] <;> rfl), by repeat (first | (with_reducible first | exact HB.out | apply below_alloc | apply pw_below_drewN | apply below_drew1) | exact HB.out)⟩
end Go.Proofs.Ytfiamddinkokbaa.F
end

section
set_option linter.unusedVariables false
set_option linter.unusedSimpArgs false
namespace Go.Proofs.Ytfiamddinkokbaa.F
open Go.RowKit Go.Proofs.YtfiamddinkokbaaW.PrintWords Go.Proofs.YtfiamddinkokbaaW.PrintLast Go.Proofs.YtfiamddinkokbaaW.PrintMore
attribute [local go_sem] max2_int min2_int max_two min_two max_three min_three max_four min_four
set_option linter.unusedVariables false
set_option linter.unusedSimpArgs false
def tripartiteref01_Split.l0 : Nat → ByteArray → List ByteArray → Int → Int → Option (List ByteArray)
  | 0, _, _, _, _ => none
  | k + 1, x0, x3, x4, x5 => if x5 < (x0.size : Int) then (if 0 ≤ x5 then (if (bt x0 x5) = 10 then (if 0 ≤ x4 then (if x4 ≤ (wrap64 (x5 + 1)) then (if (wrap64 (x5 + 1)) ≤ (x0.size : Int) then (if x3.length < 8796093022208 then (tripartiteref01_Split.l0 k x0 (x3 ++ [x0.extract (x4 : Int).toNat ((wrap64 (x5 + 1)) : Int).toNat]) (wrap64 (x5 + 1)) (wrap64 (x5 + 1))) else (none)) else (none)) else (none)) else (none)) else (if (wrap64 (x5 + 1)) = (x0.size : Int) then (if 0 ≤ x4 then (if x4 ≤ (wrap64 (x5 + 1)) then (if (wrap64 (x5 + 1)) ≤ (x0.size : Int) then (if x3.length < 8796093022208 then (tripartiteref01_Split.l0 k x0 (x3 ++ [x0.extract (x4 : Int).toNat ((wrap64 (x5 + 1)) : Int).toNat]) (wrap64 (x5 + 1)) (wrap64 (x5 + 1))) else (none)) else (none)) else (none)) else (none)) else (tripartiteref01_Split.l0 k x0 x3 x4 (wrap64 (x5 + 1))))) else (none)) else (some x3)
def tripartiteref01_Split.f (k : Nat) (a0 : ByteArray) : Option (List ByteArray) := tripartiteref01_Split.l0 k a0 ([] : List ByteArray) 0 0
theorem tripartiteref01_Split.mono_l : ∀ k, (∀ y0 y1 y2 y3, LeO (tripartiteref01_Split.l0 k y0 y1 y2 y3) (tripartiteref01_Split.l0 (k + 1) y0 y1 y2 y3))
  | 0 => fun _ _ _ _ r h => by simp [tripartiteref01_Split.l0] at h
  | k + 1 => by
    have ih0 := tripartiteref01_Split.mono_l k
    · intro y0 y1 y2 y3
      unfold tripartiteref01_Split.l0
      repeat' first
      | (with_reducible exact ih0 _ _ _ _)
      | (with_reducible exact LeO.refl _)
      | (with_reducible exact LeO.none _)
      | (with_reducible refine LeO.ite ?_ ?_)
      | (with_reducible refine LeO.bind ?_ (fun _ => ?_))
      | exact ih0 _ _ _ _
      | exact LeO.none _
      | refine LeO.ite ?_ ?_
      | refine LeO.bind ?_ (fun _ => ?_)
theorem tripartiteref01_Split.mono : ∀ a0 k, LeO (tripartiteref01_Split.f k a0) (tripartiteref01_Split.f (k + 1) a0) := by
  intro a0 k
  have ih0 := tripartiteref01_Split.mono_l k
  unfold tripartiteref01_Split.f
  repeat' first
      | (with_reducible exact ih0 _ _ _ _)
      | (with_reducible exact LeO.refl _)
      | (with_reducible exact LeO.none _)
      | (with_reducible refine LeO.ite ?_ ?_)
      | (with_reducible refine LeO.bind ?_ (fun _ => ?_))
      | exact ih0 _ _ _ _
      | exact LeO.none _
      | refine LeO.ite ?_ ?_
      | refine LeO.bind ?_ (fun _ => ?_)
set_option maxHeartbeats 8000000 in
set_option maxRecDepth 100000 in
theorem tripartiteref01_Split.calls (k : Nat) (a0 : ByteArray) (r : List ByteArray) (w : World) (h : tripartiteref01_Split.f k a0 = some r) :
    Calls Try.prog 32 #[.string a0] w fun e w' => ∃ v0_ : Value, e = .returned (v0_) ∧ Kd.R Kd.string 9 w' w.heap.size (fun _ => True) v0_ r ∧ Below w.heap.size w w' := by
  have HB := Aside0.mk (Below.refl w.heap.size w)
  have H : (tripartiteref01_Split.l0 k a0 ([] : List ByteArray) 0 0) = some r := h
  clear h
  have H' := Aside0.mk H
  clear H
  go_enter Try.func32, Try.ntmps32
  go_wp2
  go_loopg [3, 4, 5] k (fun kq v3 v4 v5 w' => ∃ (x3_1 : List ByteArray) (x4_1 : Int) (x5_1 : Int), v4 = .int .i64 x4_1 ∧ v5 = .int .i64 x5_1 ∧ Aside0 (tripartiteref01_Split.l0 kq a0 x3_1 x4_1 x5_1 = some r) ∧ Aside0 (kq ≤ k) ∧ Aside0 (Kd.R Kd.string 9 w' w.heap.size (fun _ => True) v3 x3_1) ∧ Aside0 (Below w.heap.size w w'))
  case atStart => exact ⟨(([] : List ByteArray)), (0), (0), (by first | rfl | (simp; done) | (simp [*]; done)), (by first | rfl | (simp; done) | (simp [*]; done)), H', ⟨Nat.le_refl _⟩, ⟨by first | exact Kd.R_nil _ _ _ _ _ | exact Kd.N_nil _ _ _ _ _ | exact Kd.V_nil _ _ _ _ _ | exact Kd.Q_nil _ _ _ _ _ | exact Kd.S_nil _ _ _ _ _⟩, ⟨by repeat (first | (with_reducible first | exact HB.out | apply below_alloc | apply pw_below_drewN | apply below_drew1) | exact HB.out)⟩⟩
  case round =>
    clear H'
    obtain ⟨x3_1, x4_1, x5_1, rfl, rfl, HA, HK1, HO_3, HB⟩ := hrel
    cases gk with
    | zero => exact absurd HA.out (by simp [tripartiteref01_Split.l0])
    | succ k1 =>
      have H := HA.out
      clear HA
      simp only [tripartiteref01_Split.l0] at H
      by_cases c2 : x5_1 < (a0.size : Int)
      · rw [if_pos c2] at H
        have c2b0 : decide (x5_1 < (a0.size : Int)) = true := decide_eq_true c2
        clear c2
        by_cases c3 : 0 ≤ x5_1
        · rw [if_pos c3] at H
          have c3b0 : decide (0 ≤ x5_1) = true := decide_eq_true c3
          clear c3
          by_cases c5 : (bt a0 x5_1) = 10
          · rw [if_pos c5] at H
            have c5b0 : ((bt a0 x5_1) == 10) = true := beq_iff_eq.mpr c5
            have c5b1 : ((bt a0 x5_1) != 10) = false := bne_eq_false_iff_eq.mpr c5
            clear c5
            by_cases c6 : 0 ≤ x4_1
            · rw [if_pos c6] at H
              have c6b0 := eq_true c6
              have c6b1 : decide (0 ≤ x4_1) = true := decide_eq_true c6
              clear c6
              by_cases c7 : x4_1 ≤ (wrap64 (x5_1 + 1))
              · rw [if_pos c7] at H
                have c7b0 := eq_true c7
                have c7b1 : decide (x4_1 ≤ (wrap64 (x5_1 + 1))) = true := decide_eq_true c7
                by_cases c8 : (wrap64 (x5_1 + 1)) ≤ (a0.size : Int)
                · rw [if_pos c8] at H
                  have c8b0 := eq_true c8
                  have c8b1 : decide ((wrap64 (x5_1 + 1)) ≤ (a0.size : Int)) = true := decide_eq_true c8
                  by_cases c9 : x3_1.length < 8796093022208
                  · rw [if_pos c9] at H
                    have LMc9 := Aside0.mk c9
                    clear c9
                    obtain ⟨y168, hy168⟩ : ∃ y_ : List ByteArray, y_ = (x3_1 ++ [a0.extract (x4_1 : Int).toNat ((wrap64 (x5_1 + 1)) : Int).toNat]) := ⟨_, rfl⟩
                    replace H : (tripartiteref01_Split.l0 k1 a0 y168 (wrap64 (x5_1 + 1)) (wrap64 (x5_1 + 1))) = some r := by first | (rw [hy168]; with_reducible exact H) | (have H2_ := (Option.bind_some _ _).symm.trans H; rw [hy168]; with_reducible exact H2_) | (have H2_ := (Option.bind_some _ _).symm.trans H; with_reducible exact H2_) | with_reducible exact H | (rw [hy168]; exact H) | exact H
                    have Ny168 := Aside0.mk hy168
                    clear hy168
                    have H' := Aside0.mk H
                    clear H
                    have p4 : 0 ≤ (x5_1 : Int) := of_decide_eq_true (by first | (with_reducible assumption) | assumption)
                    have q4 : x5_1 < (a0.size : Int) := of_decide_eq_true (by first | (with_reducible assumption) | assumption)
                    have hx4 := bt_at a0 x5_1
                    replace p4 := eq_true p4
                    replace q4 := eq_true q4
                    go_wp2_with (first | ((with_reducible refine gate_builtin (b := .append) (xs := #[.tmp 23, .tmp 29]) rfl ?_); (try (refine gate_guard (by rfl) ?_; dsimp only)); at_builtin; refine Kd.R_append Kd.string (w0 := w) w.heap.size rfl (.tmp 23) (.tmp 29) 36 9 (.string ⟨#[]⟩) 16 rfl Try.underlying36 info9 rfl (by decide) (by omega) u3 x3_1 (a0.extract (x4_1 : Int).toNat ((wrap64 (x5_1 + 1)) : Int).toNat) [.string (a0.extract (x4_1 : Int).toNat ((wrap64 (x5_1 + 1)) : Int).toNat)] (fun _ => True) (fun _ => False) rfl rfl ?aP (fun _ hk => hk.elim) ?aF ?aO ?aB ?aS ?aL ?_; (case aP => exact rfl); (case aB => exact (by repeat (first | (with_reducible first | exact HB.out | apply below_alloc | apply pw_below_drewN | apply below_drew1) | exact HB.out))); (case aF => exact (fun _ _ => trivial)); (case aO => exact (by (with_reducible repeat (first | apply Kd.R_alloc | apply Kd.R_drewN | apply Kd.R_drew)); exact HO_3.out)); (case aS => exact (below_size (by repeat (first | (with_reducible first | exact HB.out | apply below_alloc | apply pw_below_drewN | apply below_drew1) | exact HB.out)))); (case aL => have := LMc9.out; omega); intro v169 w10 ho hb hg hat; rw [← Ny168.out] at ho; have n0_ := Aside0.mk (hb); have n1_ := Aside0.mk (ho); clear HB; clear HO_3; have HB := n0_; have HO170 := n1_; clear n0_ n1_; clear ho hb hg hat))
                    go_roundg k1
                    case measure => have := HK1.out; omega
                    case rel => exact ⟨(y168), (wrap64 (x5_1 + 1)), (wrap64 (x5_1 + 1)), (by first | rfl | (simp; done) | (simp [*]; done)), (by first | rfl | (simp; done) | (simp [*]; done)), H', ⟨by have := HK1.out; omega⟩, ⟨by (with_reducible repeat (first | apply Kd.R_alloc | apply Kd.R_drewN | apply Kd.R_drew)); exact HO170.out⟩, ⟨by repeat (first | (with_reducible first | exact HB.out | apply below_alloc | apply pw_below_drewN | apply below_drew1) | exact HB.out)⟩⟩
                  · rw [if_neg c9] at H
                    exact absurd H (by simp)
                · rw [if_neg c8] at H
                  exact absurd H (by simp)
              · rw [if_neg c7] at H
                exact absurd H (by simp)
            · rw [if_neg c6] at H
              exact absurd H (by simp)
          · rw [if_neg c5] at H
            have c5b0 : ((bt a0 x5_1) == 10) = false := beq_eq_false_iff_ne.mpr c5
            have c5b1 : ((bt a0 x5_1) != 10) = true := bne_iff_ne.mpr c5
            by_cases c11 : (wrap64 (x5_1 + 1)) = (a0.size : Int)
            · rw [if_pos c11] at H
              have c11b0 : ((wrap64 (x5_1 + 1)) == (a0.size : Int)) = true := beq_iff_eq.mpr c11
              have c11b1 : ((wrap64 (x5_1 + 1)) != (a0.size : Int)) = false := bne_eq_false_iff_eq.mpr c11
              clear c11
              by_cases c12 : 0 ≤ x4_1
              · rw [if_pos c12] at H
                have c12b0 := eq_true c12
                have c12b1 : decide (0 ≤ x4_1) = true := decide_eq_true c12
                clear c12
                by_cases c13 : x4_1 ≤ (wrap64 (x5_1 + 1))
                · rw [if_pos c13] at H
                  have c13b0 := eq_true c13
                  have c13b1 : decide (x4_1 ≤ (wrap64 (x5_1 + 1))) = true := decide_eq_true c13
                  by_cases c14 : (wrap64 (x5_1 + 1)) ≤ (a0.size : Int)
                  · rw [if_pos c14] at H
                    have c14b0 := eq_true c14
                    have c14b1 : decide ((wrap64 (x5_1 + 1)) ≤ (a0.size : Int)) = true := decide_eq_true c14
                    by_cases c15 : x3_1.length < 8796093022208
                    · rw [if_pos c15] at H
                      have LMc15 := Aside0.mk c15
                      clear c15
                      obtain ⟨y171, hy171⟩ : ∃ y_ : List ByteArray, y_ = (x3_1 ++ [a0.extract (x4_1 : Int).toNat ((wrap64 (x5_1 + 1)) : Int).toNat]) := ⟨_, rfl⟩
                      replace H : (tripartiteref01_Split.l0 k1 a0 y171 (wrap64 (x5_1 + 1)) (wrap64 (x5_1 + 1))) = some r := by first | (rw [hy171]; with_reducible exact H) | (have H2_ := (Option.bind_some _ _).symm.trans H; rw [hy171]; with_reducible exact H2_) | (have H2_ := (Option.bind_some _ _).symm.trans H; with_reducible exact H2_) | with_reducible exact H | (rw [hy171]; exact H) | exact H
                      have Ny171 := Aside0.mk hy171
                      clear hy171
                      have H' := Aside0.mk H
                      clear H
                      have p4 : 0 ≤ (x5_1 : Int) := of_decide_eq_true (by first | (with_reducible assumption) | assumption)
                      have q4 : x5_1 < (a0.size : Int) := of_decide_eq_true (by first | (with_reducible assumption) | assumption)
                      have hx4 := bt_at a0 x5_1
                      replace p4 := eq_true p4
                      replace q4 := eq_true q4
                      go_wp2_with (first | ((with_reducible refine gate_builtin (b := .append) (xs := #[.tmp 23, .tmp 29]) rfl ?_); (try (refine gate_guard (by rfl) ?_; dsimp only)); at_builtin; refine Kd.R_append Kd.string (w0 := w) w.heap.size rfl (.tmp 23) (.tmp 29) 36 9 (.string ⟨#[]⟩) 16 rfl Try.underlying36 info9 rfl (by decide) (by omega) u3 x3_1 (a0.extract (x4_1 : Int).toNat ((wrap64 (x5_1 + 1)) : Int).toNat) [.string (a0.extract (x4_1 : Int).toNat ((wrap64 (x5_1 + 1)) : Int).toNat)] (fun _ => True) (fun _ => False) rfl rfl ?aP (fun _ hk => hk.elim) ?aF ?aO ?aB ?aS ?aL ?_; (case aP => exact rfl); (case aB => exact (by repeat (first | (with_reducible first | exact HB.out | apply below_alloc | apply pw_below_drewN | apply below_drew1) | exact HB.out))); (case aF => exact (fun _ _ => trivial)); (case aO => exact (by (with_reducible repeat (first | apply Kd.R_alloc | apply Kd.R_drewN | apply Kd.R_drew)); exact HO_3.out)); (case aS => exact (below_size (by repeat (first | (with_reducible first | exact HB.out | apply below_alloc | apply pw_below_drewN | apply below_drew1) | exact HB.out)))); (case aL => have := LMc15.out; omega); intro v172 w16 ho hb hg hat; rw [← Ny171.out] at ho; have n0_ := Aside0.mk (hb); have n1_ := Aside0.mk (ho); clear HB; clear HO_3; have HB := n0_; have HO173 := n1_; clear n0_ n1_; clear ho hb hg hat))
                      go_roundg k1
                      case measure => have := HK1.out; omega
                      case rel => exact ⟨(y171), (wrap64 (x5_1 + 1)), (wrap64 (x5_1 + 1)), (by first | rfl | (simp; done) | (simp [*]; done)), (by first | rfl | (simp; done) | (simp [*]; done)), H', ⟨by have := HK1.out; omega⟩, ⟨by (with_reducible repeat (first | apply Kd.R_alloc | apply Kd.R_drewN | apply Kd.R_drew)); exact HO173.out⟩, ⟨by repeat (first | (with_reducible first | exact HB.out | apply below_alloc | apply pw_below_drewN | apply below_drew1) | exact HB.out)⟩⟩
                    · rw [if_neg c15] at H
                      exact absurd H (by simp)
                  · rw [if_neg c14] at H
                    exact absurd H (by simp)
                · rw [if_neg c13] at H
                  exact absurd H (by simp)
              · rw [if_neg c12] at H
                exact absurd H (by simp)
            · rw [if_neg c11] at H
              have c11b0 : ((wrap64 (x5_1 + 1)) == (a0.size : Int)) = false := beq_eq_false_iff_ne.mpr c11
              have c11b1 : ((wrap64 (x5_1 + 1)) != (a0.size : Int)) = true := bne_iff_ne.mpr c11
              have H' := Aside0.mk H
              clear H
              have p4 : 0 ≤ (x5_1 : Int) := of_decide_eq_true (by first | (with_reducible assumption) | assumption)
              have q4 : x5_1 < (a0.size : Int) := of_decide_eq_true (by first | (with_reducible assumption) | assumption)
              have hx4 := bt_at a0 x5_1
              replace p4 := eq_true p4
              replace q4 := eq_true q4
              go_wp2
              go_roundg k1
              case measure => have := HK1.out; omega
              case rel => exact ⟨(x3_1), (x4_1), (wrap64 (x5_1 + 1)), (by first | rfl | (simp; done) | (simp [*]; done)), (by first | rfl | (simp; done) | (simp [*]; done)), H', ⟨by have := HK1.out; omega⟩, ⟨by (with_reducible repeat (first | apply Kd.R_alloc | apply Kd.R_drewN | apply Kd.R_drew)); exact HO_3.out⟩, ⟨by repeat (first | (with_reducible first | exact HB.out | apply below_alloc | apply pw_below_drewN | apply below_drew1) | exact HB.out)⟩⟩
        · rw [if_neg c3] at H
          exact absurd H (by simp)
      · rw [if_neg c2] at H
        have c2b0 : decide (x5_1 < (a0.size : Int)) = false := decide_eq_false c2
        clear c2
        obtain rfl := Option.some.inj H
        go_wp2
        go_ret
        exact ⟨_, by first | rfl | (simp [errW_none, errW_some] <;> rfl) | (simp [*, errW_none, errW_some] <;> rfl), by (with_reducible repeat (first | apply Kd.R_alloc | apply Kd.R_drewN | apply Kd.R_drew)); exact HO_3.out, by repeat (first | (with_reducible first | exact HB.out | apply below_alloc | apply pw_below_drewN | apply below_drew1) | exact HB.out)⟩
end Go.Proofs.Ytfiamddinkokbaa.F
end

section
set_option linter.unusedVariables false
set_option linter.unusedSimpArgs false
namespace Go.Proofs.Ytfiamddinkokbaa.F
open Go.RowKit Go.Proofs.YtfiamddinkokbaaW.PrintWords Go.Proofs.YtfiamddinkokbaaW.PrintLast Go.Proofs.YtfiamddinkokbaaW.PrintMore
attribute [local go_sem] max2_int min2_int max_two min_two max_three min_three max_four min_four
set_option linter.unusedVariables false
set_option linter.unusedSimpArgs false
mutual
def tripartiteref01_Run.j0 : Nat → ByteArray → Bool → Option (Int)
  | 0, _, _ => none
  | k + 1, x0, x25 => if x25 = true then (some 0) else (tripartiteref01_Run.l0 k x0 0)
def tripartiteref01_Run.l0 : Nat → ByteArray → Int → Option (Int)
  | 0, _, _ => none
  | k + 1, x0, x3 => if x3 < (x0.size : Int) then (if 0 ≤ x3 then (if 0 < (x0.size : Int) then (if (bt x0 x3) = (bt x0 0) then (tripartiteref01_Run.l0 k x0 (wrap64 (x3 + 1))) else (some x3)) else (none)) else (none)) else (some x3)
end
def tripartiteref01_Run.f (k : Nat) (a0 : ByteArray) : Option (Int) := if a0.toList = ([] : List UInt8) then (tripartiteref01_Run.j0 k a0 true) else (if 0 < (a0.size : Int) then (if (bt a0 0) = 60 then (tripartiteref01_Run.j0 k a0 false) else (if (bt a0 0) = 124 then (tripartiteref01_Run.j0 k a0 false) else (if (bt a0 0) = 61 then (tripartiteref01_Run.j0 k a0 false) else (tripartiteref01_Run.j0 k a0 ((bt a0 0) != 62))))) else (none))
theorem tripartiteref01_Run.mono_l : ∀ k, (∀ y0 y1, LeO (tripartiteref01_Run.j0 k y0 y1) (tripartiteref01_Run.j0 (k + 1) y0 y1)) ∧ (∀ y0 y1, LeO (tripartiteref01_Run.l0 k y0 y1) (tripartiteref01_Run.l0 (k + 1) y0 y1))
  | 0 => ⟨fun _ _ r h => by simp [tripartiteref01_Run.j0] at h, fun _ _ r h => by simp [tripartiteref01_Run.l0] at h⟩
  | k + 1 => by
    obtain ⟨ih0, ih1⟩ := tripartiteref01_Run.mono_l k
    refine ⟨?_, ?_⟩
    · intro y0 y1
      unfold tripartiteref01_Run.j0
      repeat' first
      | (with_reducible exact ih0 _ _)
      | (with_reducible exact ih1 _ _)
      | (with_reducible exact LeO.refl _)
      | (with_reducible exact LeO.none _)
      | (with_reducible refine LeO.ite ?_ ?_)
      | (with_reducible refine LeO.bind ?_ (fun _ => ?_))
      | exact ih0 _ _
      | exact ih1 _ _
      | exact LeO.none _
      | refine LeO.ite ?_ ?_
      | refine LeO.bind ?_ (fun _ => ?_)
    · intro y0 y1
      unfold tripartiteref01_Run.l0
      repeat' first
      | (with_reducible exact ih0 _ _)
      | (with_reducible exact ih1 _ _)
      | (with_reducible exact LeO.refl _)
      | (with_reducible exact LeO.none _)
      | (with_reducible refine LeO.ite ?_ ?_)
      | (with_reducible refine LeO.bind ?_ (fun _ => ?_))
      | exact ih0 _ _
      | exact ih1 _ _
      | exact LeO.none _
      | refine LeO.ite ?_ ?_
      | refine LeO.bind ?_ (fun _ => ?_)
theorem tripartiteref01_Run.mono : ∀ a0 k, LeO (tripartiteref01_Run.f k a0) (tripartiteref01_Run.f (k + 1) a0) := by
  intro a0 k
  obtain ⟨ih0, ih1⟩ := tripartiteref01_Run.mono_l k
  unfold tripartiteref01_Run.f
  repeat' first
      | (with_reducible exact ih0 _ _)
      | (with_reducible exact ih1 _ _)
      | (with_reducible exact LeO.refl _)
      | (with_reducible exact LeO.none _)
      | (with_reducible refine LeO.ite ?_ ?_)
      | (with_reducible refine LeO.bind ?_ (fun _ => ?_))
      | exact ih0 _ _
      | exact ih1 _ _
      | exact LeO.none _
      | refine LeO.ite ?_ ?_
      | refine LeO.bind ?_ (fun _ => ?_)
set_option maxHeartbeats 8000000 in
set_option maxRecDepth 100000 in
theorem tripartiteref01_Run.calls (k : Nat) (a0 : ByteArray) (r : Int) (w : World) (h : tripartiteref01_Run.f k a0 = some r) :
    Calls Try.prog 44 #[.string a0] w fun e w' => e = .returned (.int .i64 r) ∧ Drawn0 w w' := by
  have H : (if a0.toList = ([] : List UInt8) then (tripartiteref01_Run.j0 k a0 true) else (if 0 < (a0.size : Int) then (if (bt a0 0) = 60 then (tripartiteref01_Run.j0 k a0 false) else (if (bt a0 0) = 124 then (tripartiteref01_Run.j0 k a0 false) else (if (bt a0 0) = 61 then (tripartiteref01_Run.j0 k a0 false) else (tripartiteref01_Run.j0 k a0 ((bt a0 0) != 62))))) else (none))) = some r := h
  clear h
  have HC2 := Aside0.mk H
  clear H
  go_enter Try.func44, Try.ntmps44
  go_upto_region 1 with (fail)
  repeat (go_quiet (fail); go_upto_region 1 with (fail))
  go_cut [25] (fun v25 wc => ∃ (kq : Nat) (x25_1 : Bool), v25 = .bool x25_1 ∧ Aside0 (tripartiteref01_Run.j0 kq a0 x25_1 = some r) ∧ Aside0 (kq ≤ k) ∧ Drawn0 w wc)
  case first =>
    have H := HC2.out
    clear HC2
    by_cases c3 : a0.toList = ([] : List UInt8)
    · rw [if_pos c3] at H
      have c3b0 : (a0.toList == ([] : List UInt8)) = true := beq_iff_eq.mpr c3
      have c3b1 : (a0.toList != ([] : List UInt8)) = false := bne_eq_false_iff_eq.mpr c3
      clear c3
      (first | rw [c3b0] | (simp only [i64_w, i32_w]; rw [c3b0]) | skip)
      have H' := Aside0.mk H
      clear H
      go_wp2
      repeat (go_quiet (fail); try go_wp2)
      go_meet
      case rel => exact ⟨_, (true), (by first | rfl | (simp; done) | (simp [*]; done)), H', ⟨by first | omega | exact Nat.le_refl _⟩, by repeat (first | exact Drawn0.refl _ | apply Drawn0.step)⟩
    · rw [if_neg c3] at H
      have c3b0 : (a0.toList == ([] : List UInt8)) = false := beq_eq_false_iff_ne.mpr c3
      have c3b1 : (a0.toList != ([] : List UInt8)) = true := bne_iff_ne.mpr c3
      (first | rw [c3b0] | (simp only [i64_w, i32_w]; rw [c3b0]) | skip)
      by_cases c4 : 0 < (a0.size : Int)
      · rw [if_pos c4] at H
        have c4b0 : decide (0 < (a0.size : Int)) = true := decide_eq_true c4
        have c4b1 : decide (0 < a0.size) = true := decide_eq_true (by omega)
        clear c4
        by_cases c6 : (bt a0 0) = 60
        · rw [if_pos c6] at H
          have c6b0 : ((bt a0 0) == 60) = true := beq_iff_eq.mpr c6
          have c6b1 : ((bt a0 0) != 60) = false := bne_eq_false_iff_eq.mpr c6
          clear c6
          have H' := Aside0.mk H
          clear H
          have p5 : 0 ≤ (0 : Int) := (by omega)
          have q5 : 0 < a0.size := (by have : (0 : Int) < (a0.size : Int) := of_decide_eq_true (by first | (with_reducible assumption) | assumption); omega)
          have hx5 : ∀ h : 0 < a0.size, ((a0[0]'h).toNat : Int) = bt a0 0 := bt_at a0 0
          clear p5
          have qi5 : (0 < (a0.size : Int)) = True := eq_true (of_decide_eq_true (by first | (with_reducible assumption) | assumption))
          replace q5 := eq_true q5
          go_wp2
          repeat (go_quiet (fail); try go_wp2)
          go_meet
          case rel => exact ⟨_, (false), (by first | rfl | (simp; done) | (simp [*]; done)), H', ⟨by first | omega | exact Nat.le_refl _⟩, by repeat (first | exact Drawn0.refl _ | apply Drawn0.step)⟩
        · rw [if_neg c6] at H
          have c6b0 : ((bt a0 0) == 60) = false := beq_eq_false_iff_ne.mpr c6
          have c6b1 : ((bt a0 0) != 60) = true := bne_iff_ne.mpr c6
          by_cases c8 : (bt a0 0) = 124
          · rw [if_pos c8] at H
            have c8b0 : ((bt a0 0) == 124) = true := beq_iff_eq.mpr c8
            have c8b1 : ((bt a0 0) != 124) = false := bne_eq_false_iff_eq.mpr c8
            clear c8
            have H' := Aside0.mk H
            clear H
            have p5 : 0 ≤ (0 : Int) := (by omega)
            have q5 : 0 < a0.size := (by have : (0 : Int) < (a0.size : Int) := of_decide_eq_true (by first | (with_reducible assumption) | assumption); omega)
            have hx5 : ∀ h : 0 < a0.size, ((a0[0]'h).toNat : Int) = bt a0 0 := bt_at a0 0
            clear p5
            have qi5 : (0 < (a0.size : Int)) = True := eq_true (of_decide_eq_true (by first | (with_reducible assumption) | assumption))
            replace q5 := eq_true q5
            have p7 : 0 ≤ (0 : Int) := (by omega)
            have q7 : 0 < a0.size := (by have : (0 : Int) < (a0.size : Int) := of_decide_eq_true (by first | (with_reducible assumption) | assumption); omega)
            have hx7 : ∀ h : 0 < a0.size, ((a0[0]'h).toNat : Int) = bt a0 0 := bt_at a0 0
            clear p7
            have qi7 : (0 < (a0.size : Int)) = True := eq_true (of_decide_eq_true (by first | (with_reducible assumption) | assumption))
            replace q7 := eq_true q7
            go_wp2
            repeat (go_quiet (fail); try go_wp2)
            go_meet
            case rel => exact ⟨_, (false), (by first | rfl | (simp; done) | (simp [*]; done)), H', ⟨by first | omega | exact Nat.le_refl _⟩, by repeat (first | exact Drawn0.refl _ | apply Drawn0.step)⟩
          · rw [if_neg c8] at H
            have c8b0 : ((bt a0 0) == 124) = false := beq_eq_false_iff_ne.mpr c8
            have c8b1 : ((bt a0 0) != 124) = true := bne_iff_ne.mpr c8
            by_cases c10 : (bt a0 0) = 61
            · rw [if_pos c10] at H
              have c10b0 : ((bt a0 0) == 61) = true := beq_iff_eq.mpr c10
              have c10b1 : ((bt a0 0) != 61) = false := bne_eq_false_iff_eq.mpr c10
              clear c10
              have H' := Aside0.mk H
              clear H
              have p5 : 0 ≤ (0 : Int) := (by omega)
              have q5 : 0 < a0.size := (by have : (0 : Int) < (a0.size : Int) := of_decide_eq_true (by first | (with_reducible assumption) | assumption); omega)
              have hx5 : ∀ h : 0 < a0.size, ((a0[0]'h).toNat : Int) = bt a0 0 := bt_at a0 0
              clear p5
              have qi5 : (0 < (a0.size : Int)) = True := eq_true (of_decide_eq_true (by first | (with_reducible assumption) | assumption))
              replace q5 := eq_true q5
              have p7 : 0 ≤ (0 : Int) := (by omega)
              have q7 : 0 < a0.size := (by have : (0 : Int) < (a0.size : Int) := of_decide_eq_true (by first | (with_reducible assumption) | assumption); omega)
              have hx7 : ∀ h : 0 < a0.size, ((a0[0]'h).toNat : Int) = bt a0 0 := bt_at a0 0
              clear p7
              have qi7 : (0 < (a0.size : Int)) = True := eq_true (of_decide_eq_true (by first | (with_reducible assumption) | assumption))
              replace q7 := eq_true q7
              have p9 : 0 ≤ (0 : Int) := (by omega)
              have q9 : 0 < a0.size := (by have : (0 : Int) < (a0.size : Int) := of_decide_eq_true (by first | (with_reducible assumption) | assumption); omega)
              have hx9 : ∀ h : 0 < a0.size, ((a0[0]'h).toNat : Int) = bt a0 0 := bt_at a0 0
              clear p9
              have qi9 : (0 < (a0.size : Int)) = True := eq_true (of_decide_eq_true (by first | (with_reducible assumption) | assumption))
              replace q9 := eq_true q9
              go_wp2
              repeat (go_quiet (fail); try go_wp2)
              go_meet
              case rel => exact ⟨_, (false), (by first | rfl | (simp; done) | (simp [*]; done)), H', ⟨by first | omega | exact Nat.le_refl _⟩, by repeat (first | exact Drawn0.refl _ | apply Drawn0.step)⟩
            · rw [if_neg c10] at H
              have c10b0 : ((bt a0 0) == 61) = false := beq_eq_false_iff_ne.mpr c10
              have c10b1 : ((bt a0 0) != 61) = true := bne_iff_ne.mpr c10
              have H' := Aside0.mk H
              clear H
              have p5 : 0 ≤ (0 : Int) := (by omega)
              have q5 : 0 < a0.size := (by have : (0 : Int) < (a0.size : Int) := of_decide_eq_true (by first | (with_reducible assumption) | assumption); omega)
              have hx5 : ∀ h : 0 < a0.size, ((a0[0]'h).toNat : Int) = bt a0 0 := bt_at a0 0
              clear p5
              have qi5 : (0 < (a0.size : Int)) = True := eq_true (of_decide_eq_true (by first | (with_reducible assumption) | assumption))
              replace q5 := eq_true q5
              have p7 : 0 ≤ (0 : Int) := (by omega)
              have q7 : 0 < a0.size := (by have : (0 : Int) < (a0.size : Int) := of_decide_eq_true (by first | (with_reducible assumption) | assumption); omega)
              have hx7 : ∀ h : 0 < a0.size, ((a0[0]'h).toNat : Int) = bt a0 0 := bt_at a0 0
              clear p7
              have qi7 : (0 < (a0.size : Int)) = True := eq_true (of_decide_eq_true (by first | (with_reducible assumption) | assumption))
              replace q7 := eq_true q7
              have p9 : 0 ≤ (0 : Int) := (by omega)
              have q9 : 0 < a0.size := (by have : (0 : Int) < (a0.size : Int) := of_decide_eq_true (by first | (with_reducible assumption) | assumption); omega)
              have hx9 : ∀ h : 0 < a0.size, ((a0[0]'h).toNat : Int) = bt a0 0 := bt_at a0 0
              clear p9
              have qi9 : (0 < (a0.size : Int)) = True := eq_true (of_decide_eq_true (by first | (with_reducible assumption) | assumption))
              replace q9 := eq_true q9
              have p11 : 0 ≤ (0 : Int) := (by omega)
              have q11 : 0 < a0.size := (by have : (0 : Int) < (a0.size : Int) := of_decide_eq_true (by first | (with_reducible assumption) | assumption); omega)
              have hx11 : ∀ h : 0 < a0.size, ((a0[0]'h).toNat : Int) = bt a0 0 := bt_at a0 0
              clear p11
              have qi11 : (0 < (a0.size : Int)) = True := eq_true (of_decide_eq_true (by first | (with_reducible assumption) | assumption))
              replace q11 := eq_true q11
              go_wp2
              repeat (go_quiet (fail); try go_wp2)
              go_meet
              case rel => exact ⟨_, (((bt a0 0) != 62)), (by first | rfl | (simp; done) | (simp [*]; done)), H', ⟨by first | omega | exact Nat.le_refl _⟩, by repeat (first | exact Drawn0.refl _ | apply Drawn0.step)⟩
      · rw [if_neg c4] at H
        exact absurd H (by simp)
  case rest =>
    clear HC2
    try clear c1
    try clear p1
    try clear q1
    try clear hx1
    try clear qi1
    try clear p2
    try clear c3
    try clear c3b0
    try clear c3b1
    try clear c4
    try clear c4b0
    try clear c4b1
    try clear p5
    try clear q5
    try clear hx5
    try clear qi5
    try clear c6
    try clear c6b0
    try clear c6b1
    try clear p7
    try clear q7
    try clear hx7
    try clear qi7
    try clear c8
    try clear c8b0
    try clear c8b1
    try clear p9
    try clear q9
    try clear hx9
    try clear qi9
    try clear c10
    try clear c10b0
    try clear c10b1
    try clear p11
    try clear q11
    try clear hx11
    try clear qi11
    try clear p11
    try clear p5
    try clear p7
    try clear p9
    try clear q11
    try clear q5
    try clear q7
    try clear q9
    obtain ⟨kq, x25_1, rfl, HA, HJ1, ⟨mc1, rfl⟩⟩ := hcut
    cases kq with
    | zero => exact absurd HA.out (by simp [tripartiteref01_Run.j0])
    | succ kj1 =>
      have H := HA.out
      clear HA
      simp only [tripartiteref01_Run.j0] at H
      by_cases c12 : x25_1 = true
      · subst c12
        have H1 : (some 0) = some r := by rw [if_pos rfl] at H; exact H
        clear H
        have H := H1
        clear H1
        obtain rfl := Option.some.inj H
        go_wp2
        repeat (go_quiet (fail); try go_wp2)
        go_ret
        exact ⟨by first | rfl | (simp; done) | (simp [*]; done), by repeat (first | exact Drawn0.refl _ | apply Drawn0.step)⟩
      · replace c12 := Bool.eq_false_iff.mpr c12
        subst c12
        have H1 : (tripartiteref01_Run.l0 kj1 a0 0) = some r := by rw [if_neg (show ¬ (false = true) by decide)] at H; exact H
        clear H
        have H := H1
        clear H1
        have H' := Aside0.mk H
        clear H
        go_wp2
        repeat (go_quiet (fail); try go_wp2)
        go_loopg [3] kj1 (fun kq v3 w' => ∃ (x3_2 : Int), v3 = .int .i64 x3_2 ∧ Aside0 (tripartiteref01_Run.l0 kq a0 x3_2 = some r) ∧ Aside0 (kq ≤ kj1) ∧ Drawn0 w w')
        case atStart => exact ⟨(0), (by first | rfl | (simp; done) | (simp [*]; done)), H', ⟨Nat.le_refl _⟩, by repeat (first | exact Drawn0.refl _ | apply Drawn0.step)⟩
        case round =>
          clear H'
          try clear c1
          try clear p1
          try clear q1
          try clear hx1
          try clear qi1
          try clear p2
          try clear c3
          try clear c3b0
          try clear c3b1
          try clear c4
          try clear c4b0
          try clear c4b1
          try clear p5
          try clear q5
          try clear hx5
          try clear qi5
          try clear c6
          try clear c6b0
          try clear c6b1
          try clear p7
          try clear q7
          try clear hx7
          try clear qi7
          try clear c8
          try clear c8b0
          try clear c8b1
          try clear p9
          try clear q9
          try clear hx9
          try clear qi9
          try clear c10
          try clear c10b0
          try clear c10b1
          try clear p11
          try clear q11
          try clear hx11
          try clear qi11
          try clear c12
          try clear p1
          try clear p11
          try clear p2
          try clear p5
          try clear p7
          try clear p9
          try clear q1
          try clear q11
          try clear q5
          try clear q7
          try clear q9
          obtain ⟨x3_2, rfl, HA, HK2, ⟨m2, rfl⟩⟩ := hrel
          cases gk with
          | zero => exact absurd HA.out (by simp [tripartiteref01_Run.l0])
          | succ k2 =>
            have H := HA.out
            clear HA
            simp only [tripartiteref01_Run.l0] at H
            by_cases c13 : x3_2 < (a0.size : Int)
            · rw [if_pos c13] at H
              have c13b0 : decide (x3_2 < (a0.size : Int)) = true := decide_eq_true c13
              clear c13
              by_cases c14 : 0 ≤ x3_2
              · rw [if_pos c14] at H
                have c14b0 : decide (0 ≤ x3_2) = true := decide_eq_true c14
                clear c14
                by_cases c16 : 0 < (a0.size : Int)
                · rw [if_pos c16] at H
                  have c16b0 : decide (0 < (a0.size : Int)) = true := decide_eq_true c16
                  have c16b1 : decide (0 < a0.size) = true := decide_eq_true (by omega)
                  clear c16
                  by_cases c18 : (bt a0 x3_2) = (bt a0 0)
                  · rw [if_pos c18] at H
                    have c18b0 : ((bt a0 x3_2) == (bt a0 0)) = true := beq_iff_eq.mpr c18
                    have c18b1 : ((bt a0 x3_2) != (bt a0 0)) = false := bne_eq_false_iff_eq.mpr c18
                    clear c18
                    have H' := Aside0.mk H
                    clear H
                    have p15 : 0 ≤ (x3_2 : Int) := of_decide_eq_true (by first | (with_reducible assumption) | assumption)
                    have q15 : x3_2 < (a0.size : Int) := of_decide_eq_true (by first | (with_reducible assumption) | assumption)
                    have hx15 := bt_at a0 x3_2
                    replace p15 := eq_true p15
                    replace q15 := eq_true q15
                    have p17 : 0 ≤ (0 : Int) := (by omega)
                    have q17 : 0 < a0.size := (by have : (0 : Int) < (a0.size : Int) := of_decide_eq_true (by first | (with_reducible assumption) | assumption); omega)
                    have hx17 : ∀ h : 0 < a0.size, ((a0[0]'h).toNat : Int) = bt a0 0 := bt_at a0 0
                    clear p17
                    have qi17 : (0 < (a0.size : Int)) = True := eq_true (of_decide_eq_true (by first | (with_reducible assumption) | assumption))
                    replace q17 := eq_true q17
                    go_wp2
                    repeat (go_quiet (fail); try go_wp2)
                    go_roundg k2
                    case measure => have := HJ1.out; have := HK2.out; omega
                    case rel => exact ⟨(wrap64 (x3_2 + 1)), (by first | rfl | (simp; done) | (simp [*]; done)), H', ⟨by have := HJ1.out; have := HK2.out; omega⟩, by repeat (first | exact Drawn0.refl _ | apply Drawn0.step)⟩
                  · rw [if_neg c18] at H
                    have c18b0 : ((bt a0 x3_2) == (bt a0 0)) = false := beq_eq_false_iff_ne.mpr c18
                    have c18b1 : ((bt a0 x3_2) != (bt a0 0)) = true := bne_iff_ne.mpr c18
                    obtain rfl := Option.some.inj H
                    have p15 : 0 ≤ (x3_2 : Int) := of_decide_eq_true (by first | (with_reducible assumption) | assumption)
                    have q15 : x3_2 < (a0.size : Int) := of_decide_eq_true (by first | (with_reducible assumption) | assumption)
                    have hx15 := bt_at a0 x3_2
                    replace p15 := eq_true p15
                    replace q15 := eq_true q15
                    have p17 : 0 ≤ (0 : Int) := (by omega)
                    have q17 : 0 < a0.size := (by have : (0 : Int) < (a0.size : Int) := of_decide_eq_true (by first | (with_reducible assumption) | assumption); omega)
                    have hx17 : ∀ h : 0 < a0.size, ((a0[0]'h).toNat : Int) = bt a0 0 := bt_at a0 0
                    clear p17
                    have qi17 : (0 < (a0.size : Int)) = True := eq_true (of_decide_eq_true (by first | (with_reducible assumption) | assumption))
                    replace q17 := eq_true q17
                    go_wp2
                    repeat (go_quiet (fail); try go_wp2)
                    go_ret
                    exact ⟨by first | rfl | (simp; done) | (simp [*]; done), by repeat (first | exact Drawn0.refl _ | apply Drawn0.step)⟩
                · rw [if_neg c16] at H
                  exact absurd H (by simp)
              · rw [if_neg c14] at H
                exact absurd H (by simp)
            · rw [if_neg c13] at H
              have c13b0 : decide (x3_2 < (a0.size : Int)) = false := decide_eq_false c13
              clear c13
              obtain rfl := Option.some.inj H
              go_wp2
              repeat (go_quiet (fail); try go_wp2)
              go_ret
              exact ⟨by first | rfl | (simp; done) | (simp [*]; done), by repeat (first | exact Drawn0.refl _ | apply Drawn0.step)⟩
end Go.Proofs.Ytfiamddinkokbaa.F
end
