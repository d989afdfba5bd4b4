/- Texts joined into one file (wip/tools/pack.py): Right, Fn72, Fn71 -/
import Derived.Test.YtfiamddinkokbaaPB21
import Derived.Test.YtfiamddinkokbaaPB22
import Derived.Test.YtfiamddinkokbaaPB15
import Derived.Test.YtfiamddinkokbaaPB3
import Derived.Test.YtfiamddinkokbaaPB16
set_option linter.unusedVariables false
set_option linter.unusedSimpArgs false
section
namespace Go.Proofs.Ytfiamddinkokbaa.F
open Go.RowKit Go.Shelf Go.Proofs.YtfiamddinkokbaaW.PrintWords
abbrev isTextX (x : PP) : Option Bool := doc_Part_isText.f x.f0.f0 x.f0.f1 x.f0.f2 x.f1 x.f2 x.f3 x.f4 x.f5 x.f6
def rightL (n : Int) : List PP → Bool → Int → Option Bool
 | [], _, _ => some true
 | x :: r, tx, i => (isTextX x).bind fun T => (if T = true then some true else doc_Part_isConflict.f x.f0.f0 x.f0.f1 x.f0.f2 x.f1 x.f2 x.f3 x.f4 x.f5 x.f6).bind fun C => if C = true then (doc_Labels_Plain.f x.f0.f0 x.f0.f1 x.f0.f2).bind fun P => if P = true then
   (if T = true then (if tx = true then some false else if x.f2.toList = ([] : List UInt8) then some false else if i < n - 1 then (strings_HasSuffix.f x.f2 (⟨#[10]⟩ : ByteArray)).bind fun S => (if S = true then rightL n r true (i + 1) else some false) else rightL n r true (i + 1)) else rightL n r false (i + 1)) else some false else some false
def rightF (l : List PP) : Option Bool := if l.length ≤ 4000000000000 then rightL l.length l false 0 else none
theorem wrap_one {n : Nat} (h : n ≤ 4000000000000) : wrap64 ((n : Int) - 1) = (n : Int) - 1 := by unfold wrap64; omega
theorem cells9 {w : World} {k : Nat} {v0 v1 v2 v3 v4 v5 v6 v7 v8 : Value} {T : TypeId} (h : w.heap[k]? = some (.cells #[v0, v1, v2, v3, v4, v5, v6, v7, v8] T (0, 0))) : w.cell? ⟨k, 0, none⟩ = some v0 ∧ w.cell? ⟨k, 1, none⟩ = some v1 ∧ w.cell? ⟨k, 2, none⟩ = some v2 ∧ w.cell? ⟨k, 3, none⟩ = some v3 ∧ w.cell? ⟨k, 4, none⟩ = some v4 ∧ w.cell? ⟨k, 5, none⟩ = some v5 ∧ w.cell? ⟨k, 6, none⟩ = some v6 ∧ w.cell? ⟨k, 7, none⟩ = some v7 ∧ w.cell? ⟨k, 8, none⟩ = some v8 :=
 ⟨(blk_cell h 0).trans rfl, (blk_cell h 1).trans rfl, (blk_cell h 2).trans rfl, (blk_cell h 3).trans rfl, (blk_cell h 4).trans rfl, (blk_cell h 5).trans rfl, (blk_cell h 6).trans rfl, (blk_cell h 7).trans rfl, (blk_cell h 8).trans rfl⟩
set_option maxHeartbeats 16000000 in
set_option maxRecDepth 100000 in
theorem right_calls (A0 : Option Addr) (c0 : Nat) (l0 : List PP) (r : Bool) (w : World) (hr0 : Kd.C k106 w A0 l0.length l0) (hc0 : l0.length ≤ c0) (h : rightF l0 = some r) :
  Calls Try.prog 72 #[.slice A0 l0.length c0] w fun e w' => e = .returned (.bool r) ∧ Below w.heap.size w w' := by
 unfold rightF at h
 split at h
 case isFalse => cases h
 case isTrue hl4 =>
 have HL := Aside0.mk h
 have HD := Aside0.mk hr0
 clear h hr0
 go_enter Try.func72, Try.ntmps72
 go_wp2
 go_loopg [3, 8] l0.length (fun gg s3_ s8_ wr => ∃ (i : Nat) (tx : Bool), i ≤ l0.length ∧ l0.length - i ≤ gg ∧ s3_ = .bool tx ∧ s8_ = .int .i64 i ∧ Aside0 (rightL l0.length (l0.drop i) tx i = some r) ∧ Aside0 (Below w.heap.size w wr))
 case atStart => exact ⟨0, false, Nat.zero_le _, by omega, rfl, rfl, ⟨by rw [List.drop_zero]; exact HL.out⟩, ⟨Below.refl _ _⟩⟩
 case round =>
  clear HL
  obtain ⟨i, tx, hi, hg, rfl, rfl, HL, HW⟩ := hrel
  by_cases hlt : i < l0.length
  ·have hltz : (i : Int) < (l0.length : Int) := by omega
   have hq := HL.out
   rw [List.drop_eq_getElem_cons hlt, rightL] at hq
   obtain ⟨ad, rfl, hx0, hx1, hx2, hx3, hx4, hx5, hx6, hx7, hx8⟩ := at_T106 (Kd.C_below HD.out HW.out) (i : Int) (by omega) hltz
   have hrd : rd_T106 l0 (i : Int) = l0[i] := by unfold rd_T106; rw [Int.toNat_natCast, List.getD_eq_getElem?_getD, List.getElem?_eq_getElem hlt]; rfl
   rw [Int.toNat_natCast] at hx0 hx1 hx2 hx3 hx4 hx5 hx6 hx7 hx8
   rw [hrd] at hx0 hx1 hx2 hx3 hx4 hx5 hx6 hx7 hx8
   generalize l0[i] = ch at hx0 hx1 hx2 hx3 hx4 hx5 hx6 hx7 hx8 hq
   obtain ⟨⟨s0, s1, s2⟩, b1, s3, s4, s5, s6, b2⟩ := ch
   simp only [isTextX] at hx0 hx1 hx2 hx3 hx4 hx5 hx6 hx7 hx8 hq
   have hw : wrap64 ((l0.length : Int) - 1) = (l0.length : Int) - 1 := wrap_one hl4
   obtain ⟨T, hT, hq⟩ := Option.bind_eq_some_iff.1 hq
   obtain ⟨C, hC, hq⟩ := Option.bind_eq_some_iff.1 hq
   have HT := Aside0.mk (fun W => doc_Part_isText.calls s0 s1 s2 b1 s3 s4 s5 s6 b2 T W hT)
   clear hrd HL hT
   cases T with
   | true =>
    rw [if_pos rfl] at hC
    obtain rfl := Option.some.inj hC
    rw [if_pos rfl] at hq
    clear hC
    obtain ⟨P, hP, hq⟩ := Option.bind_eq_some_iff.1 hq
    have HP := Aside0.mk (fun W => doc_Labels_Plain.calls s0 s1 s2 P W hP)
    clear hP
    cases P with
    | true =>
     rw [if_pos rfl, if_pos rfl] at hq
     cases tx with
     | true =>
      rw [if_pos rfl] at hq
      obtain rfl := Option.some.inj hq
      go_wp2_with (first
       | (go_at_call 75; (with_reducible refine (HT.out _).mono ?_); rintro e w1 ⟨rfl, hb⟩; (first | have hx := after_call hb HX.out | have hx := after_call hb (blk_drewN HX.out _) | have hx := after_alloc hb); (first | have hw := below_step HW.out hb | have hw := below_step (below_alloc HW.out _) hb | have hw := below_step (pw_below_drewN HW.out _) hb); (try clear HX); (try clear c0' c1 c2 c3 c4 c5 c6 c7 c8); have HX := Aside0.mk hx; obtain ⟨c0', c1, c2, c3, c4, c5, c6, c7, c8⟩ := cells9 hx; clear hx; clear HW; have HW := Aside0.mk hw; clear hw hb)
       | (go_at_call 114; (with_reducible refine (HP.out _).mono ?_); rintro e w1 ⟨rfl, hb⟩; (first | have hx := after_call hb HX.out | have hx := after_call hb (blk_drewN HX.out _) | have hx := after_alloc hb); (first | have hw := below_step HW.out hb | have hw := below_step (below_alloc HW.out _) hb | have hw := below_step (pw_below_drewN HW.out _) hb); (try clear HX); (try clear c0' c1 c2 c3 c4 c5 c6 c7 c8); have HX := Aside0.mk hx; obtain ⟨c0', c1, c2, c3, c4, c5, c6, c7, c8⟩ := cells9 hx; clear hx; clear HW; have HW := Aside0.mk hw; clear hw hb))
      go_ret
      first | exact ⟨rfl, HW.out⟩ | exact ⟨rfl, pw_below_drewN HW.out _⟩
     | false =>
      rw [if_neg (by simp)] at hq
      by_cases he : s3.toList = ([] : List UInt8)
      ·rw [if_pos he] at hq
       obtain rfl := Option.some.inj hq
       have q1 : s3.toList.isEmpty = true := by rw [he]; rfl
       go_wp2_with (first
        | (go_at_call 75; (with_reducible refine (HT.out _).mono ?_); rintro e w1 ⟨rfl, hb⟩; (first | have hx := after_call hb HX.out | have hx := after_call hb (blk_drewN HX.out _) | have hx := after_alloc hb); (first | have hw := below_step HW.out hb | have hw := below_step (below_alloc HW.out _) hb | have hw := below_step (pw_below_drewN HW.out _) hb); (try clear HX); (try clear c0' c1 c2 c3 c4 c5 c6 c7 c8); have HX := Aside0.mk hx; obtain ⟨c0', c1, c2, c3, c4, c5, c6, c7, c8⟩ := cells9 hx; clear hx; clear HW; have HW := Aside0.mk hw; clear hw hb)
        | (go_at_call 114; (with_reducible refine (HP.out _).mono ?_); rintro e w1 ⟨rfl, hb⟩; (first | have hx := after_call hb HX.out | have hx := after_call hb (blk_drewN HX.out _) | have hx := after_alloc hb); (first | have hw := below_step HW.out hb | have hw := below_step (below_alloc HW.out _) hb | have hw := below_step (pw_below_drewN HW.out _) hb); (try clear HX); (try clear c0' c1 c2 c3 c4 c5 c6 c7 c8); have HX := Aside0.mk hx; obtain ⟨c0', c1, c2, c3, c4, c5, c6, c7, c8⟩ := cells9 hx; clear hx; clear HW; have HW := Aside0.mk hw; clear hw hb))
       go_ret
       first | exact ⟨rfl, HW.out⟩ | exact ⟨rfl, pw_below_drewN HW.out _⟩
      ·rw [if_neg he] at hq
       have q1 : s3.toList.isEmpty = false := by cases hs : s3.toList with | nil => exact absurd hs he | cons a t => rfl
       by_cases hn : (i : Int) < (l0.length : Int) - 1
       ·rw [if_pos hn] at hq
        have q2 : decide ((i : Int) < (l0.length : Int) - 1) = true := decide_eq_true hn
        obtain ⟨S, hS, hq⟩ := Option.bind_eq_some_iff.1 hq
        have HSf := Aside0.mk (fun W => strings_HasSuffix.calls s3 ⟨#[10]⟩ S W hS)
        clear hS hn
        cases S with
        | true =>
         rw [if_pos rfl] at hq
         have HQ := Aside0.mk (show rightL l0.length (l0.drop (i + 1)) _ ((i + 1 : Nat) : Int) = some r from by rw [show ((i + 1 : Nat) : Int) = (i : Int) + 1 by omega]; exact hq)
         clear hq
         go_wp2_with (first
          | (go_at_call 75; (with_reducible refine (HT.out _).mono ?_); rintro e w1 ⟨rfl, hb⟩; (first | have hx := after_call hb HX.out | have hx := after_call hb (blk_drewN HX.out _) | have hx := after_alloc hb); (first | have hw := below_step HW.out hb | have hw := below_step (below_alloc HW.out _) hb | have hw := below_step (pw_below_drewN HW.out _) hb); (try clear HX); (try clear c0' c1 c2 c3 c4 c5 c6 c7 c8); have HX := Aside0.mk hx; obtain ⟨c0', c1, c2, c3, c4, c5, c6, c7, c8⟩ := cells9 hx; clear hx; clear HW; have HW := Aside0.mk hw; clear hw hb)
          | (go_at_call 114; (with_reducible refine (HP.out _).mono ?_); rintro e w1 ⟨rfl, hb⟩; (first | have hx := after_call hb HX.out | have hx := after_call hb (blk_drewN HX.out _) | have hx := after_alloc hb); (first | have hw := below_step HW.out hb | have hw := below_step (below_alloc HW.out _) hb | have hw := below_step (pw_below_drewN HW.out _) hb); (try clear HX); (try clear c0' c1 c2 c3 c4 c5 c6 c7 c8); have HX := Aside0.mk hx; obtain ⟨c0', c1, c2, c3, c4, c5, c6, c7, c8⟩ := cells9 hx; clear hx; clear HW; have HW := Aside0.mk hw; clear hw hb)
          | (go_at_call 115; (with_reducible refine (HSf.out _).mono ?_); rintro e w1 ⟨rfl, hd⟩; obtain ⟨n1, rfl⟩ := hd.out; clear hd))
         go_roundg (l0.length - (i + 1))
         case measure => omega
         case rel => exact ⟨i + 1, _, by omega, Nat.le_refl _, rfl, by go_num, HQ, HW⟩
        | false =>
         rw [if_neg (by simp)] at hq
         obtain rfl := Option.some.inj hq
         go_wp2_with (first
          | (go_at_call 75; (with_reducible refine (HT.out _).mono ?_); rintro e w1 ⟨rfl, hb⟩; (first | have hx := after_call hb HX.out | have hx := after_call hb (blk_drewN HX.out _) | have hx := after_alloc hb); (first | have hw := below_step HW.out hb | have hw := below_step (below_alloc HW.out _) hb | have hw := below_step (pw_below_drewN HW.out _) hb); (try clear HX); (try clear c0' c1 c2 c3 c4 c5 c6 c7 c8); have HX := Aside0.mk hx; obtain ⟨c0', c1, c2, c3, c4, c5, c6, c7, c8⟩ := cells9 hx; clear hx; clear HW; have HW := Aside0.mk hw; clear hw hb)
          | (go_at_call 114; (with_reducible refine (HP.out _).mono ?_); rintro e w1 ⟨rfl, hb⟩; (first | have hx := after_call hb HX.out | have hx := after_call hb (blk_drewN HX.out _) | have hx := after_alloc hb); (first | have hw := below_step HW.out hb | have hw := below_step (below_alloc HW.out _) hb | have hw := below_step (pw_below_drewN HW.out _) hb); (try clear HX); (try clear c0' c1 c2 c3 c4 c5 c6 c7 c8); have HX := Aside0.mk hx; obtain ⟨c0', c1, c2, c3, c4, c5, c6, c7, c8⟩ := cells9 hx; clear hx; clear HW; have HW := Aside0.mk hw; clear hw hb)
          | (go_at_call 115; (with_reducible refine (HSf.out _).mono ?_); rintro e w1 ⟨rfl, hd⟩; obtain ⟨n1, rfl⟩ := hd.out; clear hd))
         go_ret
         first | exact ⟨rfl, HW.out⟩ | exact ⟨rfl, pw_below_drewN HW.out _⟩
       ·rw [if_neg hn] at hq
        have q2 : decide ((i : Int) < (l0.length : Int) - 1) = false := decide_eq_false hn
        clear hn
        have HQ := Aside0.mk (show rightL l0.length (l0.drop (i + 1)) _ ((i + 1 : Nat) : Int) = some r from by rw [show ((i + 1 : Nat) : Int) = (i : Int) + 1 by omega]; exact hq)
        clear hq
        go_wp2_with (first
         | (go_at_call 75; (with_reducible refine (HT.out _).mono ?_); rintro e w1 ⟨rfl, hb⟩; (first | have hx := after_call hb HX.out | have hx := after_call hb (blk_drewN HX.out _) | have hx := after_alloc hb); (first | have hw := below_step HW.out hb | have hw := below_step (below_alloc HW.out _) hb | have hw := below_step (pw_below_drewN HW.out _) hb); (try clear HX); (try clear c0' c1 c2 c3 c4 c5 c6 c7 c8); have HX := Aside0.mk hx; obtain ⟨c0', c1, c2, c3, c4, c5, c6, c7, c8⟩ := cells9 hx; clear hx; clear HW; have HW := Aside0.mk hw; clear hw hb)
         | (go_at_call 114; (with_reducible refine (HP.out _).mono ?_); rintro e w1 ⟨rfl, hb⟩; (first | have hx := after_call hb HX.out | have hx := after_call hb (blk_drewN HX.out _) | have hx := after_alloc hb); (first | have hw := below_step HW.out hb | have hw := below_step (below_alloc HW.out _) hb | have hw := below_step (pw_below_drewN HW.out _) hb); (try clear HX); (try clear c0' c1 c2 c3 c4 c5 c6 c7 c8); have HX := Aside0.mk hx; obtain ⟨c0', c1, c2, c3, c4, c5, c6, c7, c8⟩ := cells9 hx; clear hx; clear HW; have HW := Aside0.mk hw; clear hw hb))
        go_roundg (l0.length - (i + 1))
        case measure => omega
        case rel => exact ⟨i + 1, _, by omega, Nat.le_refl _, rfl, by go_num, HQ, HW⟩
    | false =>
     rw [if_neg (by simp)] at hq
     obtain rfl := Option.some.inj hq
     go_wp2_with (first
      | (go_at_call 75; (with_reducible refine (HT.out _).mono ?_); rintro e w1 ⟨rfl, hb⟩; (first | have hx := after_call hb HX.out | have hx := after_call hb (blk_drewN HX.out _) | have hx := after_alloc hb); (first | have hw := below_step HW.out hb | have hw := below_step (below_alloc HW.out _) hb | have hw := below_step (pw_below_drewN HW.out _) hb); (try clear HX); (try clear c0' c1 c2 c3 c4 c5 c6 c7 c8); have HX := Aside0.mk hx; obtain ⟨c0', c1, c2, c3, c4, c5, c6, c7, c8⟩ := cells9 hx; clear hx; clear HW; have HW := Aside0.mk hw; clear hw hb)
      | (go_at_call 114; (with_reducible refine (HP.out _).mono ?_); rintro e w1 ⟨rfl, hb⟩; (first | have hx := after_call hb HX.out | have hx := after_call hb (blk_drewN HX.out _) | have hx := after_alloc hb); (first | have hw := below_step HW.out hb | have hw := below_step (below_alloc HW.out _) hb | have hw := below_step (pw_below_drewN HW.out _) hb); (try clear HX); (try clear c0' c1 c2 c3 c4 c5 c6 c7 c8); have HX := Aside0.mk hx; obtain ⟨c0', c1, c2, c3, c4, c5, c6, c7, c8⟩ := cells9 hx; clear hx; clear HW; have HW := Aside0.mk hw; clear hw hb))
     go_ret
     first | exact ⟨rfl, HW.out⟩ | exact ⟨rfl, pw_below_drewN HW.out _⟩
   | false =>
    rw [if_neg (by simp)] at hC
    have HCf := Aside0.mk (fun W => doc_Part_isConflict.calls s0 s1 s2 b1 s3 s4 s5 s6 b2 C W hC)
    clear hC
    cases C with
    | false =>
     rw [if_neg (by simp)] at hq
     obtain rfl := Option.some.inj hq
     go_wp2_with (first
      | (go_at_call 75; (with_reducible refine (HT.out _).mono ?_); rintro e w1 ⟨rfl, hb⟩; (first | have hx := after_call hb HX.out | have hx := after_call hb (blk_drewN HX.out _) | have hx := after_alloc hb); (first | have hw := below_step HW.out hb | have hw := below_step (below_alloc HW.out _) hb | have hw := below_step (pw_below_drewN HW.out _) hb); (try clear HX); (try clear c0' c1 c2 c3 c4 c5 c6 c7 c8); have HX := Aside0.mk hx; obtain ⟨c0', c1, c2, c3, c4, c5, c6, c7, c8⟩ := cells9 hx; clear hx; clear HW; have HW := Aside0.mk hw; clear hw hb)
      | (go_at_call 113; (with_reducible refine (HCf.out _).mono ?_); rintro e w1 ⟨rfl, hb⟩; (first | have hx := after_call hb HX.out | have hx := after_call hb (blk_drewN HX.out _) | have hx := after_alloc hb); (first | have hw := below_step HW.out hb | have hw := below_step (below_alloc HW.out _) hb | have hw := below_step (pw_below_drewN HW.out _) hb); (try clear HX); (try clear c0' c1 c2 c3 c4 c5 c6 c7 c8); have HX := Aside0.mk hx; obtain ⟨c0', c1, c2, c3, c4, c5, c6, c7, c8⟩ := cells9 hx; clear hx; clear HW; have HW := Aside0.mk hw; clear hw hb))
     go_ret
     first | exact ⟨rfl, HW.out⟩ | exact ⟨rfl, pw_below_drewN HW.out _⟩
    | true =>
     rw [if_pos rfl] at hq
     obtain ⟨P, hP, hq⟩ := Option.bind_eq_some_iff.1 hq
     have HP := Aside0.mk (fun W => doc_Labels_Plain.calls s0 s1 s2 P W hP)
     clear hP
     cases P with
     | true =>
      rw [if_pos rfl, if_neg (by simp)] at hq
      have HQ := Aside0.mk (show rightL l0.length (l0.drop (i + 1)) _ ((i + 1 : Nat) : Int) = some r from by rw [show ((i + 1 : Nat) : Int) = (i : Int) + 1 by omega]; exact hq)
      clear hq
      go_wp2_with (first
       | (go_at_call 75; (with_reducible refine (HT.out _).mono ?_); rintro e w1 ⟨rfl, hb⟩; (first | have hx := after_call hb HX.out | have hx := after_call hb (blk_drewN HX.out _) | have hx := after_alloc hb); (first | have hw := below_step HW.out hb | have hw := below_step (below_alloc HW.out _) hb | have hw := below_step (pw_below_drewN HW.out _) hb); (try clear HX); (try clear c0' c1 c2 c3 c4 c5 c6 c7 c8); have HX := Aside0.mk hx; obtain ⟨c0', c1, c2, c3, c4, c5, c6, c7, c8⟩ := cells9 hx; clear hx; clear HW; have HW := Aside0.mk hw; clear hw hb)
       | (go_at_call 113; (with_reducible refine (HCf.out _).mono ?_); rintro e w1 ⟨rfl, hb⟩; (first | have hx := after_call hb HX.out | have hx := after_call hb (blk_drewN HX.out _) | have hx := after_alloc hb); (first | have hw := below_step HW.out hb | have hw := below_step (below_alloc HW.out _) hb | have hw := below_step (pw_below_drewN HW.out _) hb); (try clear HX); (try clear c0' c1 c2 c3 c4 c5 c6 c7 c8); have HX := Aside0.mk hx; obtain ⟨c0', c1, c2, c3, c4, c5, c6, c7, c8⟩ := cells9 hx; clear hx; clear HW; have HW := Aside0.mk hw; clear hw hb)
       | (go_at_call 114; (with_reducible refine (HP.out _).mono ?_); rintro e w1 ⟨rfl, hb⟩; (first | have hx := after_call hb HX.out | have hx := after_call hb (blk_drewN HX.out _) | have hx := after_alloc hb); (first | have hw := below_step HW.out hb | have hw := below_step (below_alloc HW.out _) hb | have hw := below_step (pw_below_drewN HW.out _) hb); (try clear HX); (try clear c0' c1 c2 c3 c4 c5 c6 c7 c8); have HX := Aside0.mk hx; obtain ⟨c0', c1, c2, c3, c4, c5, c6, c7, c8⟩ := cells9 hx; clear hx; clear HW; have HW := Aside0.mk hw; clear hw hb))
      go_roundg (l0.length - (i + 1))
      case measure => omega
      case rel => exact ⟨i + 1, _, by omega, Nat.le_refl _, rfl, by go_num, HQ, HW⟩
     | false =>
      rw [if_neg (by simp)] at hq
      obtain rfl := Option.some.inj hq
      go_wp2_with (first
       | (go_at_call 75; (with_reducible refine (HT.out _).mono ?_); rintro e w1 ⟨rfl, hb⟩; (first | have hx := after_call hb HX.out | have hx := after_call hb (blk_drewN HX.out _) | have hx := after_alloc hb); (first | have hw := below_step HW.out hb | have hw := below_step (below_alloc HW.out _) hb | have hw := below_step (pw_below_drewN HW.out _) hb); (try clear HX); (try clear c0' c1 c2 c3 c4 c5 c6 c7 c8); have HX := Aside0.mk hx; obtain ⟨c0', c1, c2, c3, c4, c5, c6, c7, c8⟩ := cells9 hx; clear hx; clear HW; have HW := Aside0.mk hw; clear hw hb)
       | (go_at_call 113; (with_reducible refine (HCf.out _).mono ?_); rintro e w1 ⟨rfl, hb⟩; (first | have hx := after_call hb HX.out | have hx := after_call hb (blk_drewN HX.out _) | have hx := after_alloc hb); (first | have hw := below_step HW.out hb | have hw := below_step (below_alloc HW.out _) hb | have hw := below_step (pw_below_drewN HW.out _) hb); (try clear HX); (try clear c0' c1 c2 c3 c4 c5 c6 c7 c8); have HX := Aside0.mk hx; obtain ⟨c0', c1, c2, c3, c4, c5, c6, c7, c8⟩ := cells9 hx; clear hx; clear HW; have HW := Aside0.mk hw; clear hw hb)
       | (go_at_call 114; (with_reducible refine (HP.out _).mono ?_); rintro e w1 ⟨rfl, hb⟩; (first | have hx := after_call hb HX.out | have hx := after_call hb (blk_drewN HX.out _) | have hx := after_alloc hb); (first | have hw := below_step HW.out hb | have hw := below_step (below_alloc HW.out _) hb | have hw := below_step (pw_below_drewN HW.out _) hb); (try clear HX); (try clear c0' c1 c2 c3 c4 c5 c6 c7 c8); have HX := Aside0.mk hx; obtain ⟨c0', c1, c2, c3, c4, c5, c6, c7, c8⟩ := cells9 hx; clear hx; clear HW; have HW := Aside0.mk hw; clear hw hb))
      go_ret
      first | exact ⟨rfl, HW.out⟩ | exact ⟨rfl, pw_below_drewN HW.out _⟩
  ·have hq := HL.out
   rw [List.drop_of_length_le (by omega), rightL] at hq
   obtain rfl := Option.some.inj hq
   clear hq
   go_wp2
   go_ret
   exact ⟨rfl, HW.out⟩
end Go.Proofs.Ytfiamddinkokbaa.F
end

section
namespace Go.Proofs.Ytfiamddinkokbaa.F
open Go.RowKit Go.Proofs.YtfiamddinkokbaaW.PrintWords Go.Proofs.YtfiamddinkokbaaW.PrintLast Go.Proofs.YtfiamddinkokbaaW.PrintMore
attribute [local go_sem] max2_int min2_int max_two min_two max_three min_three max_four min_four
def doc_Doc_Right.f (k : Nat) (l0 : List S106) : Option Bool := rightF l0
theorem doc_Doc_Right.mono : ∀ l0 k, LeO (doc_Doc_Right.f k l0) (doc_Doc_Right.f (k + 1) l0) := fun _ _ => LeO.refl _
theorem doc_Doc_Right.calls (k : Nat) (A0 : Option Addr) (c0 : Nat) (l0 : List (S106)) (r : Bool) (w : World) (hr0 : Kd.C k106 w A0 l0.length l0) (hc0 : l0.length ≤ c0) (h : doc_Doc_Right.f k l0 = some r) :
  Calls Try.prog 72 #[.slice A0 l0.length c0] w fun e w' => e = .returned (.bool r) ∧ Below w.heap.size w w' := by
 exact right_calls A0 c0 l0 r w hr0 hc0 h
def doc_run.l0 : Nat → Int → List ByteArray → Int → Int → Option (Int)
 | 0, _, _, _, _ => none
 | k + 1, x3, x6, x7, x8 => if x8 < x7 then (if 0 ≤ x8 then (if x8 < (x6.length : Int) then ((lines_Split.f (rdOf ByteArray.empty x6 x8)).bind fun t105 => ((lines_Longest.f k (([t105] : List (List ByteArray)))).bind fun t111 => (doc_run.l0 k (mx x3 t111) x6 x7 (wrap64 (x8 + 1))))) else (none)) else (none)) else (some x3)
def doc_run.f (k : Nat) (l0 : List ByteArray) : Option (Int) := doc_run.l0 k 0 l0 (l0.length : Int) 0
theorem doc_run.mono_l : ∀ k, (∀ y0 y1 y2 y3, LeO (doc_run.l0 k y0 y1 y2 y3) (doc_run.l0 (k + 1) y0 y1 y2 y3))
 | 0 => fun _ _ _ _ r h => by simp [doc_run.l0] at h
 | k + 1 => by
  have ih0 := doc_run.mono_l k
  ·intro y0 y1 y2 y3
   unfold doc_run.l0
   repeat' first
   | (with_reducible exact ih0 _ _ _ _)
   | (with_reducible exact lines_Longest.mono _ _)
   | (with_reducible exact LeO.refl _)
   | (with_reducible exact LeO.none _)
   | (with_reducible refine LeO.ite ?_ ?_)
   | (with_reducible refine LeO.bind ?_ (fun _ => ?_))
   | exact ih0 _ _ _ _
   | exact lines_Longest.mono _ _
   | exact LeO.none _
   | refine LeO.ite ?_ ?_
   | refine LeO.bind ?_ (fun _ => ?_)
theorem doc_run.mono : ∀ a0 k, LeO (doc_run.f k a0) (doc_run.f (k + 1) a0) := by
 intro a0 k
 have ih0 := doc_run.mono_l k
 unfold doc_run.f
 repeat' first
   | (with_reducible exact ih0 _ _ _ _)
   | (with_reducible exact lines_Longest.mono _ _)
   | (with_reducible exact LeO.refl _)
   | (with_reducible exact LeO.none _)
   | (with_reducible refine LeO.ite ?_ ?_)
   | (with_reducible refine LeO.bind ?_ (fun _ => ?_))
   | exact ih0 _ _ _ _
   | exact lines_Longest.mono _ _
   | exact LeO.none _
   | refine LeO.ite ?_ ?_
   | refine LeO.bind ?_ (fun _ => ?_)
set_option maxHeartbeats 8000000 in
set_option maxRecDepth 100000 in
theorem doc_run.calls (k : Nat) (A0 : Option Addr) (c0 : Nat) (l0 : List ByteArray) (r : Int) (w : World) (hr0 : Kd.C Kd.string w A0 l0.length l0) (hc0 : l0.length ≤ c0) (h : doc_run.f k l0 = some r) :
  Calls Try.prog 71 #[.slice A0 l0.length c0] w fun e w' => e = .returned (.int .i64 r) ∧ Below w.heap.size w w' := by
 have HR0 := Aside0.mk hr0
 have HC0 := Aside0.mk hc0
 clear hr0 hc0
 have HB := Aside0.mk (Below.refl w.heap.size w)
 have H : (doc_run.l0 k 0 l0 (l0.length : Int) 0) = some r := h
 clear h
 have H' := Aside0.mk H
 clear H
 go_enter Try.func71, Try.ntmps71
 go_wp2
 go_loopg [3, 8] k (fun kq v3 v8 w' => ∃ (x3_1 : Int) (x8_1 : Int), v3 = .int .i64 x3_1 ∧ v8 = .int .i64 x8_1 ∧ Aside0 (doc_run.l0 kq x3_1 l0 (l0.length : Int) x8_1 = some r) ∧ Aside0 (kq ≤ k) ∧ Aside0 (Below w.heap.size w w'))
 case atStart => exact ⟨(0), (0), (by first | rfl | (simp; done) | (simp [*]; done)), (by first | rfl | (simp; done) | (simp [*]; done)), H', ⟨Nat.le_refl _⟩, ⟨by repeat (first | (with_reducible first | exact HB.out | apply below_alloc | apply pw_below_drewN | apply below_drew1) | exact HB.out)⟩⟩
 case round =>
  clear H'
  obtain ⟨x3_1, x8_1, rfl, rfl, HA, HK1, HB⟩ := hrel
  cases gk with
  | zero => exact absurd HA.out (by simp [doc_run.l0])
  | succ k1 =>
   have H := HA.out
   clear HA
   simp only [doc_run.l0] at H
   by_cases c2 : x8_1 < (l0.length : Int)
   ·rw [if_pos c2] at H
    have c2b0 : decide (x8_1 < (l0.length : Int)) = true := decide_eq_true c2
    clear c2
    by_cases c3 : 0 ≤ x8_1
    ·rw [if_pos c3] at H
     have c3b0 : decide (0 ≤ x8_1) = true := decide_eq_true c3
     clear c3
     by_cases c4 : x8_1 < (l0.length : Int)
     ·rw [if_pos c4] at H
      have c4b0 : decide (x8_1 < (l0.length : Int)) = true := decide_eq_true c4
      clear c4
      replace H := Option.bind_eq_some_iff.mp H
      obtain ⟨t105, A50, H⟩ := H
      replace H : ((lines_Longest.f k1 (([t105] : List (List ByteArray)))).bind fun t111 => (doc_run.l0 k1 (mx x3_1 t111) l0 (l0.length : Int) (wrap64 (x8_1 + 1)))) = some r := H
      have A5 := Aside0.mk A50
      clear A50
      obtain ⟨y108, hy108⟩ : ∃ y_ : List (List ByteArray), y_ = (([t105] : List (List ByteArray))) := ⟨_, rfl⟩
      replace H : ((lines_Longest.f k1 y108).bind fun t111 => (doc_run.l0 k1 (mx x3_1 t111) l0 (l0.length : Int) (wrap64 (x8_1 + 1)))) = some r := by first | (rw [hy108]; with_reducible exact H) | (have H2_ := (Option.bind_some _ _).symm.trans H; rw [hy108]; with_reducible exact H2_) | (have H2_ := (Option.bind_some _ _).symm.trans H; with_reducible exact H2_) | with_reducible exact H | (rw [hy108]; exact H) | exact H
      have Ny108 := Aside0.mk hy108
      clear hy108
      replace H := Option.bind_eq_some_iff.mp H
      obtain ⟨t111, A60, H⟩ := H
      replace H : (doc_run.l0 k1 (mx x3_1 t111) l0 (l0.length : Int) (wrap64 (x8_1 + 1))) = some r := H
      have A6 := Aside0.mk A60
      clear A60
      obtain ⟨ji7, hji7⟩ : ∃ j_ : Int, (mx x3_1 t111) = j_ := ⟨_, rfl⟩
      replace H : (doc_run.l0 k1 ji7 l0 (l0.length : Int) (wrap64 (x8_1 + 1))) = some r := by first | (rw [hji7] at H; exact H) | (simp only [hji7] at H ⊢; exact H)
      (try rw [hji7] at A5)
      (try rw [hji7] at A6)
      have hji7_ : (if x3_1 < t111 then t111 else x3_1) = ji7 := hji7
      have H' := Aside0.mk H
      clear H
      have p104 : 0 ≤ (x8_1 : Int) := of_decide_eq_true (by first | (with_reducible assumption) | assumption)
      have q104 : x8_1 < (l0.length : Int) := of_decide_eq_true (by first | (with_reducible assumption) | assumption)
      obtain ⟨ad104, e104, hx104_0⟩ := Kd.at_string HR0.out x8_1 p104 q104
      cases e104
      replace hx104_0 := (HB.out.cell (World.block_lt_of_cell? w _ hx104_0)).trans hx104_0
      replace p104 := eq_true p104
      replace q104 := eq_true q104
      go_wp2_with (first | ((with_reducible refine gate_callee (f := 29) rfl ?_); refine goesL_ (some 14) rfl rfl Try.func29 (by kernel_rfl) rfl #[.string (rdOf ByteArray.empty l0 x8_1)] rfl (by (try simp only [List.map_toArray, List.map_cons, List.map_nil]); first | done | rfl | (simp only [List.length_drop, List.length_take]; rfl)) ?_; (with_reducible refine (lines_Split.calls (rdOf ByteArray.empty l0 x8_1) t105 _ A5.out).mono ?_); rintro e w8 ⟨v106, rfl, ho0, hb⟩; refine ⟨_, rfl, ?_⟩; have n0_ := Aside0.mk (Kd.R_lower ho0 (below_size (by repeat (first | (with_reducible first | exact HB.out | apply below_alloc | apply pw_below_drewN | apply below_drew1) | exact HB.out)))); have n1_ := Aside0.mk (below_step (by repeat (first | (with_reducible first | exact HB.out | apply below_alloc | apply pw_below_drewN | apply below_drew1) | exact HB.out)) hb); clear HB; have HO107 := n0_; have HB := n1_; clear n0_ n1_; (try clear hb); (try clear hb2); (try clear hk); (try clear hi); (try clear ho0); obtain ⟨Ao9, co9, eo9⟩ := Kd.R_slice HO107.out; subst eo9) | ((with_reducible refine gate_dst (N := 15) rfl ?_); refine Kd.N_lit (Kd.slice 9 Kd.string) _ 36 ?hg (N' := 15) ?hd (xs := ([t105] : List (List ByteArray))) (inner := [.slice Ao9 t105.length co9]) (ok := (fun _ => True)) (okp := (fun _ => True)) ?hr ?hp (fun _ hk => hk) ((show ∀ k_, w8.heap.size ≤ k_ → (fun _ => True) k_ from fun k_ hk => trivial) _ (Nat.le_refl _)) (Below.refl _ _) (Nat.le_refl _) (by simp) ?_; (case hd => rfl); (case hg => rfl); (case hr => first | (go_simp; done) | (go_simp; rfl)); (case hp => exact (Reps.one (show Kd.FK (Kd.slice 9 Kd.string) _ _ t105 [.slice Ao9 t105.length co9] from (Kd.FK_slice_mk (Kd.R_reads' (Kd.R_mono (ok' := (fun _ => True)) (HO107.out) (fun k_ hk => trivial))).2.1 (Kd.R_F (Kd.R_mono (ok' := (fun _ => True)) (HO107.out) (fun k_ hk => trivial))))) (Reps.none _ _))); intro v109 w10 ho11 hb hg_ hnew_; clear hg_ hnew_; (first | rw [← Ny108.out] at ho11 | (simp only [Int.reduceToNat] at ho11; rw [← Ny108.out] at ho11)); have n0_ := Aside0.mk (Kd.N_lower ho11 (below_size (by repeat (first | (with_reducible first | exact HB.out | apply below_alloc | apply pw_below_drewN | apply below_drew1) | exact HB.out)))); have n1_ := Aside0.mk (below_step (by repeat (first | (with_reducible first | exact HB.out | apply below_alloc | apply pw_below_drewN | apply below_drew1) | exact HB.out)) hb); clear HB; clear HO107; have HO110 := n0_; have HB := n1_; clear n0_ n1_; clear hb ho11; obtain ⟨Ao12, co12, eo12⟩ := Kd.N_slice HO110.out; subst eo12) | ((with_reducible refine gate_callee (f := 40) rfl ?_); refine goesL_ (some 16) rfl rfl Try.func40 (by kernel_rfl) rfl #[.slice Ao12 y108.length co12] rfl (by (try simp only [List.map_toArray, List.map_cons, List.map_nil]); first | done | rfl | (simp only [List.length_drop, List.length_take]; rfl)) ?_; (with_reducible refine (lines_Longest.calls k1 _ _ y108 t111 _ ?side1 ?side2 A6.out).mono ?_); (case side1 => repeat (first | exact (Kd.N_reads' HO110.out).2.2 | (with_reducible refine Kd.C_alloc ?_ _) | (with_reducible refine Kd.C_drewN ?_ _) | (with_reducible refine Kd.C_drew ?_))); (case side2 => exact (Kd.N_reads' HO110.out).2.1); rintro e w13 ⟨rfl, hb⟩; refine ⟨_, rfl, ?_⟩; have n0_ := Aside0.mk (Kd.N_below (by (with_reducible repeat (first | apply Kd.N_alloc | apply Kd.N_drewN | apply Kd.N_drew)); exact HO110.out) hb); have n1_ := Aside0.mk (below_step (by repeat (first | (with_reducible first | exact HB.out | apply below_alloc | apply pw_below_drewN | apply below_drew1) | exact HB.out)) hb); clear HO110; clear HB; have HO110 := n0_; have HB := n1_; clear n0_ n1_; (try clear hb); (try clear hb2); (try clear hk); (try clear hi)))
      go_roundg k1
      case measure => have := HK1.out; omega
      case rel => exact ⟨(ji7), (wrap64 (x8_1 + 1)), (by first | rfl | (simp; done) | (simp only [← hji7] <;> (first | rfl | simp)) | (simp [*]; done)), (by first | rfl | (simp; done) | (simp [*]; done)), H', ⟨by have := HK1.out; omega⟩, ⟨by repeat (first | (with_reducible first | exact HB.out | apply below_alloc | apply pw_below_drewN | apply below_drew1) | exact HB.out)⟩⟩
     ·rw [if_neg c4] at H
      exact absurd H (by simp)
    ·rw [if_neg c3] at H
     exact absurd H (by simp)
   ·rw [if_neg c2] at H
    have c2b0 : decide (x8_1 < (l0.length : Int)) = false := decide_eq_false c2
    clear c2
    obtain rfl := Option.some.inj H
    go_wp2
    go_ret
    exact ⟨by first | rfl | (simp [errW_none, errW_some] <;> rfl) | (simp [*, errW_none, errW_some] <;> rfl), by repeat (first | (with_reducible first | exact HB.out | apply below_alloc | apply pw_below_drewN | apply below_drew1) | exact HB.out)⟩
end Go.Proofs.Ytfiamddinkokbaa.F
end
