/- Texts joined into one file (wip/tools/pack.py): Fn51, Fn9, Fn12, PureMarkLines, Fn19 -/
import Derived.Test.YtfiamddinkokbaaPB3
import Derived.Test.YtfiamddinkokbaaPB6
import Derived.Test.YtfiamddinkokbaaPB13
import Derived.Test.YtfiamddinkokbaaPB20
import Derived.Test.YtfiamddinkokbaaPB24
import Derived.Test.YtfiamddinkokbaaPB19
import Derived.Test.YtfiamddinkokbaaPB23
set_option linter.unusedVariables false
set_option linter.unusedSimpArgs false
section
namespace Go.Proofs.Ytfiamddinkokbaa.F
open Go.RowKit Go.Proofs.YtfiamddinkokbaaW.PrintWords Go.Proofs.YtfiamddinkokbaaW.PrintLast Go.Proofs.YtfiamddinkokbaaW.PrintMore
attribute [local go_sem] max2_int min2_int max_two min_two max_three min_three max_four min_four

end Go.Proofs.Ytfiamddinkokbaa.F
end

section
namespace Go.Proofs.Ytfiamddinkokbaa.F
open Go.RowKit Go.Proofs.YtfiamddinkokbaaW.PrintWords Go.Proofs.YtfiamddinkokbaaW.PrintLast Go.Proofs.YtfiamddinkokbaaW.PrintMore
attribute [local go_sem] max2_int min2_int max_two min_two max_three min_three max_four min_four
attribute [local go_sem high] eqA60

end Go.Proofs.Ytfiamddinkokbaa.F
end

section
namespace Go.Proofs.Ytfiamddinkokbaa.F
open Go.RowKit Go.Proofs.YtfiamddinkokbaaW.PrintWords Go.Proofs.YtfiamddinkokbaaW.PrintLast Go.Proofs.YtfiamddinkokbaaW.PrintMore
attribute [local go_sem] max2_int min2_int max_two min_two max_three min_three max_four min_four

end Go.Proofs.Ytfiamddinkokbaa.F
end

section
namespace Go.Proofs.Ytfiamddinkokbaa.F
open Go.RowKit Go.Proofs.YtfiamddinkokbaaW.PrintWords Go.Proofs.YtfiamddinkokbaaW.PrintLast Go.Proofs.YtfiamddinkokbaaW.PrintMore
theorem cut_rep (c : UInt8) (t : List UInt8) (ht : cutL c t = t) : ∀ n, cutL c (List.replicate n c ++ t) = t
 | 0 => ht
 | n + 1 => by
  rw [List.replicate_succ]
  show (c :: (List.replicate n c ++ t)).dropWhile (fun x => x == c) = t
  rw [List.dropWhile_cons_of_pos (by simp)]
  exact cut_rep c t ht n
theorem tail_cut (c : UInt8) (hs : isSign c = true) (fl : Bool) (lb : List UInt8) : cutL c (tailM fl lb) = tailM fl lb := by
 unfold isSign at hs
 simp only [Bool.or_eq_true, beq_iff_eq] at hs
 rcases hs with ((h | h) | h) | h <;> subst h <;> cases fl <;> cases lb <;> rfl
theorem run_mark (c : UInt8) (hs : isSign c = true) (fl : Bool) (lb : List UInt8) (n : Nat) (hn : 1 ≤ n) : runL (markL c fl lb n) = n := by
 obtain ⟨m, rfl⟩ : ∃ m, n = m + 1 := ⟨n - 1, by omega⟩
 have e0 : markL c fl lb (m + 1) = c :: (List.replicate m c ++ tailM fl lb) := rfl
 rw [e0]; unfold runL; simp only
 rw [if_pos hs]
 have e : cutL c (c :: (List.replicate m c ++ tailM fl lb)) = tailM fl lb := cut_rep c _ (tail_cut c hs fl lb) (m + 1)
 rw [e]; simp only [List.length_cons, List.length_append, List.length_replicate]; omega
theorem may_isSign (c : UInt8) (fl : Bool) (lb : ByteArray) (h : mayB (c.toNat : Int) fl lb = true) : isSign c = true := by
 unfold mayB at h
 simp only [Bool.and_eq_true] at h
 have h1 := h.1
 by_cases hc : c.toNat < 128
 ·have := sign_small ⟨c.toNat, hc⟩
  simp only [UInt8.ofNat_toNat] at this
  rw [this]; exact h1
 ·exfalso
  unfold signI at h1
  simp only [Bool.or_eq_true, beq_iff_eq] at h1
  omega
theorem read_back (c : UInt8) (fl : Bool) (lb : List UInt8) (w v : Int) (h1 : 1 ≤ w) (hm : mayB (c.toNat : Int) fl (toB lb) = true) (v1 : 1 ≤ v) (v2 : v ≤ 1073741824) :
  readA (toB (markL c fl lb w.toNat)) v = (if v < w then (0, false, ⟨#[]⟩, false, 6) else if v > w then (0, false, ⟨#[]⟩, false, 0) else ((c.toNat : Int), fl, toB lb, true, 0)) := by
 have hs := may_isSign c fl _ hm
 have hrun : runI (toB (markL c fl lb w.toNat)) = w := by
  unfold runI; rw [data_toB, run_mark c hs fl lb w.toNat (by omega)]; omega
 unfold readA
 rw [if_pos ⟨v1, v2⟩, hrun, data_toB]
 by_cases hv : w < v
 ·rw [if_pos hv, if_neg (by omega), if_pos (by omega)]
 ·rw [if_neg hv]
  obtain ⟨m, hm'⟩ : ∃ m, w.toNat = m + 1 := ⟨w.toNat - 1, by omega⟩
  have e0 : markL c fl lb w.toNat = c :: (List.replicate m c ++ tailM fl lb) := by rw [hm']; rfl
  rw [e0]
  show readS c (candA ((c :: (List.replicate m c ++ tailM fl lb)).drop v.toNat)) (c :: (List.replicate m c ++ tailM fl lb)) v.toNat = _
  rw [← e0]
  by_cases he : v = w
  ·subst he
   have : (markL c fl lb v.toNat).drop v.toNat = tailM fl lb := by
    show (List.replicate v.toNat c ++ tailM fl lb).drop v.toNat = _
    rw [List.drop_append_of_le_length (by simp), List.drop_of_length_le (by simp), List.nil_append]
   rw [this, candA_tail, readS_pos hm rfl, if_neg (by omega), if_neg (by omega)]
  ·rw [if_pos (by omega)]
   have key : ∀ x : Bool × List UInt8, readS c x (markL c fl lb w.toNat) v.toNat = (0, false, ⟨#[]⟩, false, 6) := by
    intro x
    refine if_neg ?_
    rintro ⟨_, h⟩
    have a := run_mark c hs x.1 x.2 v.toNat (by omega)
    rw [h, run_mark c hs fl lb w.toNat (by omega)] at a
    omega
   exact key _
end Go.Proofs.Ytfiamddinkokbaa.F
end

section
namespace Go.Proofs.Ytfiamddinkokbaa.F
open Go.RowKit Go.Proofs.YtfiamddinkokbaaW.PrintWords Go.Proofs.YtfiamddinkokbaaW.PrintLast Go.Proofs.YtfiamddinkokbaaW.PrintMore
attribute [local go_sem] max2_int min2_int max_two min_two max_three min_three max_four min_four

end Go.Proofs.Ytfiamddinkokbaa.F
end
