/- Texts joined into one file (wip/tools/pack.py): Open, PrintLe, PureDocJoins, PureParseBack -/
import Derived.Test.YtfiamddinkokbaaPB3
import Derived.SliceStrings
import Derived.SizedLaws
import Derived.Deep.Slices
import Derived.Deep.Fields
import Derived.ChangeSame
import Derived.Lib.SmallJoins
import Derived.Test.YtfiamddinkokbaaPB28
import Derived.Test.YtfiamddinkokbaaPB27
import Derived.Test.YtfiamddinkokbaaPB38
import Derived.Test.YtfiamddinkokbaaPB29
import Derived.Test.YtfiamddinkokbaaPB24
import Derived.Test.YtfiamddinkokbaaPB37
set_option linter.unusedVariables false
set_option linter.unusedSimpArgs false
section
namespace Go.Proofs.Ytfiamddinkokbaa.F
open Go.RowKit Go.Proofs.YtfiamddinkokbaaW.PrintWords Go.ChangeShapes Go.WideShapes Go.Deep Go.Joins
section
variable {H : Type} {enc : TypeId × Value → H} {P : Program} {W : World} {base : Nat} {spare : Nat → Bool} {held : Bool}
end
section
variable {H : Type} {enc : TypeId × Value → H} {P : Program} {w : World} {base : Nat} {spare : Nat → Bool} {held : Bool}
theorem open_slice_fields {t e : TypeId} {fs : Array Field} {fuel : Nat} {cs : List Value} {x : DataW H × List MemPlace} (ht : P.underlying t = some (.slice e)) (he : P.underlying e = some (.struct fs))
  (hone : oneCellFields P fs = true) (hC : P.cellsOf e = fs.size) (h : DataW.trod enc P w base spare held fuel t cs = some x) :
  (cs = [.slice none 0 0] ∧ x = (.nil, [])) ∨
  ∃ (a : Addr) (len cap m : Nat) (D : Nat → DataW H) (Pl : Nat → List MemPlace), cs = [.slice (some a) len cap] ∧ base ≤ a.block ∧ len ≤ cap ∧ cap ≤ maxLen ∧ m = (if spare a.block then cap else len) ∧
   x = (.slice ((List.range len).map D) ((List.range (m - len)).map fun j => D (len + j)), MemPlace.row a (m * fs.size) ++ (List.range m).flatMap Pl) ∧
   ∀ i, i < m → ∃ (ys : List (DataW H × List MemPlace)) (n : Nat), D i = .agg (ys.map (·.1)) ∧ Pl i = ys.flatMap (·.2) ∧ ys.length = fs.size ∧
    ∀ (j : Nat) (f : Field), fs[j]? = some f → ∃ (v : Value) (y : DataW H × List MemPlace), w.cell? (a.add (i * fs.size + j)) = some v ∧ ys[j]? = some y ∧ DataW.trod enc P w base spare held n f.type [v] = some y := by
 rcases open_slice ht h with h0 | ⟨a, len, cap, m, n, D, Pl, hcs, hb, hl, hm, hmm, hx, hi⟩
 ·exact .inl h0
 ·refine .inr ⟨a, len, cap, m, D, Pl, hcs, hb, hl, hm, hmm, by rw [hC] at hx; exact hx, fun i him => ?_⟩
  obtain ⟨cs', hc, ht'⟩ := hi i him
  rw [hC] at hc
  obtain ⟨ys, n', hn', hy, hlen, hyl, hf⟩ := DataW.trod_struct he ht'
  obtain ⟨_, hcl, hat⟩ := World.cells?_some hc
  simp only [Prod.mk.injEq] at hy
  refine ⟨ys, n', hy.1, hy.2, hyl, fun j f hj => ?_⟩
  obtain ⟨ho, hk⟩ := hone_of hone j f hj
  have hjl : j < fs.size := (Array.getElem?_eq_some_iff.1 hj).1
  have hcell := hat j hjl
  have hv : cs'[j]? = some (cs'[j]'(by omega)) := List.getElem?_eq_getElem (by omega)
  have h1 := hf j f hj
  rw [ho, hk] at h1
  have hone' : (cs'.drop j).take 1 = [cs'[j]'(by omega)] := by
   rw [List.drop_eq_getElem_cons (by omega)]
   rfl
  rw [hone'] at h1
  have hys : ys[j]? = some (ys[j]'(by omega)) := List.getElem?_eq_getElem (by omega)
  refine ⟨_, _, ?_, hys, h1.trans hys⟩
  rw [← Go.Deep.add_add, hcell, hv]
end
def small109 (x : S109) : Prop := x.f0.size ≤ 140737488351232 ∧ x.f1.size ≤ 140737488351232 ∧ x.f2.size ≤ 140737488351232 ∧ x.f4.size ≤ 140737488351232 ∧ x.f5.size ≤ 140737488351232 ∧ x.f6.size ≤ 140737488351232 ∧ x.f7.size ≤ 140737488351232
section
variable {H : Type} {enc : TypeId × Value → H} {W : World} {base : Nat} {spare : Nat → Bool} {held : Bool}
theorem weights_all_mem {P : Program} {e : TypeId} {n : Nat} : ∀ (l : List (DataW H)) (d : DataW H), d ∈ l → n ∈ d.weights P e → n ∈ DataW.weightsAll P e l
 | d' :: r, d, hm, hn => by
  simp only [DataW.weightsAll, List.mem_append]
  rcases List.mem_cons.1 hm with rfl | hm
  ·exact .inl hn
  ·exact .inr (weights_all_mem r d hm hn)
theorem open_parts {A : Option Addr} {n c : Nat} {d : DataW H} {p : List MemPlace} {ts : List TypeId} {ds : List (DataW H)} {j : Nat}
  (hsz : (DataW.weightsEach Try.prog ts ds).all (· ≤ reachBytes) = true) (htj : ts[j]? = some 26) (hdj : ds[j]? = some d)
  (h : DataW.Trod enc Try.prog W base spare held 26 (.slice A n c) d p) :
  ∃ l : List S109, n = l.length ∧ Kd.C k109 W A l.length l ∧ l.length ≤ c ∧ l.length ≤ 1954687338182 ∧ ∀ x ∈ l, small109 x := by
 obtain ⟨fuel, hf⟩ := h
 have hu := Try.underlying26
 have hs := Try.underlying109
 have hus := Try.underlying9
 have hub := Try.underlying4
 have hr : reachBytes = 140737488351232 := rfl
 have hsz9 : ∀ {α : Type} (x : α), [x].length = 1 := fun _ => rfl
 rcases open_slice_fields hu hs (by kernel_rfl) (by kernel_rfl) hf with ⟨hcs, _⟩ | ⟨a, len, cap, m, D, Pl, hcs, _, hl, hm, hmm, hx, hi⟩
 ·simp [Value.cells] at hcs
  obtain ⟨rfl, rfl, rfl⟩ := hcs
  exact ⟨[], rfl, Kd.C_nil _ _, by simp, by simp, by simp⟩
 ·simp [Value.cells] at hcs
  obtain ⟨rfl, rfl, rfl⟩ := hcs
  obtain ⟨hx1, hx2⟩ := Prod.mk.inj hx
  subst hx1
  have hle : n ≤ m := by rw [hmm]; split <;> omega
  have z := sized_slice hsz htj hdj hu
  have hbytes : Try.prog.bytesOf 109 = 128 := by kernel_rfl
  simp only [List.length_map, List.length_range, hbytes, hr] at z
  have each : ∀ i, i < n → ∃ x : S109, D i = .agg [.lit (.string x.f0.data.toList), .lit (.string x.f1.data.toList), .lit (.string x.f2.data.toList), .lit (.bool x.f3), .lit (.string x.f4.data.toList), .lit (.string x.f5.data.toList), .lit (.string x.f6.data.toList), .lit (.string x.f7.data.toList), .lit (.bool x.f8)] ∧
    ∀ j v, [Value.string x.f0, .string x.f1, .string x.f2, .bool x.f3, .string x.f4, .string x.f5, .string x.f6, .string x.f7, .bool x.f8][j]? = some v → W.cell? (a.add (i * 9 + j)) = some v := by
   intro i hin
   obtain ⟨ys, n', hD, _, hyl, hg⟩ := hi i (by omega)
   obtain ⟨v0, y0, c0, e0, t0⟩ := hg 0 _ rfl
   obtain ⟨v1, y1, c1, e1, t1⟩ := hg 1 _ rfl
   obtain ⟨v2, y2, c2, e2, t2⟩ := hg 2 _ rfl
   obtain ⟨v3, y3, c3, e3, t3⟩ := hg 3 _ rfl
   obtain ⟨v4, y4, c4, e4, t4⟩ := hg 4 _ rfl
   obtain ⟨v5, y5, c5, e5, t5⟩ := hg 5 _ rfl
   obtain ⟨v6, y6, c6, e6, t6⟩ := hg 6 _ rfl
   obtain ⟨v7, y7, c7, e7, t7⟩ := hg 7 _ rfl
   obtain ⟨v8, y8, c8, e8, t8⟩ := hg 8 _ rfl
   obtain ⟨s0, h0, rfl, _⟩ := DataW.trod_string hus t0
   obtain ⟨s1, h1, rfl, _⟩ := DataW.trod_string hus t1
   obtain ⟨s2, h2, rfl, _⟩ := DataW.trod_string hus t2
   obtain ⟨s3, h3, rfl⟩ := DataW.trod_bool hub t3
   obtain ⟨s4, h4, rfl, _⟩ := DataW.trod_string hus t4
   obtain ⟨s5, h5, rfl, _⟩ := DataW.trod_string hus t5
   obtain ⟨s6, h6, rfl, _⟩ := DataW.trod_string hus t6
   obtain ⟨s7, h7, rfl, _⟩ := DataW.trod_string hus t7
   obtain ⟨s8, h8, rfl⟩ := DataW.trod_bool hub t8
   obtain rfl := List.singleton_inj.1 h0
   obtain rfl := List.singleton_inj.1 h1
   obtain rfl := List.singleton_inj.1 h2
   obtain rfl := List.singleton_inj.1 h3
   obtain rfl := List.singleton_inj.1 h4
   obtain rfl := List.singleton_inj.1 h5
   obtain rfl := List.singleton_inj.1 h6
   obtain rfl := List.singleton_inj.1 h7
   obtain rfl := List.singleton_inj.1 h8
   refine ⟨⟨s0, s1, s2, s3, s4, s5, s6, s7, s8⟩, ?_, ?_⟩
   ·rw [hD]
    have hl9 : ys.length = 9 := hyl
    match ys, hl9 with
    | [z0, z1, z2, z3, z4, z5, z6, z7, z8], _ =>
     simp at e0 e1 e2 e3 e4 e5 e6 e7 e8
     subst e0 e1 e2 e3 e4 e5 e6 e7 e8
     rfl
   ·intro j v hv
    match j, hv with
    | 0, hv => simp at hv; subst hv; exact c0
    | 1, hv => simp at hv; subst hv; exact c1
    | 2, hv => simp at hv; subst hv; exact c2
    | 3, hv => simp at hv; subst hv; exact c3
    | 4, hv => simp at hv; subst hv; exact c4
    | 5, hv => simp at hv; subst hv; exact c5
    | 6, hv => simp at hv; subst hv; exact c6
    | 7, hv => simp at hv; subst hv; exact c7
    | 8, hv => simp at hv; subst hv; exact c8
  obtain ⟨E, hE⟩ : ∃ E : Nat → S109, ∀ i, i < n → D i = .agg [.lit (.string (E i).f0.data.toList), .lit (.string (E i).f1.data.toList), .lit (.string (E i).f2.data.toList), .lit (.bool (E i).f3), .lit (.string (E i).f4.data.toList), .lit (.string (E i).f5.data.toList), .lit (.string (E i).f6.data.toList), .lit (.string (E i).f7.data.toList), .lit (.bool (E i).f8)] ∧
    ∀ j v, [Value.string (E i).f0, .string (E i).f1, .string (E i).f2, .bool (E i).f3, .string (E i).f4, .string (E i).f5, .string (E i).f6, .string (E i).f7, .bool (E i).f8][j]? = some v → W.cell? (a.add (i * 9 + j)) = some v :=
   ⟨fun i => if h : i < n then (each i h).choose else z109, fun i h => by simp only [dif_pos h]; exact (each i h).choose_spec⟩
  have hlen : ((List.range n).map E).length = n := by simp
  refine ⟨(List.range n).map E, hlen.symm, ⟨rfl, ?_, fun _ => ⟨a, rfl, ?_⟩⟩, by omega, by omega, ?_⟩
  ·have : maxLen = 9223372036854775807 := rfl
   omega
  ·intro j x hj
   obtain ⟨hjn, rfl⟩ : j < n ∧ E j = x := by
    rw [List.getElem?_map] at hj
    by_cases h : j < n
    ·rw [List.getElem?_range h] at hj; exact ⟨h, by simpa using hj⟩
    ·rw [List.getElem?_eq_none (by simp; omega)] at hj; simp at hj
   exact ⟨_, rfl, k109_mk W (E j), fun i u hu => (hE j hjn).2 i u hu⟩
  ·intro x hx
   obtain ⟨i, hin, rfl⟩ := List.mem_map.1 hx
   have hin := List.mem_range.1 hin
   have hD := (hE i hin).1
   have hmem : ∀ (q : Nat) (s : ByteArray), [(.lit (.string (E i).f0.data.toList) : DataW H), .lit (.string (E i).f1.data.toList), .lit (.string (E i).f2.data.toList), .lit (.bool (E i).f3), .lit (.string (E i).f4.data.toList), .lit (.string (E i).f5.data.toList), .lit (.string (E i).f6.data.toList), .lit (.string (E i).f7.data.toList), .lit (.bool (E i).f8)][q]? = some (.lit (.string s.data.toList)) → q < 9 → s.size ≤ 140737488351232 := by
    intro q s hq hq9
    have h1 : s.data.toList.length ∈ DataW.weights Try.prog 109 (D i) := by
     rw [hD]
     simp only [DataW.weights, hs]
     refine DataW.weights_mem_each (j := q) (t := ([9, 9, 9, 4, 9, 9, 9, 9, 4] : List TypeId).getD q 0) ?_ hq _ (by simp [DataW.weights])
     match q, hq9 with
     | 0, _ => rfl
     | 1, _ => rfl
     | 2, _ => rfl
     | 3, _ => rfl
     | 4, _ => rfl
     | 5, _ => rfl
     | 6, _ => rfl
     | 7, _ => rfl
     | 8, _ => rfl
    have h2 : s.data.toList.length ∈ DataW.weights Try.prog 26 (DataW.slice ((List.range n).map D) ((List.range (m - n)).map fun j => D (n + j))) := by
     simp only [DataW.weights, hu]
     exact List.mem_cons_of_mem _ (List.mem_append_left _ (weights_all_mem _ (D i) (List.mem_map.2 ⟨i, List.mem_range.2 hin, rfl⟩) h1))
    have := List.all_eq_true.1 hsz _ (DataW.weights_mem_each htj hdj _ h2)
    rw [Array.length_toList] at this
    simpa [hr] using this
   exact ⟨hmem 0 _ rfl (by omega), hmem 1 _ rfl (by omega), hmem 2 _ rfl (by omega), hmem 4 _ rfl (by omega), hmem 5 _ rfl (by omega), hmem 6 _ rfl (by omega), hmem 7 _ rfl (by omega)⟩
end
end Go.Proofs.Ytfiamddinkokbaa.F
end

section
namespace Go.Proofs.Ytfiamddinkokbaa.F
open Go.RowKit Go.Shelf Go.Proofs.YtfiamddinkokbaaW.PrintWords
theorem sumP_app (a b : List S109) : sumP (a ++ b) = sumP a + sumP b := by unfold sumP; rw [List.map_append, List.sum_append]
theorem sumP_one (x : S109) : sumP [x] = sizesP x := by unfold sumP; simp
theorem lineL_le (k : Int) (fl : Bool) (lb : ByteArray) (w : Int) : (lineL k fl lb w).length ≤ w.toNat + lb.size + 3 := by
 have h := size_data lb
 unfold lineL
 rw [lineB_markL, data_toB]
 unfold markL
 simp only [List.length_append, List.length_replicate, List.length_singleton]
 have h1 : (if fl = true then [(33 : UInt8)] else []).length ≤ 1 := by split <;> simp
 have h2 : (if lb.data.toList.isEmpty = true then [] else (32 : UInt8) :: lb.data.toList).length ≤ lb.size + 1 := by split <;> simp
 omega
theorem sideL_le (s : ByteArray) (q : Bool) : (sideL s q).length ≤ s.size + 1 := by
 have h := size_data s
 unfold sideL
 rw [List.length_append]
 have h1 : (if lacksB s q = true then [(10 : UInt8)] else []).length ≤ 1 := by split <;> simp
 omega
theorem partL_le (w : Int) (hw : w ≤ 300) (x : S109) : (partL w (to106 x)).length ≤ sizesP x + 1300 := by
 have hx := size_data x.f4
 unfold partL
 rw [List.length_append]
 have e4 : (to106 x).f2 = x.f4 := rfl
 rw [e4]
 split
 ·unfold hunkL
  have a1 := lineL_le 60 false (to106 x).f0.f0 w
  have a2 := sideL_le (to106 x).f3 (sufQ (to106 x).f3)
  have a3 := lineL_le 124 (lacksB (to106 x).f3 (sufQ (to106 x).f3)) (to106 x).f0.f1 w
  have a4 := sideL_le (to106 x).f4 (sufQ (to106 x).f4)
  have a5 := lineL_le 61 (if (to106 x).f6 = true then lacksB (to106 x).f4 (sufQ (to106 x).f4) else lacksB (to106 x).f3 (sufQ (to106 x).f3)) ⟨#[]⟩ w
  have a6 := sideL_le (to106 x).f5 (sufQ (to106 x).f5)
  have a7 := lineL_le 62 (lacksB (to106 x).f5 (sufQ (to106 x).f5)) (to106 x).f0.f2 w
  have e0 : (⟨#[]⟩ : ByteArray).size = 0 := rfl
  have b1 : (to106 x).f0.f0 = x.f0 := rfl
  have b2 : (to106 x).f0.f1 = x.f1 := rfl
  have b3 : (to106 x).f0.f2 = x.f2 := rfl
  have b4 : (to106 x).f3 = x.f5 := rfl
  have b5 : (to106 x).f4 = x.f6 := rfl
  have b6 : (to106 x).f5 = x.f7 := rfl
  rw [b1] at a1
  rw [b4] at a2
  rw [b2] at a3
  rw [b5] at a4
  rw [b6] at a6
  rw [b3] at a7
  rw [e0] at a5
  rw [b1, b2, b3, b4, b5, b6]
  rw [b4] at a3
  rw [b4, b5] at a5
  rw [b6] at a7
  simp only [List.length_append]
  have a8 : (if (to106 x).f6 = true then lineL 124 (lacksB x.f5 (sufQ x.f5)) x.f1 w ++ sideL x.f6 (sufQ x.f6) else []).length ≤ (lineL 124 (lacksB x.f5 (sufQ x.f5)) x.f1 w).length + (sideL x.f6 (sufQ x.f6)).length := by split <;> simp
  unfold sizesP
  omega
 ·unfold sizesP; simp; omega
theorem printL_le (w : Int) (hw : w ≤ 300) : ∀ l : List S109, (printL w (l.map to106)).length ≤ sumP l + 1300 * l.length
 | [] => by simp [printL]
 | x :: l => by
  have h1 := partL_le w hw x
  have h2 := printL_le w hw l
  unfold printL at *
  rw [List.map_cons, List.flatMap_cons, List.length_append, show x :: l = [x] ++ l from rfl, sumP_app, sumP_one, List.length_append, List.length_singleton]
  omega
end Go.Proofs.Ytfiamddinkokbaa.F
end

section
namespace Go.Proofs.Ytfiamddinkokbaa.F
open Go.RowKit Go.Proofs.YtfiamddinkokbaaW.PrintWords Go.Proofs.YtfiamddinkokbaaW.PrintLast Go.Proofs.YtfiamddinkokbaaW.PrintMore
theorem small_sizes {x : S109} (h : small109 x) : sizesP x ≤ 985162418458624 := by
 unfold small109 at h; unfold sizesP; omega
end Go.Proofs.Ytfiamddinkokbaa.F
namespace Go.Proofs.Ytfiamddinkokbaa
open Go.Proofs.Ytfiamddinkokbaa.F
end Go.Proofs.Ytfiamddinkokbaa
end

section
namespace Go.Proofs.Ytfiamddinkokbaa.F
open Go.RowKit Go.Proofs.YtfiamddinkokbaaW.PrintWords Go.Proofs.YtfiamddinkokbaaW.PrintLast Go.Proofs.YtfiamddinkokbaaW.PrintMore
theorem ev_told09 : Ev (fun k => tripartitelaw09_told.f k) true := Ev.of_mono (fun k => tripartitelaw09_told.mono k) (k := 60) (by decide +kernel)
theorem ev_narrow9 (w : Int) : tripartitelaw09_narrow.f w = some (narrowI w) := by
 unfold tripartitelaw09_narrow.f narrowI
 by_cases h1 : w > 300
 ·rw [if_pos h1]
  by_cases h2 : w ≤ 1073741824
  ·have e : Int.tmod w 300 = w % 300 := Int.tmod_eq_emod_of_nonneg (by omega)
   rw [if_pos h2, if_pos ⟨h1, h2⟩, e, wrap_in (by omega) (by omega)]
  ·rw [if_neg h2, if_neg (fun h => h2 h.2)]
 ·rw [if_neg h1, if_neg (fun h => h1 h.1)]
theorem narrow_300 (w : Int) (h : narrowI w ≤ 1073741824) : narrowI w ≤ 300 := by
 unfold narrowI at h ⊢
 split
 ·have e : Int.tmod w 300 = w % 300 := Int.tmod_eq_emod_of_nonneg (by omega)
  omega
 ·rename_i hn
  rw [if_neg hn] at h
  omega
theorem ev_conf_in (l : List S106) (hn : l.length ≤ 4000000000) : ∀ (rest done : List S106) (x i : Int), l = done ++ rest → i = done.length → (∀ y ∈ rest, y.f1 = false) → Ev (fun k => doc_Doc_Conflicts.l0 k x l (l.length : Int) i) x
 | [], done, x, i, hl, ei, _ => by
  refine Ev.succ ?_
  simp only [doc_Doc_Conflicts.l0]
  have : l.length = done.length := by rw [hl]; simp
  exact Ev.neg (by omega) (Ev.val rfl)
 | y :: rest, done, x, i, hl, ei, h => by
  refine Ev.succ ?_
  simp only [doc_Doc_Conflicts.l0]
  have hlen : l.length = done.length + (rest.length + 1) := by rw [hl]; simp
  refine Ev.pos (by omega) (Ev.pos (by omega) (Ev.pos (by omega) ?_))
  rw [rd106_at l i done rest y hl ei, h y (List.mem_cons_self ..)]
  refine Ev.neg (by decide) ?_
  rw [wrap_in (by omega) (by omega)]
  exact ev_conf_in l hn rest (done ++ [y]) x (i + 1) (by rw [hl]; simp) (by rw [List.length_append, List.length_singleton]; omega) (fun z hz => h z (List.mem_cons_of_mem _ hz))
theorem ev_conf (l : List S106) (hn : l.length ≤ 4000000000) (h : ∀ y ∈ l, y.f1 = false) : Ev (fun k => doc_Doc_Conflicts.f k l) 0 := ev_conf_in l hn l [] 0 0 rfl rfl h
theorem of_one (s : ByteArray) : (ofP [textP s]).length ≤ 1 ∧ ∀ y ∈ (ofP [textP s]).map to106, y.f1 = false := by
 have e : ofP [textP s] = ofStep [] (textP s) := rfl
 rw [e]
 by_cases hn : isNoneP (textP s) = true
 ·rw [ofStep_none _ _ hn]; exact ⟨by simp, fun y hy => by simp at hy⟩
 ·rw [ofStep_nil _ hn]
  refine ⟨by simp, fun y hy => ?_⟩
  simp only [List.map_cons, List.map_nil, List.mem_singleton] at hy
  rw [hy]; rfl
theorem pureParseBack (l0 : List S109) (a1 : Int) (w0 : ∀ x ∈ l0, small109 x) (y0 : l0.length ≤ 1954687338182) (h1 : (Lit.int .i64 a1).wf = true) : ∃ k, tripartitelaw09_ParseBack.f k l0 a1 = some true := by
 refine Ev.get ?_
 unfold tripartitelaw09_ParseBack.f
 refine Ev.bind (ev_few l0 (by omega) (fun x hx => small_sizes (w0 x hx))) ?_
 by_cases h0 : fewP l0 = true
 ·have hsum : sumP l0 ≤ 3000 := by
   unfold fewP at h0
   simp only [Bool.and_eq_true, decide_eq_true_eq] at h0
   exact h0.2
  obtain ⟨n0, _, s0⟩ := few_text h0
  have s1 : ∀ x ∈ l0, sizesP x ≤ 1000000000 := fun x hx => by have := s0 x hx; omega
  refine Ev.pos h0 (Ev.bind (Ev.const (ev_narrow9 a1)) ?_)
  have h300 := narrow_300 a1
  generalize narrowI a1 = w at h300
  refine Ev.bind (ev_ref_print l0 w (by omega) s1) (Ev.bind ev_told09 (Ev.pos rfl ?_))
  have bad : ∀ (s : ByteArray) (f : Int), printP l0 w = (s, f) → f ≠ 0 → Ev (fun k => tripartitelaw09_ParseBack.j0 k l0 w (printP l0 w).1 ((printP l0 w).2 != 0)) true := by
   intro s f e hf
   rw [e]
   refine Ev.succ ?_
   simp only [tripartitelaw09_ParseBack.j0]
   exact Ev.pos (by simpa using hf) (Ev.bind ev_told09 (Ev.val rfl))
  by_cases hw : 1 ≤ w ∧ w ≤ 1073741824
  ·have hp := printP_in (l := l0) hw.1 hw.2
   by_cases hr : rightP false l0 = true
   ·rw [if_pos hr] at hp
    by_cases hf : fitsP l0 w = true
    ·rw [if_pos hf] at hp
     rw [hp]
     have hn : ∀ x ∈ l0, narrowerP w x = true := by
      unfold fitsP at hf
      simp only [Bool.and_eq_true] at hf
      exact fun x hx => List.all_eq_true.1 hf.2 x hx
     have hb := parse_back hw.1 hw.2 hr hn s1
     have hv := parse_wide hw.1 (by have := h300 hw.2; omega) hr hn s1
     have hlen := printL_le w (h300 hw.2) l0
     have hsz : (toB (printL w (l0.map to106))).size ≤ 10000000 := by rw [← size_data, data_toB]; omega
     generalize toB (printL w (l0.map to106)) = s at hb hv hsz
     obtain ⟨o1, o2⟩ := of_one s
     have e1 : parse_Text.f s w = some (l0.map to106, 0, 0) := by
      unfold parse_Text.f parseF
      rw [if_pos hsz, hb]
     have e2 : parse_Text.f s (wrap64 (w + 1)) = some ((ofP [textP s]).map to106, 0, 0) := by
      unfold parse_Text.f parseF
      rw [wrap_in (by omega) (by omega), if_pos hsz, hv]
     refine Ev.succ ?_
     simp only [tripartitelaw09_ParseBack.j0]
     refine Ev.neg (by decide) (Ev.bind (Ev.const e1) (Ev.bind (Ev.const e2) (Ev.pos rfl (Ev.pos rfl (Ev.bind (ev_from _ (by simp; omega)) ?_)))))
     rw [map_to109]
     refine Ev.bind (ev_ref_same _ _ (by omega) (by omega)) (Ev.pos (sameP_refl _) (Ev.neg (by have := h300 hw.2; omega) (Ev.pos rfl (Ev.bind (ev_conf _ (by rw [List.length_map]; omega) o2) (Ev.val rfl)))))
    ·rw [if_neg hf] at hp
     exact bad _ _ hp (by decide)
   ·rw [if_neg hr] at hp
    exact bad _ _ hp (by decide)
  ·exact bad _ _ (printP_out hw) (by decide)
 ·exact Ev.neg h0 (Ev.bind ev_told09 (Ev.val rfl))
end Go.Proofs.Ytfiamddinkokbaa.F
namespace Go.Proofs.Ytfiamddinkokbaa
open Go.Proofs.Ytfiamddinkokbaa.F
theorem Pure.ParseBack (l0 : List S109) (a1 : Int) (w0 : ∀ x ∈ l0, small109 x) (y0 : l0.length ≤ 1954687338182) (h1 : (Lit.int .i64 a1).wf = true) : ∃ k, tripartitelaw09_ParseBack.f k l0 a1 = some true :=
 pureParseBack l0 a1 w0 y0 h1
end Go.Proofs.Ytfiamddinkokbaa
end
