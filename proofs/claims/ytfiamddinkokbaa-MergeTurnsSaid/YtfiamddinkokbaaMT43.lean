/- Texts joined into one file (wip/tools/pack.py): OpenHow -/
import Derived.Test.YtfiamddinkokbaaMT36
import Derived.Laws.IdiomArrays
import Derived.OpenShut
set_option linter.unusedVariables false
set_option linter.unusedSimpArgs false
namespace Go.Proofs.Ytfiamddinkokbaa.F
open Go.RowKit Go.Proofs.YtfiamddinkokbaaW.PrintWords Go.ChangeShapes Go.WideShapes Go.Deep Go.Joins
section
variable {H : Type} {enc : TypeId × Value → H}
theorem back_how (W : World) (b : Nat) (sp : Nat → Bool) (hd : Bool) (st wd fv : Int) (g0 g1 g2 : ByteArray) (w0 : (Lit.int .i64 st).wf = true) (w1 : (Lit.int .i64 wd).wf = true) (w2 : (Lit.int .i64 fv).wf = true) (s0 : g0.size ≤ maxLen) (s1 : g1.size ≤ maxLen) (s2 : g2.size ≤ maxLen) :
  DataW.Trod enc Try.prog W b sp hd 74 (.agg #[.int .i64 st, .int .i64 wd, .int .i64 fv, .string g0, .string g1, .string g2]) (.agg [.lit (.int .i64 st), .lit (.int .i64 wd), .lit (.int .i64 fv), .lit (.string g0.data.toList), .lit (.string g1.data.toList), .lit (.string g2.data.toList)]) [] := by
 have h3 := Try.underlying3
 have h9 := Try.underlying9
 have c3 : Try.prog.cellsOf 3 = 1 := by kernel_rfl
 have c9 : Try.prog.cellsOf 9 = 1 := by kernel_rfl
 have c74 : Try.prog.cellsOf 74 = 6 := by kernel_rfl
 refine ⟨2, ?_⟩
 simp [DataW.trod, Try.underlying74, h3, h9, c3, c9, c74, w0, w1, w2, s0, s1, s2, Value.cells]
theorem back_three (W : World) (b : Nat) (sp : Nat → Bool) (hd : Bool) (a0 a1 a2 : ByteArray) (s0 : a0.size ≤ maxLen) (s1 : a1.size ≤ maxLen) (s2 : a2.size ≤ maxLen) :
  DataW.Trod enc Try.prog W b sp hd 72 (.agg #[.string a0, .string a1, .string a2]) (.agg [.lit (.string a0.data.toList), .lit (.string a1.data.toList), .lit (.string a2.data.toList)]) [] := by
 have h9 := Try.underlying9
 have c9 : Try.prog.cellsOf 9 = 1 := by kernel_rfl
 have c3 : Try.prog.cellsOf 72 = 3 := by kernel_rfl
 refine ⟨2, ?_⟩
 simp [DataW.trod, Try.underlying72, h9, c9, c3, s0, s1, s2, Value.cells, List.range, List.range.loop]
set_option maxRecDepth 100000 in
theorem open_how {W : World} {b0 base : Nat} {r : Reach} {sp : Nat → Bool} {hd : Bool} {v : Value} {d : DataW H} {p : List MemPlace} {ts : List TypeId} {ds : List (DataW H)} {j : Nat}
  (hsz : (DataW.weightsEach Try.prog ts ds).all (· ≤ reachBytes) = true) (htj : ts[j]? = some 74) (hdj : ds[j]? = some d) (hv : Value.okWide Try.prog W r b0 74 v) (h : DataW.Trod enc Try.prog W base sp hd 74 v d p) :
  ∃ (st wd fv : Int) (g0 g1 g2 : ByteArray), v = .agg #[.int .i64 st, .int .i64 wd, .int .i64 fv, .string g0, .string g1, .string g2] ∧ d = .agg [.lit (.int .i64 st), .lit (.int .i64 wd), .lit (.int .i64 fv), .lit (.string g0.data.toList), .lit (.string g1.data.toList), .lit (.string g2.data.toList)] ∧ p = [] ∧
   ((Lit.int .i64 st).wf = true ∧ (Lit.int .i64 wd).wf = true ∧ (Lit.int .i64 fv).wf = true) ∧ (g0.size ≤ 140737488351232 ∧ g1.size ≤ 140737488351232 ∧ g2.size ≤ 140737488351232) := by
 have hs := Try.underlying74
 have hi := Try.underlying3
 have hg := Try.underlying9
 obtain ⟨cs, rfl, hcs⟩ := okWide_struct hs hv
 have hc6 : cs.size = 6 := hcs.trans (by kernel_rfl)
 obtain ⟨l⟩ := cs
 match l, hc6 with
 | [c0, c1, c2, c3, c4, c5], _ =>
  obtain ⟨fuel, hf⟩ := h
  obtain ⟨xs, n, _, hx, _, hlen, hgt⟩ := DataW.trod_struct hs hf
  have k3 : Try.prog.cellsOf 3 = 1 := by kernel_rfl
  have k9 : Try.prog.cellsOf 9 = 1 := by kernel_rfl
  match xs, hlen with
  | [y0, y1, y2, y3, y4, y5], _ =>
   have t0 := hgt 0 _ rfl
   have t1 := hgt 1 _ rfl
   have t2 := hgt 2 _ rfl
   have t3 := hgt 3 _ rfl
   have t4 := hgt 4 _ rfl
   have t5 := hgt 5 _ rfl
   simp [Value.cells, k3, k9] at t0 t1 t2 t3 t4 t5
   obtain ⟨st, e0, rfl, w0⟩ := DataW.trod_int hi t0
   obtain ⟨wd, e1, rfl, w1⟩ := DataW.trod_int hi t1
   obtain ⟨fv, e2, rfl, w2⟩ := DataW.trod_int hi t2
   obtain ⟨g0, e3, rfl, s0⟩ := DataW.trod_string hg t3
   obtain ⟨g1, e4, rfl, s1⟩ := DataW.trod_string hg t4
   obtain ⟨g2, e5, rfl, s2⟩ := DataW.trod_string hg t5
   simp at e0 e1 e2 e3 e4 e5 hx
   subst e0 e1 e2 e3 e4 e5
   obtain ⟨rfl, rfl⟩ := hx
   have hmem : ∀ (q : Nat) (s : ByteArray), [(.lit (.int .i64 st) : DataW H), .lit (.int .i64 wd), .lit (.int .i64 fv), .lit (.string g0.data.toList), .lit (.string g1.data.toList), .lit (.string g2.data.toList)][q]? = some (.lit (.string s.data.toList)) → ([3, 3, 3, 9, 9, 9] : List TypeId)[q]? = some 9 → s.size ≤ 140737488351232 := by
    intro q s hq hq9
    have h1 : s.data.toList.length ∈ DataW.weights Try.prog 74 (.agg [(.lit (.int .i64 st) : DataW H), .lit (.int .i64 wd), .lit (.int .i64 fv), .lit (.string g0.data.toList), .lit (.string g1.data.toList), .lit (.string g2.data.toList)]) := by
     simp only [DataW.weights, hs]
     exact DataW.weights_mem_each (j := q) (t := 9) hq9 hq _ (by simp [DataW.weights])
    have := List.all_eq_true.1 hsz _ (DataW.weights_mem_each htj hdj _ h1)
    rw [Array.length_toList] at this
    have hr : reachBytes = 140737488351232 := rfl
    simpa [hr] using this
   exact ⟨st, wd, fv, g0, g1, g2, rfl, rfl, rfl, ⟨w0, w1, w2⟩, hmem 3 g0 rfl rfl, hmem 4 g1 rfl rfl, hmem 5 g2 rfl rfl⟩
set_option maxRecDepth 100000 in
theorem open_three {W : World} {b0 base : Nat} {r : Reach} {sp : Nat → Bool} {hd : Bool} {v : Value} {d : DataW H} {p : List MemPlace} {ts : List TypeId} {ds : List (DataW H)} {j : Nat}
  (hsz : (DataW.weightsEach Try.prog ts ds).all (· ≤ reachBytes) = true) (htj : ts[j]? = some 72) (hdj : ds[j]? = some d) (hv : Value.okWide Try.prog W r b0 72 v) (h : DataW.Trod enc Try.prog W base sp hd 72 v d p) :
  ∃ (a0 a1 a2 : ByteArray), v = .agg #[.string a0, .string a1, .string a2] ∧ d = .agg [.lit (.string a0.data.toList), .lit (.string a1.data.toList), .lit (.string a2.data.toList)] ∧ p = [] ∧ (a0.size ≤ 140737488351232 ∧ a1.size ≤ 140737488351232 ∧ a2.size ≤ 140737488351232) := by
 have hs := Try.underlying72
 have hg := Try.underlying9
 have hc : ∃ cs : Array Value, v = .agg cs ∧ cs.size = 3 := by
  simp only [Value.okWide, hs] at hv
  obtain ⟨cs, h1, h2, _⟩ := hv
  exact ⟨cs, h1, h2.trans (by kernel_rfl)⟩
 obtain ⟨cs, rfl, hc3⟩ := hc
 obtain ⟨l⟩ := cs
 match l, hc3 with
 | [c0, c1, c2], _ =>
  obtain ⟨fuel, hf⟩ := h
  have k9 : Try.prog.cellsOf 9 = 1 := by kernel_rfl
  obtain ⟨y0, y1, y2, n, hx, t0, t1, t2⟩ := trod_array3 hs k9 hf
  obtain ⟨a0, e0, rfl, s0⟩ := DataW.trod_string hg t0
  obtain ⟨a1, e1, rfl, s1⟩ := DataW.trod_string hg t1
  obtain ⟨a2, e2, rfl, s2⟩ := DataW.trod_string hg t2
  simp at e0 e1 e2 hx
  subst e0 e1 e2
  obtain ⟨rfl, rfl⟩ := hx
  have hmem : ∀ s : ByteArray, (.lit (.string s.data.toList) : DataW H) ∈ [(.lit (.string a0.data.toList) : DataW H), .lit (.string a1.data.toList), .lit (.string a2.data.toList)] → s.size ≤ 140737488351232 := by
   intro s hq
   have h1 : s.data.toList.length ∈ DataW.weights Try.prog 72 (.agg [(.lit (.string a0.data.toList) : DataW H), .lit (.string a1.data.toList), .lit (.string a2.data.toList)]) := by
    simp only [DataW.weights, hs]
    exact weights_all_mem _ _ hq (by simp [DataW.weights])
   have := List.all_eq_true.1 hsz _ (DataW.weights_mem_each htj hdj _ h1)
   rw [Array.length_toList] at this
   have hr : reachBytes = 140737488351232 := rfl
   simpa [hr] using this
  exact ⟨a0, a1, a2, rfl, rfl, rfl, hmem a0 (by simp), hmem a1 (by simp), hmem a2 (by simp)⟩
end
end Go.Proofs.Ytfiamddinkokbaa.F
