/- Texts joined into one file (wip/tools/pack.py): Open, Told01, LinesNumbers, Pure, Pure01, PureLines, PureNumber, LinesNumbersLaw -/
import Derived.Test.YtfiamddinkokbaaLN1
import Derived.SliceStrings
import Derived.SizedLaws
import Derived.Deep.Slices
import Derived.Deep.Fields
import Derived.ChangeSame
import Derived.Lib.SmallJoins
import Derived.Deep.RegionHeld3
import Derived.Test.YtfiamddinkokbaaLN2
section
set_option linter.unusedVariables false
set_option linter.unusedSimpArgs false
namespace Go.Proofs.Ytfiamddinkokbaa.F
open Go.RowKit Go.Proofs.YtfiamddinkokbaaW.PrintWords Go.ChangeShapes Go.WideShapes Go.Deep Go.Joins
set_option linter.unusedVariables false
set_option linter.unusedSimpArgs false
section
variable {H : Type} {enc : TypeId × Value → H} {P : Program} {W : World} {base : Nat} {spare : Nat → Bool} {held : Bool}
theorem weights_string {l : List (DataW H)} {e : TypeId} {bs : List UInt8} (h : DataW.lit (.string bs) ∈ l) : bs.length ∈ DataW.weightsAll P e l := by
  induction l with
  | nil => cases h
  | cons d r ih =>
    simp only [DataW.weightsAll, List.mem_append]
    rcases List.mem_cons.1 h with rfl | h
    · left; simp [DataW.weights]
    · right; exact ih h
theorem open_strs {t e : TypeId} {A : Option Addr} {n c : Nat} {d : DataW H} {p : List MemPlace} {ts : List TypeId} {ds : List (DataW H)} {j : Nat}
    (hsz : (DataW.weightsEach P ts ds).all (· ≤ reachBytes) = true) (htj : ts[j]? = some t) (hdj : ds[j]? = some d) (ht : P.underlying t = some (.slice e)) (he : P.underlying e = some .string) (hc : P.cellsOf e = 1) (hb : P.bytesOf e = 16)
    (h : DataW.Trod enc P W base spare held t (.slice A n c) d p) :
    ∃ l : List ByteArray, n = l.length ∧ Kd.C Kd.string W A l.length l ∧ l.length ≤ c ∧ l.length ≤ 8796093021952 ∧ ∀ s ∈ l, s.size ≤ 140737488351232 := by
  obtain ⟨fuel, hf⟩ := h
  rcases open_strings ht he hc hf with ⟨hcs, _⟩ | ⟨a, l, c', ss, hcs, _, hl, hm, hlen, hx, hcell, hwz⟩
  · simp [Value.cells] at hcs
    obtain ⟨rfl, rfl, rfl⟩ := hcs
    exact ⟨[], rfl, Kd.C_nil _ _, by simp, by simp, by simp⟩
  · simp [Value.cells] at hcs
    obtain ⟨rfl, rfl, rfl⟩ := hcs
    obtain ⟨hx1, hx2⟩ := Prod.mk.inj hx
    subst hx1
    have hle : n ≤ ss.length := by rw [hlen]; split <;> omega
    have hlt : (ss.take n).length = n := by rw [List.length_take]; omega
    have z := sized_slice hsz htj hdj ht
    have hstr : ∀ (l : List ByteArray), (strs (H := H) l).length = l.length := fun l => by simp [strs]
    rw [hb, hstr, hstr, ← List.length_append, List.take_append_drop] at z
    have hr : reachBytes = 140737488351232 := rfl
    rw [hr] at z
    refine ⟨ss.take n, hlt.symm, ⟨rfl, ?_, fun _ => ⟨a, rfl, ?_⟩⟩, by omega, by omega, ?_⟩
    · have : maxLen = 9223372036854775807 := rfl
      omega
    · intro j x hj
      refine ⟨[.string x], rfl, rfl, ?_⟩
      intro i u hi
      have hi0 : i = 0 := by
        match i, hi with
        | 0, _ => rfl
      subst hi0
      have hu : Value.string x = u := by simpa using hi
      subst hu
      have hjl : j < n := by
        have := (List.getElem?_eq_some_iff.1 hj).1
        omega
      have hj2 : ss[j]? = some x := by rw [List.getElem?_take] at hj; simpa [hjl] using hj
      have := hcell j (by omega)
      rw [List.getD_eq_getElem?_getD, hj2] at this
      have hz : (Kd.string).sz = 1 := rfl
      rw [hz, Nat.mul_one, Nat.add_zero]
      exact this
    · intro s hs
      have hm : DataW.lit (.string s.data.toList) ∈ strs (H := H) (ss.take n) := by
        simp only [strs]; exact List.mem_map.2 ⟨s, hs, rfl⟩
      have hmem : s.data.toList.length ∈ DataW.weights P t (DataW.slice (strs (H := H) (ss.take n)) (strs (ss.drop n))) := by
        simp only [DataW.weights, ht]
        exact List.mem_cons_of_mem _ (List.mem_append_left _ (weights_string hm))
      have := List.all_eq_true.1 hsz _ (DataW.weights_mem_each htj hdj _ hmem)
      rw [Array.length_toList] at this
      simpa [hr] using this
end
section
variable {H : Type} {enc : TypeId × Value → H} {P : Program} {w : World} {base : Nat} {spare : Nat → Bool} {held : Bool}
end
section
variable {H : Type} {enc : TypeId × Value → H} {W : World} {base : Nat} {spare : Nat → Bool} {held : Bool}
end
end Go.Proofs.Ytfiamddinkokbaa.F
end

section
set_option linter.unusedVariables false
set_option linter.unusedSimpArgs false
namespace Go.Proofs.Ytfiamddinkokbaa.F
open Go.RowKit Go.Shelf Go.Proofs.YtfiamddinkokbaaW.PrintWords
set_option linter.unusedVariables false
set_option linter.unusedSimpArgs false
def lA : ByteArray := ⟨#[97, 10]⟩
def lB : ByteArray := ⟨#[98]⟩
theorem told_split (w : World) : Calls Try.prog 29 #[.string ⟨#[97, 10, 98]⟩] w fun e w' => ∃ b o c, e = .returned (.slice (some ⟨b, o, none⟩) 2 c) ∧ 2 ≤ c ∧
    w'.cell? ⟨b, o, none⟩ = some (.string lA) ∧ w'.cell? ⟨b, o + 1, none⟩ = some (.string lB) ∧ Below w.heap.size w w' := by
  refine (lines_Split.calls ⟨#[97, 10, 98]⟩ [lA, lB] w (by decide +kernel)).mono ?_
  rintro e w' ⟨v, rfl, hr, hb⟩
  obtain ⟨A, c, rfl, hc, hC⟩ := Kd.R_reads hr
  obtain ⟨b, o, rfl, _, hcell⟩ := C_string_cells hC (by decide)
  exact ⟨b, o, c, rfl, hc, hcell 0 _ rfl, hcell 1 _ rfl, hb⟩
theorem two_strings {W : World} {b o : Nat} {x y : ByteArray} (h0 : W.cell? ⟨b, o, none⟩ = some (.string x)) (h1 : W.cell? ⟨b, o + 1, none⟩ = some (.string y)) : Kd.C Kd.string W (some ⟨b, o, none⟩) 2 [x, y] := by
  refine ⟨rfl, by omega, fun _ => ⟨_, rfl, ?_⟩⟩
  intro j p hj
  refine ⟨[.string p], rfl, rfl, ?_⟩
  intro i u hi
  have hi0 : i = 0 := by
    match i, hi with
    | 0, _ => rfl
  subst hi0
  obtain rfl : Value.string p = u := by simpa using hi
  rw [add_at, show (Kd.string).sz = 1 from rfl]
  match j, hj with
  | 0, hj => simp at hj; subst hj; exact h0
  | 1, hj => simp at hj; subst hj; exact h1
theorem one_string {W : World} {b o : Nat} {x : ByteArray} (h0 : W.cell? ⟨b, o, none⟩ = some (.string x)) : Kd.C Kd.string W (some ⟨b, o, none⟩) 1 [x] := by
  refine ⟨rfl, by omega, fun _ => ⟨_, rfl, ?_⟩⟩
  intro j p hj
  refine ⟨[.string p], rfl, rfl, ?_⟩
  intro i u hi
  have hi0 : i = 0 := by
    match i, hi with
    | 0, _ => rfl
  subst hi0
  obtain rfl : Value.string p = u := by simpa using hi
  rw [add_at, show (Kd.string).sz = 1 from rfl]
  match j, hj with
  | 0, hj => simp at hj; subst hj; exact h0
theorem two_rows {W : World} {b : Nat} {x y : List ByteArray} {A B : Option Addr} {c d n m : Nat} (h0 : W.cell? ⟨b, 0, none⟩ = some (.slice A n c)) (h1 : W.cell? ⟨b, 1, none⟩ = some (.slice B m d))
    (hx : Kd.C Kd.string W A n x) (hy : Kd.C Kd.string W B m y) (hc : n ≤ c) (hd : m ≤ d) : Kd.C (Kd.slice 9 Kd.string) W (some ⟨b, 0, none⟩) 2 [x, y] := by
  obtain rfl := hx.1
  obtain rfl := hy.1
  refine ⟨rfl, by omega, fun _ => ⟨_, rfl, ?_⟩⟩
  intro j p hj
  match j, hj with
  | 0, hj =>
    simp at hj; subst hj
    refine ⟨[.slice A x.length c], rfl, ⟨A, c, rfl, hc, hx⟩, ?_⟩
    intro i u hi
    match i, hi with
    | 0, hi => simp at hi; subst hi; rw [add_plain]; exact h0
  | 1, hj =>
    simp at hj; subst hj
    refine ⟨[.slice B y.length d], rfl, ⟨B, d, rfl, hd, hy⟩, ?_⟩
    intro i u hi
    match i, hi with
    | 0, hi => simp at hi; subst hi; rw [add_plain]; exact h1
theorem told_number (W : World) (g b o c b2 d : Nat) (h0 : W.cell? ⟨g, 0, none⟩ = some (.slice (some ⟨b, o, none⟩) 2 c)) (h1 : W.cell? ⟨g, 1, none⟩ = some (.slice (some ⟨b2, 0, none⟩) 1 d)) (hc : 2 ≤ c) (hd : 1 ≤ d)
    (l0 : W.cell? ⟨b, o, none⟩ = some (.string lA)) (l1 : W.cell? ⟨b, o + 1, none⟩ = some (.string lB)) (m0 : W.cell? ⟨b2, 0, none⟩ = some (.string lB)) :
    Calls Try.prog 38 #[.slice (some ⟨g, 0, none⟩) 2 2] W fun e w' => ∃ b3 c3 b4 o4 c4, e = .returned (.slice (some ⟨b3, 0, none⟩) 2 c3) ∧ w'.cell? ⟨b3, 1, none⟩ = some (.slice (some ⟨b4, o4, none⟩) 1 c4) ∧ w'.cell? ⟨b4, o4, none⟩ = some (.int .i64 1) ∧ Below W.heap.size W w' := by
  refine (lines_Number.calls (some ⟨g, 0, none⟩) 2 [[lA, lB], [lB]] [[0, 1], [1]] W (two_rows h0 h1 (two_strings l0 l1) (one_string m0) hc hd) (Nat.le_refl 2) (by decide +kernel)).mono ?_
  rintro e w' ⟨v, rfl, hr, hb⟩
  obtain ⟨g3, c3, e3, _, _, _, _⟩ := Kd.R_form (Kd.S_R hr) (by decide)
  obtain ⟨A, c', e4, hc', hC⟩ := Kd.S_reads hr
  rw [e3] at e4
  injection e4 with e5 e6 e7
  subst e5
  obtain ⟨ad, e8, hcells⟩ := hC.2.2 (by decide)
  obtain rfl := Option.some.inj e8
  obtain ⟨cs, _, ⟨A4, c4, rfl, hc4, hC4⟩, hcell⟩ := hcells 1 [1] rfl
  have k1 := hcell 0 _ rfl
  rw [add_plain] at k1
  obtain ⟨ad4, rfl, hcells4⟩ := hC4.2.2 (by decide)
  obtain ⟨cs4, _, hk4, hcell4⟩ := hcells4 0 1 rfl
  have hk4' : cs4 = [Value.int .i64 1] := hk4
  subst hk4'
  have k2 := hcell4 0 _ rfl
  obtain ⟨b4, o4, sp⟩ := ad4
  have hsp : sp = none := by
    cases sp with
    | none => rfl
    | some q =>
      exfalso
      simp [Addr.add, World.cell?] at k2
      split at k2 <;> simp_all
  subst hsp
  rw [add_at] at k2
  refine ⟨g3, c3, b4, o4, c4, ?_, k1, k2, hb⟩
  rw [e3]; rfl
theorem told_longest (W : World) (g b o c b2 d : Nat) (h0 : W.cell? ⟨g, 0, none⟩ = some (.slice (some ⟨b, o, none⟩) 2 c)) (h1 : W.cell? ⟨g, 1, none⟩ = some (.slice (some ⟨b2, 0, none⟩) 1 d)) (hc : 2 ≤ c) (hd : 1 ≤ d)
    (l0 : W.cell? ⟨b, o, none⟩ = some (.string lA)) (l1 : W.cell? ⟨b, o + 1, none⟩ = some (.string lB)) (m0 : W.cell? ⟨b2, 0, none⟩ = some (.string ⟨#[60, 60]⟩)) :
    Calls Try.prog 40 #[.slice (some ⟨g, 0, none⟩) 2 2] W fun e w' => e = .returned (.int .i64 2) ∧ Below W.heap.size W w' :=
  lines_Longest.calls 20 (some ⟨g, 0, none⟩) 2 [[lA, lB], [⟨#[60, 60]⟩]] 2 W (two_rows h0 h1 (two_strings l0 l1) (one_string m0) hc hd) (Nat.le_refl 2) (by decide +kernel)
theorem told_join (W : World) (b o c : Nat) (hc : 2 ≤ c) (l0 : W.cell? ⟨b, o, none⟩ = some (.string lA)) (l1 : W.cell? ⟨b, o + 1, none⟩ = some (.string lB)) :
    Calls Try.prog 33 #[.slice (some ⟨b, o, none⟩) 2 c] W fun e w' => e = .returned (.string ⟨#[97, 10, 98]⟩) ∧ Below W.heap.size W w' :=
  lines_Join.calls (some ⟨b, o, none⟩) c [lA, lB] ⟨#[97, 10, 98]⟩ W (two_strings l0 l1) hc (by decide +kernel)
theorem told_whole (W : World) (b o c : Nat) (hc : 2 ≤ c) (l0 : W.cell? ⟨b, o, none⟩ = some (.string lA)) (l1 : W.cell? ⟨b, o + 1, none⟩ = some (.string lB)) :
    Calls Try.prog 34 #[.slice (some ⟨b, o, none⟩) 2 c] W fun e w' => e = .returned (.bool true) ∧ Drawn0 W w' :=
  lines_Whole.calls 20 (some ⟨b, o, none⟩) c [lA, lB] true W (two_strings l0 l1) hc (by decide +kernel)
theorem told_whole2 (W : World) (b : Nat) (l0 : W.cell? ⟨b, 0, none⟩ = some (.string ⟨#[97]⟩)) (l1 : W.cell? ⟨b, 0 + 1, none⟩ = some (.string ⟨#[98]⟩)) :
    Calls Try.prog 34 #[.slice (some ⟨b, 0, none⟩) 2 2] W fun e w' => e = .returned (.bool false) ∧ Drawn0 W w' :=
  lines_Whole.calls 20 (some ⟨b, 0, none⟩) 2 [⟨#[97]⟩, ⟨#[98]⟩] false W (two_strings l0 l1) (Nat.le_refl 2) (by decide +kernel)
theorem told_run (W : World) : Calls Try.prog 43 #[.string ⟨#[61, 61, 61, 120]⟩] W fun e w' => e = .returned (.int .i64 3) ∧ Below W.heap.size W w' :=
  lines_Run.calls ⟨#[61, 61, 61, 120]⟩ 3 W (by decide +kernel)
theorem tr {W W' : World} {p : Addr} {v : Value} (hb : Below W.heap.size W W') (h : W.cell? p = some v) : W'.cell? p = some v := (hb.cell (World.block_lt_of_cell? W _ h)).trans h
theorem tr_alloc {W : World} {p : Addr} {v : Value} (o : Obj) (h : W.cell? p = some v) : (W.alloc o).cell? p = some v := tr (below_alloc (Below.refl _ _) o) h
theorem new_cell (W : World) (cs : Array Value) (t : TypeId) (i : Nat) : (W.alloc (.cells cs t)).cell? ⟨W.heap.size, i, none⟩ = cs[i]? := blk_cell (World.alloc_heap_new W _) i
theorem told_number_at (W : World) (b o c : Nat) (hc : 2 ≤ c) (l0 : W.cell? ⟨b, o, none⟩ = some (.string lA)) (l1 : W.cell? ⟨b, o + 1, none⟩ = some (.string lB)) :
    Calls Try.prog 38 #[.slice (some ⟨W.heap.size + 1, 0, none⟩) 2 2] ((W.alloc (.cells #[.string ⟨#[98]⟩] 9)).alloc (.cells #[.slice (some ⟨b, o, none⟩) 2 c, .slice (some ⟨W.heap.size, 0, none⟩) 1 1] 36)) fun e w' =>
      ∃ b3 c3 b4 o4 c4, e = .returned (.slice (some ⟨b3, 0, none⟩) 2 c3) ∧ w'.cell? ⟨b3, 1, none⟩ = some (.slice (some ⟨b4, o4, none⟩) 1 c4) ∧ w'.cell? ⟨b4, o4, none⟩ = some (.int .i64 1) ∧ w'.cell? ⟨b, o, none⟩ = some (.string lA) ∧ w'.cell? ⟨b, o + 1, none⟩ = some (.string lB) ∧ Below W.heap.size W w' := by
  have hs : (W.alloc (.cells #[.string ⟨#[98]⟩] 9)).heap.size = W.heap.size + 1 := World.size_alloc _ _
  have k0 := tr_alloc (.cells #[.slice (some ⟨b, o, none⟩) 2 c, .slice (some ⟨W.heap.size, 0, none⟩) 1 1] 36) (tr_alloc (.cells #[.string ⟨#[98]⟩] 9) l0)
  have k1 := tr_alloc (.cells #[.slice (some ⟨b, o, none⟩) 2 c, .slice (some ⟨W.heap.size, 0, none⟩) 1 1] 36) (tr_alloc (.cells #[.string ⟨#[98]⟩] 9) l1)
  refine (told_number _ (W.heap.size + 1) b o c W.heap.size 1 ?_ ?_ hc (Nat.le_refl 1) k0 k1 (tr_alloc _ (new_cell W _ _ 0))).mono ?_
  · rw [← hs]; exact new_cell _ _ _ 0
  · rw [← hs]; exact new_cell _ _ _ 1
  · rintro e w' ⟨b3, c3, b4, o4, c4, rfl, n1, n2, hb⟩
    exact ⟨b3, c3, b4, o4, c4, rfl, n1, n2, tr hb k0, tr hb k1, below_step (below_alloc (below_alloc (Below.refl _ _) _) _) hb⟩
theorem told_longest_at (W : World) (b o c : Nat) (hc : 2 ≤ c) (l0 : W.cell? ⟨b, o, none⟩ = some (.string lA)) (l1 : W.cell? ⟨b, o + 1, none⟩ = some (.string lB)) :
    Calls Try.prog 40 #[.slice (some ⟨W.heap.size + 1, 0, none⟩) 2 2] ((W.alloc (.cells #[.string ⟨#[60, 60]⟩] 9)).alloc (.cells #[.slice (some ⟨b, o, none⟩) 2 c, .slice (some ⟨W.heap.size, 0, none⟩) 1 1] 36)) fun e w' =>
      e = .returned (.int .i64 2) ∧ w'.cell? ⟨b, o, none⟩ = some (.string lA) ∧ w'.cell? ⟨b, o + 1, none⟩ = some (.string lB) ∧ Below W.heap.size W w' := by
  have hs : (W.alloc (.cells #[.string ⟨#[60, 60]⟩] 9)).heap.size = W.heap.size + 1 := World.size_alloc _ _
  have k0 := tr_alloc (.cells #[.slice (some ⟨b, o, none⟩) 2 c, .slice (some ⟨W.heap.size, 0, none⟩) 1 1] 36) (tr_alloc (.cells #[.string ⟨#[60, 60]⟩] 9) l0)
  have k1 := tr_alloc (.cells #[.slice (some ⟨b, o, none⟩) 2 c, .slice (some ⟨W.heap.size, 0, none⟩) 1 1] 36) (tr_alloc (.cells #[.string ⟨#[60, 60]⟩] 9) l1)
  refine (told_longest _ (W.heap.size + 1) b o c W.heap.size 1 ?_ ?_ hc (Nat.le_refl 1) k0 k1 (tr_alloc _ (new_cell W _ _ 0))).mono ?_
  · rw [← hs]; exact new_cell _ _ _ 0
  · rw [← hs]; exact new_cell _ _ _ 1
  · rintro e w' ⟨rfl, hb⟩
    exact ⟨rfl, tr hb k0, tr hb k1, below_step (below_alloc (below_alloc (Below.refl _ _) _) _) hb⟩
theorem told_whole2_at (W : World) : Calls Try.prog 34 #[.slice (some ⟨W.heap.size, 0, none⟩) 2 2] (W.alloc (.cells #[.string ⟨#[97]⟩, .string ⟨#[98]⟩] 9)) fun e w' => e = .returned (.bool false) ∧ Below W.heap.size W w' := by
  refine (told_whole2 _ W.heap.size (new_cell W _ _ 0) (new_cell W _ _ 1)).mono ?_
  rintro e w' ⟨rfl, n, rfl⟩
  exact ⟨rfl, pw_below_drewN (below_alloc (Below.refl _ _) _) n⟩
set_option maxHeartbeats 4000000 in
set_option maxRecDepth 100000 in
theorem told01_calls (w : World) : Calls Try.prog 30 #[] w fun e w' => e = .returned (.bool true) ∧ Below w.heap.size w w' := by
  have HB := Aside0.mk (Below.refl w.heap.size w)
  go_enter Try.func30, Try.ntmps30
  go_wp2_with (first
    | (go_at_call 29; refine (told_split _).mono ?_; rintro e w1 ⟨b, o, c, rfl, hc, l0, l1, hb1⟩; have h2 : (0 : Int) ≤ ((2 : Nat) : Int) := (by omega); replace HB := Aside0.mk (below_step HB.out hb1); clear hb1)
    | (go_at_call 38; refine (told_number_at _ b o c hc l0 l1).mono ?_; clear l0 l1; rintro e w2 ⟨b3, c3, b4, o4, c4, rfl, n1, n2, l0, l1, hb2⟩; replace HB := Aside0.mk (below_step HB.out hb2); clear hb2)
    | (go_at_call 33; refine (told_join _ b o c hc l0 l1).mono ?_; rintro e w3 ⟨rfl, hb3⟩; replace n1 := tr hb3 n1; replace n2 := tr hb3 n2; replace l0 := tr hb3 l0; replace l1 := tr hb3 l1; replace HB := Aside0.mk (below_step HB.out hb3); clear hb3)
    | (go_at_call 43; refine (told_run _).mono ?_; rintro e w4 ⟨rfl, hb4⟩; clear n1 n2; replace l0 := tr hb4 l0; replace l1 := tr hb4 l1; replace HB := Aside0.mk (below_step HB.out hb4); clear hb4)
    | (go_at_call 40; refine (told_longest_at _ b o c hc l0 l1).mono ?_; clear l0 l1; rintro e w5 ⟨rfl, l0, l1, hb5⟩; replace HB := Aside0.mk (below_step HB.out hb5); clear hb5)
    | (go_at_call_of 34 (Value.slice (some ⟨b, o, none⟩) 2 c); refine (told_whole _ b o c hc l0 l1).mono ?_; rintro e w6 ⟨rfl, n6, rfl⟩; clear l0 l1; replace HB := Aside0.mk (pw_below_drewN HB.out n6))
    | (go_at_call 34; refine (told_whole2_at _).mono ?_; rintro e w7 ⟨rfl, hb7⟩; replace HB := Aside0.mk (below_step HB.out hb7); clear hb7))
  · go_ret
    exact ⟨rfl, HB.out⟩
  · exact absurd (show lB.toList = [98] by decide +kernel) (by assumption)
  · exact absurd (show lA.toList = [97, 10] by decide +kernel) (by assumption)
#print axioms told01_calls
end Go.Proofs.Ytfiamddinkokbaa.F
end

section
set_option linter.unusedVariables false
set_option linter.unusedSimpArgs false
namespace Go.Proofs.Ytfiamddinkokbaa.F
open Go.RowKit Go.Shelf Go.Proofs.YtfiamddinkokbaaW.PrintWords Go.Proofs.YtfiamddinkokbaaW.PrintLast Go.Proofs.YtfiamddinkokbaaW.PrintMore
attribute [local go_sem] max2_int min2_int max_two min_two max_three min_three max_four min_four
set_option linter.unusedVariables false
set_option linter.unusedSimpArgs false
theorem drawn_below {P : Program} {f : FuncId} {args : Array Value} {W : World} {v : Value} (h : Calls P f args W fun e w' => e = .returned v ∧ Drawn0 W w') : Calls P f args W fun e w' => e = .returned v ∧ Below W.heap.size W w' :=
  h.mono (by rintro e w' ⟨rfl, n, rfl⟩; exact ⟨rfl, pw_below_drewN (Below.refl _ _) n⟩)
set_option maxHeartbeats 4000000 in
set_option maxRecDepth 100000 in
theorem numbers_many (k : Nat) (A0 A1 A2 : Option Addr) (c0 c1 c2 : Nat) (l0 l1 l2 : List ByteArray) (b0 b1 b2 : Bool) (w : World) (hr0 : Kd.C Kd.string w A0 l0.length l0) (hc0 : l0.length ≤ c0)
    (hr1 : Kd.C Kd.string w A1 l1.length l1) (hc1 : l1.length ≤ c1) (hr2 : Kd.C Kd.string w A2 l2.length l2) (hc2 : l2.length ≤ c2)
    (e0 : tripartitelaw01_few.f k l0 = some b0) (e1 : tripartitelaw01_few.f k l1 = some b1) (e2 : tripartitelaw01_few.f k l2 = some b2) (hb : (b0 && (b1 && b2)) = false) :
    Calls Try.prog 7 #[.slice A0 l0.length c0, .slice A1 l1.length c1, .slice A2 l2.length c2] w fun e w' => e = .returned (.bool true) ∧ Below w.heap.size w w' := by
  have HB := Aside0.mk (Below.refl w.heap.size w)
  have H0 := Aside0.mk (fun W (hb : Below w.heap.size w W) => drawn_below (tripartitelaw01_few.calls k A0 c0 l0 b0 W (Kd.C_below hr0 hb) hc0 e0))
  have H1 := Aside0.mk (fun W (hb : Below w.heap.size w W) => drawn_below (tripartitelaw01_few.calls k A1 c1 l1 b1 W (Kd.C_below hr1 hb) hc1 e1))
  have H2 := Aside0.mk (fun W (hb : Below w.heap.size w W) => drawn_below (tripartitelaw01_few.calls k A2 c2 l2 b2 W (Kd.C_below hr2 hb) hc2 e2))
  clear hr0 hr1 hr2 hc0 hc1 hc2 e0 e1 e2
  generalize l0.length = n0 at H0 ⊢
  generalize l1.length = n1 at H1 ⊢
  generalize l2.length = n2 at H2 ⊢
  cases b0 <;> cases b1 <;> cases b2 <;> first | (exact absurd hb (by decide)) | skip
  all_goals clear hb
  all_goals go_enter Try.func7, Try.ntmps7
  all_goals go_wp2_with (first
    | (go_at_call_of 35 (Value.slice A0 n0 c0); refine (H0.out _ HB.out).mono ?_; rintro e w1 ⟨rfl, hb1⟩; replace HB := Aside0.mk (below_step HB.out hb1); clear hb1)
    | (go_at_call_of 35 (Value.slice A1 n1 c1); refine (H1.out _ HB.out).mono ?_; rintro e w1 ⟨rfl, hb1⟩; replace HB := Aside0.mk (below_step HB.out hb1); clear hb1)
    | (go_at_call_of 35 (Value.slice A2 n2 c2); refine (H2.out _ HB.out).mono ?_; rintro e w1 ⟨rfl, hb1⟩; replace HB := Aside0.mk (below_step HB.out hb1); clear hb1)
    | (go_at_call 30; refine (told01_calls _).mono ?_; rintro e w1 ⟨rfl, hb1⟩; replace HB := Aside0.mk (below_step HB.out hb1); clear hb1))
  all_goals go_ret
  all_goals exact ⟨rfl, HB.out⟩
theorem three_rows {W : World} {b : Nat} {x y z : List ByteArray} {A B C : Option Addr} {c d e : Nat} (hb : W.heap[b]? = some (.cells #[.slice A x.length c, .slice B y.length d, .slice C z.length e] 36 (0, 0)))
    (hx : Kd.C Kd.string W A x.length x) (hy : Kd.C Kd.string W B y.length y) (hz : Kd.C Kd.string W C z.length z) (hc : x.length ≤ c) (hd : y.length ≤ d) (he : z.length ≤ e) : Kd.C (Kd.slice 9 Kd.string) W (some ⟨b, 0, none⟩) 3 [x, y, z] := by
  refine ⟨rfl, by omega, fun _ => ⟨_, rfl, ?_⟩⟩
  intro j p hj
  match j, hj with
  | 0, hj =>
    simp at hj; subst hj
    refine ⟨[.slice A x.length c], rfl, ⟨A, c, rfl, hc, hx⟩, ?_⟩
    intro i u hi
    match i, hi with
    | 0, hi => simp at hi; subst hi; rw [add_plain]; exact (blk_cell hb 0).trans rfl
  | 1, hj =>
    simp at hj; subst hj
    refine ⟨[.slice B y.length d], rfl, ⟨B, d, rfl, hd, hy⟩, ?_⟩
    intro i u hi
    match i, hi with
    | 0, hi => simp at hi; subst hi; rw [add_plain]; exact (blk_cell hb 1).trans rfl
  | 2, hj =>
    simp at hj; subst hj
    refine ⟨[.slice C z.length e], rfl, ⟨C, e, rfl, he, hz⟩, ?_⟩
    intro i u hi
    match i, hi with
    | 0, hi => simp at hi; subst hi; rw [add_plain]; exact (blk_cell hb 2).trans rfl
structure Three (w : World) (A0 A1 A2 : Option Addr) (c0 c1 c2 : Nat) (l0 l1 l2 : List ByteArray) : Prop where
  hr0 : Kd.C Kd.string w A0 l0.length l0
  hc0 : l0.length ≤ c0
  hr1 : Kd.C Kd.string w A1 l1.length l1
  hc1 : l1.length ≤ c1
  hr2 : Kd.C Kd.string w A2 l2.length l2
  hc2 : l2.length ≤ c2
theorem Three.below {w W : World} {A0 A1 A2 : Option Addr} {c0 c1 c2 : Nat} {l0 l1 l2 : List ByteArray} (h : Three w A0 A1 A2 c0 c1 c2 l0 l1 l2) (hb : Below w.heap.size w W) : Three W A0 A1 A2 c0 c1 c2 l0 l1 l2 :=
  ⟨Kd.C_below h.hr0 hb, h.hc0, Kd.C_below h.hr1 hb, h.hc1, Kd.C_below h.hr2 hb, h.hc2⟩
theorem Three.rows {W : World} {A0 A1 A2 : Option Addr} {c0 c1 c2 : Nat} {l0 l1 l2 : List ByteArray} (h : Three W A0 A1 A2 c0 c1 c2 l0 l1 l2) :
    Kd.C (Kd.slice 9 Kd.string) (W.alloc (.cells #[.slice A0 l0.length c0, .slice A1 l1.length c1, .slice A2 l2.length c2] 36)) (some ⟨W.heap.size, 0, none⟩) 3 [l0, l1, l2] :=
  three_rows (World.alloc_heap_new _ _) (Kd.C_alloc h.hr0 _) (Kd.C_alloc h.hr1 _) (Kd.C_alloc h.hr2 _) h.hc0 h.hc1 h.hc2
theorem numbers_lines (W : World) (A0 A1 A2 : Option Addr) (c0 c1 c2 : Nat) (l0 l1 l2 : List ByteArray) (r0 r1 r2 : List Int) (h : Three W A0 A1 A2 c0 c1 c2 l0 l1 l2) (e : lines_Number.f [l0, l1, l2] = some [r0, r1, r2]) :
    Calls Try.prog 38 #[.slice (some ⟨W.heap.size, 0, none⟩) 3 3] (W.alloc (.cells #[.slice A0 l0.length c0, .slice A1 l1.length c1, .slice A2 l2.length c2] 36)) fun e w' =>
      ∃ A c, e = .returned (.slice A 3 c) ∧ Kd.C (Kd.slice 3 (Kd.int .i64)) w' A 3 [r0, r1, r2] ∧ Below W.heap.size W w' := by
  refine (lines_Number.calls (some ⟨W.heap.size, 0, none⟩) 3 [l0, l1, l2] [r0, r1, r2] _ h.rows (Nat.le_refl 3) e).mono ?_
  rintro e w' ⟨v, rfl, hr, hb⟩
  obtain ⟨A, c, rfl, _, hC⟩ := Kd.S_reads hr
  exact ⟨A, c, rfl, hC, below_step (below_alloc (Below.refl _ _) _) hb⟩
theorem numbers_ref (k : Nat) (W : World) (A0 A1 A2 : Option Addr) (c0 c1 c2 : Nat) (l0 l1 l2 : List ByteArray) (r0 r1 r2 : List Int) (h : Three W A0 A1 A2 c0 c1 c2 l0 l1 l2) (e : tripartiteref01_Number.f k [l0, l1, l2] = some [r0, r1, r2]) :
    Calls Try.prog 39 #[.slice (some ⟨W.heap.size, 0, none⟩) 3 3] (W.alloc (.cells #[.slice A0 l0.length c0, .slice A1 l1.length c1, .slice A2 l2.length c2] 36)) fun e w' =>
      ∃ A c, e = .returned (.slice A 3 c) ∧ Kd.C (Kd.slice 3 (Kd.int .i64)) w' A 3 [r0, r1, r2] ∧ Below W.heap.size W w' := by
  refine (tripartiteref01_Number.calls k (some ⟨W.heap.size, 0, none⟩) 3 [l0, l1, l2] [r0, r1, r2] _ h.rows (Nat.le_refl 3) e).mono ?_
  rintro e w' ⟨v, rfl, hr, hb⟩
  obtain ⟨A, c, rfl, _, hC⟩ := Kd.S_reads hr
  exact ⟨A, c, rfl, hC, below_step (below_alloc (Below.refl _ _) _) hb⟩
theorem numbers_longest (k : Nat) (W : World) (A0 A1 A2 : Option Addr) (c0 c1 c2 : Nat) (l0 l1 l2 : List ByteArray) (v : Int) (h : Three W A0 A1 A2 c0 c1 c2 l0 l1 l2) (e : lines_Longest.f k [l0, l1, l2] = some v) :
    Calls Try.prog 40 #[.slice (some ⟨W.heap.size, 0, none⟩) 3 3] (W.alloc (.cells #[.slice A0 l0.length c0, .slice A1 l1.length c1, .slice A2 l2.length c2] 36)) fun e w' =>
      e = .returned (.int .i64 v) ∧ Below W.heap.size W w' := by
  refine (lines_Longest.calls k (some ⟨W.heap.size, 0, none⟩) 3 [l0, l1, l2] v _ h.rows (Nat.le_refl 3) e).mono ?_
  rintro e w' ⟨rfl, hb⟩
  exact ⟨rfl, below_step (below_alloc (Below.refl _ _) _) hb⟩
theorem keep2 {w0 W w' : World} {a0 a1 : Addr} {v0 v1 : Value} (hb : Below W.heap.size W w') (h : W.cell? a0 = some v0 ∧ W.cell? a1 = some v1 ∧ Below w0.heap.size w0 W) :
    w'.cell? a0 = some v0 ∧ w'.cell? a1 = some v1 ∧ Below w0.heap.size w0 w' := ⟨tr hb h.1, tr hb h.2.1, below_step h.2.2 hb⟩
theorem keep1 {w0 W w' : World} {a0 : Addr} {v0 : Value} (hb : Below W.heap.size W w') (h : W.cell? a0 = some v0 ∧ Below w0.heap.size w0 W) :
    w'.cell? a0 = some v0 ∧ Below w0.heap.size w0 w' := ⟨tr hb h.1, below_step h.2 hb⟩
set_option maxHeartbeats 8000000 in
set_option maxRecDepth 100000 in
theorem numbers_few (k : Nat) (A0 A1 A2 : Option Addr) (c0 c1 c2 : Nat) (l0 l1 l2 : List ByteArray) (r0 r1 r2 : List Int) (v0 v1 v2 : Int) (w : World) (h3 : Three w A0 A1 A2 c0 c1 c2 l0 l1 l2)
    (e0 : tripartitelaw01_few.f k l0 = some true) (e1 : tripartitelaw01_few.f k l1 = some true) (e2 : tripartitelaw01_few.f k l2 = some true)
    (eN : lines_Number.f [l0, l1, l2] = some [r0, r1, r2]) (eR : tripartiteref01_Number.f k [l0, l1, l2] = some [r0, r1, r2])
    (eL : lines_Longest.f k [l0, l1, l2] = some (mx (mx v0 v1) v2)) (f0 : tripartiteref01_Longest.f k l0 = some v0) (f1 : tripartiteref01_Longest.f k l1 = some v1) (f2 : tripartiteref01_Longest.f k l2 = some v2)
    (eS : ∀ r ∈ [r0, r1, r2], tripartiteref01_SameInts.f k r r = some true) (eX : ∀ s ∈ l0, ∃ v, lines_Run.f s = some v ∧ tripartiteref01_Run.f k s = some v) :
    Calls Try.prog 7 #[.slice A0 l0.length c0, .slice A1 l1.length c1, .slice A2 l2.length c2] w fun e w' => e = .returned (.bool true) ∧ Below w.heap.size w w' := by
  have HB := Aside0.mk (Below.refl w.heap.size w)
  have H0 := Aside0.mk (fun W (hb : Below w.heap.size w W) => drawn_below (tripartitelaw01_few.calls k A0 c0 l0 true W (h3.below hb).hr0 h3.hc0 e0))
  have H1 := Aside0.mk (fun W (hb : Below w.heap.size w W) => drawn_below (tripartitelaw01_few.calls k A1 c1 l1 true W (h3.below hb).hr1 h3.hc1 e1))
  have H2 := Aside0.mk (fun W (hb : Below w.heap.size w W) => drawn_below (tripartitelaw01_few.calls k A2 c2 l2 true W (h3.below hb).hr2 h3.hc2 e2))
  have HN := Aside0.mk (fun W (hb : Below w.heap.size w W) => numbers_lines W A0 A1 A2 c0 c1 c2 l0 l1 l2 r0 r1 r2 (h3.below hb) eN)
  have HR := Aside0.mk (fun W (hb : Below w.heap.size w W) => numbers_ref k W A0 A1 A2 c0 c1 c2 l0 l1 l2 r0 r1 r2 (h3.below hb) eR)
  have HL := Aside0.mk (fun W (hb : Below w.heap.size w W) => numbers_longest k W A0 A1 A2 c0 c1 c2 l0 l1 l2 _ (h3.below hb) eL)
  have L0 := Aside0.mk (fun W (hb : Below w.heap.size w W) => tripartiteref01_Longest.calls k A0 c0 l0 v0 W (h3.below hb).hr0 h3.hc0 f0)
  have L1 := Aside0.mk (fun W (hb : Below w.heap.size w W) => tripartiteref01_Longest.calls k A1 c1 l1 v1 W (h3.below hb).hr1 h3.hc1 f1)
  have L2 := Aside0.mk (fun W (hb : Below w.heap.size w W) => tripartiteref01_Longest.calls k A2 c2 l2 v2 W (h3.below hb).hr2 h3.hc2 f2)
  have HT := Aside0.mk h3
  have ES := Aside0.mk eS
  have EX := Aside0.mk eX
  have hn0 := h3.hr0.2.1
  have hV : (mx (mx v0 v1) v2 != if (if v0 < v1 then v1 else v0) < v2 then v2 else if v0 < v1 then v1 else v0) = false := by unfold mx; simp
  clear e0 e1 e2 eN eR eL f0 f1 f2 h3 eS eX
  go_enter Try.func7, Try.ntmps7
  go_wp2_with (first
    | (go_at_call_of 35 (Value.slice A0 l0.length c0); refine (H0.out _ HB.out).mono ?_; rintro e w1 ⟨rfl, hb1⟩; replace HB := Aside0.mk (below_step HB.out hb1); clear hb1)
    | (go_at_call_of 35 (Value.slice A1 l1.length c1); refine (H1.out _ HB.out).mono ?_; rintro e w1 ⟨rfl, hb1⟩; replace HB := Aside0.mk (below_step HB.out hb1); clear hb1)
    | (go_at_call_of 35 (Value.slice A2 l2.length c2); refine (H2.out _ HB.out).mono ?_; rintro e w1 ⟨rfl, hb1⟩; replace HB := Aside0.mk (below_step HB.out hb1); clear hb1)
    | (go_at_call 30; refine (told01_calls _).mono ?_; rintro e w1 ⟨rfl, hb1⟩; replace CN := Aside0.mk (Kd.C_below CN.out hb1); replace CR := Aside0.mk (Kd.C_below CR.out hb1); replace HB := Aside0.mk (below_step HB.out hb1); clear hb1)
    | (go_at_call 38; refine (HN.out _ HB.out).mono ?_; rintro e w1 ⟨An, cn, rfl, hcn, hb1⟩; have CN := Aside0.mk hcn; replace HB := Aside0.mk (below_step HB.out hb1); clear hb1 hcn)
    | (go_at_call 39; refine (HR.out _ HB.out).mono ?_; rintro e w1 ⟨Ar, cr, rfl, hcr, hb1⟩; have CR := Aside0.mk hcr; replace CN := Aside0.mk (Kd.C_below CN.out hb1); replace HB := Aside0.mk (below_step HB.out hb1); clear hb1 hcr)
    | (go_at_call 40; refine (HL.out _ HB.out).mono ?_; rintro e w1 ⟨rfl, hb1⟩; replace CN := Aside0.mk (Kd.C_below CN.out hb1); replace CR := Aside0.mk (Kd.C_below CR.out hb1); replace HB := Aside0.mk (below_step HB.out hb1); clear hb1)
    | (go_at_call_of 41 (Value.slice A0 l0.length c0); refine (L0.out _ HB.out).mono ?_; rintro e w1 ⟨rfl, hb1⟩; replace CN := Aside0.mk (Kd.C_below CN.out hb1); replace CR := Aside0.mk (Kd.C_below CR.out hb1); replace HB := Aside0.mk (below_step HB.out hb1); clear hb1)
    | (go_at_call_of 41 (Value.slice A1 l1.length c1); refine (L1.out _ HB.out).mono ?_; rintro e w1 ⟨rfl, hb1⟩; replace CN := Aside0.mk (Kd.C_below CN.out hb1); replace CR := Aside0.mk (Kd.C_below CR.out hb1); replace HB := Aside0.mk (below_step HB.out hb1); clear hb1)
    | (go_at_call_of 41 (Value.slice A2 l2.length c2); refine (L2.out _ HB.out).mono ?_; rintro e w1 ⟨rfl, hb1⟩; replace CN := Aside0.mk (Kd.C_below CN.out hb1); replace CR := Aside0.mk (Kd.C_below CR.out hb1); replace HB := Aside0.mk (below_step HB.out hb1); clear hb1))
  all_goals try (exfalso; rename_i hc_ _; rw [hV] at hc_; cases hc_)
  all_goals try (exfalso; rename_i hc_ _ _; rw [hV] at hc_; cases hc_)
  all_goals clear hV
  all_goals
    go_loopg [9] 3 (fun gg s9 wr => ∃ kk : Nat, kk ≤ 3 ∧ 3 - kk ≤ gg ∧ s9 = .int .i64 kk ∧ Aside0 (Below w.heap.size w wr) ∧ Aside0 (Kd.C (Kd.slice 3 (Kd.int .i64)) wr An 3 [r0, r1, r2]) ∧ Aside0 (Kd.C (Kd.slice 3 (Kd.int .i64)) wr Ar 3 [r0, r1, r2]))
    case atStart => exact ⟨0, by omega, by omega, rfl, HB, CN, CR⟩
    case round =>
      clear HB CN CR
      obtain ⟨kk, hkk, hg, rfl, HB, CN, CR⟩ := hrel
      by_cases hlt : kk < 3
      · have p0 : (0 : Int) ≤ (kk : Int) := by omega
        have q0 : (kk : Int) < (3 : Int) := by omega
        have q1 := eq_true q0
        have hmem : rd_L7 [r0, r1, r2] (kk : Int) ∈ [r0, r1, r2] := by
          unfold rd_L7
          rw [Int.toNat_natCast, List.getD_eq_getElem?_getD, List.getElem?_eq_getElem (by simpa using hlt)]
          exact List.getElem_mem _
        have hs := ES.out _ hmem
        obtain ⟨ad1, A1_, c1_, rfl, x1, y1, z1⟩ := at_L7 CN.out (kk : Int) p0 q0
        obtain ⟨ad2, A2_, c2_, rfl, x2, y2, z2⟩ := at_L7 CR.out (kk : Int) p0 q0
        rw [Int.toNat_natCast] at x1 x2
        generalize rd_L7 [r0, r1, r2] (kk : Int) = rr at hs x1 y1 z1 x2 y2 z2
        clear hmem
        have HS := Aside0.mk (fun W (hb : Below wr.heap.size wr W) => drawn_below (tripartiteref01_SameInts.calls k A1_ c1_ rr A2_ c2_ rr true W (Kd.C_below z1 hb) y1 (Kd.C_below z2 hb) y2 hs))
        clear hs z1 z2 y1 y2
        have HW := Aside0.mk (Below.refl wr.heap.size wr)
        go_wp2_with fail
        go_region_held3 (fun w' => w'.cell? (ad1.add kk) = some (.slice A1_ rr.length c1_) ∧ w'.cell? (ad2.add kk) = some (.slice A2_ rr.length c2_) ∧ Below wr.heap.size wr w')
          ((first | exact keep2 (by first | assumption | exact below_drew (Below.refl _ _)) (by first | assumption | (refine ⟨?_, ?_, ?_⟩ <;> first | assumption | exact HW.out))))
          (first | (go_at_call 42; refine (HS.out _ (by first | assumption | (go_split_ands; assumption) | exact below_drew (Below.refl _ _))).mono ?_; rintro e w' ⟨rfl, hb'⟩))
        all_goals go_split_ands
        all_goals go_wp2
        all_goals go_roundg (3 - (kk + 1))
        case measure => omega
        case rel => exact ⟨kk + 1, by omega, by omega, by go_num, ⟨below_step HB.out (by assumption)⟩, ⟨Kd.C_below CN.out (by assumption)⟩, ⟨Kd.C_below CR.out (by assumption)⟩⟩
      · obtain rfl : kk = 3 := by omega
        clear CN CR ES hlt hkk hg
        go_wp2
        go_loopg [10] l0.length (fun gg s10 wr => ∃ kk : Nat, kk ≤ l0.length ∧ l0.length - kk ≤ gg ∧ s10 = .int .i64 kk ∧ Aside0 (Below w.heap.size w wr))
        case atStart => exact ⟨0, Nat.zero_le _, by omega, rfl, HB⟩
        case round =>
          clear HB
          obtain ⟨kk, hkk, hg, rfl, HB⟩ := hrel
          by_cases hlt : kk < l0.length
          · have p0 : (0 : Int) ≤ (kk : Int) := by omega
            have q0 : (kk : Int) < (l0.length : Int) := by omega
            have q1 := eq_true q0
            have C0 := (HT.out.below HB.out).hr0
            obtain ⟨b_, o_, e_, _, hcell⟩ := C_string_cells C0 (by omega)
            have x0 := hcell kk l0[kk] (List.getElem?_eq_getElem hlt)
            obtain ⟨v, ev1, ev2⟩ := EX.out l0[kk] (List.getElem_mem hlt)
            generalize l0[kk] = ss at x0 ev1 ev2
            clear C0 hcell
            have HS1 := Aside0.mk (fun W => lines_Run.calls ss v W ev1)
            have HS2 := Aside0.mk (fun W => drawn_below (tripartiteref01_Run.calls k ss v W ev2))
            clear ev1 ev2
            have HW := Aside0.mk (Below.refl wr.heap.size wr)
            subst e_
            go_wp2_with fail
            go_region_held3 (fun w' => w'.cell? ⟨b_, o_ + kk, none⟩ = some (.string ss) ∧ Below wr.heap.size wr w')
              ((first | exact keep1 (by first | assumption | exact below_drew (Below.refl _ _)) (by first | assumption | (refine ⟨?_, ?_⟩ <;> first | assumption | exact HW.out))))
              (first
                | (go_at_call 43; refine (HS1.out _).mono ?_; rintro e w' ⟨rfl, hb'⟩)
                | (go_at_call 44; refine (HS2.out _).mono ?_; rintro e w' ⟨rfl, hb'⟩))
            all_goals go_split_ands
            all_goals go_wp2
            all_goals go_roundg (l0.length - (kk + 1))
            case measure => omega
            case rel => exact ⟨kk + 1, by omega, by omega, by go_num, ⟨below_step HB.out (by assumption)⟩⟩
          · obtain rfl : kk = l0.length := by omega
            have q1 : ((l0.length : Int) < (l0.length : Int)) = False := by simp
            go_wp2
            go_ret
            exact ⟨rfl, HB.out⟩
end Go.Proofs.Ytfiamddinkokbaa.F
end

section
set_option linter.unusedVariables false
set_option linter.unusedSimpArgs false
namespace Go.Proofs.Ytfiamddinkokbaa
open Go.RowKit Go.Proofs.YtfiamddinkokbaaW.PrintWords
set_option linter.unusedVariables false
def Ev {α : Type} (F : Nat → Option α) (v : α) : Prop := ∃ K, ∀ k, K ≤ k → F k = some v
namespace Ev
variable {α β : Type} {F G : Nat → Option α} {H : Nat → α → Option β} {v a : α} {b : β}
theorem val {x : α} (h : x = v) : Ev (fun _ => some x) v := ⟨0, fun _ _ => by rw [h]⟩
theorem const {o : Option α} (h : o = some v) : Ev (fun _ => o) v := ⟨0, fun _ _ => h⟩
theorem succ (h : Ev (fun k => F (k + 1)) v) : Ev F v := let ⟨K, hK⟩ := h; ⟨K + 1, fun k hk => by
  obtain ⟨j, rfl⟩ : ∃ j, k = j + 1 := ⟨k - 1, by omega⟩
  exact hK j (by omega)⟩
theorem pos {c : Prop} [Decidable c] (hc : c) (h : Ev F v) : Ev (fun k => if c then F k else G k) v := by simpa only [if_pos hc] using h
theorem neg {c : Prop} [Decidable c] (hc : ¬ c) (h : Ev G v) : Ev (fun k => if c then F k else G k) v := by simpa only [if_neg hc] using h
theorem bind {F : Nat → Option α} (h : Ev F a) (h' : Ev (fun k => H k a) b) : Ev (fun k => (F k).bind (H k)) b := by
  obtain ⟨K, hK⟩ := h
  obtain ⟨L, hL⟩ := h'
  refine ⟨max K L, fun k hk => ?_⟩
  show (F k).bind (H k) = some b
  rw [hK k (by omega)]
  exact hL k (by omega)
theorem cast (h : Ev F a) (e : a = v) : Ev F v := e ▸ h
end Ev
theorem wrap_in {n : Int} (h0 : -9223372036854775808 ≤ n) (h1 : n ≤ 9223372036854775807) : wrap64 n = n := by unfold wrap64; omega
theorem size_data (s : ByteArray) : s.data.toList.length = s.size := Array.length_toList
theorem bytes_toList (s : ByteArray) : s.toList = s.data.toList := by
  exact ByteArray.toList_eq s
theorem bt_at (s : ByteArray) (i : Int) (xs ys : List UInt8) (c : UInt8) (h : s.data.toList = xs ++ c :: ys) (hi : i = xs.length) : bt s i = (c.toNat : Int) := by
  have hs : xs.length < s.size := by rw [← size_data, h]; simp
  subst hi
  unfold bt
  rw [dif_pos (by simpa using hs)]
  have : s.data.toList[xs.length]? = some c := by rw [h]; simp
  have h2 := getElem?_byte s xs.length hs
  rw [this] at h2
  have h3 : s[xs.length] = c := (Option.some.inj h2).symm
  simp only [Int.toNat_natCast, h3]
theorem size_toB (l : List UInt8) : (toB l).size = l.length := by rw [← size_data, data_toB]
theorem rdOf_at {α : Type} (d : α) (l : List α) (i : Int) (xs ys : List α) (c : α) (h : l = xs ++ c :: ys) (hi : i = xs.length) : rdOf d l i = c := by
  subst h hi
  unfold rdOf
  simp [Int.toNat_natCast, List.getD_eq_getElem?_getD]
end Go.Proofs.Ytfiamddinkokbaa
end

section
set_option linter.unusedVariables false
set_option linter.unusedSimpArgs false
namespace Go.Proofs.Ytfiamddinkokbaa.F
open Go.RowKit Go.Proofs.YtfiamddinkokbaaW.PrintWords Go.Proofs.YtfiamddinkokbaaW.PrintLast Go.Proofs.YtfiamddinkokbaaW.PrintMore
set_option linter.unusedVariables false
set_option linter.unusedSimpArgs false
theorem byte_ne {c : UInt8} {n : Nat} (hn : n < 256) (h : ¬ (c.toNat : Int) = n) : c ≠ (UInt8.ofNat n) := fun e => h (by rw [e]; simp [UInt8.toNat_ofNat]; omega)
theorem byte_eq {c : UInt8} {n : Nat} (hn : n < 256) (h : (c.toNat : Int) = n) : c = (UInt8.ofNat n) := UInt8.toNat.inj (by simp; omega)
def runI (s : ByteArray) : Int := (runL s.data.toList : Nat)
theorem isEmpty_toList (s : ByteArray) : s.toList = [] ↔ s.data.toList = [] := by rw [bytes_toList]
theorem run_l0 (a : ByteArray) (hs : a.size ≤ 4000000000) (c0 : UInt8) (t : List UInt8) (h0 : a.data.toList = c0 :: t) : ∀ (rest done : List UInt8) (i : Int), a.data.toList = done ++ rest → (∀ x ∈ done, x = c0) → i = done.length →
    Ev (fun k => tripartiteref01_Run.l0 k a i) ((a.size - (cutL c0 a.data.toList).length : Nat) : Int)
  | [], done, i, ha, hd, ei => by
    have hsz : a.size = done.length := by rw [← size_data, ha]; simp
    refine Ev.succ ?_
    simp only [tripartiteref01_Run.l0]
    refine Ev.neg (by omega) (Ev.val ?_)
    have : cutL c0 a.data.toList = [] := by
      rw [ha, List.append_nil]; unfold cutL; rw [← List.append_nil done, List.dropWhile_append_of_pos (fun x hx => by simp [hd x hx])]; rfl
    rw [this]; simp; omega
  | c :: rest, done, i, ha, hd, ei => by
    have hsz : a.size = done.length + (rest.length + 1) := by rw [← size_data, ha]; simp
    have hw : wrap64 (i + 1) = i + 1 := wrap_in (by omega) (by omega)
    have hb : bt a i = (c.toNat : Int) := bt_at a i done rest c ha ei
    have hb0 : bt a 0 = (c0.toNat : Int) := bt_at a 0 [] t c0 h0 rfl
    refine Ev.succ ?_
    simp only [tripartiteref01_Run.l0, hw, hb, hb0]
    refine Ev.pos (by omega) (Ev.pos (by omega) (Ev.pos (by omega) ?_))
    by_cases hc : (c.toNat : Int) = (c0.toNat : Int)
    · have hc' : c = c0 := UInt8.toNat.inj (by omega)
      refine Ev.pos hc ?_
      exact run_l0 a hs c0 t h0 rest (done ++ [c]) (i + 1) (by rw [ha]; simp) (fun x hx => by
        rcases List.mem_append.1 hx with h | h
        · exact hd x h
        · rw [List.mem_singleton.1 h]; exact hc') (by simp; omega)
    · refine Ev.neg hc (Ev.val ?_)
      have hc' : c ≠ c0 := fun e => hc (by rw [e])
      have : cutL c0 a.data.toList = c :: rest := by
        unfold cutL
        rw [ha, List.dropWhile_append_of_pos (fun x hx => by simp [hd x hx])]
        have : (c == c0) = false := by simpa using hc'
        simp [List.dropWhile, this]
      rw [this]; simp; omega
theorem ref_run (a : ByteArray) (hs : a.size ≤ 4000000000) : Ev (fun k => tripartiteref01_Run.f k a) (runI a) := by
  unfold tripartiteref01_Run.f
  by_cases he : a.toList = []
  · refine Ev.pos he (Ev.succ ?_)
    simp only [tripartiteref01_Run.j0]
    refine Ev.pos (by trivial) (Ev.val ?_)
    unfold runI; rw [(isEmpty_toList a).1 he]; rfl
  · refine Ev.neg he ?_
    obtain ⟨c, t, h⟩ : ∃ c t, a.data.toList = c :: t := List.exists_cons_of_ne_nil (fun e => he ((isEmpty_toList a).2 e))
    have hsz : a.size = t.length + 1 := by rw [← size_data, h]; simp
    have hb0 : bt a 0 = (c.toNat : Int) := bt_at a 0 [] t c h rfl
    have hl := run_l0 a hs c t h a.data.toList [] 0 (by simp) (by simp) rfl
    have key : ∀ b : Bool, (b = false ↔ isSign c = true) → Ev (fun k => tripartiteref01_Run.j0 k a b) (runI a) := by
      intro b hb
      refine Ev.succ ?_
      simp only [tripartiteref01_Run.j0]
      cases b with
      | true =>
        refine Ev.pos (by trivial) (Ev.val ?_)
        have : isSign c = false := by
          cases hq : isSign c with
          | false => rfl
          | true => exact absurd (hb.2 hq) (by decide)
        unfold runI runL; rw [h]; simp [this]
      | false =>
        refine Ev.neg (by decide) (hl.cast ?_)
        have := hb.1 rfl
        unfold runI runL; rw [h]; simp [this, hsz]
    have s60 : ∀ n : Nat, n < 256 → (c.toNat : Int) = n → c = UInt8.ofNat n := fun n hn e => byte_eq hn e
    simp only [hb0]
    refine Ev.pos (by omega) ?_
    by_cases h60 : (c.toNat : Int) = 60
    · refine Ev.pos h60 (key _ ?_); rw [s60 60 (by decide) h60]; decide
    refine Ev.neg h60 ?_
    by_cases h124 : (c.toNat : Int) = 124
    · refine Ev.pos h124 (key _ ?_); rw [s60 124 (by decide) h124]; decide
    refine Ev.neg h124 ?_
    by_cases h61 : (c.toNat : Int) = 61
    · refine Ev.pos h61 (key _ ?_); rw [s60 61 (by decide) h61]; decide
    refine Ev.neg h61 (key _ ?_)
    have n60 := byte_ne (c := c) (n := 60) (by decide) h60
    have n124 := byte_ne (c := c) (n := 124) (by decide) h124
    have n61 := byte_ne (c := c) (n := 61) (by decide) h61
    have e : isSign c = (c == 62) := by
      unfold isSign
      rw [show (c == 60) = false from by simpa using n60, show (c == 124) = false from by simpa using n124, show (c == 61) = false from by simpa using n61]; simp
    rw [e]
    by_cases h62 : (c.toNat : Int) = 62
    · have := s60 62 (by decide) h62
      rw [this]; decide
    · have n62 := byte_ne (c := c) (n := 62) (by decide) h62
      have h1 : (c == 62) = false := by simpa using n62
      rw [h1]
      have h2 : ((c.toNat : Int) != 62) = true := by simpa using h62
      rw [h2]; simp
def longI (l : List ByteArray) (n : Int) : Int := l.foldl (fun n s => mx n (runI s)) n
theorem longest_l0 (l : List ByteArray) (hn : l.length ≤ 4000000000) (hs : ∀ s ∈ l, s.size ≤ 4000000000) : ∀ (rest done : List ByteArray) (x i : Int), l = done ++ rest → i = done.length → Ev (fun k => tripartiteref01_Longest.l0 k l x i) (longI rest x)
  | [], done, x, i, hl, ei => by
    refine Ev.succ ?_
    simp only [tripartiteref01_Longest.l0]
    refine Ev.neg (by rw [hl]; simp; omega) (Ev.val rfl)
  | s :: rest, done, x, i, hl, ei => by
    have hsz : l.length = done.length + (rest.length + 1) := by rw [hl]; simp
    have hw : wrap64 (i + 1) = i + 1 := wrap_in (by omega) (by omega)
    have hb : rdOf ByteArray.empty l i = s := rdOf_at _ l i done rest s hl ei
    refine Ev.succ ?_
    simp only [tripartiteref01_Longest.l0, hw, hb]
    refine Ev.pos (by omega) (Ev.pos (by omega) (Ev.bind (ref_run s (hs s (by rw [hl]; simp))) ?_))
    exact longest_l0 l hn hs rest (done ++ [s]) _ (i + 1) (by rw [hl]; simp) (by simp; omega)
theorem ref_longest (l : List ByteArray) (hn : l.length ≤ 4000000000) (hs : ∀ s ∈ l, s.size ≤ 4000000000) : Ev (fun k => tripartiteref01_Longest.f k l) (longI l 0) :=
  longest_l0 l hn hs l [] 0 0 rfl rfl
theorem lines_run (a : ByteArray) (hs : a.size ≤ 4000000000) : lines_Run.f a = some (runI a) := by unfold lines_Run.f; rw [if_pos hs]; rfl
def longAll (ls : List (List ByteArray)) (n : Int) : Int := ls.foldl (fun n l => longI l n) n
theorem lines_longest_in (ls : List (List ByteArray)) (hN : ls.length ≤ 4000000000) (hn : ∀ l ∈ ls, l.length ≤ 4000000000) (hs : ∀ l ∈ ls, ∀ s ∈ l, s.size ≤ 4000000000) :
    ∀ (rest done : List (List ByteArray)) (x i : Int), ls = done ++ rest → i = done.length → Ev (fun k => lines_Longest.l0 k x ls (ls.length : Int) i) (longAll rest x)
  | [], done, x, i, hl, ei => by
    refine Ev.succ ?_
    simp only [lines_Longest.l0]
    refine Ev.neg (by rw [hl]; simp; omega) (Ev.val rfl)
  | l :: rest, done, x, i, hl, ei => by
    have hsz : ls.length = done.length + (rest.length + 1) := by rw [hl]; simp
    have hw : wrap64 (i + 1) = i + 1 := wrap_in (by omega) (by omega)
    have hb : rd_L1 ls i = l := by
      unfold rd_L1; subst ei hl; simp [List.getD_eq_getElem?_getD]
    refine Ev.succ ?_
    simp only [lines_Longest.l0, hb]
    refine Ev.pos (by omega) (Ev.pos (by omega) (Ev.pos (by omega) ?_))
    have hm : l ∈ ls := by rw [hl]; simp
    have inner : ∀ (r d : List ByteArray) (x j : Int), l = d ++ r → j = d.length → Ev (fun k => lines_Longest.l1 k x ls (ls.length : Int) i l (l.length : Int) j) (longAll rest (longI r x)) := by
      intro r
      induction r with
      | nil =>
        intro d x j hd ej
        refine Ev.succ ?_
        simp only [lines_Longest.l1, hw]
        refine Ev.neg (by rw [hd]; simp; omega) ?_
        exact lines_longest_in ls hN hn hs rest (done ++ [l]) _ (i + 1) (by rw [hl]; simp) (by simp; omega)
      | cons s r ih =>
        intro d x j hd ej
        have hll := hn l hm
        have hsl : l.length = d.length + (r.length + 1) := by rw [hd]; simp
        have hwj : wrap64 (j + 1) = j + 1 := wrap_in (by omega) (by omega)
        have hbj : rdOf ByteArray.empty l j = s := rdOf_at _ l j d r s hd ej
        refine Ev.succ ?_
        simp only [lines_Longest.l1, hwj, hbj]
        refine Ev.pos (by omega) (Ev.pos (by omega) (Ev.pos (by omega) (Ev.bind (Ev.const (lines_run s (hs l hm s (by rw [hd]; simp)))) ?_)))
        exact ih (d ++ [s]) _ (j + 1) (by rw [hd]; simp) (by simp; omega)
    exact inner l [] x 0 rfl rfl
theorem lines_longest (ls : List (List ByteArray)) (hN : ls.length ≤ 4000000000) (hn : ∀ l ∈ ls, l.length ≤ 4000000000) (hs : ∀ l ∈ ls, ∀ s ∈ l, s.size ≤ 4000000000) :
    Ev (fun k => lines_Longest.f k ls) (longAll ls 0) := lines_longest_in ls hN hn hs ls [] 0 0 rfl rfl
theorem runI_nonneg (s : ByteArray) : 0 ≤ runI s := by unfold runI; omega
end Go.Proofs.Ytfiamddinkokbaa.F
end

section
set_option linter.unusedVariables false
set_option linter.unusedSimpArgs false
namespace Go.Proofs.Ytfiamddinkokbaa.F
open Go.RowKit Go.Proofs.YtfiamddinkokbaaW.PrintWords Go.Proofs.YtfiamddinkokbaaW.PrintLast Go.Proofs.YtfiamddinkokbaaW.PrintMore
set_option linter.unusedVariables false
set_option linter.unusedSimpArgs false
def catB (l : List ByteArray) : ByteArray := toB (l.flatMap fun s => s.data.toList)
def fewL (l : List ByteArray) : Bool := l.all (fun s => decide (s.size ≤ 400)) && decide (l.length ≤ 200)
theorem few01_in (l : List ByteArray) (hn : l.length ≤ 4000000000000000) : ∀ (rest done : List ByteArray) (i : Int), l = done ++ rest → i = done.length → (∀ s ∈ done, s.size ≤ 400) → Ev (fun k => tripartitelaw01_few.l0 k l i) (fewL l)
  | [], done, i, hl, ei, hd => by
    refine Ev.succ ?_
    simp only [tripartitelaw01_few.l0]
    refine Ev.neg (by rw [hl]; simp; omega) (Ev.val ?_)
    rw [List.append_nil] at hl
    subst hl
    unfold fewL
    rw [List.all_eq_true.2 (fun s hs => decide_eq_true (hd s hs)), Bool.true_and]
    exact decide_eq_decide.2 (by omega)
  | x :: rest, done, i, hl, ei, hd => by
    have hsz : l.length = done.length + (rest.length + 1) := by rw [hl]; simp
    have hw : wrap64 (i + 1) = i + 1 := wrap_in (by omega) (by omega)
    have hb : rdOf ByteArray.empty l i = x := rdOf_at _ l i done rest x hl ei
    refine Ev.succ ?_
    simp only [tripartitelaw01_few.l0, hw, hb]
    refine Ev.pos (by omega) (Ev.pos (by omega) ?_)
    by_cases hx : (x.size : Int) > 400
    · refine Ev.pos hx (Ev.val ?_)
      have : l.all (fun s => decide (s.size ≤ 400)) = false := by
        cases ha : l.all (fun s => decide (s.size ≤ 400)) with
        | false => rfl
        | true =>
          have := List.all_eq_true.1 ha x (by rw [hl]; simp)
          simp at this; omega
      unfold fewL; rw [this]; rfl
    · refine Ev.neg hx ?_
      refine few01_in l hn rest (done ++ [x]) (i + 1) (by rw [hl]; simp) (by simp; omega) (fun s hs => ?_)
      rcases List.mem_append.1 hs with hs | hs
      · exact hd s hs
      · rw [List.mem_singleton.1 hs]; omega
theorem ev_few01 (l : List ByteArray) (hn : l.length ≤ 4000000000000000) : Ev (fun k => tripartitelaw01_few.f k l) (fewL l) := few01_in l hn l [] 0 rfl rfl (fun s hs => (by cases hs))
theorem fewL_true {l : List ByteArray} (h : fewL l = true) : l.length ≤ 200 ∧ (∀ s ∈ l, s.size ≤ 400) ∧ (catB l).size ≤ 80000 := by
  unfold fewL at h
  simp only [Bool.and_eq_true, decide_eq_true_eq] at h
  have h1 : ∀ s ∈ l, s.size ≤ 400 := fun s hs => by have := List.all_eq_true.1 h.1 s hs; simpa using this
  have key : ∀ d : List ByteArray, (∀ s ∈ d, s.size ≤ 400) → (d.flatMap fun s => s.data.toList).length ≤ d.length * 400 := by
    intro d
    induction d with
    | nil => intro _; simp
    | cons y d ih =>
      intro hd
      have h1 := ih (fun z hz => hd z (by simp [hz]))
      have h2 := hd y (by simp)
      have h3 := size_data y
      simp only [List.flatMap_cons, List.length_append, List.length_cons]
      omega
  refine ⟨h.2, h1, ?_⟩
  have := key l h1
  have e : (catB l).size = (l.flatMap fun s => s.data.toList).length := size_toB _
  rw [e]
  exact Nat.le_trans this (Nat.mul_le_mul_right 400 h.2)
end Go.Proofs.Ytfiamddinkokbaa.F
end

section
set_option linter.unusedVariables false
set_option linter.unusedSimpArgs false
namespace Go.Proofs.Ytfiamddinkokbaa.F
open Go.RowKit Go.Proofs.YtfiamddinkokbaaW.PrintWords Go.Proofs.YtfiamddinkokbaaW.PrintLast Go.Proofs.YtfiamddinkokbaaW.PrintMore
set_option linter.unusedVariables false
set_option linter.unusedSimpArgs false
def dataL (K : List ByteArray) : List (List UInt8) := K.map fun s => s.data.toList
def nK (K : List ByteArray) (s : ByteArray) : List ByteArray := if s.data.toList ∈ dataL K then K else K ++ [s]
theorem nK_data (K : List ByteArray) (s : ByteArray) : dataL (nK K s) = numStep (dataL K) s := by
  unfold nK numStep; split <;> simp [dataL]
theorem nK_length (K : List ByteArray) (s : ByteArray) : (nK K s).length ≤ K.length + 1 := by unfold nK; split <;> simp
def nKrow (K : List ByteArray) (l : List ByteArray) : List ByteArray := l.foldl nK K
theorem nKrow_data (l : List ByteArray) : ∀ K, dataL (nKrow K l) = knRow (dataL K) l := by
  induction l with
  | nil => intro K; rfl
  | cons s l ih => intro K; show dataL (nKrow (nK K s) l) = knRow (numStep (dataL K) s) l; rw [ih, nK_data]
theorem nKrow_length (l : List ByteArray) : ∀ K, (nKrow K l).length ≤ K.length + l.length := by
  induction l with
  | nil => intro K; simp [nKrow]
  | cons s l ih => intro K; have h1 := ih (nK K s); have h2 := nK_length K s; show (nKrow (nK K s) l).length ≤ _; simp; omega
theorem idx_first (s : ByteArray) : ∀ (done rest : List (List UInt8)), (∀ x ∈ done, x ≠ s.data.toList) → (done ++ s.data.toList :: rest).idxOf s.data.toList = done.length
  | [], rest, _ => by simp
  | x :: done, rest, h => by
    have hx : x ≠ s.data.toList := h x (by simp)
    have ih := idx_first s done rest (fun y hy => h y (by simp [hy]))
    rw [List.cons_append, List.idxOf_cons]
    have : (x == s.data.toList) = false := by simpa using hx
    rw [this]; simp [ih]
theorem num_l2 {x0 : List (List ByteArray)} {x4 : List (List Int)} {x5 x7 : Int} {x6 : List Int} {K : List ByteArray} {V : List (List Int)} {f d rest : List ByteArray} {s : ByteArray}
    (hf : rd_L1 x0 x5 = f) (h5 : 0 ≤ x5) (h5' : x5 < x0.length) (hfd : f = d ++ s :: rest) (h7 : x7 = d.length) (hK : K.length ≤ 4000000000) (h6 : x6.length ≤ 4000000000) (hfl : f.length ≤ 4000000000)
    (next : Ev (fun k => tripartiteref01_Number.l1 k x0 (nK K s) x4 x5 (x6 ++ [numOf (dataL K) s]) (x7 + 1)) V) :
    ∀ (r u : List ByteArray) (x8 : Int), K = u ++ r → (∀ x ∈ u, x.data.toList ≠ s.data.toList) → x8 = u.length → Ev (fun k => tripartiteref01_Number.l2 k x0 K x4 x5 x6 x7 x8) V
  | [], u, x8, hu, hn, h8 => by
    have hsz : f.length = d.length + (rest.length + 1) := by rw [hfd]; simp
    have hw : wrap64 (x7 + 1) = x7 + 1 := wrap_in (by omega) (by omega)
    have hs : rdOf ByteArray.empty f x7 = s := rdOf_at _ f x7 d rest s hfd h7
    have hKu : K.length = u.length := by rw [hu]; simp
    refine Ev.succ ?_
    simp only [tripartiteref01_Number.l2, hf, hs, hw]
    have hnot : s.data.toList ∉ dataL K := by
      rw [hu, List.append_nil]; intro hm
      obtain ⟨x, hx, e⟩ := List.mem_map.1 hm
      exact hn x hx e
    have hnk : nK K s = K ++ [s] := by unfold nK; rw [if_neg hnot]
    have hnum : numOf (dataL K) s = x8 := by
      unfold numOf
      rw [List.idxOf_eq_length hnot]
      simp [dataL, h8, hKu]
    rw [hnk, hnum] at next
    refine Ev.neg (by omega) (Ev.pos (by omega) (Ev.pos h5 (Ev.pos h5' (Ev.pos (by omega) (Ev.pos (by omega) (Ev.pos (by omega) (Ev.pos (by omega) next)))))))
  | x :: r, u, x8, hu, hn, h8 => by
    have hsz : f.length = d.length + (rest.length + 1) := by rw [hfd]; simp
    have hw : wrap64 (x7 + 1) = x7 + 1 := wrap_in (by omega) (by omega)
    have hs : rdOf ByteArray.empty f x7 = s := rdOf_at _ f x7 d rest s hfd h7
    have hKu : K.length = u.length + (r.length + 1) := by rw [hu]; simp
    have hw8 : wrap64 (x8 + 1) = x8 + 1 := wrap_in (by omega) (by omega)
    have hx : rdOf ByteArray.empty K x8 = x := rdOf_at _ K x8 u r x hu h8
    refine Ev.succ ?_
    simp only [tripartiteref01_Number.l2, hf, hs, hw, hw8, hx]
    refine Ev.pos (by omega) (Ev.pos (by omega) (Ev.pos h5 (Ev.pos h5' (Ev.pos (by omega) (Ev.pos (by omega) ?_)))))
    by_cases he : x.toList = s.toList
    · have he' : x.data.toList = s.data.toList := by rw [← bytes_toList, ← bytes_toList, he]
      have hmem : s.data.toList ∈ dataL K := by rw [hu, ← he']; simp [dataL]
      have hnk : nK K s = K := by unfold nK; rw [if_pos hmem]
      have hnum : numOf (dataL K) s = x8 := by
        unfold numOf
        have : dataL K = dataL u ++ s.data.toList :: dataL r := by rw [hu]; simp [dataL, he']
        rw [this, idx_first s (dataL u) (dataL r) (fun y hy => by obtain ⟨z, hz, e⟩ := List.mem_map.1 hy; rw [← e]; exact hn z hz)]
        simp [dataL, h8]
      rw [hnk, hnum] at next
      exact Ev.pos he (Ev.neg (by omega) (Ev.pos (by omega) next))
    · refine Ev.neg he ?_
      exact num_l2 hf h5 h5' hfd h7 hK h6 hfl next r (u ++ [x]) (x8 + 1) (by rw [hu]; simp) (fun y hy => by
        rcases List.mem_append.1 hy with hy | hy
        · exact hn y hy
        · rw [List.mem_singleton.1 hy]; exact fun e => he (by rw [bytes_toList, bytes_toList, e])) (by simp; omega)
theorem num_l1 {x0 : List (List ByteArray)} {x4 : List (List Int)} {x5 : Int} {V : List (List Int)} {f : List ByteArray} (hf : rd_L1 x0 x5 = f) (h5 : 0 ≤ x5) (h5' : x5 < x0.length) (hN : x0.length ≤ 4000000000) (h4 : x4.length ≤ 4000000000) (hfl : f.length ≤ 2000000000) :
    ∀ (rest d : List ByteArray) (K : List ByteArray) (x6 : List Int) (x7 : Int), f = d ++ rest → x7 = d.length → x6.length = d.length → K.length + rest.length ≤ 4000000000 →
      Ev (fun k => tripartiteref01_Number.l0 k x0 (nKrow K rest) (x4 ++ [x6 ++ numRow (dataL K) rest]) (x5 + 1)) V →
      Ev (fun k => tripartiteref01_Number.l1 k x0 K x4 x5 x6 x7) V
  | [], d, K, x6, x7, hd, h7, h6, hK, next => by
    have hsz : f.length = d.length := by rw [hd]; simp
    have hw : wrap64 (x5 + 1) = x5 + 1 := wrap_in (by omega) (by omega)
    refine Ev.succ ?_
    simp only [tripartiteref01_Number.l1, hf, hw]
    refine Ev.pos h5 (Ev.pos h5' (Ev.neg (by omega) (Ev.pos (by omega) ?_)))
    simpa [nKrow, numRow] using next
  | s :: rest, d, K, x6, x7, hd, h7, h6, hK, next => by
    have hsz : f.length = d.length + (rest.length + 1) := by rw [hd]; simp
    have hKl := nK_length K s
    simp only [List.length_cons] at hK
    refine Ev.succ ?_
    simp only [tripartiteref01_Number.l1, hf]
    refine Ev.pos h5 (Ev.pos h5' (Ev.pos (by omega) ?_))
    refine num_l2 hf h5 h5' hd h7 (by omega) (by omega) (by omega) ?_ K [] 0 rfl (fun x hx => (by cases hx)) rfl
    refine num_l1 hf h5 h5' hN h4 hfl rest (d ++ [s]) (nK K s) _ (x7 + 1) (by rw [hd]; simp) (by simp; omega) (by simp; omega) (by omega) ?_
    rw [nK_data]
    simpa [nKrow, numRow] using next
theorem num_l0 (x0 : List (List ByteArray)) (hN : x0.length ≤ 4000000000) (hf : ∀ f ∈ x0, f.length ≤ 2000000000) : ∀ (rest d : List (List ByteArray)) (K : List ByteArray) (x4 : List (List Int)) (x5 : Int),
    x0 = d ++ rest → x5 = d.length → x4.length = d.length → K.length + total rest ≤ 4000000000 → Ev (fun k => tripartiteref01_Number.l0 k x0 K x4 x5) (x4 ++ numAll (dataL K) rest)
  | [], d, K, x4, x5, hd, h5, h4, hK => by
    refine Ev.succ ?_
    simp only [tripartiteref01_Number.l0]
    refine Ev.neg (by rw [hd]; simp; omega) (Ev.val (by simp [numAll]))
  | f :: rest, d, K, x4, x5, hd, h5, h4, hK => by
    have hsz : x0.length = d.length + (rest.length + 1) := by rw [hd]; simp
    have ht : total (f :: rest) = f.length + total rest := by simp [total]
    have hkl := nKrow_length f K
    have hrd : rd_L1 x0 x5 = f := by unfold rd_L1; subst h5 hd; simp [List.getD_eq_getElem?_getD]
    refine Ev.succ ?_
    simp only [tripartiteref01_Number.l0]
    refine Ev.pos (by omega) ?_
    refine num_l1 hrd (by omega) (by omega) hN (by omega) (hf f (by rw [hd]; simp)) f [] K [] 0 rfl rfl rfl (by omega) ?_
    have := num_l0 x0 hN hf rest (d ++ [f]) (nKrow K f) (x4 ++ [numRow (dataL K) f]) (x5 + 1) (by rw [hd]; simp) (by simp; omega) (by simp; omega) (by omega)
    rw [nKrow_data] at this
    simpa [numAll] using this
theorem ev_ref_number (x0 : List (List ByteArray)) (hN : x0.length ≤ 4000000000) (hf : ∀ f ∈ x0, f.length ≤ 2000000000) (ht : total x0 ≤ 4000000000) : Ev (fun k => tripartiteref01_Number.f k x0) (numberB x0) :=
  num_l0 x0 hN hf x0 [] [] [] 0 rfl rfl rfl (by simpa using ht)
theorem same_ints_in (a : List Int) (hn : a.length ≤ 4000000000) : ∀ (r d : List Int) (i : Int), a = d ++ r → i = d.length → Ev (fun k => tripartiteref01_SameInts.l0 k a a i) true
  | [], d, i, ha, ei => by
    refine Ev.succ ?_
    simp only [tripartiteref01_SameInts.l0]
    exact Ev.neg (by rw [ha]; simp; omega) (Ev.val rfl)
  | x :: r, d, i, ha, ei => by
    have hsz : a.length = d.length + (r.length + 1) := by rw [ha]; simp
    have hw : wrap64 (i + 1) = i + 1 := wrap_in (by omega) (by omega)
    refine Ev.succ ?_
    simp only [tripartiteref01_SameInts.l0, hw]
    refine Ev.pos (by omega) (Ev.pos (by omega) (Ev.pos (by omega) (Ev.pos (by trivial) ?_)))
    exact same_ints_in a hn r (d ++ [x]) (i + 1) (by rw [ha]; simp) (by simp; omega)
theorem ev_same_ints (a : List Int) (hn : a.length ≤ 4000000000) : Ev (fun k => tripartiteref01_SameInts.f k a a) true := by
  unfold tripartiteref01_SameInts.f
  exact Ev.pos rfl (same_ints_in a hn a [] 0 rfl rfl)
theorem longI_from : ∀ (l : List ByteArray) (n m : Int), 0 ≤ n → 0 ≤ m → longI l (mx n m) = mx n (longI l m)
  | [], n, m, _, _ => rfl
  | s :: l, n, m, h, hm => by
    have hr := runI_nonneg s
    have e : mx (mx n m) (runI s) = mx n (mx m (runI s)) := by unfold mx; (repeat' split) <;> omega
    have h0 : 0 ≤ mx m (runI s) := by unfold mx; split <;> omega
    show longI l (mx (mx n m) (runI s)) = mx n (longI l (mx m (runI s)))
    rw [e, longI_from l n (mx m (runI s)) h h0]
theorem longI_nonneg (l : List ByteArray) : ∀ n : Int, 0 ≤ n → 0 ≤ longI l n := by
  induction l with
  | nil => intro n h; exact h
  | cons s l ih =>
    intro n h
    refine ih (mx n (runI s)) ?_
    unfold mx; have := runI_nonneg s; split <;> omega
theorem long_three (a b c : List ByteArray) : longAll [a, b, c] 0 = mx (mx (longI a 0) (longI b 0)) (longI c 0) := by
  have h0 := longI_nonneg a 0 (Int.le_refl 0)
  have h1 := longI_nonneg b 0 (Int.le_refl 0)
  have e1 : longI b (longI a 0) = mx (longI a 0) (longI b 0) := by
    have := longI_from b (longI a 0) 0 h0 (Int.le_refl 0)
    rwa [show mx (longI a 0) 0 = longI a 0 from by unfold mx; split <;> omega] at this
  have h2 : 0 ≤ mx (longI a 0) (longI b 0) := by unfold mx; split <;> omega
  show longI c (longI b (longI a 0)) = _
  rw [e1]
  have := longI_from c (mx (longI a 0) (longI b 0)) 0 h2 (Int.le_refl 0)
  rwa [show mx (mx (longI a 0) (longI b 0)) 0 = mx (longI a 0) (longI b 0) from by generalize mx (longI a 0) (longI b 0) = q at h2 ⊢; unfold mx; split <;> omega] at this
theorem numRow_length : ∀ (l : List ByteArray) (kn : List (List UInt8)), (numRow kn l).length = l.length
  | [], _ => rfl
  | s :: l, kn => by simp [numRow, numRow_length l]
end Go.Proofs.Ytfiamddinkokbaa.F
end

section
set_option linter.unusedVariables false
set_option linter.unusedSimpArgs false
namespace Go.Proofs.Ytfiamddinkokbaa.F
open Go.RowKit Go.Proofs.YtfiamddinkokbaaW.PrintWords Go.Proofs.YtfiamddinkokbaaW.PrintLast Go.Proofs.YtfiamddinkokbaaW.PrintMore
set_option linter.unusedVariables false
set_option linter.unusedSimpArgs false
theorem linesNumbers_calls (A0 A1 A2 : Option Addr) (c0 c1 c2 : Nat) (l0 l1 l2 : List ByteArray) (w : World) (h3 : Three w A0 A1 A2 c0 c1 c2 l0 l1 l2) (n0 : l0.length ≤ 8796093021952) (n1 : l1.length ≤ 8796093021952) (n2 : l2.length ≤ 8796093021952) :
    Calls Try.prog 7 #[.slice A0 l0.length c0, .slice A1 l1.length c1, .slice A2 l2.length c2] w fun e w' => e = .returned (.bool true) ∧ Below w.heap.size w w' := by
  have E0 := ev_few01 l0 (by omega)
  have E1 := ev_few01 l1 (by omega)
  have E2 := ev_few01 l2 (by omega)
  by_cases hb : (fewL l0 && (fewL l1 && fewL l2)) = true
  · simp only [Bool.and_eq_true] at hb
    obtain ⟨b0, b1, b2⟩ := hb
    obtain ⟨m0, s0, _⟩ := fewL_true b0
    obtain ⟨m1, s1, _⟩ := fewL_true b1
    obtain ⟨m2, s2, _⟩ := fewL_true b2
    rw [b0] at E0; rw [b1] at E1; rw [b2] at E2
    have hs : ∀ f ∈ [l0, l1, l2], ∀ s ∈ f, s.size ≤ 4000000000 := by
      intro f hf s hs
      simp at hf
      rcases hf with rfl | rfl | rfl
      · have := s0 s hs; omega
      · have := s1 s hs; omega
      · have := s2 s hs; omega
    have hl : ∀ f ∈ [l0, l1, l2], f.length ≤ 200 := by
      intro f hf
      simp at hf
      rcases hf with rfl | rfl | rfl <;> omega
    have ht : total [l0, l1, l2] ≤ 4000000000 := by simp [total]; omega
    obtain ⟨r0, r1, r2, hN, z0, z1, z2⟩ : ∃ r0 r1 r2, numberB [l0, l1, l2] = [r0, r1, r2] ∧ r0.length = l0.length ∧ r1.length = l1.length ∧ r2.length = l2.length := ⟨_, _, _, rfl, numRow_length _ _, numRow_length _ _, numRow_length _ _⟩
    have EN : lines_Number.f [l0, l1, l2] = some [r0, r1, r2] := by
      unfold lines_Number.f; rw [if_pos ⟨hs, ht, by simp⟩, hN]
    have ER := ev_ref_number [l0, l1, l2] (by simp) (fun f hf => by have := hl f hf; omega) ht
    rw [hN] at ER
    have EL := lines_longest [l0, l1, l2] (by simp) (fun f hf => by have := hl f hf; omega) hs
    rw [long_three] at EL
    have F0 := ref_longest l0 (by omega) (hs l0 (by simp))
    have F1 := ref_longest l1 (by omega) (hs l1 (by simp))
    have F2 := ref_longest l2 (by omega) (hs l2 (by simp))
    have S0 := ev_same_ints r0 (by omega)
    have S1 := ev_same_ints r1 (by omega)
    have S2 := ev_same_ints r2 (by omega)
    have X : ∀ (l : List ByteArray), (∀ s ∈ l, s.size ≤ 4000000000) → ∃ K, ∀ k, K ≤ k → ∀ s ∈ l, tripartiteref01_Run.f k s = some (runI s) := by
      intro l
      induction l with
      | nil => intro _; exact ⟨0, fun k _ s hs => (by cases hs)⟩
      | cons x l ih =>
        intro hl
        obtain ⟨K, hK⟩ := ih (fun s hs => hl s (by simp [hs]))
        obtain ⟨L, hL⟩ := ref_run x (hl x (by simp))
        refine ⟨max K L, fun k hk s hs => ?_⟩
        rcases List.mem_cons.1 hs with rfl | hs
        · exact hL k (by omega)
        · exact hK k (by omega) s hs
    obtain ⟨K, hX⟩ := X l0 (hs l0 (by simp))
    obtain ⟨k0, h0⟩ := E0
    obtain ⟨k1, h1⟩ := E1
    obtain ⟨k2, h2⟩ := E2
    obtain ⟨kr, hr⟩ := ER
    obtain ⟨kl, hll⟩ := EL
    obtain ⟨g0, f0⟩ := F0
    obtain ⟨g1, f1⟩ := F1
    obtain ⟨g2, f2⟩ := F2
    obtain ⟨p0, q0⟩ := S0
    obtain ⟨p1, q1⟩ := S1
    obtain ⟨p2, q2⟩ := S2
    have big : ∃ k, K ≤ k ∧ k0 ≤ k ∧ k1 ≤ k ∧ k2 ≤ k ∧ kr ≤ k ∧ kl ≤ k ∧ g0 ≤ k ∧ g1 ≤ k ∧ g2 ≤ k ∧ p0 ≤ k ∧ p1 ≤ k ∧ p2 ≤ k := ⟨K + k0 + k1 + k2 + kr + kl + g0 + g1 + g2 + p0 + p1 + p2, by omega⟩
    obtain ⟨k, a1, a2, a3, a4, a5, a6, a7, a8, a9, a10, a11, a12⟩ := big
    refine numbers_few k A0 A1 A2 c0 c1 c2 l0 l1 l2 r0 r1 r2 _ _ _ w h3 (h0 k a2) (h1 k a3) (h2 k a4) EN (hr k a5) (hll k a6) (f0 k a7) (f1 k a8) (f2 k a9) ?_ ?_
    · intro r hr
      simp at hr
      rcases hr with rfl | rfl | rfl
      · exact q0 k a10
      · exact q1 k a11
      · exact q2 k a12
    · intro s hm
      exact ⟨_, lines_run s (hs l0 (by simp) s hm), hX k a1 s hm⟩
  · obtain ⟨k0, h0⟩ := E0
    obtain ⟨k1, h1⟩ := E1
    obtain ⟨k2, h2⟩ := E2
    have big : ∃ k, k0 ≤ k ∧ k1 ≤ k ∧ k2 ≤ k := ⟨k0 + k1 + k2, by omega⟩
    obtain ⟨k, a1, a2, a3⟩ := big
    exact numbers_many k A0 A1 A2 c0 c1 c2 l0 l1 l2 _ _ _ w h3.hr0 h3.hc0 h3.hr1 h3.hc1 h3.hr2 h3.hc2 (h0 k a1) (h1 k a2) (h2 k a3) (by simpa using hb)
#print axioms linesNumbers_calls
end Go.Proofs.Ytfiamddinkokbaa.F
end
