/- Texts joined into one file (wip/tools/pack.py): Pure01, Pure07, PureDocWidths -/
import Derived.Test.YtfiamddinkokbaaDW3
import Derived.Test.YtfiamddinkokbaaDW1
/- Layer 1's document: Split, Run, Longest come to what lines.Split, lines.Run come to. -/
section
set_option linter.unusedVariables false
set_option linter.unusedSimpArgs false
namespace Go.Proofs.Ytfiamddinkokbaa.F
open Go.RowKit Go.Proofs.YtfiamddinkokbaaW.PrintWords Go.Proofs.YtfiamddinkokbaaW.PrintLast Go.Proofs.YtfiamddinkokbaaW.PrintMore
set_option linter.unusedVariables false
set_option linter.unusedSimpArgs false

theorem takeLine_line : ∀ (p : List UInt8) (rest : List UInt8), (10 : UInt8) ∉ p → takeLine (p ++ 10 :: rest) = p ++ [10] ∧ dropLine (p ++ 10 :: rest) = rest
  | [], rest, _ => by simp [takeLine, dropLine]
  | c :: p, rest, h => by
    have hc : c ≠ 10 := fun e => h (by simp [e])
    have ih := takeLine_line p rest (fun e => h (by simp [e]))
    simp [takeLine, dropLine, hc, ih.1, ih.2]
theorem splitL_line (p : List UInt8) (rest : List UInt8) (h : (10 : UInt8) ∉ p) : splitL (p ++ 10 :: rest) = (p ++ [10]) :: splitL rest := by
  rw [splitL_next _ (by simp), (takeLine_line p rest h).1, (takeLine_line p rest h).2]
theorem splitL_last : ∀ (p : List UInt8), p ≠ [] → (10 : UInt8) ∉ p → splitL p = [p]
  | [], hp, _ => absurd rfl hp
  | c :: p, _, h => by
    have hc : c ≠ 10 := fun e => h (by simp [e])
    by_cases hp : p = []
    · subst hp; simp [splitL, hc]
    · have ih := splitL_last p hp (fun e => h (by simp [e]))
      simp [splitL, hc, ih]

theorem byte_ne {c : UInt8} {n : Nat} (hn : n < 256) (h : ¬ (c.toNat : Int) = n) : c ≠ (UInt8.ofNat n) := fun e => h (by rw [e]; simp [UInt8.toNat_ofNat]; omega)
theorem byte_eq {c : UInt8} {n : Nat} (hn : n < 256) (h : (c.toNat : Int) = n) : c = (UInt8.ofNat n) := UInt8.toNat.inj (by simp; omega)

theorem split_l0 (a : ByteArray) (hs : a.size ≤ 4000000000) : ∀ (rest done p : List UInt8) (x3 : List ByteArray) (s i : Int), a.data.toList = done ++ p ++ rest → (10 : UInt8) ∉ p → x3.length ≤ done.length → (rest = [] → p = []) →
    s = done.length → i = done.length + p.length → Ev (fun k => tripartiteref01_Split.l0 k a x3 s i) (x3 ++ (splitL (p ++ rest)).map toB)
  | [], done, p, x3, s, i, ha, hp, hx, hr, es, ei => by
    obtain rfl := hr rfl
    have hsz : a.size = done.length := by rw [← size_data, ha]; simp
    refine Ev.succ ?_
    simp only [tripartiteref01_Split.l0]
    refine Ev.neg (by simp at ei; omega) (Ev.val (by simp [splitL]))
  | c :: rest, done, p, x3, s, i, ha, hp, hx, hr, es, ei => by
    have hsz : a.size = done.length + p.length + (rest.length + 1) := by rw [← size_data, ha]; simp; omega
    have hw : wrap64 (i + 1) = i + 1 := wrap_in (by omega) (by omega)
    have hb : bt a i = (c.toNat : Int) := bt_at a i (done ++ p) rest c (by rw [ha]) (by simp; omega)
    have hex : a.extract (s : Int).toNat (i + 1 : Int).toNat = toB (p ++ [c]) := extract_at a s (i + 1) done (p ++ [c]) rest (by rw [ha]; simp) es (by simp; omega)
    refine Ev.succ ?_
    simp only [tripartiteref01_Split.l0, hw, hb, hex]
    refine Ev.pos (by omega) (Ev.pos (by omega) ?_)
    by_cases hc : (c.toNat : Int) = 10
    · have hc' : c = 10 := byte_eq (n := 10) (by decide) hc
      subst hc'
      refine Ev.pos hc (Ev.pos (by omega) (Ev.pos (by omega) (Ev.pos (by omega) (Ev.pos (by omega) ?_))))
      refine (split_l0 a hs rest (done ++ p ++ [10]) [] _ _ _ (by rw [ha]; simp) (by simp) (by simp; omega) (fun _ => rfl) (by simp; omega) (by simp; omega)).cast ?_
      rw [splitL_line p rest hp]; simp
    · have hc' : c ≠ 10 := byte_ne (n := 10) (by decide) hc
      refine Ev.neg hc ?_
      have hp' : (10 : UInt8) ∉ p ++ [c] := by simp [hp]; exact fun e => hc' e.symm
      cases rest with
      | nil =>
        refine Ev.pos (by simp at hsz; omega) (Ev.pos (by omega) (Ev.pos (by omega) (Ev.pos (by omega) (Ev.pos (by omega) ?_))))
        refine (split_l0 a hs [] (done ++ p ++ [c]) [] _ _ _ (by rw [ha]; simp) (by simp) (by simp; omega) (fun _ => rfl) (by simp; omega) (by simp; omega)).cast ?_
        rw [splitL_last (p ++ [c]) (by simp) hp']; simp [splitL]
      | cons d rest =>
        refine Ev.neg (by simp at hsz; omega) ?_
        refine (split_l0 a hs (d :: rest) done (p ++ [c]) _ _ _ (by rw [ha]; simp) hp' hx (fun h => by cases h) es (by simp; omega)).cast ?_
        simp
theorem ref_split (a : ByteArray) (hs : a.size ≤ 4000000000) : Ev (fun k => tripartiteref01_Split.f k a) (splitB a) :=
  (split_l0 a hs a.data.toList [] [] [] 0 0 (by simp) (by simp) (by simp) (fun _ => rfl) rfl rfl).cast (by simp [splitB])

def runI (s : ByteArray) : Int := (runL s.data.toList : Nat)
theorem isEmpty_toList (s : ByteArray) : s.toList = [] ↔ s.data.toList = [] := by rw [bytes_toList]

/-- How many times c stands at l's begin. -/
theorem cut_snoc (c : UInt8) : ∀ l : List UInt8, l.length = (l.takeWhile (· == c)).length + (cutL c l).length := by
  intro l
  have := congrArg List.length (List.takeWhile_append_dropWhile (p := fun x => x == c) (l := l))
  rw [List.length_append] at this
  exact this.symm

theorem run_l0 (a : ByteArray) (hs : a.size ≤ 4000000000) (c0 : UInt8) (t : List UInt8) (h0 : a.data.toList = c0 :: t) : ∀ (rest done : List UInt8) (i : Int), a.data.toList = done ++ rest → (∀ x ∈ done, x = c0) → i = done.length →
    Ev (fun k => tripartiteref01_Run.l0 k a i) ((a.size - (cutL c0 a.data.toList).length : Nat) : Int)
  | [], done, i, ha, hd, ei => by
    have hsz : a.size = done.length := by rw [← size_data, ha]; simp
    refine Ev.succ ?_
    simp only [tripartiteref01_Run.l0]
    refine Ev.neg (by omega) (Ev.val ?_)
    have : cutL c0 a.data.toList = [] := by
      rw [ha, List.append_nil]; unfold cutL; rw [← List.append_nil done, List.dropWhile_append_of_pos (fun x hx => by simp [hd x hx])]; rfl
    rw [this]; simp; omega
  | c :: rest, done, i, ha, hd, ei => by
    have hsz : a.size = done.length + (rest.length + 1) := by rw [← size_data, ha]; simp
    have hw : wrap64 (i + 1) = i + 1 := wrap_in (by omega) (by omega)
    have hb : bt a i = (c.toNat : Int) := bt_at a i done rest c ha ei
    have hb0 : bt a 0 = (c0.toNat : Int) := bt_at a 0 [] t c0 h0 rfl
    refine Ev.succ ?_
    simp only [tripartiteref01_Run.l0, hw, hb, hb0]
    refine Ev.pos (by omega) (Ev.pos (by omega) (Ev.pos (by omega) ?_))
    by_cases hc : (c.toNat : Int) = (c0.toNat : Int)
    · have hc' : c = c0 := UInt8.toNat.inj (by omega)
      refine Ev.pos hc ?_
      exact run_l0 a hs c0 t h0 rest (done ++ [c]) (i + 1) (by rw [ha]; simp) (fun x hx => by
        rcases List.mem_append.1 hx with h | h
        · exact hd x h
        · rw [List.mem_singleton.1 h]; exact hc') (by simp; omega)
    · refine Ev.neg hc (Ev.val ?_)
      have hc' : c ≠ c0 := fun e => hc (by rw [e])
      have : cutL c0 a.data.toList = c :: rest := by
        unfold cutL
        rw [ha, List.dropWhile_append_of_pos (fun x hx => by simp [hd x hx])]
        have : (c == c0) = false := by simpa using hc'
        simp [List.dropWhile, this]
      rw [this]; simp; omega

theorem ref_run (a : ByteArray) (hs : a.size ≤ 4000000000) : Ev (fun k => tripartiteref01_Run.f k a) (runI a) := by
  unfold tripartiteref01_Run.f
  by_cases he : a.toList = []
  · refine Ev.pos he (Ev.succ ?_)
    simp only [tripartiteref01_Run.j0]
    refine Ev.pos (by trivial) (Ev.val ?_)
    unfold runI; rw [(isEmpty_toList a).1 he]; rfl
  · refine Ev.neg he ?_
    obtain ⟨c, t, h⟩ : ∃ c t, a.data.toList = c :: t := List.exists_cons_of_ne_nil (fun e => he ((isEmpty_toList a).2 e))
    have hsz : a.size = t.length + 1 := by rw [← size_data, h]; simp
    have hb0 : bt a 0 = (c.toNat : Int) := bt_at a 0 [] t c h rfl
    have hl := run_l0 a hs c t h a.data.toList [] 0 (by simp) (by simp) rfl
    have key : ∀ b : Bool, (b = false ↔ isSign c = true) → Ev (fun k => tripartiteref01_Run.j0 k a b) (runI a) := by
      intro b hb
      refine Ev.succ ?_
      simp only [tripartiteref01_Run.j0]
      cases b with
      | true =>
        refine Ev.pos (by trivial) (Ev.val ?_)
        have : isSign c = false := by
          cases hq : isSign c with
          | false => rfl
          | true => exact absurd (hb.2 hq) (by decide)
        unfold runI runL; rw [h]; simp [this]
      | false =>
        refine Ev.neg (by decide) (hl.cast ?_)
        have := hb.1 rfl
        unfold runI runL; rw [h]; simp [this, hsz]
    have s60 : ∀ n : Nat, n < 256 → (c.toNat : Int) = n → c = UInt8.ofNat n := fun n hn e => byte_eq hn e
    simp only [hb0]
    refine Ev.pos (by omega) ?_
    by_cases h60 : (c.toNat : Int) = 60
    · refine Ev.pos h60 (key _ ?_); rw [s60 60 (by decide) h60]; decide
    refine Ev.neg h60 ?_
    by_cases h124 : (c.toNat : Int) = 124
    · refine Ev.pos h124 (key _ ?_); rw [s60 124 (by decide) h124]; decide
    refine Ev.neg h124 ?_
    by_cases h61 : (c.toNat : Int) = 61
    · refine Ev.pos h61 (key _ ?_); rw [s60 61 (by decide) h61]; decide
    refine Ev.neg h61 (key _ ?_)
    have n60 := byte_ne (c := c) (n := 60) (by decide) h60
    have n124 := byte_ne (c := c) (n := 124) (by decide) h124
    have n61 := byte_ne (c := c) (n := 61) (by decide) h61
    have e : isSign c = (c == 62) := by
      unfold isSign
      rw [show (c == 60) = false from by simpa using n60, show (c == 124) = false from by simpa using n124, show (c == 61) = false from by simpa using n61]; simp
    rw [e]
    by_cases h62 : (c.toNat : Int) = 62
    · have := s60 62 (by decide) h62
      rw [this]; decide
    · have n62 := byte_ne (c := c) (n := 62) (by decide) h62
      have h1 : (c == 62) = false := by simpa using n62
      rw [h1]
      have h2 : ((c.toNat : Int) != 62) = true := by simpa using h62
      rw [h2]; simp

def longI (l : List ByteArray) (n : Int) : Int := l.foldl (fun n s => mx n (runI s)) n
theorem longest_l0 (l : List ByteArray) (hn : l.length ≤ 4000000000) (hs : ∀ s ∈ l, s.size ≤ 4000000000) : ∀ (rest done : List ByteArray) (x i : Int), l = done ++ rest → i = done.length → Ev (fun k => tripartiteref01_Longest.l0 k l x i) (longI rest x)
  | [], done, x, i, hl, ei => by
    refine Ev.succ ?_
    simp only [tripartiteref01_Longest.l0]
    refine Ev.neg (by rw [hl]; simp; omega) (Ev.val rfl)
  | s :: rest, done, x, i, hl, ei => by
    have hsz : l.length = done.length + (rest.length + 1) := by rw [hl]; simp
    have hw : wrap64 (i + 1) = i + 1 := wrap_in (by omega) (by omega)
    have hb : rdOf ByteArray.empty l i = s := rdOf_at _ l i done rest s hl ei
    refine Ev.succ ?_
    simp only [tripartiteref01_Longest.l0, hw, hb]
    refine Ev.pos (by omega) (Ev.pos (by omega) (Ev.bind (ref_run s (hs s (by rw [hl]; simp))) ?_))
    exact longest_l0 l hn hs rest (done ++ [s]) _ (i + 1) (by rw [hl]; simp) (by simp; omega)
theorem ref_longest (l : List ByteArray) (hn : l.length ≤ 4000000000) (hs : ∀ s ∈ l, s.size ≤ 4000000000) : Ev (fun k => tripartiteref01_Longest.f k l) (longI l 0) :=
  longest_l0 l hn hs l [] 0 0 rfl rfl

theorem lines_run (a : ByteArray) (hs : a.size ≤ 4000000000) : lines_Run.f a = some (runI a) := by unfold lines_Run.f; rw [if_pos hs]; rfl
theorem lines_split (a : ByteArray) (hs : a.size ≤ 4000000000) : lines_Split.f a = some (splitB a) := by unfold lines_Split.f; rw [if_pos hs]

def longAll (ls : List (List ByteArray)) (n : Int) : Int := ls.foldl (fun n l => longI l n) n
theorem lines_longest_in (ls : List (List ByteArray)) (hN : ls.length ≤ 4000000000) (hn : ∀ l ∈ ls, l.length ≤ 4000000000) (hs : ∀ l ∈ ls, ∀ s ∈ l, s.size ≤ 4000000000) :
    ∀ (rest done : List (List ByteArray)) (x i : Int), ls = done ++ rest → i = done.length → Ev (fun k => lines_Longest.l0 k x ls (ls.length : Int) i) (longAll rest x)
  | [], done, x, i, hl, ei => by
    refine Ev.succ ?_
    simp only [lines_Longest.l0]
    refine Ev.neg (by rw [hl]; simp; omega) (Ev.val rfl)
  | l :: rest, done, x, i, hl, ei => by
    have hsz : ls.length = done.length + (rest.length + 1) := by rw [hl]; simp
    have hw : wrap64 (i + 1) = i + 1 := wrap_in (by omega) (by omega)
    have hb : rd_L1 ls i = l := by
      unfold rd_L1; subst ei hl; simp [List.getD_eq_getElem?_getD]
    refine Ev.succ ?_
    simp only [lines_Longest.l0, hb]
    refine Ev.pos (by omega) (Ev.pos (by omega) (Ev.pos (by omega) ?_))
    have hm : l ∈ ls := by rw [hl]; simp
    have inner : ∀ (r d : List ByteArray) (x j : Int), l = d ++ r → j = d.length → Ev (fun k => lines_Longest.l1 k x ls (ls.length : Int) i l (l.length : Int) j) (longAll rest (longI r x)) := by
      intro r
      induction r with
      | nil =>
        intro d x j hd ej
        refine Ev.succ ?_
        simp only [lines_Longest.l1, hw]
        refine Ev.neg (by rw [hd]; simp; omega) ?_
        exact lines_longest_in ls hN hn hs rest (done ++ [l]) _ (i + 1) (by rw [hl]; simp) (by simp; omega)
      | cons s r ih =>
        intro d x j hd ej
        have hll := hn l hm
        have hsl : l.length = d.length + (r.length + 1) := by rw [hd]; simp
        have hwj : wrap64 (j + 1) = j + 1 := wrap_in (by omega) (by omega)
        have hbj : rdOf ByteArray.empty l j = s := rdOf_at _ l j d r s hd ej
        refine Ev.succ ?_
        simp only [lines_Longest.l1, hwj, hbj]
        refine Ev.pos (by omega) (Ev.pos (by omega) (Ev.pos (by omega) (Ev.bind (Ev.const (lines_run s (hs l hm s (by rw [hd]; simp)))) ?_)))
        exact ih (d ++ [s]) _ (j + 1) (by rw [hd]; simp) (by simp; omega)
    exact inner l [] x 0 rfl rfl
theorem lines_longest (ls : List (List ByteArray)) (hN : ls.length ≤ 4000000000) (hn : ∀ l ∈ ls, l.length ≤ 4000000000) (hs : ∀ l ∈ ls, ∀ s ∈ l, s.size ≤ 4000000000) :
    Ev (fun k => lines_Longest.f k ls) (longAll ls 0) := lines_longest_in ls hN hn hs ls [] 0 0 rfl rfl

theorem splitL_mem : ∀ (l : List UInt8) (x : List UInt8), x ∈ splitL l → x.length ≤ l.length := by
  intro l
  induction h : l.length using Nat.strongRecOn generalizing l with
  | ind n ih =>
    intro x hx
    by_cases hl : l = []
    · subst hl; simp [splitL] at hx
    · rw [splitL_next l hl] at hx
      have ht := congrArg List.length (take_drop_line l)
      rw [List.length_append] at ht
      rcases List.mem_cons.1 hx with rfl | hx
      · omega
      · have hpos : 0 < (takeLine l).length := by
          cases l with
          | nil => exact absurd rfl hl
          | cons c t => simp only [takeLine]; split <;> simp
        have := ih (dropLine l).length (by omega) (dropLine l) rfl x hx
        omega
theorem splitB_length (s : ByteArray) : (splitB s).length ≤ s.size := by
  unfold splitB; rw [List.length_map, ← size_data]; exact splitL_length_le _
theorem splitB_mem (s x : ByteArray) (h : x ∈ splitB s) : x.size ≤ s.size := by
  obtain ⟨y, hy, rfl⟩ := List.mem_map.1 h
  rw [size_toB, ← size_data]; exact splitL_mem _ _ hy

/-- runs are no longer than lines. -/
theorem runI_nonneg (s : ByteArray) : 0 ≤ runI s := by unfold runI; omega
theorem runI_le (s : ByteArray) : runI s ≤ s.size := by unfold runI; have := runL_le s.data.toList; rw [size_data] at this; omega
theorem mx_cases (a b : Int) : mx a b = a ∧ b ≤ a ∨ mx a b = b ∧ a ≤ b := by unfold mx; split <;> omega
theorem longI_bound (M : Int) : ∀ (l : List ByteArray) (n : Int), n ≤ M → (∀ s ∈ l, runI s ≤ M) → n ≤ longI l n ∧ longI l n ≤ M
  | [], n, h, _ => ⟨Int.le_refl n, h⟩
  | s :: l, n, h, hs => by
    have h1 := hs s (by simp)
    have h2 : n ≤ mx n (runI s) ∧ mx n (runI s) ≤ M := by rcases mx_cases n (runI s) with ⟨e, _⟩ | ⟨e, _⟩ <;> omega
    have ih := longI_bound M l (mx n (runI s)) h2.2 (fun x hx => hs x (by simp [hx]))
    show n ≤ longI l (mx n (runI s)) ∧ longI l (mx n (runI s)) ≤ M
    omega
/-- of a text's lines the longest run. -/
def textRun (s : ByteArray) : Int := longI (splitB s) 0
theorem textRun_bound (s : ByteArray) : 0 ≤ textRun s ∧ textRun s ≤ s.size :=
  longI_bound s.size (splitB s) 0 (by omega) (fun x hx => by have h1 := runI_le x; have h2 := splitB_mem s x hx; omega)

end Go.Proofs.Ytfiamddinkokbaa.F
end

/- Layer 7: the widths. -/
section
set_option linter.unusedVariables false
set_option linter.unusedSimpArgs false
namespace Go.Proofs.Ytfiamddinkokbaa.F
open Go.RowKit Go.Proofs.YtfiamddinkokbaaW.PrintWords Go.Proofs.YtfiamddinkokbaaW.PrintLast Go.Proofs.YtfiamddinkokbaaW.PrintMore
set_option linter.unusedVariables false
set_option linter.unusedSimpArgs false

theorem ev_told07 : Ev (fun k => tripartitelaw07_told.f k) true := Ev.of_mono (fun k => tripartitelaw07_told.mono k) (k := 40) (by decide +kernel)

theorem ev_ref07_run (s : ByteArray) (hs : s.size ≤ 4000000000) : Ev (fun k => tripartiteref07_Run.f k s) (textRun s) := by
  unfold tripartiteref07_Run.f
  refine Ev.bind (ref_split s hs) (Ev.bind (ref_longest _ ?_ ?_) (Ev.val rfl))
  · have := splitB_length s; omega
  · intro x hx; have := splitB_mem s x hx; omega

def runAll (l : List ByteArray) (n : Int) : Int := l.foldl (fun n s => mx n (textRun s)) n
theorem doc_run_in (ls : List ByteArray) (hN : ls.length ≤ 4000000000) (hs : ∀ s ∈ ls, s.size ≤ 4000000000) :
    ∀ (rest done : List ByteArray) (x i : Int), ls = done ++ rest → i = done.length → Ev (fun k => doc_run.l0 k x ls (ls.length : Int) i) (runAll rest x)
  | [], done, x, i, hl, ei => by
    refine Ev.succ ?_
    simp only [doc_run.l0]
    refine Ev.neg (by rw [hl]; simp; omega) (Ev.val rfl)
  | s :: rest, done, x, i, hl, ei => by
    have hsz : ls.length = done.length + (rest.length + 1) := by rw [hl]; simp
    have hw : wrap64 (i + 1) = i + 1 := wrap_in (by omega) (by omega)
    have hb : rdOf ByteArray.empty ls i = s := rdOf_at _ ls i done rest s hl ei
    have hS : s.size ≤ 4000000000 := hs s (by rw [hl]; simp)
    refine Ev.succ ?_
    simp only [doc_run.l0, hw, hb]
    refine Ev.pos (by omega) (Ev.pos (by omega) (Ev.pos (by omega) (Ev.bind (Ev.const (lines_split s hS)) (Ev.bind (lines_longest [splitB s] (by simp) ?_ ?_) ?_))))
    · intro l hm; rw [List.mem_singleton.1 hm]; have := splitB_length s; omega
    · intro l hm; rw [List.mem_singleton.1 hm]; intro x hx; have := splitB_mem s x hx; omega
    · exact doc_run_in ls hN hs rest (done ++ [s]) _ (i + 1) (by rw [hl]; simp) (by simp; omega)
theorem ev_doc_run (ls : List ByteArray) (hN : ls.length ≤ 4000000000) (hs : ∀ s ∈ ls, s.size ≤ 4000000000) : Ev (fun k => doc_run.f k ls) (runAll ls 0) := doc_run_in ls hN hs ls [] 0 0 rfl rfl
theorem ev_doc_width (n : Int) (ls : List ByteArray) (hN : ls.length ≤ 4000000000) (hs : ∀ s ∈ ls, s.size ≤ 4000000000) : Ev (fun k => doc_Width.f k n ls) (mx n (wrap64 (runAll ls 0 + 1))) :=
  Ev.bind (ev_doc_run ls hN hs) (Ev.val rfl)

end Go.Proofs.Ytfiamddinkokbaa.F
end

/- DocWidths: what is printed comes to true. -/
section
set_option linter.unusedVariables false
set_option linter.unusedSimpArgs false
namespace Go.Proofs.Ytfiamddinkokbaa.F
open Go.RowKit Go.Proofs.YtfiamddinkokbaaW.PrintWords Go.Proofs.YtfiamddinkokbaaW.PrintLast Go.Proofs.YtfiamddinkokbaaW.PrintMore
set_option linter.unusedVariables false
set_option linter.unusedSimpArgs false

theorem mn_1000 (n : Nat) : 0 ≤ mn (n : Int) 1000 ∧ mn (n : Int) 1000 ≤ n ∧ mn (n : Int) 1000 ≤ 1000 := by unfold mn; split <;> omega
theorem cut_size (a : ByteArray) : (a.extract 0 (mn (a.size : Int) 1000).toNat).size ≤ 1000 := by
  have := mn_1000 a.size
  rw [ByteArray.size_extract]; omega

theorem pureDocWidths : tripartitelaw07_DocWidths.Pure := by
  intro a0 a1 a2 w0 h1 h2
  refine Ev.get ?_
  have m1 := mn_1000 a1.size
  have m2 := mn_1000 a2.size
  have c1 := cut_size a1
  have c2 := cut_size a2
  unfold tripartitelaw07_DocWidths.f
  generalize a1.extract 0 (mn (a1.size : Int) 1000).toNat = x1 at c1 ⊢
  generalize a2.extract 0 (mn (a2.size : Int) 1000).toNat = x2 at c2 ⊢
  have b1 := textRun_bound x1
  have b2 := textRun_bound x2
  have e1 : wrap64 (textRun x1 + 1) = textRun x1 + 1 := wrap_in (by omega) (by omega)
  have e2 : wrap64 (textRun x2 + 1) = textRun x2 + 1 := wrap_in (by omega) (by omega)
  refine Ev.pos (by omega) (Ev.pos (by omega) (Ev.pos (by omega) (Ev.pos (by omega) ?_)))
  refine Ev.bind (ev_doc_width a0 [x1, x2] (by simp) (by intro s hs; simp at hs; rcases hs with rfl | rfl <;> omega)) ?_
  refine Ev.bind ev_told07 (Ev.pos rfl ?_)
  refine Ev.bind (ev_ref07_run x1 (by omega)) (Ev.bind (ev_ref07_run x2 (by omega)) ?_)
  rw [e1, e2]
  refine Ev.pos ?_ (Ev.bind (ev_doc_width a0 [] (by simp) (by intro s hs; simp at hs)) (Ev.val ?_))
  · have : runAll [x1, x2] 0 = mx (mx 0 (textRun x1)) (textRun x2) := rfl
    rw [this]
    have h3 := mx_cases 0 (textRun x1)
    have h4 := mx_cases (mx 0 (textRun x1)) (textRun x2)
    rw [wrap_in (by omega) (by omega)]
    have h5 := mx_cases a0 (textRun x1 + 1)
    have h6 := mx_cases (mx a0 (textRun x1 + 1)) (textRun x2 + 1)
    have h7 := mx_cases a0 (mx (mx 0 (textRun x1)) (textRun x2) + 1)
    omega
  · show (mx a0 (wrap64 (0 + 1)) == mx a0 1) = true
    rw [wrap_in (by omega) (by omega)]; simp

end Go.Proofs.Ytfiamddinkokbaa.F
namespace Go.Proofs.Ytfiamddinkokbaa
theorem Pure.DocWidths : F.tripartitelaw07_DocWidths.Pure := F.pureDocWidths
end Go.Proofs.Ytfiamddinkokbaa
end
