/- Texts joined into one file (wip/tools/pack.py): Pure01, Fn31, Fn36, Fn37, Fn35, Fn81, Fn33, Fn82, Fn34, PureLines, Fn86, Fn95, Fn96, Fn154, Fn130, Fn98 -/
import Derived.Test.YtfiamddinkokbaaPB16
import Derived.Test.YtfiamddinkokbaaPB9
import Derived.Test.YtfiamddinkokbaaPB10
import Derived.Test.YtfiamddinkokbaaPB3
import Derived.Test.YtfiamddinkokbaaPB6
import Derived.Test.YtfiamddinkokbaaPB15
set_option linter.unusedVariables false
set_option linter.unusedSimpArgs false
section
namespace Go.Proofs.Ytfiamddinkokbaa.F
open Go.RowKit Go.Proofs.YtfiamddinkokbaaW.PrintWords Go.Proofs.YtfiamddinkokbaaW.PrintLast Go.Proofs.YtfiamddinkokbaaW.PrintMore
theorem takeLine_line : ∀ (p : List UInt8) (rest : List UInt8), (10 : UInt8) ∉ p → takeLine (p ++ 10 :: rest) = p ++ [10] ∧ dropLine (p ++ 10 :: rest) = rest
 | [], rest, _ => by simp [takeLine, dropLine]
 | c :: p, rest, h => by
  have hc : c ≠ 10 := fun e => h (by simp [e])
  have ih := takeLine_line p rest (fun e => h (by simp [e]))
  simp [takeLine, dropLine, hc, ih.1, ih.2]
theorem splitL_line (p : List UInt8) (rest : List UInt8) (h : (10 : UInt8) ∉ p) : splitL (p ++ 10 :: rest) = (p ++ [10]) :: splitL rest := by
 rw [splitL_next _ (by simp), (takeLine_line p rest h).1, (takeLine_line p rest h).2]
theorem splitL_last : ∀ (p : List UInt8), p ≠ [] → (10 : UInt8) ∉ p → splitL p = [p]
 | [], hp, _ => absurd rfl hp
 | c :: p, _, h => by
  have hc : c ≠ 10 := fun e => h (by simp [e])
  by_cases hp : p = []
  ·subst hp; simp [splitL, hc]
  ·have ih := splitL_last p hp (fun e => h (by simp [e]))
   simp [splitL, hc, ih]
theorem byte_ne {c : UInt8} {n : Nat} (hn : n < 256) (h : ¬ (c.toNat : Int) = n) : c ≠ (UInt8.ofNat n) := fun e => h (by rw [e]; simp [UInt8.toNat_ofNat]; omega)
theorem byte_eq {c : UInt8} {n : Nat} (hn : n < 256) (h : (c.toNat : Int) = n) : c = (UInt8.ofNat n) := UInt8.toNat.inj (by simp; omega)
theorem split_l0 (a : ByteArray) (hs : a.size ≤ 4000000000) : ∀ (rest done p : List UInt8) (x3 : List ByteArray) (s i : Int), a.data.toList = done ++ p ++ rest → (10 : UInt8) ∉ p → x3.length ≤ done.length → (rest = [] → p = []) →
  s = done.length → i = done.length + p.length → Ev (fun k => tripartiteref01_Split.l0 k a x3 s i) (x3 ++ (splitL (p ++ rest)).map toB)
 | [], done, p, x3, s, i, ha, hp, hx, hr, es, ei => by
  obtain rfl := hr rfl
  have hsz : a.size = done.length := by rw [← size_data, ha]; simp
  refine Ev.succ ?_
  simp only [tripartiteref01_Split.l0]
  refine Ev.neg (by simp at ei; omega) (Ev.val (by simp [splitL]))
 | c :: rest, done, p, x3, s, i, ha, hp, hx, hr, es, ei => by
  have hsz : a.size = done.length + p.length + (rest.length + 1) := by rw [← size_data, ha]; simp; omega
  have hw : wrap64 (i + 1) = i + 1 := wrap_in (by omega) (by omega)
  have hb : bt a i = (c.toNat : Int) := bytes_bt a i (done ++ p) rest c (by rw [ha]) (by simp; omega)
  have hex : a.extract (s : Int).toNat (i + 1 : Int).toNat = toB (p ++ [c]) := extract_at a s (i + 1) done (p ++ [c]) rest (by rw [ha]; simp) es (by simp; omega)
  refine Ev.succ ?_
  simp only [tripartiteref01_Split.l0, hw, hb, hex]
  refine Ev.pos (by omega) (Ev.pos (by omega) ?_)
  by_cases hc : (c.toNat : Int) = 10
  ·have hc' : c = 10 := byte_eq (n := 10) (by decide) hc
   subst hc'
   refine Ev.pos hc (Ev.pos (by omega) (Ev.pos (by omega) (Ev.pos (by omega) (Ev.pos (by omega) ?_))))
   refine (split_l0 a hs rest (done ++ p ++ [10]) [] _ _ _ (by rw [ha]; simp) (by simp) (by simp; omega) (fun _ => rfl) (by simp; omega) (by simp; omega)).cast ?_
   rw [splitL_line p rest hp]; simp
  ·have hc' : c ≠ 10 := byte_ne (n := 10) (by decide) hc
   refine Ev.neg hc ?_
   have hp' : (10 : UInt8) ∉ p ++ [c] := by simp [hp]; exact fun e => hc' e.symm
   cases rest with
   | nil =>
    refine Ev.pos (by simp at hsz; omega) (Ev.pos (by omega) (Ev.pos (by omega) (Ev.pos (by omega) (Ev.pos (by omega) ?_))))
    refine (split_l0 a hs [] (done ++ p ++ [c]) [] _ _ _ (by rw [ha]; simp) (by simp) (by simp; omega) (fun _ => rfl) (by simp; omega) (by simp; omega)).cast ?_
    rw [splitL_last (p ++ [c]) (by simp) hp']; simp [splitL]
   | cons d rest =>
    refine Ev.neg (by simp at hsz; omega) ?_
    refine (split_l0 a hs (d :: rest) done (p ++ [c]) _ _ _ (by rw [ha]; simp) hp' hx (fun h => by cases h) es (by simp; omega)).cast ?_
    simp
theorem ref_split (a : ByteArray) (hs : a.size ≤ 4000000000) : Ev (fun k => tripartiteref01_Split.f k a) (splitB a) :=
 (split_l0 a hs a.data.toList [] [] [] 0 0 (by simp) (by simp) (by simp) (fun _ => rfl) rfl rfl).cast (by simp [splitB])
def runI (s : ByteArray) : Int := (runL s.data.toList : Nat)
theorem isEmpty_toList (s : ByteArray) : s.toList = [] ↔ s.data.toList = [] := by rw [bytes_toList]
theorem cut_snoc (c : UInt8) : ∀ l : List UInt8, l.length = (l.takeWhile (· == c)).length + (cutL c l).length := by
 intro l
 have := congrArg List.length (List.takeWhile_append_dropWhile (p := fun x => x == c) (l := l))
 rw [List.length_append] at this
 exact this.symm
theorem run_l0 (a : ByteArray) (hs : a.size ≤ 4000000000) (c0 : UInt8) (t : List UInt8) (h0 : a.data.toList = c0 :: t) : ∀ (rest done : List UInt8) (i : Int), a.data.toList = done ++ rest → (∀ x ∈ done, x = c0) → i = done.length →
  Ev (fun k => tripartiteref01_Run.l0 k a i) ((a.size - (cutL c0 a.data.toList).length : Nat) : Int)
 | [], done, i, ha, hd, ei => by
  have hsz : a.size = done.length := by rw [← size_data, ha]; simp
  refine Ev.succ ?_
  simp only [tripartiteref01_Run.l0]
  refine Ev.neg (by omega) (Ev.val ?_)
  have : cutL c0 a.data.toList = [] := by
   rw [ha, List.append_nil]; unfold cutL; rw [← List.append_nil done, List.dropWhile_append_of_pos (fun x hx => by simp [hd x hx])]; rfl
  rw [this]; simp; omega
 | c :: rest, done, i, ha, hd, ei => by
  have hsz : a.size = done.length + (rest.length + 1) := by rw [← size_data, ha]; simp
  have hw : wrap64 (i + 1) = i + 1 := wrap_in (by omega) (by omega)
  have hb : bt a i = (c.toNat : Int) := bytes_bt a i done rest c ha ei
  have hb0 : bt a 0 = (c0.toNat : Int) := bytes_bt a 0 [] t c0 h0 rfl
  refine Ev.succ ?_
  simp only [tripartiteref01_Run.l0, hw, hb, hb0]
  refine Ev.pos (by omega) (Ev.pos (by omega) (Ev.pos (by omega) ?_))
  by_cases hc : (c.toNat : Int) = (c0.toNat : Int)
  ·have hc' : c = c0 := UInt8.toNat.inj (by omega)
   refine Ev.pos hc ?_
   exact run_l0 a hs c0 t h0 rest (done ++ [c]) (i + 1) (by rw [ha]; simp) (fun x hx => by
    rcases List.mem_append.1 hx with h | h
    ·exact hd x h
    ·rw [List.mem_singleton.1 h]; exact hc') (by simp; omega)
  ·refine Ev.neg hc (Ev.val ?_)
   have hc' : c ≠ c0 := fun e => hc (by rw [e])
   have : cutL c0 a.data.toList = c :: rest := by
    unfold cutL
    rw [ha, List.dropWhile_append_of_pos (fun x hx => by simp [hd x hx])]
    have : (c == c0) = false := by simpa using hc'
    simp [List.dropWhile, this]
   rw [this]; simp; omega
theorem ref_run (a : ByteArray) (hs : a.size ≤ 4000000000) : Ev (fun k => tripartiteref01_Run.f k a) (runI a) := by
 unfold tripartiteref01_Run.f
 by_cases he : a.toList = []
 ·refine Ev.pos he (Ev.succ ?_)
  simp only [tripartiteref01_Run.j0]
  refine Ev.pos (by trivial) (Ev.val ?_)
  unfold runI; rw [(isEmpty_toList a).1 he]; rfl
 ·refine Ev.neg he ?_
  obtain ⟨c, t, h⟩ : ∃ c t, a.data.toList = c :: t := List.exists_cons_of_ne_nil (fun e => he ((isEmpty_toList a).2 e))
  have hsz : a.size = t.length + 1 := by rw [← size_data, h]; simp
  have hb0 : bt a 0 = (c.toNat : Int) := bytes_bt a 0 [] t c h rfl
  have hl := run_l0 a hs c t h a.data.toList [] 0 (by simp) (by simp) rfl
  have key : ∀ b : Bool, (b = false ↔ isSign c = true) → Ev (fun k => tripartiteref01_Run.j0 k a b) (runI a) := by
   intro b hb
   refine Ev.succ ?_
   simp only [tripartiteref01_Run.j0]
   cases b with
   | true =>
    refine Ev.pos (by trivial) (Ev.val ?_)
    have : isSign c = false := by
     cases hq : isSign c with
     | false => rfl
     | true => exact absurd (hb.2 hq) (by decide)
    unfold runI runL; rw [h]; simp [this]
   | false =>
    refine Ev.neg (by decide) (hl.cast ?_)
    have := hb.1 rfl
    unfold runI runL; rw [h]; simp [this, hsz]
  have s60 : ∀ n : Nat, n < 256 → (c.toNat : Int) = n → c = UInt8.ofNat n := fun n hn e => byte_eq hn e
  simp only [hb0]
  refine Ev.pos (by omega) ?_
  by_cases h60 : (c.toNat : Int) = 60
  ·refine Ev.pos h60 (key _ ?_); rw [s60 60 (by decide) h60]; decide
  refine Ev.neg h60 ?_
  by_cases h124 : (c.toNat : Int) = 124
  ·refine Ev.pos h124 (key _ ?_); rw [s60 124 (by decide) h124]; decide
  refine Ev.neg h124 ?_
  by_cases h61 : (c.toNat : Int) = 61
  ·refine Ev.pos h61 (key _ ?_); rw [s60 61 (by decide) h61]; decide
  refine Ev.neg h61 (key _ ?_)
  have n60 := byte_ne (c := c) (n := 60) (by decide) h60
  have n124 := byte_ne (c := c) (n := 124) (by decide) h124
  have n61 := byte_ne (c := c) (n := 61) (by decide) h61
  have e : isSign c = (c == 62) := by
   unfold isSign
   rw [show (c == 60) = false from by simpa using n60, show (c == 124) = false from by simpa using n124, show (c == 61) = false from by simpa using n61]; simp
  rw [e]
  by_cases h62 : (c.toNat : Int) = 62
  ·have := s60 62 (by decide) h62
   rw [this]; decide
  ·have n62 := byte_ne (c := c) (n := 62) (by decide) h62
   have h1 : (c == 62) = false := by simpa using n62
   rw [h1]
   have h2 : ((c.toNat : Int) != 62) = true := by simpa using h62
   rw [h2]; simp
def longI (l : List ByteArray) (n : Int) : Int := l.foldl (fun n s => mx n (runI s)) n
theorem longest_l0 (l : List ByteArray) (hn : l.length ≤ 4000000000) (hs : ∀ s ∈ l, s.size ≤ 4000000000) : ∀ (rest done : List ByteArray) (x i : Int), l = done ++ rest → i = done.length → Ev (fun k => tripartiteref01_Longest.l0 k l x i) (longI rest x)
 | [], done, x, i, hl, ei => by
  refine Ev.succ ?_
  simp only [tripartiteref01_Longest.l0]
  refine Ev.neg (by rw [hl]; simp; omega) (Ev.val rfl)
 | s :: rest, done, x, i, hl, ei => by
  have hsz : l.length = done.length + (rest.length + 1) := by rw [hl]; simp
  have hw : wrap64 (i + 1) = i + 1 := wrap_in (by omega) (by omega)
  have hb : rdOf ByteArray.empty l i = s := rdOf_at _ l i done rest s hl ei
  refine Ev.succ ?_
  simp only [tripartiteref01_Longest.l0, hw, hb]
  refine Ev.pos (by omega) (Ev.pos (by omega) (Ev.bind (ref_run s (hs s (by rw [hl]; simp))) ?_))
  exact longest_l0 l hn hs rest (done ++ [s]) _ (i + 1) (by rw [hl]; simp) (by simp; omega)
theorem ref_longest (l : List ByteArray) (hn : l.length ≤ 4000000000) (hs : ∀ s ∈ l, s.size ≤ 4000000000) : Ev (fun k => tripartiteref01_Longest.f k l) (longI l 0) :=
 longest_l0 l hn hs l [] 0 0 rfl rfl
theorem lines_run (a : ByteArray) (hs : a.size ≤ 4000000000) : lines_Run.f a = some (runI a) := by unfold lines_Run.f; rw [if_pos hs]; rfl
theorem lines_split (a : ByteArray) (hs : a.size ≤ 4000000000) : lines_Split.f a = some (splitB a) := by unfold lines_Split.f; rw [if_pos hs]
theorem splitL_mem : ∀ (l : List UInt8) (x : List UInt8), x ∈ splitL l → x.length ≤ l.length := by
 intro l
 induction h : l.length using Nat.strongRecOn generalizing l with
 | ind n ih =>
  intro x hx
  by_cases hl : l = []
  ·subst hl; simp [splitL] at hx
  ·rw [splitL_next l hl] at hx
   have ht := congrArg List.length (take_drop_line l)
   rw [List.length_append] at ht
   rcases List.mem_cons.1 hx with rfl | hx
   ·omega
   ·have hpos : 0 < (takeLine l).length := by
     cases l with
     | nil => exact absurd rfl hl
     | cons c t => simp only [takeLine]; split <;> simp
    have := ih (dropLine l).length (by omega) (dropLine l) rfl x hx
    omega
theorem splitB_length (s : ByteArray) : (splitB s).length ≤ s.size := by
 unfold splitB; rw [List.length_map, ← size_data]; exact splitL_length_le _
theorem splitB_mem (s x : ByteArray) (h : x ∈ splitB s) : x.size ≤ s.size := by
 obtain ⟨y, hy, rfl⟩ := List.mem_map.1 h
 rw [size_toB, ← size_data]; exact splitL_mem _ _ hy
theorem runI_le (s : ByteArray) : runI s ≤ s.size := by unfold runI; have := runL_le s.data.toList; rw [size_data] at this; omega
theorem mx_cases (a b : Int) : mx a b = a ∧ b ≤ a ∨ mx a b = b ∧ a ≤ b := by unfold mx; split <;> omega
theorem longI_bound (M : Int) : ∀ (l : List ByteArray) (n : Int), n ≤ M → (∀ s ∈ l, runI s ≤ M) → n ≤ longI l n ∧ longI l n ≤ M
 | [], n, h, _ => ⟨Int.le_refl n, h⟩
 | s :: l, n, h, hs => by
  have h1 := hs s (by simp)
  have h2 : n ≤ mx n (runI s) ∧ mx n (runI s) ≤ M := by rcases mx_cases n (runI s) with ⟨e, _⟩ | ⟨e, _⟩ <;> omega
  have ih := longI_bound M l (mx n (runI s)) h2.2 (fun x hx => hs x (by simp [hx]))
  show n ≤ longI l (mx n (runI s)) ∧ longI l (mx n (runI s)) ≤ M
  omega
def textRun (s : ByteArray) : Int := longI (splitB s) 0
theorem textRun_bound (s : ByteArray) : 0 ≤ textRun s ∧ textRun s ≤ s.size :=
 longI_bound s.size (splitB s) 0 (by omega) (fun x hx => by have h1 := runI_le x; have h2 := splitB_mem s x hx; omega)
end Go.Proofs.Ytfiamddinkokbaa.F
end

section
namespace Go.Proofs.Ytfiamddinkokbaa.F
open Go.RowKit Go.Proofs.YtfiamddinkokbaaW.PrintWords Go.Proofs.YtfiamddinkokbaaW.PrintLast Go.Proofs.YtfiamddinkokbaaW.PrintMore
attribute [local go_sem] max2_int min2_int max_two min_two max_three min_three max_four min_four








end Go.Proofs.Ytfiamddinkokbaa.F
end

section
namespace Go.Proofs.Ytfiamddinkokbaa.F
open Go.RowKit Go.Proofs.YtfiamddinkokbaaW.PrintWords Go.Proofs.YtfiamddinkokbaaW.PrintLast Go.Proofs.YtfiamddinkokbaaW.PrintMore
theorem nl_cases : ∀ p : List UInt8, (10 : UInt8) ∉ p ∨ ∃ q r, (10 : UInt8) ∉ q ∧ p = q ++ 10 :: r
 | [] => .inl (by simp)
 | c :: p => by
  by_cases hc : c = 10
  ·subst hc; exact .inr ⟨[], p, by simp, rfl⟩
  ·rcases nl_cases p with h | ⟨q, r, hq, rfl⟩
   ·left; simp [h]; exact fun e => hc e.symm
   ·right; refine ⟨c :: q, r, ?_, rfl⟩; simp [hq]; exact fun e => hc e.symm
theorem index_no : ∀ p : List UInt8, (10 : UInt8) ∉ p → Lib.indexByte p 10 = -1
 | [], _ => rfl
 | c :: p, h => by
  have hc : (c == 10) = false := by simpa using fun e : c = 10 => h (by simp [e])
  have ih := index_no p (fun e => h (by simp [e]))
  unfold Lib.indexByte; simp [hc, ih]
theorem index_at : ∀ q r : List UInt8, (10 : UInt8) ∉ q → Lib.indexByte (q ++ 10 :: r) 10 = q.length
 | [], r, _ => by simp [Lib.indexByte]
 | c :: q, r, h => by
  have hc : (c == 10) = false := by simpa using fun e : c = 10 => h (by simp [e])
  have ih := index_at q r (fun e => h (by simp [e]))
  rw [List.cons_append]
  unfold Lib.indexByte
  rw [ih]
  have : ¬ ((q.length : Int) = -1) := by omega
  simp [hc, this]
def endsL (p : List UInt8) : Bool := p.getLast? == some 10
theorem endsL_no (p : List UInt8) (h : (10 : UInt8) ∉ p) : endsL p = false := by
 unfold endsL
 rcases List.eq_nil_or_concat p with rfl | ⟨u, z, rfl⟩
 ·rfl
 ·rw [List.concat_eq_append] at h ⊢
  rw [List.getLast?_concat]
  have : z ≠ 10 := fun e => h (by simp [e])
  simpa using this
theorem endsL_at (q : List UInt8) : endsL (q ++ [10]) = true := by unfold endsL; rw [List.getLast?_concat]; rfl
theorem ev_ends (a : ByteArray) (hs : a.size ≤ 4000000000) : tripartiteref01_Ends.f a = some (endsL a.data.toList) := by
 unfold tripartiteref01_Ends.f
 rcases List.eq_nil_or_concat a.data.toList with h | ⟨u, z, h⟩
 ·have : a.size = 0 := by rw [← size_data, h]; rfl
  rw [if_neg (by omega), h]; rfl
 ·rw [List.concat_eq_append] at h
  have hsz : a.size = u.length + 1 := by rw [← size_data, h]; simp
  have hw : wrap64 ((a.size : Int) - 1) = u.length := by rw [wrap_in (by omega) (by omega)]; omega
  have hb : bt a (u.length : Int) = (z.toNat : Int) := bytes_bt a _ u [] z h rfl
  rw [hw, hb, if_pos (by omega), if_pos (by omega), if_pos (by omega), h]
  unfold endsL
  rw [List.getLast?_concat]
  congr 1
  by_cases hz : z = 10
  ·subst hz; rfl
  ·have h1 : ¬ (z.toNat : Int) = 10 := fun e => hz (byte_eq (n := 10) (by decide) e)
   rw [show ((z.toNat : Int) == 10) = false from by simpa using h1]
   simpa using hz
theorem toList_inj {a b : ByteArray} (h : a.toList = b.toList) : a = b := bytes_ext (by rw [← bytes_toList, ← bytes_toList, h])
def catB (l : List ByteArray) : ByteArray := toB (l.flatMap fun s => s.data.toList)
theorem split_flat : ∀ p : List UInt8, (splitL p).flatten = p := by
 intro p
 induction h : p.length using Nat.strongRecOn generalizing p with
 | ind n ih =>
  by_cases hp : p = []
  ·subst hp; rfl
  ·rw [splitL_next p hp, List.flatten_cons]
   have ht := congrArg List.length (take_drop_line p)
   rw [List.length_append] at ht
   have hpos : 0 < (takeLine p).length := by
    cases p with
    | nil => exact absurd rfl hp
    | cons c t => simp only [takeLine]; split <;> simp
   rw [ih (dropLine p).length (by omega) _ rfl, take_drop_line]
theorem cat_split (s : ByteArray) : catB (splitB s) = s := by
 refine bytes_ext ?_
 unfold catB splitB
 rw [data_toB, List.flatMap_map]
 have : (splitL s.data.toList).flatMap (fun a => (toB a).data.toList) = (splitL s.data.toList).flatten := by
  simp [List.flatMap]
 rw [this, split_flat]
end Go.Proofs.Ytfiamddinkokbaa.F
end

section
namespace Go.Proofs.Ytfiamddinkokbaa.F
open Go.RowKit Go.Proofs.YtfiamddinkokbaaW.PrintWords Go.Proofs.YtfiamddinkokbaaW.PrintLast Go.Proofs.YtfiamddinkokbaaW.PrintMore
attribute [local go_sem] max2_int min2_int max_two min_two max_three min_three max_four min_four
def mark_wide.f (a0 : Int) : Option (Bool) := if a0 ≥ 1 then (some (decide (a0 ≤ 1073741824))) else (some false)
set_option maxHeartbeats 8000000 in
set_option maxRecDepth 100000 in
theorem mark_wide.calls (a0 : Int) (r : Bool) (w : World) (h : mark_wide.f a0 = some r) :
  Calls Try.prog 86 #[.int .i64 a0] w fun e w' => e = .returned (.bool r) ∧ Drawn0 w w' := by
 have H : (if a0 ≥ 1 then (some (decide (a0 ≤ 1073741824))) else (some false)) = some r := h
 clear h
 by_cases c2 : a0 ≥ 1
 ·rw [if_pos c2] at H
  have c2b0 : decide (1 ≤ a0) = true := decide_eq_true c2
  clear c2
  obtain rfl := Option.some.inj H
  go_enter Try.func86, Try.ntmps86
  go_wp2
  go_ret
  exact ⟨by first | rfl | (simp; done) | (simp [*]; done), by repeat (first | exact Drawn0.refl _ | apply Drawn0.step)⟩
 ·rw [if_neg c2] at H
  have c2b0 : decide (1 ≤ a0) = false := decide_eq_false c2
  clear c2
  obtain rfl := Option.some.inj H
  go_enter Try.func86, Try.ntmps86
  go_wp2
  go_ret
  exact ⟨by first | rfl | (simp; done) | (simp [*]; done), by repeat (first | exact Drawn0.refl _ | apply Drawn0.step)⟩
def mark_Marker_may.f (a0_0 : Int) (a0_1 : Bool) (a0_2 : ByteArray) : Option Bool := if 0 ≤ a0_0 ∧ a0_0 < 128 then some (mayB a0_0 a0_1 a0_2) else none
theorem mark_Marker_may.calls (a0_0 : Int) (a0_1 : Bool) (a0_2 : ByteArray) (r : Bool) (w : World) (h : mark_Marker_may.f a0_0 a0_1 a0_2 = some r) :
  Calls Try.prog 95 #[.agg #[.int .u8 a0_0, .bool a0_1, .string a0_2]] w fun e w' => e = .returned (.bool r) ∧ Below w.heap.size w w' := by
 exact ext_may a0_0 a0_1 a0_2 r w h
def mark_Marker_line.f (a0_0 : Int) (a0_1 : Bool) (a0_2 : ByteArray) (a1 : Int) : Option ByteArray := if 0 ≤ a0_0 ∧ a0_0 < 128 ∧ 0 ≤ a1 ∧ a1 ≤ 1073741824 ∧ a0_2.size ≤ 4000000000 then some (lineB a0_0 a0_1 a0_2 a1) else none
theorem mark_Marker_line.calls (a0_0 : Int) (a0_1 : Bool) (a0_2 : ByteArray) (a1 : Int) (r : ByteArray) (w : World) (h : mark_Marker_line.f a0_0 a0_1 a0_2 a1 = some r) :
  Calls Try.prog 96 #[.agg #[.int .u8 a0_0, .bool a0_1, .string a0_2], .int .i64 a1] w fun e w' => e = .returned (.string r) ∧ Below w.heap.size w w' := by
 exact ext_line a0_0 a0_1 a0_2 a1 r w h
def stringslite_HasPrefix.f (a0 : ByteArray) (a1 : ByteArray) : Option (Bool) := if (a0.size : Int) ≥ (a1.size : Int) then (if 0 ≤ (a1.size : Int) then (if (a1.size : Int) ≤ (a0.size : Int) then (some ((a0.extract 0 ((a1.size : Int) : Int).toNat).toList == a1.toList)) else (none)) else (none)) else (some false)
set_option maxHeartbeats 8000000 in
set_option maxRecDepth 100000 in
theorem stringslite_HasPrefix.calls (a0 : ByteArray) (a1 : ByteArray) (r : Bool) (w : World) (h : stringslite_HasPrefix.f a0 a1 = some r) :
  Calls Try.prog 154 #[.string a0, .string a1] w fun e w' => e = .returned (.bool r) ∧ Drawn0 w w' := by
 have H : (if (a0.size : Int) ≥ (a1.size : Int) then (if 0 ≤ (a1.size : Int) then (if (a1.size : Int) ≤ (a0.size : Int) then (some ((a0.extract 0 ((a1.size : Int) : Int).toNat).toList == a1.toList)) else (none)) else (none)) else (some false)) = some r := h
 clear h
 by_cases c3 : (a0.size : Int) ≥ (a1.size : Int)
 ·rw [if_pos c3] at H
  have c3b0 : decide ((a1.size : Int) ≤ (a0.size : Int)) = true := decide_eq_true c3
  have c3b1 : decide (a1.size ≤ a0.size) = true := decide_eq_true (Int.ofNat_le.mp c3)
  clear c3
  by_cases c4 : 0 ≤ (a1.size : Int)
  ·rw [if_pos c4] at H
   have c4b0 := eq_true c4
   have c4b1 : decide (0 ≤ (a1.size : Int)) = true := decide_eq_true c4
   clear c4
   by_cases c5 : (a1.size : Int) ≤ (a0.size : Int)
   ·rw [if_pos c5] at H
    have c5b0 := eq_true c5
    have c5b1 : decide ((a1.size : Int) ≤ (a0.size : Int)) = true := decide_eq_true c5
    clear c5
    obtain rfl := Option.some.inj H
    go_enter Try.func154, Try.ntmps154
    go_wp2
    go_ret
    exact ⟨by first | rfl | (simp; done) | (simp [*]; done), by repeat (first | exact Drawn0.refl _ | apply Drawn0.step)⟩
   ·rw [if_neg c5] at H
    exact absurd H (by simp)
  ·rw [if_neg c4] at H
   exact absurd H (by simp)
 ·rw [if_neg c3] at H
  have c3b0 : decide ((a1.size : Int) ≤ (a0.size : Int)) = false := decide_eq_false c3
  have c3b1 : decide (a1.size ≤ a0.size) = false := decide_eq_false (fun h => c3 (Int.ofNat_le.mpr h))
  clear c3
  obtain rfl := Option.some.inj H
  go_enter Try.func154, Try.ntmps154
  go_wp2
  go_ret
  exact ⟨by first | rfl | (simp; done) | (simp [*]; done), by repeat (first | exact Drawn0.refl _ | apply Drawn0.step)⟩
def stringslite_CutPrefix.f (a0 : ByteArray) (a1 : ByteArray) : Option (ByteArray × Bool) := (stringslite_HasPrefix.f a0 a1).bind fun t338 => (if t338 = true then (if 0 ≤ (a1.size : Int) then (if (a1.size : Int) ≤ (a0.size : Int) then (some (a0.extract ((a1.size : Int) : Int).toNat a0.size, true)) else (none)) else (none)) else (some (a0, false)))
set_option maxHeartbeats 8000000 in
set_option maxRecDepth 100000 in
theorem stringslite_CutPrefix.calls (a0 : ByteArray) (a1 : ByteArray) (r1 : ByteArray) (r2 : Bool) (w : World) (h : stringslite_CutPrefix.f a0 a1 = some (r1, r2)) :
  Calls Try.prog 130 #[.string a0, .string a1] w fun e w' => e = .returned (.tuple #[.string r1, .bool r2]) ∧ Drawn0 w w' := by
 have H : ((stringslite_HasPrefix.f a0 a1).bind fun t338 => (if t338 = true then (if 0 ≤ (a1.size : Int) then (if (a1.size : Int) ≤ (a0.size : Int) then (some (a0.extract ((a1.size : Int) : Int).toNat a0.size, true)) else (none)) else (none)) else (some (a0, false)))) = some (r1, r2) := h
 clear h
 replace H := Option.bind_eq_some_iff.mp H
 obtain ⟨t338, A30, H⟩ := H
 replace H : (if t338 = true then (if 0 ≤ (a1.size : Int) then (if (a1.size : Int) ≤ (a0.size : Int) then (some (a0.extract ((a1.size : Int) : Int).toNat a0.size, true)) else (none)) else (none)) else (some (a0, false))) = some (r1, r2) := H
 have A3 := Aside0.mk A30
 clear A30
 by_cases c4 : t338 = true
 ·subst c4
  have H1 : (if 0 ≤ (a1.size : Int) then (if (a1.size : Int) ≤ (a0.size : Int) then (some (a0.extract ((a1.size : Int) : Int).toNat a0.size, true)) else (none)) else (none)) = some (r1, r2) := by rw [if_pos rfl] at H; exact H
  clear H
  have H := H1
  clear H1
  by_cases c5 : 0 ≤ (a1.size : Int)
  ·rw [if_pos c5] at H
   have c5b0 := eq_true c5
   have c5b1 : decide (0 ≤ (a1.size : Int)) = true := decide_eq_true c5
   clear c5
   by_cases c6 : (a1.size : Int) ≤ (a0.size : Int)
   ·rw [if_pos c6] at H
    have c6b0 := eq_true c6
    have c6b1 : decide ((a1.size : Int) ≤ (a0.size : Int)) = true := decide_eq_true c6
    clear c6
    simp only [Option.some.injEq, Prod.mk.injEq] at H
    obtain ⟨rfl, rfl⟩ := H
    go_enter Try.func130, Try.ntmps130
    go_wp2_with (first | ((with_reducible refine gate_callee (f := 154) rfl ?_); refine goesL_ (some 8) rfl rfl Try.func154 (by kernel_rfl) rfl #[.string a0, .string a1] rfl (by (try simp only [List.map_toArray, List.map_cons, List.map_nil]); first | done | rfl | (simp only [List.length_drop, List.length_take]; rfl)) ?_; (with_reducible refine (stringslite_HasPrefix.calls a0 a1 true _ A3.out).mono ?_); rintro e w' ⟨rfl, ⟨nd, rfl⟩⟩; refine ⟨_, rfl, ?_⟩))
    go_ret2
    exact ⟨by first | rfl | (simp; done) | (simp [*]; done), by repeat (first | exact Drawn0.refl _ | apply Drawn0.step)⟩
   ·rw [if_neg c6] at H
    exact absurd H (by simp)
  ·rw [if_neg c5] at H
   exact absurd H (by simp)
 ·replace c4 := Bool.eq_false_iff.mpr c4
  subst c4
  have H1 : (some (a0, false)) = some (r1, r2) := by rw [if_neg (show ¬ (false = true) by decide)] at H; exact H
  clear H
  have H := H1
  clear H1
  simp only [Option.some.injEq, Prod.mk.injEq] at H
  obtain ⟨rfl, rfl⟩ := H
  go_enter Try.func130, Try.ntmps130
  go_wp2_with (first | ((with_reducible refine gate_callee (f := 154) rfl ?_); refine goesL_ (some 8) rfl rfl Try.func154 (by kernel_rfl) rfl #[.string a0, .string a1] rfl (by (try simp only [List.map_toArray, List.map_cons, List.map_nil]); first | done | rfl | (simp only [List.length_drop, List.length_take]; rfl)) ?_; (with_reducible refine (stringslite_HasPrefix.calls a0 a1 false _ A3.out).mono ?_); rintro e w' ⟨rfl, ⟨nd, rfl⟩⟩; refine ⟨_, rfl, ?_⟩))
  go_ret2
  exact ⟨by first | rfl | (simp; done) | (simp [*]; done), by repeat (first | exact Drawn0.refl _ | apply Drawn0.step)⟩
def strings_CutPrefix.f (a0 : ByteArray) (a1 : ByteArray) : Option (ByteArray × Bool) := (stringslite_CutPrefix.f a0 a1).bind fun bt339 => (some (bt339.1, bt339.2))
set_option maxHeartbeats 8000000 in
set_option maxRecDepth 100000 in
theorem strings_CutPrefix.calls (a0 : ByteArray) (a1 : ByteArray) (r1 : ByteArray) (r2 : Bool) (w : World) (h : strings_CutPrefix.f a0 a1 = some (r1, r2)) :
  Calls Try.prog 98 #[.string a0, .string a1] w fun e w' => e = .returned (.tuple #[.string r1, .bool r2]) ∧ Drawn0 w w' := by
 have H : ((stringslite_CutPrefix.f a0 a1).bind fun bt339 => (some (bt339.1, bt339.2))) = some (r1, r2) := h
 clear h
 replace H := Option.bind_eq_some_iff.mp H
 obtain ⟨⟨t339, t340⟩, A30, H⟩ := H
 replace H : (some (t339, t340)) = some (r1, r2) := H
 have A3 := Aside0.mk A30
 clear A30
 simp only [Option.some.injEq, Prod.mk.injEq] at H
 obtain ⟨rfl, rfl⟩ := H
 go_enter Try.func98, Try.ntmps98
 go_wp2_with (first | ((with_reducible refine gate_callee (f := 130) rfl ?_); refine goesL_ (some 8) rfl rfl Try.func130 (by kernel_rfl) rfl #[.string a0, .string a1] rfl (by (try simp only [List.map_toArray, List.map_cons, List.map_nil]); first | done | rfl | (simp only [List.length_drop, List.length_take]; rfl)) ?_; (with_reducible refine (stringslite_CutPrefix.calls a0 a1 t339 t340 _ A3.out).mono ?_); rintro e w' ⟨rfl, ⟨nd, rfl⟩⟩; refine ⟨_, rfl, ?_⟩))
 go_ret2
 exact ⟨by first | rfl | (simp; done) | (simp [*]; done), by repeat (first | exact Drawn0.refl _ | apply Drawn0.step)⟩
end Go.Proofs.Ytfiamddinkokbaa.F
end
