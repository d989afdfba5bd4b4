/- Texts joined into one file (wip/tools/pack.py): FindLaw, Sweep, Pure, Pure01 -/
import Derived.Test.YtfiamddinkokbaaTA38
import Derived.Test.YtfiamddinkokbaaTA13
import Derived.Test.YtfiamddinkokbaaTA9
import Derived.Test.YtfiamddinkokbaaTA2
import Derived.Test.YtfiamddinkokbaaTA1
import Derived.Test.YtfiamddinkokbaaTA14
set_option linter.unusedVariables false
set_option linter.unusedSimpArgs false
section
namespace Go.Proofs.Ytfiamddinkokbaa.F
open Go.RowKit Go.Shelf Go.Proofs.YtfiamddinkokbaaW.PrintWords
abbrev Rise (p q : SP) : Prop := p.f0<q.f0∧p.f1<q.f1
def Chain (a b : List Int) (a0 a1 b0 b1 : Int) (r : List SP) : Prop := r.Pairwise Rise∧∀ p∈r,a0≤p.f0∧p.f0<a1∧b0≤p.f1∧p.f1<b1∧rd a p.f0=rd b p.f1
theorem Chain.nil (a b : List Int) (a0 a1 b0 b1 : Int) : Chain a b a0 a1 b0 b1 [] := ⟨List.Pairwise.nil,fun _ h=>by cases h⟩
theorem Chain.append {a b : List Int} {a0 a1 a2 b0 b1 b2 : Int} {r r' : List SP} (h : Chain a b a0 a1 b0 b1 r) (g : Chain a b a1 a2 b1 b2 r') (h1 : a0≤a1) (h2 : a1≤a2) (h3 : b0≤b1) (h4 : b1≤b2) : Chain a b a0 a2 b0 b2 (r++r') := by
 refine⟨List.pairwise_append.2 ⟨h.1,g.1,fun p hp q hq=>?_⟩,fun p hp=>?_⟩
 ·have:=h.2 p hp
  have:=g.2 q hq
  exact⟨by omega,by omega⟩
 ·rcases List.mem_append.1 hp with hp|hp
  ·have:=h.2 p hp
   exact⟨this.1,by omega,this.2.2.1,by omega,this.2.2.2.2⟩
  ·have:=g.2 p hp
   exact⟨by omega,this.2.1,by omega,this.2.2.2.1,this.2.2.2.2⟩
theorem chain_diag {a b : List Int} (a0 b0 : Int) : ∀ (n : Nat),(∀ i : Int,0≤i→i<n→rd a (a0+i)=rd b (b0+i))→Chain a b a0 (a0+n) b0 (b0+n) (diagP a0 b0 n)
 | 0,_=>Chain.nil _ _ _ _ _ _
 | n+1,h=>by
  rw [diagP_succ]
  refine (chain_diag a0 b0 n (fun i h0 h1=>h i h0 (by omega))).append (a1:=a0+n) (b1:=b0+n) ⟨List.pairwise_singleton _ _,fun p hp=>?_⟩ (by omega) (by omega) (by omega) (by omega)
  obtain rfl:=List.mem_singleton.1 hp
  exact⟨Int.le_refl _,by show a0+(n:Int)<a0+((n+1:Nat):Int);omega,Int.le_refl _,by show b0+(n:Int)<b0+((n+1:Nat):Int);omega,h n (by omega) (by omega)⟩
theorem pre_get {α : Type} [DecidableEq α] : ∀ (xs ys : List α) (i : Nat),i<pre xs ys→xs[i]? = ys[i]?
 | [],ys,i,h=>by rw [pre_nil_left] at h;omega
 | x::xs,[],i,h=>by rw [pre_nil_right] at h;omega
 | x::xs,y::ys,i,h=>by
  rw [pre] at h
  split at h
  ·rename_i e
   cases i with
   | zero=>simp [e]
   | succ i=>simpa using pre_get xs ys i (by omega)
  ·omega
theorem pre_drop {α : Type} [DecidableEq α] : ∀ (xs ys : List α),pre (xs.drop (pre xs ys)) (ys.drop (pre xs ys))=0
 | [],ys=>by rw [List.drop_nil,pre_nil_left]
 | x::xs,[]=>by rw [List.drop_nil,pre_nil_right]
 | x::xs,y::ys=>by
  rw [pre]
  split
  ·rw [List.drop_succ_cons,List.drop_succ_cons];exact pre_drop xs ys
  ·rename_i e
   rw [List.drop_zero,List.drop_zero,pre,if_neg e]
theorem pre_take_zero {α : Type} [DecidableEq α] {xs ys : List α} (h : pre xs ys=0) (i j : Nat) : pre (xs.take i) (ys.take j)=0 := by
 cases xs with
 | nil=>rw [List.take_nil,pre_nil_left]
 | cons x xs =>
  cases ys with
  | nil=>rw [List.take_nil,pre_nil_right]
  | cons y ys =>
   rw [pre] at h
   split at h
   ·omega
   ·rename_i e
    cases i with
    | zero=>rw [List.take_zero,pre_nil_left]
    | succ i =>
     cases j with
     | zero=>rw [List.take_zero,pre_nil_right]
     | succ j=>rw [List.take_succ_cons,List.take_succ_cons,pre,if_neg e]
theorem pre_comm {α : Type} [DecidableEq α] : ∀ (xs ys : List α),pre xs ys=pre ys xs
 | [],ys=>by rw [pre_nil_left,pre_nil_right]
 | x::xs,[]=>by rw [pre_nil_left,pre_nil_right]
 | x::xs,y::ys=>by
  rw [pre,pre,pre_comm xs ys]
  by_cases e:x=y
  ·rw [if_pos e,if_pos e.symm]
  ·rw [if_neg e,if_neg (Ne.symm e)]
theorem lcs_pre : ∀ (xs ys : List Int),Lcs.lcs xs ys=pre xs ys+Lcs.lcs (xs.drop (pre xs ys)) (ys.drop (pre xs ys))
 | [],ys=>by rw [pre_nil_left];simp
 | x::xs,[]=>by rw [pre_nil_right];simp
 | x::xs,y::ys=>by
  rw [pre]
  split
  ·rename_i e
   subst e
   rw [Lcs.lcs_cons_same,List.drop_succ_cons,List.drop_succ_cons,lcs_pre xs ys]
   omega
  ·simp
def inner {α : Type} (xs : List α) (p q : Nat) : List α := (xs.drop p).take (xs.length-p-q)
theorem lcs_ends (xs ys : List Int) : Lcs.lcs xs ys=endsN xs ys+Lcs.lcs (inner xs (endsN xs ys) (endsM xs ys)) (inner ys (endsN xs ys) (endsM xs ys))+endsM xs ys := by
 have h1:=lcs_pre xs ys
 have h2:=lcs_pre (xs.drop (pre xs ys)).reverse (ys.drop (pre xs ys)).reverse
 rw [Lcs.lcs_reverse,List.drop_reverse,List.drop_reverse,Lcs.lcs_reverse,List.length_drop,List.length_drop] at h2
 unfold inner
 have e1:endsN xs ys=pre xs ys:=rfl
 have e2:endsM xs ys=pre (xs.drop (pre xs ys)).reverse (ys.drop (pre xs ys)).reverse:=rfl
 rw [e1,e2]
 omega
theorem inner_pre (xs ys : List Int) : pre (inner xs (endsN xs ys) (endsM xs ys)) (inner ys (endsN xs ys) (endsM xs ys))=0 := pre_take_zero (pre_drop xs ys) _ _
theorem inner_suf (xs ys : List Int) : pre (inner xs (endsN xs ys) (endsM xs ys)).reverse (inner ys (endsN xs ys) (endsM xs ys)).reverse=0 := by
 have h:=pre_drop (xs.drop (pre xs ys)).reverse (ys.drop (pre xs ys)).reverse
 rw [List.drop_reverse,List.drop_reverse,List.length_drop,List.length_drop] at h
 exact h
theorem sub_less {xs ys : List Int} (hs : ys.Sublist xs) (h1 : pre xs ys=0) (h2 : pre xs.reverse ys.reverse=0) (h3 : ys≠[]) : ys.length+2≤xs.length := by
 cases ys with
 | nil=>exact absurd rfl h3
 | cons y ys =>
  cases xs with
  | nil=>cases hs
  | cons x xs =>
   rw [pre] at h1
   split at h1
   ·omega
   ·rename_i e
    have hs2:(y::ys).Sublist xs:=by
     cases hs with
     | cons _ h=>exact h
     | cons_cons _ h=>exact absurd rfl e
    have hle:=hs2.length_le
    by_cases hc:(y::ys).length+2≤(x::xs).length
    ·exact hc
    ·exfalso
     have he:=hs2.eq_of_length (by simp only [List.length_cons] at *;omega)
     rw [←he,List.reverse_cons] at h2
     cases hr:(y::ys).reverse with
     | nil=>exact h3 (List.reverse_eq_nil_iff.1 hr)
     | cons z zs =>
      rw [hr,List.cons_append,pre,if_pos rfl] at h2
      omega
theorem DD_two {xs ys : List Int} (h1 : pre xs ys=0) (h2 : pre xs.reverse ys.reverse=0) (h3 : xs≠[]) (h4 : ys≠[]) : 2≤Lcs.DD xs ys := by
 obtain⟨c,c1,c2,c3⟩:=Lcs.lcs_ex xs ys
 have l1:=c1.length_le
 have l2:=c2.length_le
 unfold Lcs.DD
 by_cases hm:c.length=ys.length
 ·have:=sub_less (c2.eq_of_length hm▸c1) h1 h2 h4
  omega
 ·by_cases hn:c.length=xs.length
  ·have:=sub_less (c1.eq_of_length hn▸c2) (by rw [pre_comm];exact h1) (by rw [pre_comm];exact h2) h3
   omega
  ·omega
theorem piece_take {a : List Int} {l h : Int} (u : Int) (h0 : 0≤l) (h1 : 0≤u) (h2 : l+u≤h) : pieceI a l (l+u)=(pieceI a l h).take u.toNat := by
 unfold pieceI
 rw [List.drop_take,List.drop_take,List.take_take,show min u.toNat (h.toNat-l.toNat)=(l+u).toNat-l.toNat by omega]
theorem piece_drop {a : List Int} {l h : Int} (u : Int) (h0 : 0≤l) (h1 : 0≤u) : pieceI a (l+u) h=(pieceI a l h).drop u.toNat := by
 unfold pieceI
 rw [List.drop_drop,show (l+u).toNat=l.toNat+u.toNat by omega]
theorem inner_piece {a : List Int} {a0 a1 : Int} (p q : Nat) (h0 : 0≤a0) (h1 : a0≤a1) (h2 : a1≤a.length) (hpq : (p : Int)+q≤a1-a0) : pieceI a (a0+p) (a1-q)=inner (pieceI a a0 a1) p q := by
 have hl:=pieceI_length h0 h1 h2
 unfold inner
 rw [piece_drop p h0 (by omega),show a1-(q:Int)=a0+(a1-a0-q) by omega,piece_take (h:=a1) (a1-a0-q) h0 (by omega) (by omega),List.drop_take,Int.toNat_natCast,show (pieceI a a0 a1).length-p-q=(a1-a0-(q:Int)).toNat-p by omega]
theorem rd_get {xs ys : List Int} {i : Int} (h : xs[i.toNat]? = ys[i.toNat]?) : rd xs i=rd ys i := by
 unfold rd;rw [List.getD_eq_getElem?_getD,List.getD_eq_getElem?_getD,h]
theorem rd_drop (xs : List Int) (p : Nat) {w : Int} (h0 : 0≤w) : rd (xs.drop p) w=rd xs (p+w) := by
 unfold rd;rw [List.getD_eq_getElem?_getD,List.getD_eq_getElem?_getD,List.getElem?_drop,show ((p:Int)+w).toNat=p+w.toNat by omega]
theorem ends_pre {xs ys : List Int} {i : Int} (h0 : 0≤i) (h1 : i<endsN xs ys) : rd xs i=rd ys i := rd_get (pre_get xs ys i.toNat (by unfold endsN at h1;omega))
theorem ends_suf {xs ys : List Int} {i : Int} (h0 : 0≤i) (h1 : i<endsM xs ys) : rd xs ((xs.length : Int)-endsM xs ys+i)=rd ys ((ys.length : Int)-endsM xs ys+i) := by
 have hle:=ends_le xs ys
 have e1:endsN xs ys=pre xs ys:=rfl
 rw [e1] at hle
 have key:∀ zs:List Int,pre xs ys+endsM xs ys≤zs.length→rd zs ((zs.length:Int)-endsM xs ys+i)=rd (zs.drop (pre xs ys)).reverse ((endsM xs ys:Int)-1-i):=by
  intro zs hz
  rw [←rd_rev (by omega) (by rw [List.length_drop];omega),rd_drop _ _ (by rw [List.length_drop];omega),List.length_drop,show ((pre xs ys:Nat):Int)+(((zs.length-pre xs ys:Nat):Int)-1-((endsM xs ys:Int)-1-i))=(zs.length:Int)-endsM xs ys+i by omega]
 rw [key xs hle.1,key ys hle.2]
 refine rd_get (pre_get _ _ _ ?_)
 unfold endsM at *
 omega
theorem find_law {a b : List Int} (ha : a.length≤4000000000) (hb : b.length≤4000000000) : ∀ (s : Nat) (a0 a1 b0 b1 : Int),0≤a0→a0≤a1→a1≤a.length→0≤b0→b0≤b1→b1≤b.length→(a1-a0)+(b1-b0)<s →
  ∃ r,findF a b s a0 a1 b0 b1=some r∧Chain a b a0 a1 b0 b1 r∧r.length=Lcs.lcs (pieceI a a0 a1) (pieceI b b0 b1)
 | 0,a0,a1,b0,b1,h0,h1,h2,h3,h4,h5,hs=>by omega
 | s+1,a0,a1,b0,b1,h0,h1,h2,h3,h4,h5,hs=>by
  rw [findF,if_pos ⟨h0,h1,h2,h3,h4,h5⟩]
  have hel:=ends_le (pieceI a a0 a1) (pieceI b b0 b1)
  have hlx:=pieceI_length h0 h1 h2
  have hly:=pieceI_length h3 h4 h5
  have hlcs:=lcs_ends (pieceI a a0 a1) (pieceI b b0 b1)
  have hpre:=inner_pre (pieceI a a0 a1) (pieceI b b0 b1)
  have hsuf:=inner_suf (pieceI a a0 a1) (pieceI b b0 b1)
  have hd1:Chain a b a0 (a0+(endsN (pieceI a a0 a1) (pieceI b b0 b1):Nat)) b0 (b0+(endsN (pieceI a a0 a1) (pieceI b b0 b1):Nat)) (diagP a0 b0 (endsN (pieceI a a0 a1) (pieceI b b0 b1))):=by
   refine chain_diag a0 b0 _ (fun i i0 i1=>?_)
   rw [pieceI_rd h0 h2 i i0 (by omega),pieceI_rd h3 h5 i i0 (by omega)]
   exact ends_pre i0 i1
  have hd2:Chain a b (a1-(endsM (pieceI a a0 a1) (pieceI b b0 b1):Nat)) a1 (b1-(endsM (pieceI a a0 a1) (pieceI b b0 b1):Nat)) b1 (diagP (a1-(endsM (pieceI a a0 a1) (pieceI b b0 b1):Nat)) (b1-(endsM (pieceI a a0 a1) (pieceI b b0 b1):Nat)) (endsM (pieceI a a0 a1) (pieceI b b0 b1))):=by
   have:=chain_diag (a:=a) (b:=b) (a1-(endsM (pieceI a a0 a1) (pieceI b b0 b1):Nat)) (b1-(endsM (pieceI a a0 a1) (pieceI b b0 b1):Nat)) (endsM (pieceI a a0 a1) (pieceI b b0 b1)) (fun i i0 i1=>?_)
   ·rwa [show a1-((endsM (pieceI a a0 a1) (pieceI b b0 b1):Nat):Int)+((endsM (pieceI a a0 a1) (pieceI b b0 b1):Nat):Int)=a1 by omega,show b1-((endsM (pieceI a a0 a1) (pieceI b b0 b1):Nat):Int)+((endsM (pieceI a a0 a1) (pieceI b b0 b1):Nat):Int)=b1 by omega] at this
   ·have hq:=ends_suf i0 i1
    rw [hlx,hly] at hq
    rw [show a1-((endsM (pieceI a a0 a1) (pieceI b b0 b1):Nat):Int)+i=a0+(a1-a0-(endsM (pieceI a a0 a1) (pieceI b b0 b1):Nat)+i) by omega,show b1-((endsM (pieceI a a0 a1) (pieceI b b0 b1):Nat):Int)+i=b0+(b1-b0-(endsM (pieceI a a0 a1) (pieceI b b0 b1):Nat)+i) by omega,
     pieceI_rd h0 h2 _ (by omega) (by omega),pieceI_rd h3 h5 _ (by omega) (by omega)]
    exact hq
  rw [←inner_piece _ _ h0 h1 h2 (by omega),←inner_piece _ _ h3 h4 h5 (by omega)] at hlcs hpre hsuf
  generalize endsN (pieceI a a0 a1) (pieceI b b0 b1)=en at *
  generalize endsM (pieceI a a0 a1) (pieceI b b0 b1)=em at *
  have hmid:∃ mid,(if a0+(en:Int)<a1-em∧b0+(en:Int)<b1-em then
    (middleF (pieceI a (a0+en) (a1-em)) (pieceI b (b0+en) (b1-em))).bind fun r =>
     if 0≤r.1∧0≤r.2.1∧0≤r.2.2∧a0+en+r.1+r.2.2≤a1∧b0+en+r.2.1+r.2.2≤b1 then
      (findF a b s (a0+en) (a0+en+r.1) (b0+en) (b0+en+r.2.1)).bind fun l1 =>
       (findF a b s (a0+en+r.1+r.2.2) (a1-em) (b0+en+r.2.1+r.2.2) (b1-em)).bind fun l2 =>
        some (l1++diagP (a0+en+r.1) (b0+en+r.2.1) r.2.2.toNat++l2)
     else none
   else some [])=some mid∧Chain a b (a0+en) (a1-em) (b0+en) (b1-em) mid∧mid.length=Lcs.lcs (pieceI a (a0+en) (a1-em)) (pieceI b (b0+en) (b1-em)):=by
   have hlx2:=pieceI_length (a:=a) (lo:=a0+en) (hi:=a1-em) (by omega) (by omega) (by omega)
   have hly2:=pieceI_length (a:=b) (lo:=b0+en) (hi:=b1-em) (by omega) (by omega) (by omega)
   by_cases hc:a0+(en:Int)<a1-em∧b0+(en:Int)<b1-em
   ·rw [if_pos hc]
    have hDD:=DD_two hpre hsuf (fun e=>by rw [e] at hlx2;simp at hlx2;omega) (fun e=>by rw [e] at hly2;simp at hly2;omega)
    obtain⟨u,v,t,e,m1,m2,m3,m4,m5,m6,m7,m8,m9⟩:=middle_law hDD (by omega) (by omega)
    obtain⟨r1,e1,c1,l1⟩:=find_law ha hb s (a0+en) (a0+en+u) (b0+en) (b0+en+v) (by omega) (by omega) (by omega) (by omega) (by omega) (by omega) (by omega)
    obtain⟨r2,e2,c2,l2⟩:=find_law ha hb s (a0+en+u+t) (a1-em) (b0+en+v+t) (b1-em) (by omega) (by omega) (by omega) (by omega) (by omega) (by omega) (by omega)
    rw [e]
    simp only [Option.bind_some]
    rw [if_pos ⟨m1,m2,m3,by omega,by omega⟩,e1]
    simp only [Option.bind_some]
    rw [e2]
    simp only [Option.bind_some]
    have hd:=chain_diag (a:=a) (b:=b) (a0+en+u) (b0+en+v) t.toNat (fun i i0 i1=>by
     have:=m6 i i0 (by omega)
     rw [←pieceI_rd (by omega) (by omega) _ (by omega) (by omega),←pieceI_rd (by omega) (by omega) _ (by omega) (by omega)] at this
     rw [show a0+(en:Int)+u+i=a0+en+(u+i) by omega,show b0+(en:Int)+v+i=b0+en+(v+i) by omega]
     exact this)
    rw [show a0+(en:Int)+u+((t.toNat:Nat):Int)=a0+en+u+t by omega,show b0+(en:Int)+v+((t.toNat:Nat):Int)=b0+en+v+t by omega] at hd
    refine⟨_,rfl,(c1.append hd (by omega) (by omega) (by omega) (by omega)).append c2 (by omega) (by omega) (by omega) (by omega),?_⟩
    rw [piece_take (h:=a1-em) u (by omega) (by omega) (by omega),piece_take (h:=b1-em) v (by omega) (by omega) (by omega)] at l1
    rw [show a0+(en:Int)+u+t=a0+en+(u+t) by omega,show b0+(en:Int)+v+t=b0+en+(v+t) by omega,piece_drop (u+t) (by omega) (by omega),piece_drop (v+t) (by omega) (by omega)] at l2
    rw [List.length_append,List.length_append,diagP_length,l1,l2]
    exact m7
   ·rw [if_neg hc]
    refine⟨[],rfl,Chain.nil _ _ _ _ _ _,?_⟩
    by_cases hx:a0+(en:Int)<a1-em
    ·have:pieceI b (b0+en) (b1-em)=[]:=List.eq_nil_of_length_eq_zero (by omega)
     rw [this,Lcs.lcs_nil_right];rfl
    ·have:pieceI a (a0+en) (a1-em)=[]:=List.eq_nil_of_length_eq_zero (by omega)
     rw [this,Lcs.lcs_nil_left];rfl
  obtain⟨mid,e,c,l⟩:=hmid
  rw [e]
  simp only [Option.bind_some]
  refine⟨_,rfl,(hd1.append c (by omega) (by omega) (by omega) (by omega)).append hd2 (by omega) (by omega) (by omega) (by omega),?_⟩
  rw [List.length_append,List.length_append,diagP_length,diagP_length,l,hlcs]
theorem piece_all (a : List Int) : pieceI a 0 a.length=a := by unfold pieceI;simp
theorem match_law (a b : List Int) (ha : a.length≤4000000000) (hb : b.length≤4000000000) : ∃ r,matchF a b=some r∧Chain a b 0 a.length 0 b.length r∧r.length=Lcs.lcs a b := by
 have:=find_law ha hb (a.length+b.length+1) 0 a.length 0 b.length (by omega) (by omega) (by omega) (by omega) (by omega) (by omega) (by omega)
 rw [piece_all,piece_all] at this
 exact this
structure Tab (x : List Int) (base left : Int) : Prop where
 len:(x.length:Int)=base
 rng:∀ i:Int,0≤i→i<base → -1≤rd x i∧rd x i<left
 inc:∀ i j:Int,0≤i→i<j→j<base→0≤rd x i→0≤rd x j→rd x i<rd x j
def Tog (x y : List Int) (base o a b i : Int) : Prop := o+i<base∧rd x (o+i)=a+i∧rd y (o+i)=b+i
def StabIs (x y : List Int) (base o a b n : Int) : Prop := 0≤n∧(∀ i : Int,0≤i→i<n→Tog x y base o a b i)∧¬ Tog x y base o a b n
def NextIs (x y : List Int) (base o a b tn : Int) : Prop := o≤tn∧tn≤base∧(∀ t : Int,o≤t→t<tn→rd x t<a∨rd y t<b)∧(tn<base→a≤rd x tn∧b≤rd y tn)
theorem stab_ex (x y : List Int) (base o a b : Int) : ∀ (m : Nat) (i : Int),0≤i→base-o-i≤m→(∀ j : Int,0≤j→j<i→Tog x y base o a b j)→∃ n,StabIs x y base o a b n := by
 intro m
 induction m with
 | zero=>exact fun i h0 h1 h2=>⟨i,h0,h2,fun h=>by have:=h.1;omega⟩
 | succ m ih =>
  intro i h0 h1 h2
  by_cases ht:Tog x y base o a b i
  ·refine ih (i+1) (by omega) (by omega) (fun j j0 j1=>?_)
   by_cases hj:j=i
   ·rw [hj];exact ht
   ·exact h2 j j0 (by omega)
  ·exact⟨i,h0,h2,ht⟩
theorem next_ex (x y : List Int) (base o a b : Int) (ho : o≤base) : ∀ (m : Nat) (t : Int),o≤t→t≤base→base-t≤m→(∀ s : Int,o≤s→s<t→rd x s<a∨rd y s<b)→∃ tn,NextIs x y base o a b tn := by
 intro m
 induction m with
 | zero=>exact fun t h0 h1 h2 h3=>⟨t,h0,h1,h3,fun h=>by omega⟩
 | succ m ih =>
  intro t h0 h1 h2 h3
  by_cases hb:t=base
  ·exact⟨t,h0,h1,h3,fun h=>by omega⟩
  by_cases ht:rd x t<a∨rd y t<b
  ·refine ih (t+1) (by omega) (by omega) (by omega) (fun s s0 s1=>?_)
   by_cases hs:s=t
   ·rw [hs];exact ht
   ·exact h3 s s0 (by omega)
  ·exact⟨t,h0,h1,h3,fun _=>by omega⟩
inductive Sweep (x y : List Int) (base left right : Int) : Int→Int→Int→List SC→Prop
 | done {o a b:Int} : ¬ (o<base∨a<left∨b<right)→Sweep x y base left right o a b []
 | stab {o a b n:Int} {l:List SC} : (o<base∨a<left∨b<right)→StabIs x y base o a b n→0<n→Sweep x y base left right (o+n) (a+n) (b+n) l→Sweep x y base left right o a b (chunkC n o a b (o+n) (a+n) (b+n)::l)
 | next {o a b tn:Int} {l:List SC} : (o<base∨a<left∨b<right)→StabIs x y base o a b 0→NextIs x y base o a b tn→tn<base→Sweep x y base left right tn (rd x tn) (rd y tn) l→Sweep x y base left right o a b (chunkC 0 o a b tn (rd x tn) (rd y tn)::l)
 | last {o a b:Int} {l:List SC} : (o<base∨a<left∨b<right)→StabIs x y base o a b 0→NextIs x y base o a b base→Sweep x y base left right base left right l→Sweep x y base left right o a b (chunkC 0 o a b base left right::l)
theorem stab_in {x y : List Int} {base left right o a b n : Int} (hx : Tab x base left) (hy : Tab y base right) (h0 : 0≤o) (hs : StabIs x y base o a b n) (hn : 0<n) : o+n≤base∧a+n≤left∧b+n≤right := by
 obtain⟨t1,t2,t3⟩:=hs.2.1 (n-1) (by omega) (by omega)
 have g1:=hx.rng (o+(n-1)) (by omega) t1
 have g2:=hy.rng (o+(n-1)) (by omega) t1
 omega
theorem next_on {x y : List Int} {base o a b tn : Int} (h0 : StabIs x y base o a b 0) (hn : NextIs x y base o a b tn) (ht : tn<base) : o<tn∨a<rd x tn∨b<rd y tn := by
 obtain⟨n1,n2,n3,n4⟩:=hn
 have n4:=n4 ht
 by_cases hc:o<tn∨a<rd x tn∨b<rd y tn
 ·exact hc
 ·exfalso
  have e:tn=o:=by omega
  subst e
  refine h0.2.2 ⟨by omega,?_,?_⟩
  ·rw [show tn+0=tn by omega];omega
  ·rw [show tn+0=tn by omega];omega
theorem sweep_ex {x y : List Int} {base left right : Int} (hx : Tab x base left) (hy : Tab y base right) : ∀ (m : Nat) (o a b : Int),0≤o→o≤base→0≤a→a≤left→0≤b→b≤right→(base-o)+(left-a)+(right-b)≤m→∃ l,Sweep x y base left right o a b l := by
 intro m
 induction m with
 | zero=>exact fun o a b h0 h1 h2 h3 h4 h5 h6=>⟨[],.done (by omega)⟩
 | succ m ih =>
  intro o a b h0 h1 h2 h3 h4 h5 h6
  by_cases hc:o<base∨a<left∨b<right
  ·obtain⟨n,hn⟩:=stab_ex x y base o a b (base-o).toNat 0 (by omega) (by omega) (fun j _ _=>by omega)
   by_cases hp:0<n
   ·obtain⟨g1,g2,g3⟩:=stab_in hx hy h0 hn hp
    obtain⟨l,hl⟩:=ih (o+n) (a+n) (b+n) (by omega) g1 (by omega) g2 (by omega) g3 (by omega)
    exact⟨_,.stab hc hn hp hl⟩
   ·obtain rfl:n=0:=by have:=hn.1;omega
    obtain⟨tn,ht⟩:=next_ex x y base o a b h1 (base-o).toNat o (by omega) h1 (by omega) (fun s _ _=>by omega)
    by_cases hb:tn<base
    ·have g:=next_on hn ht hb
     have g1:=hx.rng tn (by have:=ht.1;omega) hb
     have g2:=hy.rng tn (by have:=ht.1;omega) hb
     have g3:=ht.2.2.2 hb
     have g4:=ht.1
     obtain⟨l,hl⟩:=ih tn (rd x tn) (rd y tn) (by omega) (by omega) (by omega) (by omega) (by omega) (by omega) (by omega)
     exact⟨_,.next hc hn ht hb hl⟩
    ·obtain rfl:tn=base:=by have:=ht.2.1;omega
     exact⟨_,.last hc hn ht (.done (by omega))⟩
  ·exact⟨[],.done hc⟩
structure ChunkIs (x y : List Int) (base left right o a b o' a' b' : Int) (c : SC) : Prop where
 sp1:c.f1=⟨o,o'⟩
 sp2:c.f2=⟨a,a'⟩
 sp3:c.f3=⟨b,b'⟩
 le1:o≤o'∧o'≤base
 le2:a≤a'∧a'≤left
 le3:b≤b'∧b'≤right
 some:o<o'∨a<a'∨b<b'
 st:c.f0=true→o<o'∧a'-a=o'-o∧b'-b=o'-o∧∀ i:Int,0≤i→i<o'-o→rd x (o+i)=a+i∧rd y (o+i)=b+i
 un:c.f0=false→¬ Tog x y base o a b 0
 nx:c.f0=false→(o'=base∧a'=left∧b'=right)∨(Tog x y base o' a' b' 0)
 ns:c.f0=true→¬ Tog x y base o' a' b' 0
inductive Steps (x y : List Int) (base left right : Int) : Int→Int→Int→List SC→Prop
 | done:Steps x y base left right base left right []
 | cons {o a b o' a' b':Int} {c:SC} {l:List SC} : 0≤o→0≤a→0≤b→ChunkIs x y base left right o a b o' a' b' c→Steps x y base left right o' a' b' l→Steps x y base left right o a b (c::l)
theorem steps_of {x y : List Int} {base left right : Int} (hx : Tab x base left) (hy : Tab y base right) : ∀ {o a b : Int} {l : List SC},Sweep x y base left right o a b l→0≤o→o≤base→0≤a→a≤left→0≤b→b≤right→Steps x y base left right o a b l := by
 intro o a b l h
 induction h with
 | done h =>
  intro h0 h1 h2 h3 h4 h5
  rename_i o a b
  obtain rfl:o=base:=by omega
  obtain rfl:a=left:=by omega
  obtain rfl:b=right:=by omega
  exact .done
 | stab h hs hp _ ih =>
  intro h0 h1 h2 h3 h4 h5
  rename_i o a b n l _
  obtain⟨g1,g2,g3⟩:=stab_in hx hy h0 hs hp
  refine .cons h0 h2 h4 ⟨rfl,rfl,rfl,⟨by omega,g1⟩,⟨by omega,g2⟩,⟨by omega,g3⟩,by omega,fun _=>⟨by omega,by omega,by omega,fun i i0 i1=>?_⟩,fun e=>?_,fun e=>?_,fun _ ht=>?_⟩ (ih (by omega) g1 (by omega) g2 (by omega) g3)
  ·have:=hs.2.1 i i0 (by omega)
   exact⟨this.2.1,this.2.2⟩
  ·exact absurd (decide_eq_true hp) (by rw [show decide (0<n)=false from e];decide)
  ·exact absurd (decide_eq_true hp) (by rw [show decide (0<n)=false from e];decide)
  ·obtain⟨t1,t2,t3⟩:=ht
   refine hs.2.2 ⟨by omega,?_,?_⟩
   ·rw [show o+n=o+n+0 by omega];omega
   ·rw [show o+n=o+n+0 by omega];omega
 | next h hs hn hb _ ih =>
  intro h0 h1 h2 h3 h4 h5
  rename_i o a b tn l _
  have g:=next_on hs hn hb
  have g1:=hx.rng tn (by have:=hn.1;omega) hb
  have g2:=hy.rng tn (by have:=hn.1;omega) hb
  have g3:=hn.2.2.2 hb
  have g4:=hn.1
  refine .cons h0 h2 h4 ⟨rfl,rfl,rfl,⟨by omega,by omega⟩,⟨by omega,by omega⟩,⟨by omega,by omega⟩,g,(fun e=>by simp [chunkC] at e),fun _=>hs.2.2,fun _ => .inr ⟨by omega,?_,?_⟩,(fun e=>by simp [chunkC] at e)⟩ (ih (by omega) (by omega) (by omega) (by omega) (by omega) (by omega))
  ·rw [show tn+0=tn by omega];omega
  ·rw [show tn+0=tn by omega];omega
 | last h hs hn _ ih =>
  intro h0 h1 h2 h3 h4 h5
  rename_i o a b l _
  exact .cons h0 h2 h4 ⟨rfl,rfl,rfl,⟨by omega,by omega⟩,⟨by omega,by omega⟩,⟨by omega,by omega⟩,by omega,(fun e=>by simp [chunkC] at e),fun _=>hs.2.2,fun _ => .inl ⟨rfl,rfl,rfl⟩,(fun e=>by simp [chunkC] at e)⟩ (ih (by omega) (by omega) (by omega) (by omega) (by omega) (by omega))
end Go.Proofs.Ytfiamddinkokbaa.F
end

section
namespace Go.Proofs.Ytfiamddinkokbaa
open Go.RowKit Go.Proofs.YtfiamddinkokbaaW.PrintWords
def Ev {α : Type} (F : Nat→Option α) (v : α) : Prop := ∃ K,∀ k,K≤k→F k=some v
namespace Ev
variable {α β : Type} {F G : Nat→Option α} {H : Nat→α→Option β} {v a : α} {b : β}
theorem get (h : Ev F v) : ∃ k,F k=some v := let ⟨K,hK⟩ := h;⟨K,hK K (Nat.le_refl K)⟩
theorem val {x : α} (h : x=v) : Ev (fun _=>some x) v := ⟨0,fun _ _=>by rw [h]⟩
theorem const {o : Option α} (h : o=some v) : Ev (fun _=>o) v := ⟨0,fun _ _=>h⟩
theorem of_mono (hm : ∀ k,LeO (F k) (F (k+1))) {k : Nat} (h : F k=some v) : Ev F v := ⟨k,fun j hj=>by
 induction hj with
 | refl=>exact h
 | step _ ih=>exact hm _ _ ih⟩
theorem succ (h : Ev (fun k=>F (k+1)) v) : Ev F v := let ⟨K,hK⟩ := h;⟨K+1,fun k hk=>by
 obtain⟨j,rfl⟩:∃ j,k=j+1:=⟨k-1,by omega⟩
 exact hK j (by omega)⟩
theorem pos {c : Prop} [Decidable c] (hc : c) (h : Ev F v) : Ev (fun k=>if c then F k else G k) v := by simpa only [if_pos hc] using h
theorem neg {c : Prop} [Decidable c] (hc : ¬ c) (h : Ev G v) : Ev (fun k=>if c then F k else G k) v := by simpa only [if_neg hc] using h
theorem bind {F : Nat→Option α} (h : Ev F a) (h' : Ev (fun k=>H k a) b) : Ev (fun k=>(F k).bind (H k)) b := by
 obtain⟨K,hK⟩:=h
 obtain⟨L,hL⟩:=h'
 refine⟨max K L,fun k hk=>?_⟩
 show (F k).bind (H k)=some b
 rw [hK k (by omega)]
 exact hL k (by omega)
theorem cast (h : Ev F a) (e : a=v) : Ev F v := e▸h
end Ev
theorem wrap_in {n : Int} (h0 : -9223372036854775808≤n) (h1 : n≤9223372036854775807) : wrap64 n=n := by unfold wrap64;omega
theorem size_data (s : ByteArray) : s.data.toList.length=s.size := Array.length_toList
theorem bytes_toList (s : ByteArray) : s.toList=s.data.toList := by
 exact ByteArray.toList_eq s
theorem bytes_bt (s : ByteArray) (i : Int) (xs ys : List UInt8) (c : UInt8) (h : s.data.toList=xs++c::ys) (hi : i=xs.length) : bt s i=(c.toNat : Int) := by
 have hs:xs.length<s.size:=by rw [←size_data,h];simp
 subst hi
 unfold bt
 rw [dif_pos (by simpa using hs)]
 have:s.data.toList[xs.length]? = some c:=by rw [h];simp
 have h2:=getElem?_byte s xs.length hs
 rw [this] at h2
 have h3:s[xs.length]=c:=(Option.some.inj h2).symm
 simp only [Int.toNat_natCast,h3]
theorem size_toB (l : List UInt8) : (toB l).size=l.length := by rw [←size_data,data_toB]
theorem bytes_ext {a b : ByteArray} (h : a.data.toList=b.data.toList) : a=b := by rw [←toB_data a,h,toB_data]
theorem rdOf_at {α : Type} (d : α) (l : List α) (i : Int) (xs ys : List α) (c : α) (h : l=xs++c::ys) (hi : i=xs.length) : rdOf d l i=c := by
 subst h hi
 unfold rdOf
 simp [Int.toNat_natCast,List.getD_eq_getElem?_getD]
end Go.Proofs.Ytfiamddinkokbaa
end

section
namespace Go.Proofs.Ytfiamddinkokbaa.F
open Go.RowKit Go.Proofs.YtfiamddinkokbaaW.PrintWords Go.Proofs.YtfiamddinkokbaaW.PrintLast Go.Proofs.YtfiamddinkokbaaW.PrintMore
theorem takeLine_line : ∀ (p : List UInt8) (rest : List UInt8),(10 : UInt8)∉p→takeLine (p++10::rest)=p++[10]∧dropLine (p++10::rest)=rest
 | [],rest,_=>by simp [takeLine,dropLine]
 | c::p,rest,h=>by
  have hc:c≠10:=fun e=>h (by simp [e])
  have ih:=takeLine_line p rest (fun e=>h (by simp [e]))
  simp [takeLine,dropLine,hc,ih.1,ih.2]
theorem splitL_line (p : List UInt8) (rest : List UInt8) (h : (10 : UInt8)∉p) : splitL (p++10::rest)=(p++[10])::splitL rest := by
 rw [splitL_next _ (by simp),(takeLine_line p rest h).1,(takeLine_line p rest h).2]
theorem splitL_last : ∀ (p : List UInt8),p≠[]→(10 : UInt8)∉p→splitL p=[p]
 | [],hp,_=>absurd rfl hp
 | c::p,_,h=>by
  have hc:c≠10:=fun e=>h (by simp [e])
  by_cases hp:p=[]
  ·subst hp;simp [splitL,hc]
  ·have ih:=splitL_last p hp (fun e=>h (by simp [e]))
   simp [splitL,hc,ih]
def runI (s : ByteArray) : Int := (runL s.data.toList : Nat)
def longI (l : List ByteArray) (n : Int) : Int := l.foldl (fun n s=>mx n (runI s)) n
theorem lines_run (a : ByteArray) (hs : a.size≤4000000000) : lines_Run.f a=some (runI a) := by unfold lines_Run.f;rw [if_pos hs];rfl
theorem lines_split (a : ByteArray) (hs : a.size≤4000000000) : lines_Split.f a=some (splitB a) := by unfold lines_Split.f;rw [if_pos hs]
def longAll (ls : List (List ByteArray)) (n : Int) : Int := ls.foldl (fun n l=>longI l n) n
theorem lines_longest_in (ls : List (List ByteArray)) (hN : ls.length≤4000000000) (hn : ∀ l∈ls,l.length≤4000000000) (hs : ∀ l∈ls,∀ s∈l,s.size≤4000000000) :
  ∀ (rest done:List (List ByteArray)) (x i:Int),ls=done++rest→i=done.length→Ev (fun k=>lines_Longest.l0 k x ls (ls.length:Int) i) (longAll rest x)
 | [],done,x,i,hl,ei=>by
  refine Ev.succ ?_
  simp only [lines_Longest.l0]
  refine Ev.neg (by rw [hl];simp;omega) (Ev.val rfl)
 | l::rest,done,x,i,hl,ei=>by
  have hsz:ls.length=done.length+(rest.length+1):=by rw [hl];simp
  have hw:wrap64 (i+1)=i+1:=wrap_in (by omega) (by omega)
  have hb:rd_L1 ls i=l:=by
   unfold rd_L1;subst ei hl;simp [List.getD_eq_getElem?_getD]
  refine Ev.succ ?_
  simp only [lines_Longest.l0,hb]
  refine Ev.pos (by omega) (Ev.pos (by omega) (Ev.pos (by omega) ?_))
  have hm:l∈ls:=by rw [hl];simp
  have inner:∀ (r d:List ByteArray) (x j:Int),l=d++r→j=d.length→Ev (fun k=>lines_Longest.l1 k x ls (ls.length:Int) i l (l.length:Int) j) (longAll rest (longI r x)):=by
   intro r
   induction r with
   | nil =>
    intro d x j hd ej
    refine Ev.succ ?_
    simp only [lines_Longest.l1,hw]
    refine Ev.neg (by rw [hd];simp;omega) ?_
    exact lines_longest_in ls hN hn hs rest (done++[l]) _ (i+1) (by rw [hl];simp) (by simp;omega)
   | cons s r ih =>
    intro d x j hd ej
    have hll:=hn l hm
    have hsl:l.length=d.length+(r.length+1):=by rw [hd];simp
    have hwj:wrap64 (j+1)=j+1:=wrap_in (by omega) (by omega)
    have hbj:rdOf ByteArray.empty l j=s:=rdOf_at _ l j d r s hd ej
    refine Ev.succ ?_
    simp only [lines_Longest.l1,hwj,hbj]
    refine Ev.pos (by omega) (Ev.pos (by omega) (Ev.pos (by omega) (Ev.bind (Ev.const (lines_run s (hs l hm s (by rw [hd];simp)))) ?_)))
    exact ih (d++[s]) _ (j+1) (by rw [hd];simp) (by simp;omega)
  exact inner l [] x 0 rfl rfl
theorem lines_longest (ls : List (List ByteArray)) (hN : ls.length≤4000000000) (hn : ∀ l∈ls,l.length≤4000000000) (hs : ∀ l∈ls,∀ s∈l,s.size≤4000000000) :
  Ev (fun k=>lines_Longest.f k ls) (longAll ls 0):=lines_longest_in ls hN hn hs ls [] 0 0 rfl rfl
theorem splitL_mem : ∀ (l : List UInt8) (x : List UInt8),x∈splitL l→x.length≤l.length := by
 intro l
 induction h:l.length using Nat.strongRecOn generalizing l with
 | ind n ih =>
  intro x hx
  by_cases hl:l=[]
  ·subst hl;simp [splitL] at hx
  ·rw [splitL_next l hl] at hx
   have ht:=congrArg List.length (take_drop_line l)
   rw [List.length_append] at ht
   rcases List.mem_cons.1 hx with rfl|hx
   ·omega
   ·have hpos:0<(takeLine l).length:=by
     cases l with
     | nil=>exact absurd rfl hl
     | cons c t=>simp only [takeLine];split<;>simp
    have:=ih (dropLine l).length (by omega) (dropLine l) rfl x hx
    omega
theorem splitB_length (s : ByteArray) : (splitB s).length≤s.size := by
 unfold splitB;rw [List.length_map,←size_data];exact splitL_length_le _
theorem splitB_mem (s x : ByteArray) (h : x∈splitB s) : x.size≤s.size := by
 obtain⟨y,hy,rfl⟩:=List.mem_map.1 h
 rw [size_toB,←size_data];exact splitL_mem _ _ hy
theorem runI_le (s : ByteArray) : runI s≤s.size := by unfold runI;have := runL_le s.data.toList;rw [size_data] at this;omega
theorem mx_cases (a b : Int) : mx a b=a∧b≤a∨mx a b=b∧a≤b := by unfold mx;split<;>omega
theorem longI_bound (M : Int) : ∀ (l : List ByteArray) (n : Int),n≤M→(∀ s∈l,runI s≤M)→n≤longI l n∧longI l n≤M
 | [],n,h,_=>⟨Int.le_refl n,h⟩
 | s::l,n,h,hs=>by
  have h1:=hs s (by simp)
  have h2:n≤mx n (runI s)∧mx n (runI s)≤M:=by rcases mx_cases n (runI s) with ⟨e,_⟩|⟨e,_⟩<;>omega
  have ih:=longI_bound M l (mx n (runI s)) h2.2 (fun x hx=>hs x (by simp [hx]))
  show n≤longI l (mx n (runI s))∧longI l (mx n (runI s))≤M
  omega
def textRun (s : ByteArray) : Int := longI (splitB s) 0
theorem textRun_bound (s : ByteArray) : 0≤textRun s∧textRun s≤s.size :=
 longI_bound s.size (splitB s) 0 (by omega) (fun x hx=>by have h1:=runI_le x;have h2:=splitB_mem s x hx;omega)
end Go.Proofs.Ytfiamddinkokbaa.F
end
