/- Texts joined into one file (wip/tools/pack.py): Open, Lcs, MidLaw, FindLaw, Sweep, MergeP, Table -/
import Derived.Test.YtfiamddinkokbaaGreatTB2
import Derived.Test.YtfiamddinkokbaaGreatTB1
import Derived.SliceStrings
import Derived.SizedLaws
import Derived.Deep.Slices
import Derived.Deep.Fields
import Derived.ChangeSame
import Derived.Lib.SmallJoins
import Derived.Test.YtfiamddinkokbaaGreatProg
import Derived.Test.YtfiamddinkokbaaGreatTB4
import Derived.Test.YtfiamddinkokbaaGreatTB5
import Derived.Test.YtfiamddinkokbaaGreatTB11
set_option linter.unusedVariables false
set_option linter.unusedSimpArgs false
section
namespace Go.Proofs.YtfiamddinkokbaaGreat.F
open Go.RowKit Go.Proofs.YtfiamddinkokbaaGreatW.PrintWords Go.ChangeShapes Go.WideShapes Go.Deep Go.Joins
section
variable {H : Type} {enc : TypeId×Value→H} {P : Program} {W : World} {base : Nat} {spare : Nat→Bool} {held : Bool}
end
section
variable {H : Type} {enc : TypeId×Value→H} {P : Program} {w : World} {base : Nat} {spare : Nat→Bool} {held : Bool}
end
section
variable {H : Type} {enc : TypeId×Value→H} {W : World} {base : Nat} {spare : Nat→Bool} {held : Bool}
theorem weights_all_mem {P : Program} {e : TypeId} {n : Nat} : ∀ (l : List (DataW H)) (d : DataW H),d∈l→n∈d.weights P e→n∈DataW.weightsAll P e l
 | d'::r,d,hm,hn=>by
  simp only [DataW.weightsAll,List.mem_append]
  rcases List.mem_cons.1 hm with rfl|hm
  ·exact .inl hn
  ·exact .inr (weights_all_mem r d hm hn)
end
end Go.Proofs.YtfiamddinkokbaaGreat.F
end

section
namespace Go.Proofs.YtfiamddinkokbaaGreat.Lcs
def lcs : List Int→List Int→Nat
 | [],_=>0
 | _::_,[]=>0
 | x::a,y::b=>if x=y then lcs a b+1 else max (lcs a (y::b)) (lcs (x::a) b)
termination_by a b=>a.length+b.length
theorem lcs_ge : ∀ (a b c : List Int),c.Sublist a→c.Sublist b→c.length≤lcs a b
 | [],b,c,ha,_=>by rw [List.sublist_nil.1 ha];simp
 | x::a,[],c,_,hb=>by rw [List.sublist_nil.1 hb];simp
 | x::a,y::b,c,ha,hb=>by
  rw [lcs]
  cases c with
  | nil=>simp
  | cons z c =>
   split
   ·have:=lcs_ge a b c ha.tail hb.tail
    simp only [List.length_cons];omega
   ·rename_i e
    by_cases hz:z=x
    ·have hzy:z≠y:=hz▸e
     have h2:(z::c).Sublist b:=by
      cases hb with
      | cons _ h=>exact h
      | cons_cons _ h=>exact absurd rfl hzy
     have:=lcs_ge (x::a) b (z::c) ha h2
     omega
    ·have h1:(z::c).Sublist a:=by
      cases ha with
      | cons _ h=>exact h
      | cons_cons _ h=>exact absurd rfl hz
     have:=lcs_ge a (y::b) (z::c) h1 hb
     omega
termination_by a b=>a.length+b.length
theorem lcs_ex : ∀ (a b : List Int),∃ c : List Int,c.Sublist a∧c.Sublist b∧c.length=lcs a b
 | [],b=>⟨[],by simp,by simp,by simp [lcs]⟩
 | x::a,[]=>⟨[],by simp,by simp,by simp [lcs]⟩
 | x::a,y::b=>by
  rw [lcs]
  split
  ·rename_i e
   subst e
   obtain⟨c,h1,h2,h3⟩:=lcs_ex a b
   exact⟨x::c,h1.cons_cons _,h2.cons_cons _,by simp [h3]⟩
  ·by_cases hm:lcs (x::a) b≤lcs a (y::b)
   ·obtain⟨c,h1,h2,h3⟩:=lcs_ex a (y::b)
    exact⟨c,h1.cons _,h2,by omega⟩
   ·obtain⟨c,h1,h2,h3⟩:=lcs_ex (x::a) b
    exact⟨c,h1,h2.cons _,by omega⟩
termination_by a b=>a.length+b.length
theorem lcs_mono {a a' b b' : List Int} (ha : a.Sublist a') (hb : b.Sublist b') : lcs a b≤lcs a' b' := by
 obtain⟨c,h1,h2,h3⟩:=lcs_ex a b
 rw [←h3];exact lcs_ge _ _ c (h1.trans ha) (h2.trans hb)
theorem lcs_rev_le (a b : List Int) : lcs a b≤lcs a.reverse b.reverse := by
 obtain⟨c,h1,h2,h3⟩:=lcs_ex a b
 rw [←h3,←List.length_reverse]
 exact lcs_ge _ _ c.reverse (List.reverse_sublist.2 h1) (List.reverse_sublist.2 h2)
theorem lcs_reverse (a b : List Int) : lcs a.reverse b.reverse=lcs a b := by
 have h1:=lcs_rev_le a b
 have h2:=lcs_rev_le a.reverse b.reverse
 rw [List.reverse_reverse,List.reverse_reverse] at h2
 omega
theorem lcs_append (a1 b1 a2 b2 : List Int) : lcs a1 b1+lcs a2 b2≤lcs (a1++a2) (b1++b2) := by
 obtain⟨c,h1,h2,h3⟩:=lcs_ex a1 b1
 obtain⟨d,g1,g2,g3⟩:=lcs_ex a2 b2
 rw [←h3,←g3,←List.length_append]
 exact lcs_ge _ _ _ (h1.append g1) (h2.append g2)
theorem lcs_le_left (a b : List Int) : lcs a b≤a.length := by
 obtain⟨c,h1,h2,h3⟩:=lcs_ex a b
 rw [←h3];exact h1.length_le
theorem lcs_le_right (a b : List Int) : lcs a b≤b.length := by
 obtain⟨c,h1,h2,h3⟩:=lcs_ex a b
 rw [←h3];exact h2.length_le
theorem lcs_cons_same (x : Int) (a b : List Int) : lcs (x::a) (x::b)=lcs a b+1 := by rw [lcs,if_pos rfl]
theorem lcs_snoc_same (x : Int) (a b : List Int) : lcs (a++[x]) (b++[x])=lcs a b+1 := by
 rw [←lcs_reverse];simp only [List.reverse_append,List.reverse_cons,List.reverse_nil,List.nil_append,List.singleton_append]
 rw [lcs_cons_same,lcs_reverse]
theorem lcs_snoc_ne {x y : Int} (h : x≠y) (a b : List Int) : lcs (a++[x]) (b++[y])=max (lcs a (b++[y])) (lcs (a++[x]) b) := by
 rw [←lcs_reverse,←lcs_reverse a,←lcs_reverse (a++[x]) b]
 simp only [List.reverse_append,List.reverse_cons,List.reverse_nil,List.nil_append,List.singleton_append]
 rw [lcs,if_neg h]
theorem lcs_nil_right (a : List Int) : lcs a []=0 := by cases a<;>simp [lcs]
theorem lcs_nil_left (b : List Int) : lcs [] b=0 := by simp [lcs]
theorem sub_snoc {c b : List Int} {y : Int} (h : c.Sublist (b++[y])) : c.dropLast.Sublist b := by
 have h1:=List.reverse_sublist.2 h
 rw [List.reverse_append] at h1
 have h2:=h1.tail
 rw [List.tail_reverse] at h2
 exact List.reverse_sublist.1 h2
theorem sub_take {c a : List Int} {p p' : Nat} (hp : p'≤p+1) (h : c.Sublist (a.take p')) : c.dropLast.Sublist (a.take p) := by
 by_cases h1:p'≤p
 ·exact ((List.dropLast_sublist c).trans h).trans (List.take_sublist_take_left h1)
 ·obtain rfl:p'=p+1:=by omega
  by_cases h2:p<a.length
  ·rw [List.take_succ_eq_append_getElem h2] at h
   exact sub_snoc h
  ·rw [List.take_of_length_le (by omega)] at h
   rw [List.take_of_length_le (by omega)]
   exact (List.dropLast_sublist c).trans h
theorem lcs_take_le (a b : List Int) {p p' q q' : Nat} (hp : p'≤p+1) (hq : q'≤q+1) : lcs (a.take p') (b.take q')≤lcs (a.take p) (b.take q)+1 := by
 obtain⟨c,h1,h2,h3⟩:=lcs_ex (a.take p') (b.take q')
 have:=lcs_ge _ _ c.dropLast (sub_take hp h1) (sub_take hq h2)
 rw [List.length_dropLast] at this
 omega
def D0 (a b : List Int) (u v : Int) : Int := u+v-2*((lcs (a.take u.toNat) (b.take v.toNat) : Nat) : Int)
theorem D0_zero (a b : List Int) : D0 a b 0 0=0 := by unfold D0;simp [lcs]
theorem D0_neg (a b : List Int) {u v : Int} (h : u≤0∨v≤0) : D0 a b u v=u+v := by
 unfold D0
 rcases h with h|h
 ·rw [show u.toNat=0 by omega];simp [lcs_nil_left]
 ·rw [show v.toNat=0 by omega];simp [lcs_nil_right]
theorem D0_right (a b : List Int) (u v : Int) : D0 a b (u+1) v≤D0 a b u v+1 := by
 have h:=lcs_mono (a:=a.take u.toNat) (a':=a.take (u+1).toNat) (b:=b.take v.toNat) (b':=b.take v.toNat) (List.take_sublist_take_left (by omega)) (List.Sublist.refl _)
 unfold D0;omega
theorem D0_down (a b : List Int) (u v : Int) : D0 a b u (v+1)≤D0 a b u v+1 := by
 have h:=lcs_mono (a:=a.take u.toNat) (a':=a.take u.toNat) (b:=b.take v.toNat) (b':=b.take (v+1).toNat) (List.Sublist.refl _) (List.take_sublist_take_left (by omega))
 unfold D0;omega
theorem D0_diag (a b : List Int) (u v : Int) : D0 a b u v≤D0 a b (u+1) (v+1) := by
 have h:=lcs_take_le a b (p:=u.toNat) (p':=(u+1).toNat) (q:=v.toNat) (q':=(v+1).toNat) (by omega) (by omega)
 unfold D0;omega
theorem D0_diags (a b : List Int) (u v : Int) (s : Nat) : D0 a b u v≤D0 a b (u+s) (v+s) := by
 induction s with
 | zero=>simp
 | succ s ih =>
  have:=D0_diag a b (u+s) (v+s)
  have e1:u+((s+1:Nat):Int)=u+s+1:=by omega
  have e2:v+((s+1:Nat):Int)=v+s+1:=by omega
  rw [e1,e2];omega
theorem D0_along (a b : List Int) (k : Int) {t t' : Int} (h : t≤t') : D0 a b t (t-k)≤D0 a b t' (t'-k) := by
 have:=D0_diags a b t (t-k) (t'-t).toNat
 have e1:t+(((t'-t).toNat:Nat):Int)=t':=by omega
 have e2:t-k+(((t'-t).toNat:Nat):Int)=t'-k:=by omega
 rw [e1,e2] at this
 exact this
def Hit (a b : List Int) (u v : Int) : Prop := 0≤u∧0≤v∧u<a.length∧v<b.length∧a[u.toNat]? = b[v.toNat]?
theorem D0_hit {a b : List Int} {u v : Int} (h : Hit a b u v) : D0 a b (u+1) (v+1)=D0 a b u v := by
 obtain⟨h0,h1,h2,h3,h4⟩:=h
 have hu:u.toNat<a.length:=by omega
 have hv:v.toNat<b.length:=by omega
 rw [List.getElem?_eq_getElem hu,List.getElem?_eq_getElem hv] at h4
 have e:=Option.some.inj h4
 unfold D0
 rw [show (u+1).toNat=u.toNat+1 by omega,show (v+1).toNat=v.toNat+1 by omega,List.take_succ_eq_append_getElem hu,List.take_succ_eq_append_getElem hv,e,lcs_snoc_same]
 omega
theorem D0_miss {a b : List Int} {u v : Int} (h0 : 0≤u) (h1 : 0≤v) (h : ¬ Hit a b u v) : D0 a b u (v+1)≤D0 a b (u+1) (v+1)-1∨D0 a b (u+1) v≤D0 a b (u+1) (v+1)-1 := by
 unfold D0
 rw [show (u+1).toNat=u.toNat+1 by omega,show (v+1).toNat=v.toNat+1 by omega]
 by_cases hu:u.toNat<a.length
 ·by_cases hv:v.toNat<b.length
  ·have hne:a[u.toNat]≠b[v.toNat]:=fun e=>h ⟨h0,h1,by omega,by omega,by rw [List.getElem?_eq_getElem hu,List.getElem?_eq_getElem hv,e]⟩
   have e:=lcs_snoc_ne hne (a.take u.toNat) (b.take v.toNat)
   rw [←List.take_succ_eq_append_getElem hu,←List.take_succ_eq_append_getElem hv] at e
   omega
  ·right
   rw [List.take_of_length_le (l:=b) (i:=v.toNat+1) (by omega),List.take_of_length_le (l:=b) (i:=v.toNat) (by omega)]
   omega
 ·left
  rw [List.take_of_length_le (l:=a) (i:=u.toNat+1) (by omega),List.take_of_length_le (l:=a) (i:=u.toNat) (by omega)]
  omega
theorem D0_abs (a b : List Int) {u v : Int} (h0 : 0≤u) (h1 : 0≤v) : u-v≤D0 a b u v∧v-u≤D0 a b u v := by
 have h2:=lcs_le_left (a.take u.toNat) (b.take v.toNat)
 have h3:=lcs_le_right (a.take u.toNat) (b.take v.toNat)
 rw [List.length_take] at h2 h3
 unfold D0
 omega
theorem D0_par (a b : List Int) (u v : Int) : (D0 a b u v-(u-v)) % 2=0 := by unfold D0;omega
def DD (a b : List Int) : Int := (a.length : Int)+b.length-2*((lcs a b : Nat) : Int)
theorem D0_all (a b : List Int) : D0 a b a.length b.length=DD a b := by
 unfold D0 DD
 rw [List.take_of_length_le (by omega),List.take_of_length_le (by omega)]
theorem DD_reverse (a b : List Int) : DD a.reverse b.reverse=DD a b := by unfold DD;rw [lcs_reverse];simp
theorem lcs_cut (a b : List Int) (p q : Nat) : lcs (a.take p) (b.take q)+lcs (a.drop p) (b.drop q)≤lcs a b := by
 have:=lcs_append (a.take p) (b.take q) (a.drop p) (b.drop q)
 rwa [List.take_append_drop,List.take_append_drop] at this
theorem rev_take (a : List Int) (u : Int) : a.reverse.take ((a.length : Int)-u).toNat=(a.drop (min u.toNat a.length)).reverse := by
 rw [List.take_reverse]
 congr 1
 by_cases h:u<0
 ·rw [show a.length-((a.length:Int)-u).toNat=0 by omega,show min u.toNat a.length=0 by omega]
 ·rw [show a.length-((a.length:Int)-u).toNat=min u.toNat a.length by omega]
theorem take_min (a : List Int) (p : Nat) : a.take (min p a.length)=a.take p := by
 by_cases h:p≤a.length
 ·rw [Nat.min_eq_left h]
 ·rw [Nat.min_eq_right (by omega),List.take_of_length_le (Nat.le_refl _),List.take_of_length_le (by omega)]
theorem D1_eq (a b : List Int) (u v : Int) : D0 a.reverse b.reverse (a.length-u) (b.length-v)=(a.length-u)+(b.length-v)-2*((lcs (a.drop (min u.toNat a.length)) (b.drop (min v.toNat b.length)) : Nat) : Int) := by
 unfold D0
 rw [rev_take,rev_take,lcs_reverse]
theorem D_sum (a b : List Int) (u v : Int) : DD a b≤D0 a b u v+D0 a.reverse b.reverse (a.length-u) (b.length-v) := by
 rw [D1_eq]
 have h:=lcs_cut a b (min u.toNat a.length) (min v.toNat b.length)
 rw [take_min,take_min] at h
 unfold DD D0
 omega
theorem Hit_rev {a b : List Int} {u v : Int} (h : Hit a b u v) : Hit a.reverse b.reverse (a.length-1-u) (b.length-1-v) := by
 obtain⟨h0,h1,h2,h3,h4⟩:=h
 refine⟨by omega,by omega,by rw [List.length_reverse];omega,by rw [List.length_reverse];omega,?_⟩
 rw [List.getElem?_reverse (by omega),List.getElem?_reverse (by omega)]
 rw [show a.length-1-((a.length:Int)-1-u).toNat=u.toNat by omega,show b.length-1-((b.length:Int)-1-v).toNat=v.toNat by omega]
 exact h4
theorem on_way (a b : List Int) (e : Int) (he : 0≤e) : ∀ (s : Nat) (u v : Int),u+v=s→0≤u→0≤v→u≤a.length→v≤b.length→D0 a b u v+D0 a.reverse b.reverse (a.length-u) (b.length-v)=DD a b→e≤D0 a b u v →
  ∃ u v:Int,0≤u∧0≤v∧u≤a.length∧v≤b.length∧D0 a b u v=e∧D0 a.reverse b.reverse (a.length-u) (b.length-v)=DD a b-e:=by
 intro s
 induction s using Nat.strongRecOn with
 | _ s ih =>
  intro u v hs h0 h1 h2 h3 hd hle
  by_cases hq:D0 a b u v=e
  ·exact⟨u,v,h0,h1,h2,h3,hq,by omega⟩
  have stepL:1≤u→D0 a b (u-1) v≤D0 a b u v-1→∃ u v:Int,0≤u∧0≤v∧u≤a.length∧v≤b.length∧D0 a b u v=e∧D0 a.reverse b.reverse (a.length-u) (b.length-v)=DD a b-e:=by
   intro hu hx
   have g1:=D0_right a.reverse b.reverse (a.length-u) (b.length-v)
   have e1:(a.length:Int)-u+1=a.length-(u-1):=by omega
   rw [e1] at g1
   have g2:=D_sum a b (u-1) v
   have g3:=D0_right a b (u-1) v
   rw [show u-1+1=u by omega] at g3
   exact ih (s-1) (by omega) (u-1) v (by omega) (by omega) h1 (by omega) h3 (by omega) (by omega)
  have stepD:1≤v→D0 a b u (v-1)≤D0 a b u v-1→∃ u v:Int,0≤u∧0≤v∧u≤a.length∧v≤b.length∧D0 a b u v=e∧D0 a.reverse b.reverse (a.length-u) (b.length-v)=DD a b-e:=by
   intro hu hx
   have g1:=D0_down a.reverse b.reverse (a.length-u) (b.length-v)
   have e1:(b.length:Int)-v+1=b.length-(v-1):=by omega
   rw [e1] at g1
   have g2:=D_sum a b u (v-1)
   have g3:=D0_down a b u (v-1)
   rw [show v-1+1=v by omega] at g3
   exact ih (s-1) (by omega) u (v-1) (by omega) h0 (by omega) h2 (by omega) (by omega) (by omega)
  by_cases hu:u=0
  ·subst hu
   have g:=D0_neg a b (u:=0) (v:=v) (.inl (by omega))
   have g':=D0_neg a b (u:=0) (v:=v-1) (.inl (by omega))
   exact stepD (by clear stepL stepD;omega) (by clear stepL stepD;omega)
  by_cases hv:v=0
  ·subst hv
   have g:=D0_neg a b (u:=u) (v:=0) (.inr (by omega))
   have g':=D0_neg a b (u:=u-1) (v:=0) (.inr (by omega))
   exact stepL (by clear stepL stepD;omega) (by clear stepL stepD;omega)
  by_cases hh:Hit a b (u-1) (v-1)
  ·have g:=D0_hit hh
   rw [show u-1+1=u by omega,show v-1+1=v by omega] at g
   have g2:=D0_hit (Hit_rev hh)
   rw [show (a.length:Int)-1-(u-1)+1=a.length-(u-1) by omega,show (b.length:Int)-1-(v-1)+1=b.length-(v-1) by omega,
    show (a.length:Int)-1-(u-1)=a.length-u by omega,show (b.length:Int)-1-(v-1)=b.length-v by omega] at g2
   clear stepL stepD
   exact ih (s-2) (by omega) (u-1) (v-1) (by omega) (by omega) (by omega) (by omega) (by omega) (by omega) (by omega)
  ·have g:=D0_miss (a:=a) (b:=b) (u:=u-1) (v:=v-1) (by omega) (by omega) hh
   rw [show u-1+1=u by omega,show v-1+1=v by omega] at g
   rcases g with g|g
   ·exact stepL (by clear stepL stepD;omega) g
   ·exact stepD (by clear stepL stepD;omega) g
theorem on_way_all (a b : List Int) (e : Int) (he : 0≤e) (he2 : e≤DD a b) :
  ∃ u v:Int,0≤u∧0≤v∧u≤a.length∧v≤b.length∧D0 a b u v=e∧D0 a.reverse b.reverse (a.length-u) (b.length-v)=DD a b-e:=by
 have h:=D0_all a b
 refine on_way a b e he (a.length+b.length) a.length b.length (by omega) (by omega) (by omega) (by omega) (by omega) ?_ (by omega)
 rw [h,show (a.length:Int)-a.length=0 by omega,show (b.length:Int)-b.length=0 by omega,D0_zero]
 omega
def Far (a b : List Int) (d k t : Int) : Prop := 0≤t∧k≤t∧D0 a b t (t-k)≤d∧d<D0 a b (t+1) (t+1-k)
theorem Far.le {a b : List Int} {d k t t' : Int} (h : Far a b d k t) (h2 : D0 a b t' (t'-k)≤d) : t'≤t := by
 by_cases hc:t'≤t
 ·exact hc
 ·have:=D0_along a b k (t:=t+1) (t':=t') (by omega)
  have:=h.2.2.2
  omega
def Begin (a b : List Int) (d k u : Int) : Prop := 0≤u∧k≤u∧D0 a b u (u-k)=d∧(∀ e,u≤e→¬ Hit a b e (e-k)→d<D0 a b (e+1) (e+1-k))
theorem begin_zero (a b : List Int) : Begin a b 0 0 0 := by
 refine⟨by omega,by omega,by simpa using D0_zero a b,fun e he hh=>?_⟩
 have g:=D0_miss (a:=a) (b:=b) (u:=e) (v:=e-0) he (by omega) hh
 have g1:=(D0_abs a b (u:=e) (v:=e-0+1) he (by omega)).2
 have g2:=(D0_abs a b (u:=e+1) (v:=e-0) (by omega) (by omega)).1
 rw [show e-0+1=e+1-0 by omega] at g g1
 omega
theorem begin_of {a b : List Int} {d k tl tr u : Int} (hd : 1≤d) (h1 : -d≤k) (h2 : k≤d) (hp : (d-k) % 2=0) (hl : k ≠ -d→Far a b (d-1) (k-1) tl) (hr : k≠d→Far a b (d-1) (k+1) tr)
  (hu:u=if k = -d∨(k≠d∧tl<tr) then tr else tl+1):Begin a b d k u:=by
 have key:0≤u∧k≤u∧D0 a b u (u-k)≤d∧d-1≤D0 a b u (u-k)∧(k ≠ -d→tl+1≤u)∧(k≠d→tr≤u):=by
  by_cases hc:k = -d∨(k≠d∧tl<tr)
  ·rw [if_pos hc] at hu
   replace hu:=hu.symm
   subst hu
   have hk:k≠d:=by omega
   obtain⟨a1,a2,a3,a4⟩:=hr hk
   have b1:=D0_down a b tr (tr-(k+1))
   rw [show tr-(k+1)+1=tr-k by omega] at b1
   have b2:=D0_right a b tr (tr-k)
   rw [show tr+1-(k+1)=tr-k by omega] at a4
   exact⟨a1,by omega,by omega,by omega,fun hne=>by omega,fun _=>by omega⟩
  ·rw [if_neg hc] at hu
   have hk:k ≠ -d:=fun e=>hc (.inl e)
   obtain⟨a1,a2,a3,a4⟩:=hl hk
   subst hu
   have b1:=D0_right a b tl (tl-(k-1))
   rw [show tl-(k-1)=tl+1-k by omega] at b1 a3
   have b2:=D0_down a b (tl+1) (tl+1-k)
   rw [show tl+1-(k-1)=tl+1-k+1 by omega] at a4
   exact⟨by omega,by omega,by omega,by omega,fun _=>by omega,fun hne=>by omega⟩
 obtain⟨k1,k2,k3,k4,k5,k6⟩:=key
 have hpar:=D0_par a b u (u-k)
 refine⟨k1,k2,by omega,fun e he hh=>?_⟩
 have g:=D0_miss (a:=a) (b:=b) (u:=e) (v:=e-k) (by omega) (by omega) hh
 rw [show e-k+1=e+1-k by omega] at g
 rcases g with g|g
 ·by_cases hc:d<D0 a b (e+1) (e+1-k)
  ·exact hc
  ·exfalso
   by_cases hk:k = -d
   ·have:=(D0_abs a b (u:=e) (v:=e+1-k) (by omega) (by omega)).2
    omega
   ·have f:=(hl hk).le (t':=e) (by rw [show e-(k-1)=e+1-k by omega];omega)
    have:=k5 hk
    omega
 ·by_cases hc:d<D0 a b (e+1) (e+1-k)
  ·exact hc
  ·exfalso
   by_cases hk:k=d
   ·have:=(D0_abs a b (u:=e+1) (v:=e-k) (by omega) (by omega)).1
    omega
   ·have f:=(hr hk).le (t':=e+1) (by rw [show e+1-(k+1)=e-k by omega];omega)
    have:=k6 hk
    omega
theorem far_of_begin {a b : List Int} {d k u e : Int} (h : Begin a b d k u) (hue : u≤e) (hhit : ∀ t,u≤t→t<e→Hit a b t (t-k)) (hno : ¬ Hit a b e (e-k)) :
  Far a b d k e∧D0 a b e (e-k)=d:=by
 obtain⟨h1,h2,h3,h4⟩:=h
 have:∀ s:Nat,u+s≤e→D0 a b (u+s) (u+s-k)=d:=by
  intro s
  induction s with
  | zero=>intro _;simpa using h3
  | succ s ih =>
   intro hs
   have g:=D0_hit (hhit (u+s) (by omega) (by omega))
   have:=ih (by omega)
   rw [show u+((s+1:Nat):Int)=u+s+1 by omega,show u+(s:Int)+1-k=u+s-k+1 by omega,g]
   exact this
 have hq:=this (e-u).toNat (by omega)
 rw [show u+(((e-u).toNat:Nat):Int)=e by omega] at hq
 exact⟨⟨by omega,by omega,by omega,h4 e hue hno⟩,hq⟩
theorem met {a b : List Int} {d d' k u e t : Int} (hb : Begin a b d k u) (hue : u≤e) (hhit : ∀ t,u≤t→t<e→Hit a b t (t-k)) (hno : ¬ Hit a b e (e-k))
  (hr:Far a.reverse b.reverse d' ((a.length:Int)-b.length-k) t) (hdd:d+d'=DD a b) (hm:(a.length:Int)≤e+t) :
  0≤u∧0≤u-k∧e≤a.length∧e-k≤b.length∧D0 a b u (u-k)=d∧D0 a b e (e-k)=d∧D0 a.reverse b.reverse (a.length-e) (b.length-(e-k))=d':=by
 obtain⟨hf,hd⟩:=far_of_begin hb hue hhit hno
 obtain⟨b1,b2,b3,b4⟩:=hb
 obtain⟨r1,r2,r3,r4⟩:=hr
 have m1:=D0_along a.reverse b.reverse ((a.length:Int)-b.length-k) (t:=a.length-e) (t':=t) (by omega)
 rw [show (a.length:Int)-e-(a.length-b.length-k)=b.length-(e-k) by omega] at m1
 have s1:=D_sum a b e (e-k)
 have hE:D0 a.reverse b.reverse (a.length-e) (b.length-(e-k))=d':=by omega
 refine⟨b1,by omega,?_,?_,b3,hd,hE⟩
 ·by_cases hc:e≤a.length
  ·exact hc
  ·exfalso
   have n1:=D0_neg a.reverse b.reverse (u:=a.length-e) (v:=b.length-(e-k)) (.inl (by omega))
   have n2:=D0_neg a.reverse b.reverse (u:=0) (v:=b.length-(a.length-k)) (.inl (by omega))
   have m2:=D0_along a.reverse b.reverse ((a.length:Int)-b.length-k) (t:=0) (t':=t) (by omega)
   rw [show 0-((a.length:Int)-b.length-k)=b.length-(a.length-k) by omega] at m2
   omega
 ·by_cases hc:e-k≤b.length
  ·exact hc
  ·exfalso
   have n1:=D0_neg a.reverse b.reverse (u:=a.length-e) (v:=b.length-(e-k)) (.inr (by omega))
   have n2:=D0_neg a.reverse b.reverse (u:=(a.length:Int)-b.length-k) (v:=0) (.inr (by omega))
   have m2:=D0_along a.reverse b.reverse ((a.length:Int)-b.length-k) (t:=(a.length:Int)-b.length-k) (t':=t) (by omega)
   rw [show (a.length:Int)-b.length-k-(a.length-b.length-k)=0 by omega] at m2
   omega
theorem not_met {a b : List Int} {d d' : Int} (h0 : 0≤d) (h0' : 0≤d') (f g : Int→Int) (hf : ∀ k,-d≤k→k≤d→(d-k) % 2=0→Far a b d k (f k)) (hg : ∀ k,-d'≤k→k≤d'→(d'-k) % 2=0→Far a.reverse b.reverse d' k (g k))
  (hno:∀ k,-d≤k→k≤d→(d-k) % 2=0 → -d'≤(a.length:Int)-b.length-k→(a.length:Int)-b.length-k≤d'→f k+g (a.length-b.length-k)<a.length):DD a b≠d+d':=by
 intro hdd
 obtain⟨u,v,h1,h2,h3,h4,h5,h6⟩:=on_way_all a b d h0 (by omega)
 have p1:=D0_abs a b h1 h2
 have p2:=D0_abs a.reverse b.reverse (u:=a.length-u) (v:=b.length-v) (by omega) (by omega)
 have q1:=D0_par a b u v
 have q2:=D0_par a.reverse b.reverse (a.length-u) (b.length-v)
 have hfk:=hf (u-v) (by omega) (by omega) (by omega)
 have hgk:=hg ((a.length:Int)-b.length-(u-v)) (by omega) (by omega) (by omega)
 have e1:=hfk.le (t':=u) (by rw [show u-(u-v)=v by omega];omega)
 have e2:=hgk.le (t':=a.length-u) (by rw [show (a.length:Int)-u-(a.length-b.length-(u-v))=b.length-v by omega];omega)
 have:=hno (u-v) (by omega) (by omega) (by omega) (by omega) (by omega)
 omega
theorem met_least {a b : List Int} {d d' k e t : Int} (hf : Far a b d k e) (hr : Far a.reverse b.reverse d' ((a.length : Int)-b.length-k) t) (hm : (a.length : Int)≤e+t) : DD a b≤d+d' := by
 have m1:=D0_along a.reverse b.reverse ((a.length:Int)-b.length-k) (t:=a.length-e) (t':=t) (by omega)
 rw [show (a.length:Int)-e-(a.length-b.length-k)=b.length-(e-k) by omega] at m1
 have s1:=D_sum a b e (e-k)
 have:=hf.2.2.1
 have:=hr.2.2.1
 omega
theorem met_lcs {a b : List Int} {d d' k u e : Int} (h0 : 0≤u) (h1 : 0≤u-k) (hue : u≤e) (h2 : e≤a.length) (h3 : e-k≤b.length) (h4 : D0 a b u (u-k)=d) (h5 : D0 a b e (e-k)=d) (h6 : D0 a.reverse b.reverse (a.length-e) (b.length-(e-k))=d')
  (hdd:d+d'=DD a b):lcs (a.take u.toNat) (b.take (u-k).toNat)+(e-u).toNat+lcs (a.drop e.toNat) (b.drop (e-k).toNat)=lcs a b:=by
 rw [D1_eq,show min e.toNat a.length=e.toNat by omega,show min (e-k).toNat b.length=(e-k).toNat by omega] at h6
 unfold D0 at h4 h5
 unfold DD at hdd
 omega
end Go.Proofs.YtfiamddinkokbaaGreat.Lcs
end

section
namespace Go.Proofs.YtfiamddinkokbaaGreat.F
open Go.RowKit Go.Shelf Go.Proofs.YtfiamddinkokbaaGreatW.PrintWords
theorem hit_iff {xs ys : List Int} {k t : Int} (h0 : 0≤t) (h1 : 0≤t-k) : Lcs.Hit xs ys t (t-k)↔(t<xs.length∧t-k<ys.length∧rd xs t=rd ys (t-k)) := by
 unfold Lcs.Hit rd
 constructor
 ·rintro⟨_,_,h2,h3,h4⟩
  refine⟨h2,h3,?_⟩
  rw [List.getD_eq_getElem?_getD,List.getD_eq_getElem?_getD,h4]
 ·rintro⟨h2,h3,h4⟩
  refine⟨h0,h1,h2,h3,?_⟩
  rw [List.getD_eq_getElem?_getD,List.getD_eq_getElem?_getD,List.getElem?_eq_getElem (l:=xs) (by omega),List.getElem?_eq_getElem (l:=ys) (by omega)] at h4
  rw [List.getElem?_eq_getElem (l:=xs) (by omega),List.getElem?_eq_getElem (l:=ys) (by omega)]
  exact congrArg some h4
theorem slide_law (xs ys : List Int) (k : Int) : ∀ (s : Nat) (u : Int),0≤u→k≤u→(xs.length : Int)-u≤s →
  u≤slide xs ys k s u∧(∀ t,u≤t→t<slide xs ys k s u→Lcs.Hit xs ys t (t-k))∧¬ Lcs.Hit xs ys (slide xs ys k s u) (slide xs ys k s u-k)
 | 0,u,h0,h1,h2=>by
  rw [slide]
  exact⟨Int.le_refl _,fun t h3 h4=>by omega,fun h=>by have:=h.2.2.1;omega⟩
 | s+1,u,h0,h1,h2=>by
  rw [slide]
  split
  ·rename_i h
   obtain⟨g1,g2,g3⟩:=slide_law xs ys k s (u+1) (by omega) (by omega) (by omega)
   refine⟨by omega,fun t h3 h4=>?_,g3⟩
   by_cases ht:t=u
   ·subst ht;exact (hit_iff h0 (by omega)).2 h
   ·exact g2 t (by omega) h4
  ·rename_i h
   exact⟨Int.le_refl _,fun t h3 h4=>by omega,fun hh=>h ((hit_iff h0 (by omega)).1 hh)⟩
theorem slideI_law (xs ys : List Int) {k u : Int} (h0 : 0≤u) (h1 : k≤u) : u≤slideI xs ys k u∧(∀ t,u≤t→t<slideI xs ys k u→Lcs.Hit xs ys t (t-k))∧¬ Lcs.Hit xs ys (slideI xs ys k u) (slideI xs ys k u-k) :=
 slide_law xs ys k _ u h0 h1 (by omega)
theorem far_le {a b : List Int} {d k t : Int} (h : Lcs.Far a b d k t) (hk : k≤d) : t≤d+a.length := by
 obtain⟨h1,h2,h3,_⟩:=h
 have:=Lcs.lcs_le_left (a.take t.toNat) (b.take (t-k).toNat)
 rw [List.length_take] at this
 unfold Lcs.D0 at h3
 omega
theorem rd_set_same {l : List Int} {i x : Int} (h0 : 0≤i) (h1 : i<l.length) : rd (l.set i.toNat x) i=x := by
 unfold rd
 rw [List.getD_eq_getElem?_getD,List.getElem?_set,if_pos rfl,if_pos (by omega)];rfl
theorem rd_set_ne {l : List Int} {i j x : Int} (h0 : 0≤i) (h1 : 0≤j) (h : j≠i) : rd (l.set i.toNat x) j=rd l j := by
 unfold rd
 rw [List.getD_eq_getElem?_getD,List.getElem?_set,if_neg (by omega),←List.getD_eq_getElem?_getD]
theorem bound_set {l : List Int} {i : Nat} {x : Int} (h : ∀ y∈l,-1≤y∧y≤100000000000) (h0 : 0≤x) (h1 : x≤100000000000) : ∀ y∈l.set i x,-1≤y∧y≤100000000000 := by
 intro y hy
 rcases List.mem_or_eq_of_mem_set hy with g|g
 ·exact h y g
 ·omega
theorem boundB_in {l : List Int} (h : ∀ x∈l,-1≤x∧x≤100000000000) : boundB l=true := by
 unfold boundB
 simpa only [Bool.and_eq_true,decide_eq_true_eq,List.all_eq_true] using h
def Fars (xs ys : List Int) (off d k : Int) (far : List Int) : Prop := ∀ j : Int,-d≤j→j<k→(d-j) % 2=0→Lcs.Far xs ys d j (rd far (off+j))
def Prev (xs ys : List Int) (off d : Int) (far : List Int) : Prop := (d=0→rd far (off+1)=0)∧(1≤d→Fars xs ys off (d-1) d far)
theorem begin_law {xs ys : List Int} {off d k : Int} {far : List Int} (hd : 0≤d) (h1 : -d≤k) (h2 : k≤d) (hp : (d-k) % 2=0) (h : Prev xs ys off d far) : Lcs.Begin xs ys d k (beginI far off k d) := by
 by_cases h0:d=0
 ·have hk:k=0:=by omega
  subst hk h0
  have:beginI far off 0 0=0:=by
   unfold beginI
   rw [if_pos (.inl rfl),show off+0+1=off+1 by omega]
   exact h.1 rfl
  rw [this];exact Lcs.begin_zero _ _
 ·have hf:=h.2 (by omega)
  refine Lcs.begin_of (tl:=rd far (off+k-1)) (tr:=rd far (off+k+1)) (by omega) h1 h2 hp (fun hk=>?_) (fun hk=>?_) rfl
  ·have:=hf (k-1) (by omega) (by omega) (by omega)
   rwa [show off+(k-1)=off+k-1 by omega] at this
  ·have:=hf (k+1) (by omega) (by omega) (by omega)
   rwa [show off+(k+1)=off+k+1 by omega] at this
def FrontOK (xs ys other : List Int) (off delta n d lim : Int) (par : Bool) (far' : List Int) : Option (Int×Int×Int)→Prop
 | none=>Fars xs ys off d (d+1) far'∧∀ j:Int,-d≤j→j<d+1→(d-j) % 2=0→¬ metB par other off (delta-j) lim n (rd far' (off+j))=true
 | some (u,e,k)=>-d≤k∧k≤d∧(d-k) % 2=0∧Lcs.Begin xs ys d k u∧u≤e∧(∀ t,u≤t→t<e→Lcs.Hit xs ys t (t-k))∧¬ Lcs.Hit xs ys e (e-k)∧metB par other off (delta-k) lim n e=true
theorem front_law {xs ys other : List Int} {off delta n d lim : Int} {par : Bool} (hd : 0≤d) (hoff : d+1≤off) (hdB : d≤20000000000) (hxl : xs.length≤10000000000) (hob : ∀ x∈other,-1≤x∧x≤100000000000) :
  ∀ (s:Nat) (k:Int) (far:List Int),k+2*s=d+2 → -d≤k→off+d+1<far.length→(∀ x∈far,-1≤x∧x≤100000000000)→Prev xs ys off d far→Fars xs ys off d k far →
  (∀ j:Int,-d≤j→j<k→(d-j) % 2=0→¬ metB par other off (delta-j) lim n (rd far (off+j))=true) →
  ∃ far' r,frontF xs ys other off delta n d lim par s k far=some (far',r)∧far'.length=far.length∧(∀ x∈far',-1≤x∧x≤100000000000)∧FrontOK xs ys other off delta n d lim par far' r
 | 0,k,far,hs,hk,hl,hb,hpv,hf,hm=>by
  refine⟨far,none,by rw [frontF],rfl,hb,?_,?_⟩
  ·exact fun j h1 h2 h3=>hf j h1 (by omega) h3
  ·exact fun j h1 h2 h3=>hm j h1 (by omega) h3
 | s+1,k,far,hs,hk,hl,hb,hpv,hf,hm=>by
  have hkd:k≤d:=by omega
  have hpar:(d-k) % 2=0:=by omega
  have hB:=begin_law hd hk hkd hpar hpv
  have hB1:=hB.1
  have hB2:=hB.2.1
  obtain⟨g1,g2,g3⟩:=slideI_law xs ys hB1 hB2
  obtain⟨hF,_⟩:=Lcs.far_of_begin hB g1 g2 g3
  have hle:=far_le hF hkd
  have hok:okFar xs ys far other off k d=true:=by
   unfold okFar
   rw [boundB_in hb,boundB_in hob]
   simp only [Bool.and_eq_true,decide_eq_true_eq,Bool.true_and,true_and]
   exact⟨hB1,hB2,by omega,g1,by omega⟩
  rw [frontF,if_pos hok]
  generalize beginI far off k d=u at *
  generalize slideI xs ys k u=e at *
  have hb':=bound_set (i:=(off+k).toNat) hb (x:=e) (by omega) (by omega)
  by_cases hmet:metB par other off (delta-k) lim n e=true
  ·rw [if_pos hmet]
   exact⟨_,_,rfl,by simp,hb',hk,hkd,hpar,hB,g1,g2,g3,hmet⟩
  ·rw [if_neg hmet]
   have hnew:∀ j:Int,-d≤j→j<k+2→(d-j) % 2=0→rd (far.set (off+k).toNat e) (off+j)=if j=k then e else rd far (off+j):=by
    intro j h1 h2 h3
    by_cases hjk:j=k
    ·subst hjk;rw [if_pos rfl];exact rd_set_same (by omega) (by omega)
    ·rw [if_neg hjk];exact rd_set_ne (by omega) (by omega) (by omega)
   have q1:Prev xs ys off d (far.set (off+k).toNat e):=by
    refine⟨fun h0=>?_,fun h0 j j1 j2 j3=>?_⟩
    ·rw [rd_set_ne (by omega) (by omega) (by omega)];exact hpv.1 h0
    ·rw [rd_set_ne (by omega) (by omega) (by omega)];exact hpv.2 h0 j j1 j2 j3
   have q2:Fars xs ys off d (k+2) (far.set (off+k).toNat e):=by
    intro j j1 j2 j3
    rw [hnew j j1 j2 j3]
    by_cases hjk:j=k
    ·rw [if_pos hjk,hjk];exact hF
    ·rw [if_neg hjk];exact hf j j1 (by omega) j3
   have q3:∀ j:Int,-d≤j→j<k+2→(d-j) % 2=0→¬ metB par other off (delta-j) lim n (rd (far.set (off+k).toNat e) (off+j))=true:=by
    intro j j1 j2 j3
    rw [hnew j j1 j2 j3]
    by_cases hjk:j=k
    ·rw [if_pos hjk,hjk];exact hmet
    ·rw [if_neg hjk];exact hm j j1 (by omega) j3
   obtain⟨far',r,h1,h2,h3,h4⟩:=front_law hd hoff hdB hxl hob s (k+2) (far.set (off+k).toNat e) (by omega) (by omega) (by rw [List.length_set];exact hl) hb' q1 q2 q3
   exact⟨far',r,h1,by rw [h2,List.length_set],h3,h4⟩
theorem tmod2_ne (x : Int) : (x.tmod 2 != 0)=true↔x % 2≠0 := by
 rw [bne_iff_ne]
 exact⟨fun h g=>h (Int.tmod_eq_zero_of_dvd (Int.dvd_of_emod_eq_zero g)),fun h g=>h (Int.emod_eq_zero_of_dvd (Int.dvd_of_tmod_eq_zero g))⟩
theorem tmod2_eq (x : Int) : (x.tmod 2==0)=true↔x % 2=0 := by
 rw [beq_iff_eq]
 exact⟨fun h=>Int.emod_eq_zero_of_dvd (Int.dvd_of_tmod_eq_zero h),fun h=>Int.tmod_eq_zero_of_dvd (Int.dvd_of_emod_eq_zero h)⟩
def MidOK (xs ys : List Int) (u v s : Int) : Prop :=
 0≤u∧0≤v∧0≤s∧u+s≤xs.length∧v+s≤ys.length∧(∀ t,0≤t→t<s→rd xs (u+t)=rd ys (v+t)) ∧
 Lcs.lcs (xs.take u.toNat) (ys.take v.toNat)+s.toNat+Lcs.lcs (xs.drop (u+s).toNat) (ys.drop (v+s).toNat)=Lcs.lcs xs ys∧u+v<xs.length+ys.length∧0<u+v+2*s
theorem mid_of_met {xs ys : List Int} {d d' k u e t : Int} (hB : Lcs.Begin xs ys d k u) (h1 : u≤e) (h2 : ∀ t,u≤t→t<e→Lcs.Hit xs ys t (t-k)) (h3 : ¬ Lcs.Hit xs ys e (e-k))
  (hr:Lcs.Far xs.reverse ys.reverse d' ((xs.length:Int)-ys.length-k) t) (hdd:d+d'=Lcs.DD xs ys) (hm:(xs.length:Int)≤e+t) (hd:0<d) (hd':0<d'):MidOK xs ys u (u-k) (e-u):=by
 obtain⟨m1,m2,m3,m4,m5,m6,m7⟩:=Lcs.met hB h1 h2 h3 hr hdd hm
 have hl:=Lcs.met_lcs m1 m2 h1 m3 m4 m5 m6 m7 hdd
 refine⟨m1,m2,by omega,by omega,by omega,fun i hi0 hi1=>?_,?_,?_,?_⟩
 ·have:=((hit_iff (xs:=xs) (ys:=ys) (k:=k) (t:=u+i) (by omega) (by omega)).1 (h2 (u+i) (by omega) (by omega))).2.2
  rw [show u-k+i=u+i-k by omega];exact this
 ·rw [show u+(e-u)=e by omega,show u-k+(e-u)=e-k by omega];exact hl
 ·by_cases hc:u+(u-k)<xs.length+ys.length
  ·exact hc
  ·exfalso
   have e1:u=xs.length:=by omega
   have e2:u-k=ys.length:=by omega
   rw [e2,e1,Lcs.D0_all] at m5
   omega
 ·by_cases hc:0<u+(u-k)+2*(e-u)
  ·exact hc
  ·exfalso
   have e1:e=0:=by omega
   have e2:e-k=0:=by omega
   rw [e2,e1,Lcs.D0_zero] at m6
   omega
theorem MidOK_rev {xs ys : List Int} {u v s : Int} (h : MidOK xs.reverse ys.reverse u v s) : MidOK xs ys (xs.length-u-s) (ys.length-v-s) s := by
 unfold MidOK at h
 rw [List.length_reverse,List.length_reverse,Lcs.lcs_reverse] at h
 obtain⟨h1,h2,h3,h4,h5,h6,h7,h8,h9⟩:=h
 refine⟨by omega,by omega,h3,by omega,by omega,fun t t0 t1=>?_,?_,by omega,by omega⟩
 ·have:=h6 (s-1-t) (by omega) (by omega)
  rw [rd_reverse _ _ (by omega) (by omega),rd_reverse _ _ (by omega) (by omega)] at this
  rw [show (xs.length:Int)-u-s+t=(xs.length:Int)-1-(u+(s-1-t)) by omega,show (ys.length:Int)-v-s+t=(ys.length:Int)-1-(v+(s-1-t)) by omega]
  exact this
 ·rw [List.take_reverse,List.take_reverse,List.drop_reverse,List.drop_reverse,Lcs.lcs_reverse,Lcs.lcs_reverse] at h7
  rw [show ((xs.length:Int)-u-s).toNat=xs.length-(u+s).toNat by omega,show ((ys.length:Int)-v-s).toNat=ys.length-(v+s).toNat by omega,
   show ((xs.length:Int)-u-s+s).toNat=xs.length-u.toNat by omega,show ((ys.length:Int)-v-s+s).toNat=ys.length-v.toNat by omega]
  omega
theorem mid_law {xs ys : List Int} {off : Int} (hoff : off=(xs.length : Int)+ys.length+1) (hDD : 2≤Lcs.DD xs ys) (hx : xs.length≤4000000000) (hy : ys.length≤4000000000) :
  ∀ (s:Nat) (d:Int) (fore rear:List Int),0≤d→s+d=xs.length+ys.length+1→2*d-1≤Lcs.DD xs ys→(fore.length:Int)=2*(xs.length+ys.length)+3→(rear.length:Int)=2*(xs.length+ys.length)+3 →
  (∀ x∈fore,-1≤x∧x≤100000000000)→(∀ x∈rear,-1≤x∧x≤100000000000)→Prev xs ys off d fore→Prev xs.reverse ys.reverse off d rear →
  ∃ u v t,midF xs ys off ((xs.length:Int)-ys.length) xs.length ys.length s d fore rear=some (u,v,t)∧MidOK xs ys u v t
 | 0,d,fore,rear,hd,hs,hle,_,_,_,_,_,_=>by
  exfalso
  unfold Lcs.DD at hle
  omega
 | s+1,d,fore,rear,hd,hs,hle,hlf,hlr,hbf,hbr,hpf,hpr=>by
  have hpar:(Lcs.DD xs ys-((xs.length:Int)-ys.length)) % 2=0:=by unfold Lcs.DD;omega
  rw [midF]
  obtain⟨fore',r,e1,e2,e3,e4⟩:=front_law (xs:=xs) (ys:=ys) (other:=rear) (off:=off) (delta:=(xs.length:Int)-ys.length) (n:=xs.length) (d:=d) (lim:=d-1) (par:=((xs.length:Int)-ys.length).tmod 2 != 0)
   hd (by omega) (by omega) (by omega) hbr (d+1).toNat (-d) fore (by omega) (by omega) (by omega) hbf hpf (fun j j1 j2=>by omega) (fun j j1 j2=>by omega)
  rw [e1]
  cases r with
  | some q =>
   obtain⟨u,e,k⟩:=q
   obtain⟨k1,k2,k3,hB,g1,g2,g3,hm⟩:=e4
   obtain⟨m1,m2,m3,m4,m5⟩:=metB_true hm
   have hodd:=(tmod2_ne _).1 m1
   have hr:=hpr.2 (by omega) ((xs.length:Int)-ys.length-k) (by omega) (by omega) (by omega)
   have hf:=(Lcs.far_of_begin hB g1 g2 g3).1
   have hleast:=Lcs.met_least hf hr m5
   exact⟨u,u-k,e-u,rfl,mid_of_met hB g1 g2 g3 hr (by omega) m5 (by omega) (by omega)⟩
  | none =>
   obtain⟨hF,hN⟩:=e4
   show ∃ u v t,midK2 _ _ _ _=some (u,v,t)∧_
   obtain⟨rear',r',f1,f2,f3,f4⟩:=front_law (xs:=xs.reverse) (ys:=ys.reverse) (other:=fore') (off:=off) (delta:=(xs.length:Int)-ys.length) (n:=xs.length) (d:=d) (lim:=d) (par:=((xs.length:Int)-ys.length).tmod 2==0)
    hd (by omega) (by omega) (by rw [List.length_reverse];omega) e3 (d+1).toNat (-d) rear (by omega) (by omega) (by omega) hbr hpr (fun j j1 j2=>by omega) (fun j j1 j2=>by omega)
   rw [f1]
   cases r' with
   | some q =>
    obtain⟨u,e,k⟩:=q
    obtain⟨k1,k2,k3,hB,g1,g2,g3,hm⟩:=f4
    obtain⟨m1,m2,m3,m4,m5⟩:=metB_true hm
    have heven:=(tmod2_eq _).1 m1
    have hr:=hF ((xs.length:Int)-ys.length-k) (by omega) (by omega) (by omega)
    have hf:=(Lcs.far_of_begin hB g1 g2 g3).1
    have hr2:Lcs.Far xs.reverse.reverse ys.reverse.reverse d ((xs.reverse.length:Int)-ys.reverse.length-k) (rd fore' (off+((xs.length:Int)-ys.length-k))):=by
     rw [List.reverse_reverse,List.reverse_reverse,List.length_reverse,List.length_reverse];exact hr
    have hm2:(xs.reverse.length:Int)≤e+rd fore' (off+((xs.length:Int)-ys.length-k)):=by rw [List.length_reverse];exact m5
    have hleast:=Lcs.met_least hf hr2 hm2
    rw [Lcs.DD_reverse] at hleast
    have hmid:=MidOK_rev (mid_of_met hB g1 g2 g3 hr2 (by rw [Lcs.DD_reverse];omega) hm2 (by omega) (by omega))
    rw [show (xs.length:Int)-u-(e-u)=xs.length-e by omega,show (ys.length:Int)-(u-k)-(e-u)=ys.length-(e-k) by omega] at hmid
    exact⟨_,_,_,rfl,hmid⟩
   | none =>
    obtain⟨hF',hN'⟩:=f4
    show ∃ u v t,midF _ _ _ _ _ _ _ _ _ _=some (u,v,t)∧_
    have hcase:2*(d+1)-1≤Lcs.DD xs ys:=by
     by_cases hodd:((xs.length:Int)-ys.length) % 2=0
     ·have hne:=Lcs.not_met (a:=xs) (b:=ys) hd hd (fun k=>rd fore' (off+k)) (fun k=>rd rear' (off+k)) (fun k k1 k2 k3=>hF k k1 (by omega) k3) (fun k k1 k2 k3=>hF' k k1 (by omega) k3) (fun k k1 k2 k3 k4 k5=>?_)
      ·omega
      ·have hn:=hN' ((xs.length:Int)-ys.length-k) k4 (by omega) (by omega)
       have hf:=(hF k k1 (by omega) k3).1
       rcases metB_false hn with g|g|g|g|g
       ·rw [(tmod2_eq _).2 hodd] at g;cases g
       ·have:=of_decide_eq_false g.2;omega
       ·have:=of_decide_eq_false g.2.2;omega
       ·have:=g.2.2.2
        rw [show off+((xs.length:Int)-ys.length-((xs.length:Int)-ys.length-k))=off+k by omega] at this
        have:=bne_eq_false_iff_eq.1 this
        omega
       ·have:=of_decide_eq_false g.2.2.2.2
        rw [show off+((xs.length:Int)-ys.length-((xs.length:Int)-ys.length-k))=off+k by omega] at this
        show rd fore' (off+k)+rd rear' (off+(xs.length-ys.length-k))<xs.length
        omega
     ·by_cases h0:d=0
      ·omega
      ·have hpr2:=hpr.2 (by omega)
       have hne:=Lcs.not_met (a:=xs) (b:=ys) (d:=d) (d':=d-1) hd (by omega) (fun k=>rd fore' (off+k)) (fun k=>rd rear (off+k)) (fun k k1 k2 k3=>hF k k1 (by omega) k3) (fun k k1 k2 k3=>hpr2 k (by omega) (by omega) (by omega)) (fun k k1 k2 k3 k4 k5=>?_)
       ·omega
       ·have hn:=hN k k1 (by omega) k3
        have hf:=(hpr2 ((xs.length:Int)-ys.length-k) (by omega) (by omega) (by omega)).1
        rcases metB_false hn with g|g|g|g|g
        ·rw [(tmod2_ne _).2 hodd] at g;cases g
        ·have:=of_decide_eq_false g.2;omega
        ·have:=of_decide_eq_false g.2.2;omega
        ·have:=bne_eq_false_iff_eq.1 g.2.2.2
         omega
        ·have:=of_decide_eq_false g.2.2.2.2
         show rd fore' (off+k)+rd rear (off+(xs.length-ys.length-k))<xs.length
         omega
    refine mid_law hoff hDD hx hy s (d+1) fore' rear' (by omega) (by omega) hcase (by omega) (by omega) e3 f3 ⟨fun h=>by omega,fun _=>?_⟩ ⟨fun h=>by omega,fun _=>?_⟩
    ·rw [show d+1-1=d by omega];exact hF
    ·rw [show d+1-1=d by omega];exact hF'
theorem middle_law {xs ys : List Int} (hDD : 2≤Lcs.DD xs ys) (hx : xs.length≤4000000000) (hy : ys.length≤4000000000) : ∃ u v t,middleF xs ys=some (u,v,t)∧MidOK xs ys u v t := by
 have hnew:rd (newRow (xs.length+ys.length)) ((xs.length+ys.length:Nat)+1+1)=0:=by
  have:=rd_set_same (l:=List.replicate (2*(xs.length+ys.length)+3) (-1)) (i:=((xs.length+ys.length:Nat):Int)+1+1) (x:=0) (by omega) (by rw [List.length_replicate];omega)
  rw [show (((xs.length+ys.length:Nat):Int)+1+1).toNat=xs.length+ys.length+2 by omega] at this
  exact this
 have hlen:=newRow_length (xs.length+ys.length)
 have hP:∀ a b:List Int,Prev a b (((xs.length+ys.length:Nat):Int)+1) 0 (newRow (xs.length+ys.length)):=fun a b=>⟨fun _=>hnew,fun h=>by omega⟩
 exact mid_law (off:=((xs.length+ys.length:Nat):Int)+1) (by omega) hDD hx hy (xs.length+ys.length+1) 0 _ _ (by omega) (by omega) (by omega) (by omega) (by omega) (newRow_bound _) (newRow_bound _) (hP _ _) (hP _ _)
abbrev Rise (p q : SP) : Prop := p.f0<q.f0∧p.f1<q.f1
def Chain (a b : List Int) (a0 a1 b0 b1 : Int) (r : List SP) : Prop := r.Pairwise Rise∧∀ p∈r,a0≤p.f0∧p.f0<a1∧b0≤p.f1∧p.f1<b1∧rd a p.f0=rd b p.f1
theorem Chain.nil (a b : List Int) (a0 a1 b0 b1 : Int) : Chain a b a0 a1 b0 b1 [] := ⟨List.Pairwise.nil,fun _ h=>by cases h⟩
theorem Chain.append {a b : List Int} {a0 a1 a2 b0 b1 b2 : Int} {r r' : List SP} (h : Chain a b a0 a1 b0 b1 r) (g : Chain a b a1 a2 b1 b2 r') (h1 : a0≤a1) (h2 : a1≤a2) (h3 : b0≤b1) (h4 : b1≤b2) : Chain a b a0 a2 b0 b2 (r++r') := by
 refine⟨List.pairwise_append.2 ⟨h.1,g.1,fun p hp q hq=>?_⟩,fun p hp=>?_⟩
 ·have:=h.2 p hp
  have:=g.2 q hq
  exact⟨by omega,by omega⟩
 ·rcases List.mem_append.1 hp with hp|hp
  ·have:=h.2 p hp
   exact⟨this.1,by omega,this.2.2.1,by omega,this.2.2.2.2⟩
  ·have:=g.2 p hp
   exact⟨by omega,this.2.1,by omega,this.2.2.2.1,this.2.2.2.2⟩
theorem chain_diag {a b : List Int} (a0 b0 : Int) : ∀ (n : Nat),(∀ i : Int,0≤i→i<n→rd a (a0+i)=rd b (b0+i))→Chain a b a0 (a0+n) b0 (b0+n) (diagP a0 b0 n)
 | 0,_=>Chain.nil _ _ _ _ _ _
 | n+1,h=>by
  rw [diagP_succ]
  refine (chain_diag a0 b0 n (fun i h0 h1=>h i h0 (by omega))).append (a1:=a0+n) (b1:=b0+n) ⟨List.pairwise_singleton _ _,fun p hp=>?_⟩ (by omega) (by omega) (by omega) (by omega)
  obtain rfl:=List.mem_singleton.1 hp
  exact⟨Int.le_refl _,by show a0+(n:Int)<a0+((n+1:Nat):Int);omega,Int.le_refl _,by show b0+(n:Int)<b0+((n+1:Nat):Int);omega,h n (by omega) (by omega)⟩
theorem pre_get {α : Type} [DecidableEq α] : ∀ (xs ys : List α) (i : Nat),i<pre xs ys→xs[i]? = ys[i]?
 | [],ys,i,h=>by rw [pre_nil_left] at h;omega
 | x::xs,[],i,h=>by rw [pre_nil_right] at h;omega
 | x::xs,y::ys,i,h=>by
  rw [pre] at h
  split at h
  ·rename_i e
   cases i with
   | zero=>simp [e]
   | succ i=>simpa using pre_get xs ys i (by omega)
  ·omega
theorem pre_drop {α : Type} [DecidableEq α] : ∀ (xs ys : List α),pre (xs.drop (pre xs ys)) (ys.drop (pre xs ys))=0
 | [],ys=>by rw [List.drop_nil,pre_nil_left]
 | x::xs,[]=>by rw [List.drop_nil,pre_nil_right]
 | x::xs,y::ys=>by
  rw [pre]
  split
  ·rw [List.drop_succ_cons,List.drop_succ_cons];exact pre_drop xs ys
  ·rename_i e
   rw [List.drop_zero,List.drop_zero,pre,if_neg e]
theorem pre_take_zero {α : Type} [DecidableEq α] {xs ys : List α} (h : pre xs ys=0) (i j : Nat) : pre (xs.take i) (ys.take j)=0 := by
 cases xs with
 | nil=>rw [List.take_nil,pre_nil_left]
 | cons x xs =>
  cases ys with
  | nil=>rw [List.take_nil,pre_nil_right]
  | cons y ys =>
   rw [pre] at h
   split at h
   ·omega
   ·rename_i e
    cases i with
    | zero=>rw [List.take_zero,pre_nil_left]
    | succ i =>
     cases j with
     | zero=>rw [List.take_zero,pre_nil_right]
     | succ j=>rw [List.take_succ_cons,List.take_succ_cons,pre,if_neg e]
theorem pre_comm {α : Type} [DecidableEq α] : ∀ (xs ys : List α),pre xs ys=pre ys xs
 | [],ys=>by rw [pre_nil_left,pre_nil_right]
 | x::xs,[]=>by rw [pre_nil_left,pre_nil_right]
 | x::xs,y::ys=>by
  rw [pre,pre,pre_comm xs ys]
  by_cases e:x=y
  ·rw [if_pos e,if_pos e.symm]
  ·rw [if_neg e,if_neg (Ne.symm e)]
theorem lcs_pre : ∀ (xs ys : List Int),Lcs.lcs xs ys=pre xs ys+Lcs.lcs (xs.drop (pre xs ys)) (ys.drop (pre xs ys))
 | [],ys=>by rw [pre_nil_left];simp
 | x::xs,[]=>by rw [pre_nil_right];simp
 | x::xs,y::ys=>by
  rw [pre]
  split
  ·rename_i e
   subst e
   rw [Lcs.lcs_cons_same,List.drop_succ_cons,List.drop_succ_cons,lcs_pre xs ys]
   omega
  ·simp
def inner {α : Type} (xs : List α) (p q : Nat) : List α := (xs.drop p).take (xs.length-p-q)
theorem lcs_ends (xs ys : List Int) : Lcs.lcs xs ys=endsN xs ys+Lcs.lcs (inner xs (endsN xs ys) (endsM xs ys)) (inner ys (endsN xs ys) (endsM xs ys))+endsM xs ys := by
 have h1:=lcs_pre xs ys
 have h2:=lcs_pre (xs.drop (pre xs ys)).reverse (ys.drop (pre xs ys)).reverse
 rw [Lcs.lcs_reverse,List.drop_reverse,List.drop_reverse,Lcs.lcs_reverse,List.length_drop,List.length_drop] at h2
 unfold inner
 have e1:endsN xs ys=pre xs ys:=rfl
 have e2:endsM xs ys=pre (xs.drop (pre xs ys)).reverse (ys.drop (pre xs ys)).reverse:=rfl
 rw [e1,e2]
 omega
theorem inner_pre (xs ys : List Int) : pre (inner xs (endsN xs ys) (endsM xs ys)) (inner ys (endsN xs ys) (endsM xs ys))=0 := pre_take_zero (pre_drop xs ys) _ _
theorem inner_suf (xs ys : List Int) : pre (inner xs (endsN xs ys) (endsM xs ys)).reverse (inner ys (endsN xs ys) (endsM xs ys)).reverse=0 := by
 have h:=pre_drop (xs.drop (pre xs ys)).reverse (ys.drop (pre xs ys)).reverse
 rw [List.drop_reverse,List.drop_reverse,List.length_drop,List.length_drop] at h
 exact h
theorem sub_less {xs ys : List Int} (hs : ys.Sublist xs) (h1 : pre xs ys=0) (h2 : pre xs.reverse ys.reverse=0) (h3 : ys≠[]) : ys.length+2≤xs.length := by
 cases ys with
 | nil=>exact absurd rfl h3
 | cons y ys =>
  cases xs with
  | nil=>cases hs
  | cons x xs =>
   rw [pre] at h1
   split at h1
   ·omega
   ·rename_i e
    have hs2:(y::ys).Sublist xs:=by
     cases hs with
     | cons _ h=>exact h
     | cons_cons _ h=>exact absurd rfl e
    have hle:=hs2.length_le
    by_cases hc:(y::ys).length+2≤(x::xs).length
    ·exact hc
    ·exfalso
     have he:=hs2.eq_of_length (by simp only [List.length_cons] at *;omega)
     rw [←he,List.reverse_cons] at h2
     cases hr:(y::ys).reverse with
     | nil=>exact h3 (List.reverse_eq_nil_iff.1 hr)
     | cons z zs =>
      rw [hr,List.cons_append,pre,if_pos rfl] at h2
      omega
theorem DD_two {xs ys : List Int} (h1 : pre xs ys=0) (h2 : pre xs.reverse ys.reverse=0) (h3 : xs≠[]) (h4 : ys≠[]) : 2≤Lcs.DD xs ys := by
 obtain⟨c,c1,c2,c3⟩:=Lcs.lcs_ex xs ys
 have l1:=c1.length_le
 have l2:=c2.length_le
 unfold Lcs.DD
 by_cases hm:c.length=ys.length
 ·have:=sub_less (c2.eq_of_length hm▸c1) h1 h2 h4
  omega
 ·by_cases hn:c.length=xs.length
  ·have:=sub_less (c1.eq_of_length hn▸c2) (by rw [pre_comm];exact h1) (by rw [pre_comm];exact h2) h3
   omega
  ·omega
theorem piece_take {a : List Int} {l h : Int} (u : Int) (h0 : 0≤l) (h1 : 0≤u) (h2 : l+u≤h) : pieceI a l (l+u)=(pieceI a l h).take u.toNat := by
 unfold pieceI
 rw [List.drop_take,List.drop_take,List.take_take,show min u.toNat (h.toNat-l.toNat)=(l+u).toNat-l.toNat by omega]
theorem piece_drop {a : List Int} {l h : Int} (u : Int) (h0 : 0≤l) (h1 : 0≤u) : pieceI a (l+u) h=(pieceI a l h).drop u.toNat := by
 unfold pieceI
 rw [List.drop_drop,show (l+u).toNat=l.toNat+u.toNat by omega]
theorem inner_piece {a : List Int} {a0 a1 : Int} (p q : Nat) (h0 : 0≤a0) (h1 : a0≤a1) (h2 : a1≤a.length) (hpq : (p : Int)+q≤a1-a0) : pieceI a (a0+p) (a1-q)=inner (pieceI a a0 a1) p q := by
 have hl:=pieceI_length h0 h1 h2
 unfold inner
 rw [piece_drop p h0 (by omega),show a1-(q:Int)=a0+(a1-a0-q) by omega,piece_take (h:=a1) (a1-a0-q) h0 (by omega) (by omega),List.drop_take,Int.toNat_natCast,show (pieceI a a0 a1).length-p-q=(a1-a0-(q:Int)).toNat-p by omega]
theorem rd_get {xs ys : List Int} {i : Int} (h : xs[i.toNat]? = ys[i.toNat]?) : rd xs i=rd ys i := by
 unfold rd;rw [List.getD_eq_getElem?_getD,List.getD_eq_getElem?_getD,h]
theorem rd_drop (xs : List Int) (p : Nat) {w : Int} (h0 : 0≤w) : rd (xs.drop p) w=rd xs (p+w) := by
 unfold rd;rw [List.getD_eq_getElem?_getD,List.getD_eq_getElem?_getD,List.getElem?_drop,show ((p:Int)+w).toNat=p+w.toNat by omega]
theorem ends_pre {xs ys : List Int} {i : Int} (h0 : 0≤i) (h1 : i<endsN xs ys) : rd xs i=rd ys i := rd_get (pre_get xs ys i.toNat (by unfold endsN at h1;omega))
theorem ends_suf {xs ys : List Int} {i : Int} (h0 : 0≤i) (h1 : i<endsM xs ys) : rd xs ((xs.length : Int)-endsM xs ys+i)=rd ys ((ys.length : Int)-endsM xs ys+i) := by
 have hle:=ends_le xs ys
 have e1:endsN xs ys=pre xs ys:=rfl
 rw [e1] at hle
 have key:∀ zs:List Int,pre xs ys+endsM xs ys≤zs.length→rd zs ((zs.length:Int)-endsM xs ys+i)=rd (zs.drop (pre xs ys)).reverse ((endsM xs ys:Int)-1-i):=by
  intro zs hz
  rw [←rd_rev (by omega) (by rw [List.length_drop];omega),rd_drop _ _ (by rw [List.length_drop];omega),List.length_drop,show ((pre xs ys:Nat):Int)+(((zs.length-pre xs ys:Nat):Int)-1-((endsM xs ys:Int)-1-i))=(zs.length:Int)-endsM xs ys+i by omega]
 rw [key xs hle.1,key ys hle.2]
 refine rd_get (pre_get _ _ _ ?_)
 unfold endsM at *
 omega
theorem find_law {a b : List Int} (ha : a.length≤4000000000) (hb : b.length≤4000000000) : ∀ (s : Nat) (a0 a1 b0 b1 : Int),0≤a0→a0≤a1→a1≤a.length→0≤b0→b0≤b1→b1≤b.length→(a1-a0)+(b1-b0)<s →
  ∃ r,findF a b s a0 a1 b0 b1=some r∧Chain a b a0 a1 b0 b1 r∧r.length=Lcs.lcs (pieceI a a0 a1) (pieceI b b0 b1)
 | 0,a0,a1,b0,b1,h0,h1,h2,h3,h4,h5,hs=>by omega
 | s+1,a0,a1,b0,b1,h0,h1,h2,h3,h4,h5,hs=>by
  rw [findF,if_pos ⟨h0,h1,h2,h3,h4,h5⟩]
  have hel:=ends_le (pieceI a a0 a1) (pieceI b b0 b1)
  have hlx:=pieceI_length h0 h1 h2
  have hly:=pieceI_length h3 h4 h5
  have hlcs:=lcs_ends (pieceI a a0 a1) (pieceI b b0 b1)
  have hpre:=inner_pre (pieceI a a0 a1) (pieceI b b0 b1)
  have hsuf:=inner_suf (pieceI a a0 a1) (pieceI b b0 b1)
  have hd1:Chain a b a0 (a0+(endsN (pieceI a a0 a1) (pieceI b b0 b1):Nat)) b0 (b0+(endsN (pieceI a a0 a1) (pieceI b b0 b1):Nat)) (diagP a0 b0 (endsN (pieceI a a0 a1) (pieceI b b0 b1))):=by
   refine chain_diag a0 b0 _ (fun i i0 i1=>?_)
   rw [pieceI_rd h0 h2 i i0 (by omega),pieceI_rd h3 h5 i i0 (by omega)]
   exact ends_pre i0 i1
  have hd2:Chain a b (a1-(endsM (pieceI a a0 a1) (pieceI b b0 b1):Nat)) a1 (b1-(endsM (pieceI a a0 a1) (pieceI b b0 b1):Nat)) b1 (diagP (a1-(endsM (pieceI a a0 a1) (pieceI b b0 b1):Nat)) (b1-(endsM (pieceI a a0 a1) (pieceI b b0 b1):Nat)) (endsM (pieceI a a0 a1) (pieceI b b0 b1))):=by
   have:=chain_diag (a:=a) (b:=b) (a1-(endsM (pieceI a a0 a1) (pieceI b b0 b1):Nat)) (b1-(endsM (pieceI a a0 a1) (pieceI b b0 b1):Nat)) (endsM (pieceI a a0 a1) (pieceI b b0 b1)) (fun i i0 i1=>?_)
   ·rwa [show a1-((endsM (pieceI a a0 a1) (pieceI b b0 b1):Nat):Int)+((endsM (pieceI a a0 a1) (pieceI b b0 b1):Nat):Int)=a1 by omega,show b1-((endsM (pieceI a a0 a1) (pieceI b b0 b1):Nat):Int)+((endsM (pieceI a a0 a1) (pieceI b b0 b1):Nat):Int)=b1 by omega] at this
   ·have hq:=ends_suf i0 i1
    rw [hlx,hly] at hq
    rw [show a1-((endsM (pieceI a a0 a1) (pieceI b b0 b1):Nat):Int)+i=a0+(a1-a0-(endsM (pieceI a a0 a1) (pieceI b b0 b1):Nat)+i) by omega,show b1-((endsM (pieceI a a0 a1) (pieceI b b0 b1):Nat):Int)+i=b0+(b1-b0-(endsM (pieceI a a0 a1) (pieceI b b0 b1):Nat)+i) by omega,
     pieceI_rd h0 h2 _ (by omega) (by omega),pieceI_rd h3 h5 _ (by omega) (by omega)]
    exact hq
  rw [←inner_piece _ _ h0 h1 h2 (by omega),←inner_piece _ _ h3 h4 h5 (by omega)] at hlcs hpre hsuf
  generalize endsN (pieceI a a0 a1) (pieceI b b0 b1)=en at *
  generalize endsM (pieceI a a0 a1) (pieceI b b0 b1)=em at *
  have hmid:∃ mid,(if a0+(en:Int)<a1-em∧b0+(en:Int)<b1-em then
    (middleF (pieceI a (a0+en) (a1-em)) (pieceI b (b0+en) (b1-em))).bind fun r =>
     if 0≤r.1∧0≤r.2.1∧0≤r.2.2∧a0+en+r.1+r.2.2≤a1∧b0+en+r.2.1+r.2.2≤b1 then
      (findF a b s (a0+en) (a0+en+r.1) (b0+en) (b0+en+r.2.1)).bind fun l1 =>
       (findF a b s (a0+en+r.1+r.2.2) (a1-em) (b0+en+r.2.1+r.2.2) (b1-em)).bind fun l2 =>
        some (l1++diagP (a0+en+r.1) (b0+en+r.2.1) r.2.2.toNat++l2)
     else none
   else some [])=some mid∧Chain a b (a0+en) (a1-em) (b0+en) (b1-em) mid∧mid.length=Lcs.lcs (pieceI a (a0+en) (a1-em)) (pieceI b (b0+en) (b1-em)):=by
   have hlx2:=pieceI_length (a:=a) (lo:=a0+en) (hi:=a1-em) (by omega) (by omega) (by omega)
   have hly2:=pieceI_length (a:=b) (lo:=b0+en) (hi:=b1-em) (by omega) (by omega) (by omega)
   by_cases hc:a0+(en:Int)<a1-em∧b0+(en:Int)<b1-em
   ·rw [if_pos hc]
    have hDD:=DD_two hpre hsuf (fun e=>by rw [e] at hlx2;simp at hlx2;omega) (fun e=>by rw [e] at hly2;simp at hly2;omega)
    obtain⟨u,v,t,e,m1,m2,m3,m4,m5,m6,m7,m8,m9⟩:=middle_law hDD (by omega) (by omega)
    obtain⟨r1,e1,c1,l1⟩:=find_law ha hb s (a0+en) (a0+en+u) (b0+en) (b0+en+v) (by omega) (by omega) (by omega) (by omega) (by omega) (by omega) (by omega)
    obtain⟨r2,e2,c2,l2⟩:=find_law ha hb s (a0+en+u+t) (a1-em) (b0+en+v+t) (b1-em) (by omega) (by omega) (by omega) (by omega) (by omega) (by omega) (by omega)
    rw [e]
    simp only [Option.bind_some]
    rw [if_pos ⟨m1,m2,m3,by omega,by omega⟩,e1]
    simp only [Option.bind_some]
    rw [e2]
    simp only [Option.bind_some]
    have hd:=chain_diag (a:=a) (b:=b) (a0+en+u) (b0+en+v) t.toNat (fun i i0 i1=>by
     have:=m6 i i0 (by omega)
     rw [←pieceI_rd (by omega) (by omega) _ (by omega) (by omega),←pieceI_rd (by omega) (by omega) _ (by omega) (by omega)] at this
     rw [show a0+(en:Int)+u+i=a0+en+(u+i) by omega,show b0+(en:Int)+v+i=b0+en+(v+i) by omega]
     exact this)
    rw [show a0+(en:Int)+u+((t.toNat:Nat):Int)=a0+en+u+t by omega,show b0+(en:Int)+v+((t.toNat:Nat):Int)=b0+en+v+t by omega] at hd
    refine⟨_,rfl,(c1.append hd (by omega) (by omega) (by omega) (by omega)).append c2 (by omega) (by omega) (by omega) (by omega),?_⟩
    rw [piece_take (h:=a1-em) u (by omega) (by omega) (by omega),piece_take (h:=b1-em) v (by omega) (by omega) (by omega)] at l1
    rw [show a0+(en:Int)+u+t=a0+en+(u+t) by omega,show b0+(en:Int)+v+t=b0+en+(v+t) by omega,piece_drop (u+t) (by omega) (by omega),piece_drop (v+t) (by omega) (by omega)] at l2
    rw [List.length_append,List.length_append,diagP_length,l1,l2]
    exact m7
   ·rw [if_neg hc]
    refine⟨[],rfl,Chain.nil _ _ _ _ _ _,?_⟩
    by_cases hx:a0+(en:Int)<a1-em
    ·have:pieceI b (b0+en) (b1-em)=[]:=List.eq_nil_of_length_eq_zero (by omega)
     rw [this,Lcs.lcs_nil_right];rfl
    ·have:pieceI a (a0+en) (a1-em)=[]:=List.eq_nil_of_length_eq_zero (by omega)
     rw [this,Lcs.lcs_nil_left];rfl
  obtain⟨mid,e,c,l⟩:=hmid
  rw [e]
  simp only [Option.bind_some]
  refine⟨_,rfl,(hd1.append c (by omega) (by omega) (by omega) (by omega)).append hd2 (by omega) (by omega) (by omega) (by omega),?_⟩
  rw [List.length_append,List.length_append,diagP_length,diagP_length,l,hlcs]
theorem piece_all (a : List Int) : pieceI a 0 a.length=a := by unfold pieceI;simp
theorem match_law (a b : List Int) (ha : a.length≤4000000000) (hb : b.length≤4000000000) : ∃ r,matchF a b=some r∧Chain a b 0 a.length 0 b.length r∧r.length=Lcs.lcs a b := by
 have:=find_law ha hb (a.length+b.length+1) 0 a.length 0 b.length (by omega) (by omega) (by omega) (by omega) (by omega) (by omega) (by omega)
 rw [piece_all,piece_all] at this
 exact this
structure Tab (x : List Int) (base left : Int) : Prop where
 len:(x.length:Int)=base
 rng:∀ i:Int,0≤i→i<base → -1≤rd x i∧rd x i<left
 inc:∀ i j:Int,0≤i→i<j→j<base→0≤rd x i→0≤rd x j→rd x i<rd x j
def Tog (x y : List Int) (base o a b i : Int) : Prop := o+i<base∧rd x (o+i)=a+i∧rd y (o+i)=b+i
def StabIs (x y : List Int) (base o a b n : Int) : Prop := 0≤n∧(∀ i : Int,0≤i→i<n→Tog x y base o a b i)∧¬ Tog x y base o a b n
def NextIs (x y : List Int) (base o a b tn : Int) : Prop := o≤tn∧tn≤base∧(∀ t : Int,o≤t→t<tn→rd x t<a∨rd y t<b)∧(tn<base→a≤rd x tn∧b≤rd y tn)
theorem stab_ex (x y : List Int) (base o a b : Int) : ∀ (m : Nat) (i : Int),0≤i→base-o-i≤m→(∀ j : Int,0≤j→j<i→Tog x y base o a b j)→∃ n,StabIs x y base o a b n := by
 intro m
 induction m with
 | zero=>exact fun i h0 h1 h2=>⟨i,h0,h2,fun h=>by have:=h.1;omega⟩
 | succ m ih =>
  intro i h0 h1 h2
  by_cases ht:Tog x y base o a b i
  ·refine ih (i+1) (by omega) (by omega) (fun j j0 j1=>?_)
   by_cases hj:j=i
   ·rw [hj];exact ht
   ·exact h2 j j0 (by omega)
  ·exact⟨i,h0,h2,ht⟩
theorem next_ex (x y : List Int) (base o a b : Int) (ho : o≤base) : ∀ (m : Nat) (t : Int),o≤t→t≤base→base-t≤m→(∀ s : Int,o≤s→s<t→rd x s<a∨rd y s<b)→∃ tn,NextIs x y base o a b tn := by
 intro m
 induction m with
 | zero=>exact fun t h0 h1 h2 h3=>⟨t,h0,h1,h3,fun h=>by omega⟩
 | succ m ih =>
  intro t h0 h1 h2 h3
  by_cases hb:t=base
  ·exact⟨t,h0,h1,h3,fun h=>by omega⟩
  by_cases ht:rd x t<a∨rd y t<b
  ·refine ih (t+1) (by omega) (by omega) (by omega) (fun s s0 s1=>?_)
   by_cases hs:s=t
   ·rw [hs];exact ht
   ·exact h3 s s0 (by omega)
  ·exact⟨t,h0,h1,h3,fun _=>by omega⟩
inductive Sweep (x y : List Int) (base left right : Int) : Int→Int→Int→List SC→Prop
 | done {o a b:Int} : ¬ (o<base∨a<left∨b<right)→Sweep x y base left right o a b []
 | stab {o a b n:Int} {l:List SC} : (o<base∨a<left∨b<right)→StabIs x y base o a b n→0<n→Sweep x y base left right (o+n) (a+n) (b+n) l→Sweep x y base left right o a b (chunkC n o a b (o+n) (a+n) (b+n)::l)
 | next {o a b tn:Int} {l:List SC} : (o<base∨a<left∨b<right)→StabIs x y base o a b 0→NextIs x y base o a b tn→tn<base→Sweep x y base left right tn (rd x tn) (rd y tn) l→Sweep x y base left right o a b (chunkC 0 o a b tn (rd x tn) (rd y tn)::l)
 | last {o a b:Int} {l:List SC} : (o<base∨a<left∨b<right)→StabIs x y base o a b 0→NextIs x y base o a b base→Sweep x y base left right base left right l→Sweep x y base left right o a b (chunkC 0 o a b base left right::l)
theorem stab_in {x y : List Int} {base left right o a b n : Int} (hx : Tab x base left) (hy : Tab y base right) (h0 : 0≤o) (hs : StabIs x y base o a b n) (hn : 0<n) : o+n≤base∧a+n≤left∧b+n≤right := by
 obtain⟨t1,t2,t3⟩:=hs.2.1 (n-1) (by omega) (by omega)
 have g1:=hx.rng (o+(n-1)) (by omega) t1
 have g2:=hy.rng (o+(n-1)) (by omega) t1
 omega
theorem next_on {x y : List Int} {base o a b tn : Int} (h0 : StabIs x y base o a b 0) (hn : NextIs x y base o a b tn) (ht : tn<base) : o<tn∨a<rd x tn∨b<rd y tn := by
 obtain⟨n1,n2,n3,n4⟩:=hn
 have n4:=n4 ht
 by_cases hc:o<tn∨a<rd x tn∨b<rd y tn
 ·exact hc
 ·exfalso
  have e:tn=o:=by omega
  subst e
  refine h0.2.2 ⟨by omega,?_,?_⟩
  ·rw [show tn+0=tn by omega];omega
  ·rw [show tn+0=tn by omega];omega
theorem sweep_ex {x y : List Int} {base left right : Int} (hx : Tab x base left) (hy : Tab y base right) : ∀ (m : Nat) (o a b : Int),0≤o→o≤base→0≤a→a≤left→0≤b→b≤right→(base-o)+(left-a)+(right-b)≤m→∃ l,Sweep x y base left right o a b l := by
 intro m
 induction m with
 | zero=>exact fun o a b h0 h1 h2 h3 h4 h5 h6=>⟨[],.done (by omega)⟩
 | succ m ih =>
  intro o a b h0 h1 h2 h3 h4 h5 h6
  by_cases hc:o<base∨a<left∨b<right
  ·obtain⟨n,hn⟩:=stab_ex x y base o a b (base-o).toNat 0 (by omega) (by omega) (fun j _ _=>by omega)
   by_cases hp:0<n
   ·obtain⟨g1,g2,g3⟩:=stab_in hx hy h0 hn hp
    obtain⟨l,hl⟩:=ih (o+n) (a+n) (b+n) (by omega) g1 (by omega) g2 (by omega) g3 (by omega)
    exact⟨_,.stab hc hn hp hl⟩
   ·obtain rfl:n=0:=by have:=hn.1;omega
    obtain⟨tn,ht⟩:=next_ex x y base o a b h1 (base-o).toNat o (by omega) h1 (by omega) (fun s _ _=>by omega)
    by_cases hb:tn<base
    ·have g:=next_on hn ht hb
     have g1:=hx.rng tn (by have:=ht.1;omega) hb
     have g2:=hy.rng tn (by have:=ht.1;omega) hb
     have g3:=ht.2.2.2 hb
     have g4:=ht.1
     obtain⟨l,hl⟩:=ih tn (rd x tn) (rd y tn) (by omega) (by omega) (by omega) (by omega) (by omega) (by omega) (by omega)
     exact⟨_,.next hc hn ht hb hl⟩
    ·obtain rfl:tn=base:=by have:=ht.2.1;omega
     exact⟨_,.last hc hn ht (.done (by omega))⟩
  ·exact⟨[],.done hc⟩
structure ChunkIs (x y : List Int) (base left right o a b o' a' b' : Int) (c : SC) : Prop where
 sp1:c.f1=⟨o,o'⟩
 sp2:c.f2=⟨a,a'⟩
 sp3:c.f3=⟨b,b'⟩
 le1:o≤o'∧o'≤base
 le2:a≤a'∧a'≤left
 le3:b≤b'∧b'≤right
 some:o<o'∨a<a'∨b<b'
 st:c.f0=true→o<o'∧a'-a=o'-o∧b'-b=o'-o∧∀ i:Int,0≤i→i<o'-o→rd x (o+i)=a+i∧rd y (o+i)=b+i
 un:c.f0=false→¬ Tog x y base o a b 0
 nx:c.f0=false→(o'=base∧a'=left∧b'=right)∨(Tog x y base o' a' b' 0)
 ns:c.f0=true→¬ Tog x y base o' a' b' 0
inductive Steps (x y : List Int) (base left right : Int) : Int→Int→Int→List SC→Prop
 | done:Steps x y base left right base left right []
 | cons {o a b o' a' b':Int} {c:SC} {l:List SC} : 0≤o→0≤a→0≤b→ChunkIs x y base left right o a b o' a' b' c→Steps x y base left right o' a' b' l→Steps x y base left right o a b (c::l)
theorem steps_of {x y : List Int} {base left right : Int} (hx : Tab x base left) (hy : Tab y base right) : ∀ {o a b : Int} {l : List SC},Sweep x y base left right o a b l→0≤o→o≤base→0≤a→a≤left→0≤b→b≤right→Steps x y base left right o a b l := by
 intro o a b l h
 induction h with
 | done h =>
  intro h0 h1 h2 h3 h4 h5
  rename_i o a b
  obtain rfl:o=base:=by omega
  obtain rfl:a=left:=by omega
  obtain rfl:b=right:=by omega
  exact .done
 | stab h hs hp _ ih =>
  intro h0 h1 h2 h3 h4 h5
  rename_i o a b n l _
  obtain⟨g1,g2,g3⟩:=stab_in hx hy h0 hs hp
  refine .cons h0 h2 h4 ⟨rfl,rfl,rfl,⟨by omega,g1⟩,⟨by omega,g2⟩,⟨by omega,g3⟩,by omega,fun _=>⟨by omega,by omega,by omega,fun i i0 i1=>?_⟩,fun e=>?_,fun e=>?_,fun _ ht=>?_⟩ (ih (by omega) g1 (by omega) g2 (by omega) g3)
  ·have:=hs.2.1 i i0 (by omega)
   exact⟨this.2.1,this.2.2⟩
  ·exact absurd (decide_eq_true hp) (by rw [show decide (0<n)=false from e];decide)
  ·exact absurd (decide_eq_true hp) (by rw [show decide (0<n)=false from e];decide)
  ·obtain⟨t1,t2,t3⟩:=ht
   refine hs.2.2 ⟨by omega,?_,?_⟩
   ·rw [show o+n=o+n+0 by omega];omega
   ·rw [show o+n=o+n+0 by omega];omega
 | next h hs hn hb _ ih =>
  intro h0 h1 h2 h3 h4 h5
  rename_i o a b tn l _
  have g:=next_on hs hn hb
  have g1:=hx.rng tn (by have:=hn.1;omega) hb
  have g2:=hy.rng tn (by have:=hn.1;omega) hb
  have g3:=hn.2.2.2 hb
  have g4:=hn.1
  refine .cons h0 h2 h4 ⟨rfl,rfl,rfl,⟨by omega,by omega⟩,⟨by omega,by omega⟩,⟨by omega,by omega⟩,g,(fun e=>by simp [chunkC] at e),fun _=>hs.2.2,fun _ => .inr ⟨by omega,?_,?_⟩,(fun e=>by simp [chunkC] at e)⟩ (ih (by omega) (by omega) (by omega) (by omega) (by omega) (by omega))
  ·rw [show tn+0=tn by omega];omega
  ·rw [show tn+0=tn by omega];omega
 | last h hs hn _ ih =>
  intro h0 h1 h2 h3 h4 h5
  rename_i o a b l _
  exact .cons h0 h2 h4 ⟨rfl,rfl,rfl,⟨by omega,by omega⟩,⟨by omega,by omega⟩,⟨by omega,by omega⟩,by omega,(fun e=>by simp [chunkC] at e),fun _=>hs.2.2,fun _ => .inl ⟨rfl,rfl,rfl⟩,(fun e=>by simp [chunkC] at e)⟩ (ih (by omega) (by omega) (by omega) (by omega) (by omega) (by omega))
abbrev SSp := S119
abbrev RP := S60
def spanL {α : Type} (s : SSp) (l : List α) : List α := if s.f0<0∨(l.length : Int)<s.f1∨s.f1<s.f0 then [] else (l.take s.f1.toNat).drop s.f0.toNat
def cutL' {α : Type} (i j : Int) (l : List α) : List α := (l.take j.toNat).drop i.toNat
theorem spanL_in {α : Type} {i j : Int} {l : List α} (h0 : 0≤i) (h1 : i≤j) (h2 : j≤l.length) : spanL ⟨i,j⟩ l=cutL' i j l := by
 unfold spanL cutL'
 rw [if_neg (by show ¬ (i<0∨(l.length:Int)<j∨j<i);omega)]
def clsI (c : SC) (B L R : List ByteArray) : Int :=
 if c.f0=true then 0 else if spanL c.f1 B=spanL c.f2 L then 2 else if spanL c.f1 B=spanL c.f3 R then 1 else if spanL c.f2 L=spanL c.f3 R then 3 else 4
def textR (s : ByteArray) : RP := ⟨⟨#[]⟩,⟨#[]⟩,⟨#[]⟩,false,s,⟨#[]⟩,⟨#[]⟩,⟨#[]⟩,false⟩
def hoistN (st : Int) (l r : List ByteArray) : Nat := if st=2 then endsN l r else 0
def hoistM (st : Int) (l r : List ByteArray) : Nat := if st=2 then endsM l r else 0
def midL (xs : List ByteArray) (n m : Nat) : List ByteArray := (xs.take (xs.length-m)).drop n
def hunkR (st : Int) (g0 g1 g2 : ByteArray) (b l r : List ByteArray) : RP :=
 ⟨g0,if st=0 then ⟨#[]⟩ else g1,g2,true,⟨#[]⟩,catB (midL l (hoistN st l r) (hoistM st l r)),if st=0 then ⟨#[]⟩ else catB b,catB (midL r (hoistN st l r) (hoistM st l r)),decide (st≠0)⟩
def pieceR (st fv : Int) (g0 g1 g2 : ByteArray) (k : Int) (b l r : List ByteArray) : List RP :=
 if k=0 then [textR (catB b)]
 else if k=1∨k=3∨(k=4∧fv=1) then [textR (catB l)]
 else if k=2∨fv=3 then [textR (catB r)]
 else [textR (catB (l.take (hoistN st l r))),hunkR st g0 g1 g2 b l r,textR (catB (l.drop (l.length-hoistM st l r)))]
def partsR (st fv : Int) (g0 g1 g2 : ByteArray) (B L R : List ByteArray) (c : SC) : List RP := pieceR st fv g0 g1 g2 (clsI c B L R) (spanL c.f1 B) (spanL c.f2 L) (spanL c.f3 R)
def docB (st fv : Int) (g0 g1 g2 : ByteArray) (B L R : List ByteArray) (cs : List SC) : List RP := ofP (cs.flatMap (partsR st fv g0 g1 g2 B L R))
def countB (B L R : List ByteArray) (cs : List SC) : Int := ((cs.filter (fun c=>decide (clsI c B L R=4))).length : Nat)
def TabOf (x : List Int) (B L : List ByteArray) : Prop := Tab x B.length L.length∧∀ i : Int,0≤i→i<B.length→0≤rd x i→B[i.toNat]? = L[(rd x i).toNat]?
theorem cutL'_length {α : Type} {i j : Int} {l : List α} (h0 : 0≤i) (h1 : i≤j) (h2 : j≤l.length) : ((cutL' i j l).length : Int)=j-i := by
 unfold cutL';rw [List.length_drop,List.length_take];omega
theorem cutL'_get {α : Type} {i j : Int} {l : List α} (h0 : 0≤i) (k : Nat) (hk : k<j-i) : (cutL' i j l)[k]? = l[(i+k).toNat]? := by
 unfold cutL';rw [List.getElem?_drop,List.getElem?_take_of_lt (by omega),show (i+(k:Int)).toNat=i.toNat+k by omega]
theorem cut_same {x : List Int} {B L : List ByteArray} (h : TabOf x B L) {o o' a a' : Int} (h0 : 0≤o) (h1 : o≤o') (h2 : o'≤B.length) (g0 : 0≤a) (g1 : a≤a') (g2 : a'≤L.length) (he : a'-a=o'-o) (hs : ∀ i : Int,0≤i→i<o'-o→rd x (o+i)=a+i) : cutL' o o' B=cutL' a a' L := by
 refine List.ext_getElem? (fun k=>?_)
 have l1:=cutL'_length (l:=B) h0 h1 h2
 have l2:=cutL'_length (l:=L) g0 g1 g2
 by_cases hk:(k:Int)<o'-o
 ·rw [cutL'_get h0 k hk,cutL'_get g0 k (by omega)]
  have:=h.2 (o+k) (by omega) (by omega)
  rw [hs k (by omega) hk] at this
  exact this (by omega)
 ·rw [List.getElem?_eq_none (by omega),List.getElem?_eq_none (by omega)]
theorem cut_join {α : Type} {i j k : Int} {l : List α} (h0 : 0≤i) (h1 : i≤j) (h2 : j≤k) (h3 : k≤l.length) : cutL' i j l++cutL' j k l=cutL' i k l := by
 unfold cutL'
 rw [show l.take j.toNat=(l.take k.toNat).take j.toNat by rw [List.take_take,Nat.min_eq_left (by omega)]]
 have hl:(l.take k.toNat).length=k.toNat:=by rw [List.length_take];omega
 generalize l.take k.toNat=t at *
 have e:t.drop j.toNat=(t.drop i.toNat).drop (j.toNat-i.toNat):=by rw [List.drop_drop,show i.toNat+(j.toNat-i.toNat)=j.toNat by omega]
 rw [List.drop_take,e,List.take_append_drop]
theorem cut_all {α : Type} (l : List α) : cutL' 0 l.length l=l := by unfold cutL';simp
theorem steps_spans {x y : List Int} {B L R : List ByteArray} : ∀ {o a b : Int} {cs : List SC},Steps x y B.length L.length R.length o a b cs →
  cs.flatMap (fun c=>spanL c.f1 B)=cutL' o B.length B∧cs.flatMap (fun c=>spanL c.f2 L)=cutL' a L.length L∧cs.flatMap (fun c=>spanL c.f3 R)=cutL' b R.length R:=by
 intro o a b cs h
 have nil:∀ {α:Type} (l:List α),cutL' l.length l.length l=[]:=fun l=>by unfold cutL';simp
 induction h with
 | done=>exact⟨(nil B).symm,(nil L).symm,(nil R).symm⟩
 | cons h0 h1 h2 hc _ ih =>
  rename_i o a b o' a' b' c l _
  have l1:=hc.le1
  have l2:=hc.le2
  have l3:=hc.le3
  rw [List.flatMap_cons,List.flatMap_cons,List.flatMap_cons,ih.1,ih.2.1,ih.2.2,hc.sp1,hc.sp2,hc.sp3,spanL_in h0 l1.1 l1.2,spanL_in h1 l2.1 l2.2,spanL_in h2 l3.1 l3.2]
  exact⟨cut_join h0 l1.1 l1.2 (by omega),cut_join h1 l2.1 l2.2 (by omega),cut_join h2 l3.1 l3.2 (by omega)⟩
theorem chunk_stable {x y : List Int} {B L R : List ByteArray} {o a b o' a' b' : Int} {c : SC} (hx : TabOf x B L) (hy : TabOf y B R) (h0 : 0≤o) (h1 : 0≤a) (h2 : 0≤b) (hc : ChunkIs x y B.length L.length R.length o a b o' a' b' c) (hs : c.f0=true) :
  spanL c.f1 B=spanL c.f2 L∧spanL c.f1 B=spanL c.f3 R:=by
 have l1:=hc.le1
 have l2:=hc.le2
 have l3:=hc.le3
 obtain⟨s1,s2,s3,s4⟩:=hc.st hs
 rw [hc.sp1,hc.sp2,hc.sp3,spanL_in h0 l1.1 l1.2,spanL_in h1 l2.1 l2.2,spanL_in h2 l3.1 l3.2]
 exact⟨cut_same hx h0 l1.1 l1.2 h1 l2.1 l2.2 s2 (fun i i0 i1=>(s4 i i0 i1).1),cut_same hy h0 l1.1 l1.2 h2 l3.1 l3.2 s3 (fun i i0 i1=>(s4 i i0 i1).2)⟩
theorem catB_append (a b : List ByteArray) : catB (a++b)=catB a++catB b := bytes_ext (by unfold catB;rw [ByteArray.data_append,Array.toList_append,data_toB,data_toB,data_toB,List.flatMap_append])
theorem catB_nil : catB []=⟨#[]⟩ := rfl
theorem isTextP_textR (s : ByteArray) : isTextP (textR s)=true := by simp [isTextP,textR,bytes_toList]
def atB (l : List SP) (i : Int) : Int := match l.find? (fun p=>decide (p.f0=i)) with
 | some p=>p.f1
 | none=>-1
def tabB (n : Nat) (l : List SP) : List Int := l.foldl (fun t p=>t.set p.f0.toNat p.f1) (List.replicate n (-1))
theorem fold_length : ∀ (l : List SP) (t : List Int),(l.foldl (fun t p=>t.set p.f0.toNat p.f1) t).length=t.length
 | [],t=>rfl
 | p::l,t=>by rw [List.foldl_cons,fold_length l,List.length_set]
theorem tab_length (n : Nat) (l : List SP) : (tabB n l).length=n := by unfold tabB;rw [fold_length,List.length_replicate]
theorem fold_at : ∀ (l : List SP) (t : List Int),(∀ p∈l,0≤p.f0∧p.f0<t.length)→l.Pairwise Rise→∀ i : Int,0≤i→i<t.length →
  rd (l.foldl (fun t p=>t.set p.f0.toNat p.f1) t) i=(match l.find? (fun p=>decide (p.f0=i)) with|some p=>p.f1|none=>rd t i)
 | [],t,_,_,i,_,_=>rfl
 | p::l,t,h,hp,i,h0,h1=>by
  have hpl:=h p (List.mem_cons_self ..)
  rw [List.foldl_cons,fold_at l (t.set p.f0.toNat p.f1) (fun q hq=>by rw [List.length_set];exact h q (List.mem_cons_of_mem _ hq)) (List.pairwise_cons.1 hp).2 i h0 (by rw [List.length_set];exact h1)]
  by_cases hi:p.f0=i
  ·have hno:l.find? (fun p=>decide (p.f0=i))=none:=List.find?_eq_none.2 (fun q hq hc=>by
    have:=((List.pairwise_cons.1 hp).1 q hq).1
    have:=of_decide_eq_true hc
    omega)
   rw [hno,List.find?_cons_of_pos (by simpa using hi)]
   subst hi
   exact rd_set_same h0 h1
  ·rw [List.find?_cons_of_neg (by simpa using hi)]
   cases l.find? (fun p=>decide (p.f0=i)) with
   | some q=>rfl
   | none=>exact rd_set_ne hpl.1 h0 (fun e=>hi e.symm)
theorem tab_at {n : Nat} {l : List SP} (h : ∀ p∈l,0≤p.f0∧p.f0<n) (hp : l.Pairwise Rise) {i : Int} (h0 : 0≤i) (h1 : i<n) : rd (tabB n l) i=atB l i := by
 unfold tabB atB
 rw [fold_at l _ (fun p hpm=>by rw [List.length_replicate];exact h p hpm) hp i h0 (by rw [List.length_replicate];exact h1)]
 have:rd (List.replicate n (-1)) i = -1:=by
  unfold rd;rw [List.getD_eq_getElem?_getD,List.getElem?_replicate,if_pos (by omega)];rfl
 cases l.find? (fun p=>decide (p.f0=i)) with
 | some q=>rfl
 | none=>exact this
theorem at_some {l : List SP} {i : Int} (h : atB l i ≠ -1) : ∃ p∈l,p.f0=i∧p.f1=atB l i := by
 unfold atB at *
 cases hf:l.find? (fun p=>decide (p.f0=i)) with
 | none=>rw [hf] at h;exact absurd rfl h
 | some p=>exact⟨p,List.mem_of_find?_eq_some hf,(by have:=List.find?_some hf;simpa using this),rfl⟩
theorem rise_cases : ∀ {l : List SP},l.Pairwise Rise→∀ p∈l,∀ q∈l,p=q∨Rise p q∨Rise q p
 | x::l,h,p,hp,q,hq=>by
  rcases List.mem_cons.1 hp with rfl|hp2
  ·rcases List.mem_cons.1 hq with rfl|hq2
   ·exact .inl rfl
   ·exact .inr (.inl ((List.pairwise_cons.1 h).1 q hq2))
  ·rcases List.mem_cons.1 hq with rfl|hq2
   ·exact .inr (.inr ((List.pairwise_cons.1 h).1 p hp2))
   ·exact rise_cases (List.pairwise_cons.1 h).2 p hp2 q hq2
theorem tab_chain {a b : List Int} {l : List SP} (h : Chain a b 0 a.length 0 b.length l) : Tab (tabB a.length l) a.length b.length := by
 have hat:∀ i:Int,0≤i→i<a.length→rd (tabB a.length l) i=atB l i:=fun i h0 h1=>tab_at (fun p hp=>⟨(h.2 p hp).1,(h.2 p hp).2.1⟩) h.1 h0 h1
 refine⟨by rw [tab_length],fun i h0 h1=>?_,fun i j h0 h1 h2 g0 g1=>?_⟩
 ·rw [hat i h0 h1]
  by_cases hn:atB l i = -1
  ·omega
  ·obtain⟨p,hp,_,e⟩:=at_some hn
   have:=h.2 p hp
   omega
 ·rw [hat i h0 (by omega)] at g0 ⊢
  rw [hat j (by omega) h2] at g1 ⊢
  obtain⟨p,hp,e1,e2⟩:=at_some (l:=l) (i:=i) (by omega)
  obtain⟨q,hq,f1,f2⟩:=at_some (l:=l) (i:=j) (by omega)
  rcases rise_cases h.1 p hp q hq with g|g|g
  ·subst g;omega
  ·have:=g.2;omega
  ·have:=g.1;omega
theorem tab_same {a b : List Int} {l : List SP} (h : Chain a b 0 a.length 0 b.length l) {i : Int} (h0 : 0≤i) (h1 : i<a.length) (h2 : 0≤rd (tabB a.length l) i) : rd a i=rd b (rd (tabB a.length l) i) := by
 rw [tab_at (fun p hp=>⟨(h.2 p hp).1,(h.2 p hp).2.1⟩) h.1 h0 h1] at h2 ⊢
 obtain⟨p,hp,e1,e2⟩:=at_some (l:=l) (i:=i) (by omega)
 have:=(h.2 p hp).2.2.2.2
 rw [←e2,←e1]
 exact this
end Go.Proofs.YtfiamddinkokbaaGreat.F
end
