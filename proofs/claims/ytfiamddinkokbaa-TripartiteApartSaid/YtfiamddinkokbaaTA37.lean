/- Texts joined into one file (wip/tools/pack.py): Open, Lcs -/
import Derived.Test.YtfiamddinkokbaaTA3
import Derived.SliceStrings
import Derived.SizedLaws
import Derived.Deep.Slices
import Derived.Deep.Fields
import Derived.ChangeSame
import Derived.Lib.SmallJoins
import Derived.Test.YtfiamddinkokbaaProg
set_option linter.unusedVariables false
set_option linter.unusedSimpArgs false
section
namespace Go.Proofs.Ytfiamddinkokbaa.F
open Go.RowKit Go.Proofs.YtfiamddinkokbaaW.PrintWords Go.ChangeShapes Go.WideShapes Go.Deep Go.Joins
section
variable {H : Type} {enc : TypeId×Value→H} {P : Program} {W : World} {base : Nat} {spare : Nat→Bool} {held : Bool}
end
section
variable {H : Type} {enc : TypeId×Value→H} {P : Program} {w : World} {base : Nat} {spare : Nat→Bool} {held : Bool}
end
section
variable {H : Type} {enc : TypeId×Value→H} {W : World} {base : Nat} {spare : Nat→Bool} {held : Bool}
end
end Go.Proofs.Ytfiamddinkokbaa.F
end

section
namespace Go.Proofs.Ytfiamddinkokbaa.Lcs
def lcs : List Int→List Int→Nat
 | [],_=>0
 | _::_,[]=>0
 | x::a,y::b=>if x=y then lcs a b+1 else max (lcs a (y::b)) (lcs (x::a) b)
termination_by a b=>a.length+b.length
theorem lcs_ge : ∀ (a b c : List Int),c.Sublist a→c.Sublist b→c.length≤lcs a b
 | [],b,c,ha,_=>by rw [List.sublist_nil.1 ha];simp
 | x::a,[],c,_,hb=>by rw [List.sublist_nil.1 hb];simp
 | x::a,y::b,c,ha,hb=>by
  rw [lcs]
  cases c with
  | nil=>simp
  | cons z c =>
   split
   ·have:=lcs_ge a b c ha.tail hb.tail
    simp only [List.length_cons];omega
   ·rename_i e
    by_cases hz:z=x
    ·have hzy:z≠y:=hz▸e
     have h2:(z::c).Sublist b:=by
      cases hb with
      | cons _ h=>exact h
      | cons_cons _ h=>exact absurd rfl hzy
     have:=lcs_ge (x::a) b (z::c) ha h2
     omega
    ·have h1:(z::c).Sublist a:=by
      cases ha with
      | cons _ h=>exact h
      | cons_cons _ h=>exact absurd rfl hz
     have:=lcs_ge a (y::b) (z::c) h1 hb
     omega
termination_by a b=>a.length+b.length
theorem lcs_ex : ∀ (a b : List Int),∃ c : List Int,c.Sublist a∧c.Sublist b∧c.length=lcs a b
 | [],b=>⟨[],by simp,by simp,by simp [lcs]⟩
 | x::a,[]=>⟨[],by simp,by simp,by simp [lcs]⟩
 | x::a,y::b=>by
  rw [lcs]
  split
  ·rename_i e
   subst e
   obtain⟨c,h1,h2,h3⟩:=lcs_ex a b
   exact⟨x::c,h1.cons_cons _,h2.cons_cons _,by simp [h3]⟩
  ·by_cases hm:lcs (x::a) b≤lcs a (y::b)
   ·obtain⟨c,h1,h2,h3⟩:=lcs_ex a (y::b)
    exact⟨c,h1.cons _,h2,by omega⟩
   ·obtain⟨c,h1,h2,h3⟩:=lcs_ex (x::a) b
    exact⟨c,h1,h2.cons _,by omega⟩
termination_by a b=>a.length+b.length
theorem lcs_mono {a a' b b' : List Int} (ha : a.Sublist a') (hb : b.Sublist b') : lcs a b≤lcs a' b' := by
 obtain⟨c,h1,h2,h3⟩:=lcs_ex a b
 rw [←h3];exact lcs_ge _ _ c (h1.trans ha) (h2.trans hb)
theorem lcs_rev_le (a b : List Int) : lcs a b≤lcs a.reverse b.reverse := by
 obtain⟨c,h1,h2,h3⟩:=lcs_ex a b
 rw [←h3,←List.length_reverse]
 exact lcs_ge _ _ c.reverse (List.reverse_sublist.2 h1) (List.reverse_sublist.2 h2)
theorem lcs_reverse (a b : List Int) : lcs a.reverse b.reverse=lcs a b := by
 have h1:=lcs_rev_le a b
 have h2:=lcs_rev_le a.reverse b.reverse
 rw [List.reverse_reverse,List.reverse_reverse] at h2
 omega
theorem lcs_append (a1 b1 a2 b2 : List Int) : lcs a1 b1+lcs a2 b2≤lcs (a1++a2) (b1++b2) := by
 obtain⟨c,h1,h2,h3⟩:=lcs_ex a1 b1
 obtain⟨d,g1,g2,g3⟩:=lcs_ex a2 b2
 rw [←h3,←g3,←List.length_append]
 exact lcs_ge _ _ _ (h1.append g1) (h2.append g2)
theorem lcs_le_left (a b : List Int) : lcs a b≤a.length := by
 obtain⟨c,h1,h2,h3⟩:=lcs_ex a b
 rw [←h3];exact h1.length_le
theorem lcs_le_right (a b : List Int) : lcs a b≤b.length := by
 obtain⟨c,h1,h2,h3⟩:=lcs_ex a b
 rw [←h3];exact h2.length_le
theorem lcs_cons_same (x : Int) (a b : List Int) : lcs (x::a) (x::b)=lcs a b+1 := by rw [lcs,if_pos rfl]
theorem lcs_snoc_same (x : Int) (a b : List Int) : lcs (a++[x]) (b++[x])=lcs a b+1 := by
 rw [←lcs_reverse];simp only [List.reverse_append,List.reverse_cons,List.reverse_nil,List.nil_append,List.singleton_append]
 rw [lcs_cons_same,lcs_reverse]
theorem lcs_snoc_ne {x y : Int} (h : x≠y) (a b : List Int) : lcs (a++[x]) (b++[y])=max (lcs a (b++[y])) (lcs (a++[x]) b) := by
 rw [←lcs_reverse,←lcs_reverse a,←lcs_reverse (a++[x]) b]
 simp only [List.reverse_append,List.reverse_cons,List.reverse_nil,List.nil_append,List.singleton_append]
 rw [lcs,if_neg h]
theorem lcs_nil_right (a : List Int) : lcs a []=0 := by cases a<;>simp [lcs]
theorem lcs_nil_left (b : List Int) : lcs [] b=0 := by simp [lcs]
theorem sub_snoc {c b : List Int} {y : Int} (h : c.Sublist (b++[y])) : c.dropLast.Sublist b := by
 have h1:=List.reverse_sublist.2 h
 rw [List.reverse_append] at h1
 have h2:=h1.tail
 rw [List.tail_reverse] at h2
 exact List.reverse_sublist.1 h2
theorem sub_take {c a : List Int} {p p' : Nat} (hp : p'≤p+1) (h : c.Sublist (a.take p')) : c.dropLast.Sublist (a.take p) := by
 by_cases h1:p'≤p
 ·exact ((List.dropLast_sublist c).trans h).trans (List.take_sublist_take_left h1)
 ·obtain rfl:p'=p+1:=by omega
  by_cases h2:p<a.length
  ·rw [List.take_succ_eq_append_getElem h2] at h
   exact sub_snoc h
  ·rw [List.take_of_length_le (by omega)] at h
   rw [List.take_of_length_le (by omega)]
   exact (List.dropLast_sublist c).trans h
theorem lcs_take_le (a b : List Int) {p p' q q' : Nat} (hp : p'≤p+1) (hq : q'≤q+1) : lcs (a.take p') (b.take q')≤lcs (a.take p) (b.take q)+1 := by
 obtain⟨c,h1,h2,h3⟩:=lcs_ex (a.take p') (b.take q')
 have:=lcs_ge _ _ c.dropLast (sub_take hp h1) (sub_take hq h2)
 rw [List.length_dropLast] at this
 omega
def D0 (a b : List Int) (u v : Int) : Int := u+v-2*((lcs (a.take u.toNat) (b.take v.toNat) : Nat) : Int)
theorem D0_zero (a b : List Int) : D0 a b 0 0=0 := by unfold D0;simp [lcs]
theorem D0_neg (a b : List Int) {u v : Int} (h : u≤0∨v≤0) : D0 a b u v=u+v := by
 unfold D0
 rcases h with h|h
 ·rw [show u.toNat=0 by omega];simp [lcs_nil_left]
 ·rw [show v.toNat=0 by omega];simp [lcs_nil_right]
theorem D0_right (a b : List Int) (u v : Int) : D0 a b (u+1) v≤D0 a b u v+1 := by
 have h:=lcs_mono (a:=a.take u.toNat) (a':=a.take (u+1).toNat) (b:=b.take v.toNat) (b':=b.take v.toNat) (List.take_sublist_take_left (by omega)) (List.Sublist.refl _)
 unfold D0;omega
theorem D0_down (a b : List Int) (u v : Int) : D0 a b u (v+1)≤D0 a b u v+1 := by
 have h:=lcs_mono (a:=a.take u.toNat) (a':=a.take u.toNat) (b:=b.take v.toNat) (b':=b.take (v+1).toNat) (List.Sublist.refl _) (List.take_sublist_take_left (by omega))
 unfold D0;omega
theorem D0_diag (a b : List Int) (u v : Int) : D0 a b u v≤D0 a b (u+1) (v+1) := by
 have h:=lcs_take_le a b (p:=u.toNat) (p':=(u+1).toNat) (q:=v.toNat) (q':=(v+1).toNat) (by omega) (by omega)
 unfold D0;omega
theorem D0_diags (a b : List Int) (u v : Int) (s : Nat) : D0 a b u v≤D0 a b (u+s) (v+s) := by
 induction s with
 | zero=>simp
 | succ s ih =>
  have:=D0_diag a b (u+s) (v+s)
  have e1:u+((s+1:Nat):Int)=u+s+1:=by omega
  have e2:v+((s+1:Nat):Int)=v+s+1:=by omega
  rw [e1,e2];omega
theorem D0_along (a b : List Int) (k : Int) {t t' : Int} (h : t≤t') : D0 a b t (t-k)≤D0 a b t' (t'-k) := by
 have:=D0_diags a b t (t-k) (t'-t).toNat
 have e1:t+(((t'-t).toNat:Nat):Int)=t':=by omega
 have e2:t-k+(((t'-t).toNat:Nat):Int)=t'-k:=by omega
 rw [e1,e2] at this
 exact this
def Hit (a b : List Int) (u v : Int) : Prop := 0≤u∧0≤v∧u<a.length∧v<b.length∧a[u.toNat]? = b[v.toNat]?
theorem D0_hit {a b : List Int} {u v : Int} (h : Hit a b u v) : D0 a b (u+1) (v+1)=D0 a b u v := by
 obtain⟨h0,h1,h2,h3,h4⟩:=h
 have hu:u.toNat<a.length:=by omega
 have hv:v.toNat<b.length:=by omega
 rw [List.getElem?_eq_getElem hu,List.getElem?_eq_getElem hv] at h4
 have e:=Option.some.inj h4
 unfold D0
 rw [show (u+1).toNat=u.toNat+1 by omega,show (v+1).toNat=v.toNat+1 by omega,List.take_succ_eq_append_getElem hu,List.take_succ_eq_append_getElem hv,e,lcs_snoc_same]
 omega
theorem D0_miss {a b : List Int} {u v : Int} (h0 : 0≤u) (h1 : 0≤v) (h : ¬ Hit a b u v) : D0 a b u (v+1)≤D0 a b (u+1) (v+1)-1∨D0 a b (u+1) v≤D0 a b (u+1) (v+1)-1 := by
 unfold D0
 rw [show (u+1).toNat=u.toNat+1 by omega,show (v+1).toNat=v.toNat+1 by omega]
 by_cases hu:u.toNat<a.length
 ·by_cases hv:v.toNat<b.length
  ·have hne:a[u.toNat]≠b[v.toNat]:=fun e=>h ⟨h0,h1,by omega,by omega,by rw [List.getElem?_eq_getElem hu,List.getElem?_eq_getElem hv,e]⟩
   have e:=lcs_snoc_ne hne (a.take u.toNat) (b.take v.toNat)
   rw [←List.take_succ_eq_append_getElem hu,←List.take_succ_eq_append_getElem hv] at e
   omega
  ·right
   rw [List.take_of_length_le (l:=b) (i:=v.toNat+1) (by omega),List.take_of_length_le (l:=b) (i:=v.toNat) (by omega)]
   omega
 ·left
  rw [List.take_of_length_le (l:=a) (i:=u.toNat+1) (by omega),List.take_of_length_le (l:=a) (i:=u.toNat) (by omega)]
  omega
theorem D0_abs (a b : List Int) {u v : Int} (h0 : 0≤u) (h1 : 0≤v) : u-v≤D0 a b u v∧v-u≤D0 a b u v := by
 have h2:=lcs_le_left (a.take u.toNat) (b.take v.toNat)
 have h3:=lcs_le_right (a.take u.toNat) (b.take v.toNat)
 rw [List.length_take] at h2 h3
 unfold D0
 omega
theorem D0_par (a b : List Int) (u v : Int) : (D0 a b u v-(u-v)) % 2=0 := by unfold D0;omega
def DD (a b : List Int) : Int := (a.length : Int)+b.length-2*((lcs a b : Nat) : Int)
theorem D0_all (a b : List Int) : D0 a b a.length b.length=DD a b := by
 unfold D0 DD
 rw [List.take_of_length_le (by omega),List.take_of_length_le (by omega)]
theorem DD_reverse (a b : List Int) : DD a.reverse b.reverse=DD a b := by unfold DD;rw [lcs_reverse];simp
theorem lcs_cut (a b : List Int) (p q : Nat) : lcs (a.take p) (b.take q)+lcs (a.drop p) (b.drop q)≤lcs a b := by
 have:=lcs_append (a.take p) (b.take q) (a.drop p) (b.drop q)
 rwa [List.take_append_drop,List.take_append_drop] at this
theorem rev_take (a : List Int) (u : Int) : a.reverse.take ((a.length : Int)-u).toNat=(a.drop (min u.toNat a.length)).reverse := by
 rw [List.take_reverse]
 congr 1
 by_cases h:u<0
 ·rw [show a.length-((a.length:Int)-u).toNat=0 by omega,show min u.toNat a.length=0 by omega]
 ·rw [show a.length-((a.length:Int)-u).toNat=min u.toNat a.length by omega]
theorem take_min (a : List Int) (p : Nat) : a.take (min p a.length)=a.take p := by
 by_cases h:p≤a.length
 ·rw [Nat.min_eq_left h]
 ·rw [Nat.min_eq_right (by omega),List.take_of_length_le (Nat.le_refl _),List.take_of_length_le (by omega)]
theorem D1_eq (a b : List Int) (u v : Int) : D0 a.reverse b.reverse (a.length-u) (b.length-v)=(a.length-u)+(b.length-v)-2*((lcs (a.drop (min u.toNat a.length)) (b.drop (min v.toNat b.length)) : Nat) : Int) := by
 unfold D0
 rw [rev_take,rev_take,lcs_reverse]
theorem D_sum (a b : List Int) (u v : Int) : DD a b≤D0 a b u v+D0 a.reverse b.reverse (a.length-u) (b.length-v) := by
 rw [D1_eq]
 have h:=lcs_cut a b (min u.toNat a.length) (min v.toNat b.length)
 rw [take_min,take_min] at h
 unfold DD D0
 omega
theorem Hit_rev {a b : List Int} {u v : Int} (h : Hit a b u v) : Hit a.reverse b.reverse (a.length-1-u) (b.length-1-v) := by
 obtain⟨h0,h1,h2,h3,h4⟩:=h
 refine⟨by omega,by omega,by rw [List.length_reverse];omega,by rw [List.length_reverse];omega,?_⟩
 rw [List.getElem?_reverse (by omega),List.getElem?_reverse (by omega)]
 rw [show a.length-1-((a.length:Int)-1-u).toNat=u.toNat by omega,show b.length-1-((b.length:Int)-1-v).toNat=v.toNat by omega]
 exact h4
theorem on_way (a b : List Int) (e : Int) (he : 0≤e) : ∀ (s : Nat) (u v : Int),u+v=s→0≤u→0≤v→u≤a.length→v≤b.length→D0 a b u v+D0 a.reverse b.reverse (a.length-u) (b.length-v)=DD a b→e≤D0 a b u v →
  ∃ u v:Int,0≤u∧0≤v∧u≤a.length∧v≤b.length∧D0 a b u v=e∧D0 a.reverse b.reverse (a.length-u) (b.length-v)=DD a b-e:=by
 intro s
 induction s using Nat.strongRecOn with
 | _ s ih =>
  intro u v hs h0 h1 h2 h3 hd hle
  by_cases hq:D0 a b u v=e
  ·exact⟨u,v,h0,h1,h2,h3,hq,by omega⟩
  have stepL:1≤u→D0 a b (u-1) v≤D0 a b u v-1→∃ u v:Int,0≤u∧0≤v∧u≤a.length∧v≤b.length∧D0 a b u v=e∧D0 a.reverse b.reverse (a.length-u) (b.length-v)=DD a b-e:=by
   intro hu hx
   have g1:=D0_right a.reverse b.reverse (a.length-u) (b.length-v)
   have e1:(a.length:Int)-u+1=a.length-(u-1):=by omega
   rw [e1] at g1
   have g2:=D_sum a b (u-1) v
   have g3:=D0_right a b (u-1) v
   rw [show u-1+1=u by omega] at g3
   exact ih (s-1) (by omega) (u-1) v (by omega) (by omega) h1 (by omega) h3 (by omega) (by omega)
  have stepD:1≤v→D0 a b u (v-1)≤D0 a b u v-1→∃ u v:Int,0≤u∧0≤v∧u≤a.length∧v≤b.length∧D0 a b u v=e∧D0 a.reverse b.reverse (a.length-u) (b.length-v)=DD a b-e:=by
   intro hu hx
   have g1:=D0_down a.reverse b.reverse (a.length-u) (b.length-v)
   have e1:(b.length:Int)-v+1=b.length-(v-1):=by omega
   rw [e1] at g1
   have g2:=D_sum a b u (v-1)
   have g3:=D0_down a b u (v-1)
   rw [show v-1+1=v by omega] at g3
   exact ih (s-1) (by omega) u (v-1) (by omega) h0 (by omega) h2 (by omega) (by omega) (by omega)
  by_cases hu:u=0
  ·subst hu
   have g:=D0_neg a b (u:=0) (v:=v) (.inl (by omega))
   have g':=D0_neg a b (u:=0) (v:=v-1) (.inl (by omega))
   exact stepD (by clear stepL stepD;omega) (by clear stepL stepD;omega)
  by_cases hv:v=0
  ·subst hv
   have g:=D0_neg a b (u:=u) (v:=0) (.inr (by omega))
   have g':=D0_neg a b (u:=u-1) (v:=0) (.inr (by omega))
   exact stepL (by clear stepL stepD;omega) (by clear stepL stepD;omega)
  by_cases hh:Hit a b (u-1) (v-1)
  ·have g:=D0_hit hh
   rw [show u-1+1=u by omega,show v-1+1=v by omega] at g
   have g2:=D0_hit (Hit_rev hh)
   rw [show (a.length:Int)-1-(u-1)+1=a.length-(u-1) by omega,show (b.length:Int)-1-(v-1)+1=b.length-(v-1) by omega,
    show (a.length:Int)-1-(u-1)=a.length-u by omega,show (b.length:Int)-1-(v-1)=b.length-v by omega] at g2
   clear stepL stepD
   exact ih (s-2) (by omega) (u-1) (v-1) (by omega) (by omega) (by omega) (by omega) (by omega) (by omega) (by omega)
  ·have g:=D0_miss (a:=a) (b:=b) (u:=u-1) (v:=v-1) (by omega) (by omega) hh
   rw [show u-1+1=u by omega,show v-1+1=v by omega] at g
   rcases g with g|g
   ·exact stepL (by clear stepL stepD;omega) g
   ·exact stepD (by clear stepL stepD;omega) g
theorem on_way_all (a b : List Int) (e : Int) (he : 0≤e) (he2 : e≤DD a b) :
  ∃ u v:Int,0≤u∧0≤v∧u≤a.length∧v≤b.length∧D0 a b u v=e∧D0 a.reverse b.reverse (a.length-u) (b.length-v)=DD a b-e:=by
 have h:=D0_all a b
 refine on_way a b e he (a.length+b.length) a.length b.length (by omega) (by omega) (by omega) (by omega) (by omega) ?_ (by omega)
 rw [h,show (a.length:Int)-a.length=0 by omega,show (b.length:Int)-b.length=0 by omega,D0_zero]
 omega
def Far (a b : List Int) (d k t : Int) : Prop := 0≤t∧k≤t∧D0 a b t (t-k)≤d∧d<D0 a b (t+1) (t+1-k)
theorem Far.le {a b : List Int} {d k t t' : Int} (h : Far a b d k t) (h2 : D0 a b t' (t'-k)≤d) : t'≤t := by
 by_cases hc:t'≤t
 ·exact hc
 ·have:=D0_along a b k (t:=t+1) (t':=t') (by omega)
  have:=h.2.2.2
  omega
def Begin (a b : List Int) (d k u : Int) : Prop := 0≤u∧k≤u∧D0 a b u (u-k)=d∧(∀ e,u≤e→¬ Hit a b e (e-k)→d<D0 a b (e+1) (e+1-k))
theorem begin_zero (a b : List Int) : Begin a b 0 0 0 := by
 refine⟨by omega,by omega,by simpa using D0_zero a b,fun e he hh=>?_⟩
 have g:=D0_miss (a:=a) (b:=b) (u:=e) (v:=e-0) he (by omega) hh
 have g1:=(D0_abs a b (u:=e) (v:=e-0+1) he (by omega)).2
 have g2:=(D0_abs a b (u:=e+1) (v:=e-0) (by omega) (by omega)).1
 rw [show e-0+1=e+1-0 by omega] at g g1
 omega
theorem begin_of {a b : List Int} {d k tl tr u : Int} (hd : 1≤d) (h1 : -d≤k) (h2 : k≤d) (hp : (d-k) % 2=0) (hl : k ≠ -d→Far a b (d-1) (k-1) tl) (hr : k≠d→Far a b (d-1) (k+1) tr)
  (hu:u=if k = -d∨(k≠d∧tl<tr) then tr else tl+1):Begin a b d k u:=by
 have key:0≤u∧k≤u∧D0 a b u (u-k)≤d∧d-1≤D0 a b u (u-k)∧(k ≠ -d→tl+1≤u)∧(k≠d→tr≤u):=by
  by_cases hc:k = -d∨(k≠d∧tl<tr)
  ·rw [if_pos hc] at hu
   replace hu:=hu.symm
   subst hu
   have hk:k≠d:=by omega
   obtain⟨a1,a2,a3,a4⟩:=hr hk
   have b1:=D0_down a b tr (tr-(k+1))
   rw [show tr-(k+1)+1=tr-k by omega] at b1
   have b2:=D0_right a b tr (tr-k)
   rw [show tr+1-(k+1)=tr-k by omega] at a4
   exact⟨a1,by omega,by omega,by omega,fun hne=>by omega,fun _=>by omega⟩
  ·rw [if_neg hc] at hu
   have hk:k ≠ -d:=fun e=>hc (.inl e)
   obtain⟨a1,a2,a3,a4⟩:=hl hk
   subst hu
   have b1:=D0_right a b tl (tl-(k-1))
   rw [show tl-(k-1)=tl+1-k by omega] at b1 a3
   have b2:=D0_down a b (tl+1) (tl+1-k)
   rw [show tl+1-(k-1)=tl+1-k+1 by omega] at a4
   exact⟨by omega,by omega,by omega,by omega,fun _=>by omega,fun hne=>by omega⟩
 obtain⟨k1,k2,k3,k4,k5,k6⟩:=key
 have hpar:=D0_par a b u (u-k)
 refine⟨k1,k2,by omega,fun e he hh=>?_⟩
 have g:=D0_miss (a:=a) (b:=b) (u:=e) (v:=e-k) (by omega) (by omega) hh
 rw [show e-k+1=e+1-k by omega] at g
 rcases g with g|g
 ·by_cases hc:d<D0 a b (e+1) (e+1-k)
  ·exact hc
  ·exfalso
   by_cases hk:k = -d
   ·have:=(D0_abs a b (u:=e) (v:=e+1-k) (by omega) (by omega)).2
    omega
   ·have f:=(hl hk).le (t':=e) (by rw [show e-(k-1)=e+1-k by omega];omega)
    have:=k5 hk
    omega
 ·by_cases hc:d<D0 a b (e+1) (e+1-k)
  ·exact hc
  ·exfalso
   by_cases hk:k=d
   ·have:=(D0_abs a b (u:=e+1) (v:=e-k) (by omega) (by omega)).1
    omega
   ·have f:=(hr hk).le (t':=e+1) (by rw [show e+1-(k+1)=e-k by omega];omega)
    have:=k6 hk
    omega
theorem far_of_begin {a b : List Int} {d k u e : Int} (h : Begin a b d k u) (hue : u≤e) (hhit : ∀ t,u≤t→t<e→Hit a b t (t-k)) (hno : ¬ Hit a b e (e-k)) :
  Far a b d k e∧D0 a b e (e-k)=d:=by
 obtain⟨h1,h2,h3,h4⟩:=h
 have:∀ s:Nat,u+s≤e→D0 a b (u+s) (u+s-k)=d:=by
  intro s
  induction s with
  | zero=>intro _;simpa using h3
  | succ s ih =>
   intro hs
   have g:=D0_hit (hhit (u+s) (by omega) (by omega))
   have:=ih (by omega)
   rw [show u+((s+1:Nat):Int)=u+s+1 by omega,show u+(s:Int)+1-k=u+s-k+1 by omega,g]
   exact this
 have hq:=this (e-u).toNat (by omega)
 rw [show u+(((e-u).toNat:Nat):Int)=e by omega] at hq
 exact⟨⟨by omega,by omega,by omega,h4 e hue hno⟩,hq⟩
theorem met {a b : List Int} {d d' k u e t : Int} (hb : Begin a b d k u) (hue : u≤e) (hhit : ∀ t,u≤t→t<e→Hit a b t (t-k)) (hno : ¬ Hit a b e (e-k))
  (hr:Far a.reverse b.reverse d' ((a.length:Int)-b.length-k) t) (hdd:d+d'=DD a b) (hm:(a.length:Int)≤e+t) :
  0≤u∧0≤u-k∧e≤a.length∧e-k≤b.length∧D0 a b u (u-k)=d∧D0 a b e (e-k)=d∧D0 a.reverse b.reverse (a.length-e) (b.length-(e-k))=d':=by
 obtain⟨hf,hd⟩:=far_of_begin hb hue hhit hno
 obtain⟨b1,b2,b3,b4⟩:=hb
 obtain⟨r1,r2,r3,r4⟩:=hr
 have m1:=D0_along a.reverse b.reverse ((a.length:Int)-b.length-k) (t:=a.length-e) (t':=t) (by omega)
 rw [show (a.length:Int)-e-(a.length-b.length-k)=b.length-(e-k) by omega] at m1
 have s1:=D_sum a b e (e-k)
 have hE:D0 a.reverse b.reverse (a.length-e) (b.length-(e-k))=d':=by omega
 refine⟨b1,by omega,?_,?_,b3,hd,hE⟩
 ·by_cases hc:e≤a.length
  ·exact hc
  ·exfalso
   have n1:=D0_neg a.reverse b.reverse (u:=a.length-e) (v:=b.length-(e-k)) (.inl (by omega))
   have n2:=D0_neg a.reverse b.reverse (u:=0) (v:=b.length-(a.length-k)) (.inl (by omega))
   have m2:=D0_along a.reverse b.reverse ((a.length:Int)-b.length-k) (t:=0) (t':=t) (by omega)
   rw [show 0-((a.length:Int)-b.length-k)=b.length-(a.length-k) by omega] at m2
   omega
 ·by_cases hc:e-k≤b.length
  ·exact hc
  ·exfalso
   have n1:=D0_neg a.reverse b.reverse (u:=a.length-e) (v:=b.length-(e-k)) (.inr (by omega))
   have n2:=D0_neg a.reverse b.reverse (u:=(a.length:Int)-b.length-k) (v:=0) (.inr (by omega))
   have m2:=D0_along a.reverse b.reverse ((a.length:Int)-b.length-k) (t:=(a.length:Int)-b.length-k) (t':=t) (by omega)
   rw [show (a.length:Int)-b.length-k-(a.length-b.length-k)=0 by omega] at m2
   omega
theorem not_met {a b : List Int} {d d' : Int} (h0 : 0≤d) (h0' : 0≤d') (f g : Int→Int) (hf : ∀ k,-d≤k→k≤d→(d-k) % 2=0→Far a b d k (f k)) (hg : ∀ k,-d'≤k→k≤d'→(d'-k) % 2=0→Far a.reverse b.reverse d' k (g k))
  (hno:∀ k,-d≤k→k≤d→(d-k) % 2=0 → -d'≤(a.length:Int)-b.length-k→(a.length:Int)-b.length-k≤d'→f k+g (a.length-b.length-k)<a.length):DD a b≠d+d':=by
 intro hdd
 obtain⟨u,v,h1,h2,h3,h4,h5,h6⟩:=on_way_all a b d h0 (by omega)
 have p1:=D0_abs a b h1 h2
 have p2:=D0_abs a.reverse b.reverse (u:=a.length-u) (v:=b.length-v) (by omega) (by omega)
 have q1:=D0_par a b u v
 have q2:=D0_par a.reverse b.reverse (a.length-u) (b.length-v)
 have hfk:=hf (u-v) (by omega) (by omega) (by omega)
 have hgk:=hg ((a.length:Int)-b.length-(u-v)) (by omega) (by omega) (by omega)
 have e1:=hfk.le (t':=u) (by rw [show u-(u-v)=v by omega];omega)
 have e2:=hgk.le (t':=a.length-u) (by rw [show (a.length:Int)-u-(a.length-b.length-(u-v))=b.length-v by omega];omega)
 have:=hno (u-v) (by omega) (by omega) (by omega) (by omega) (by omega)
 omega
theorem met_least {a b : List Int} {d d' k e t : Int} (hf : Far a b d k e) (hr : Far a.reverse b.reverse d' ((a.length : Int)-b.length-k) t) (hm : (a.length : Int)≤e+t) : DD a b≤d+d' := by
 have m1:=D0_along a.reverse b.reverse ((a.length:Int)-b.length-k) (t:=a.length-e) (t':=t) (by omega)
 rw [show (a.length:Int)-e-(a.length-b.length-k)=b.length-(e-k) by omega] at m1
 have s1:=D_sum a b e (e-k)
 have:=hf.2.2.1
 have:=hr.2.2.1
 omega
theorem met_lcs {a b : List Int} {d d' k u e : Int} (h0 : 0≤u) (h1 : 0≤u-k) (hue : u≤e) (h2 : e≤a.length) (h3 : e-k≤b.length) (h4 : D0 a b u (u-k)=d) (h5 : D0 a b e (e-k)=d) (h6 : D0 a.reverse b.reverse (a.length-e) (b.length-(e-k))=d')
  (hdd:d+d'=DD a b):lcs (a.take u.toNat) (b.take (u-k).toNat)+(e-u).toNat+lcs (a.drop e.toNat) (b.drop (e-k).toNat)=lcs a b:=by
 rw [D1_eq,show min e.toNat a.length=e.toNat by omega,show min (e-k).toNat b.length=(e-k).toNat by omega] at h6
 unfold D0 at h4 h5
 unfold DD at hdd
 omega
end Go.Proofs.Ytfiamddinkokbaa.Lcs
end
