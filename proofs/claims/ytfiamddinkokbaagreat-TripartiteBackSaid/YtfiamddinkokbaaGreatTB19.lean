/- Texts joined into one file (wip/tools/pack.py): PureChunk, PureNum, PureTexts, PureSames, SamesWalk, EqChunk, SidesWalk, PrintLe, PureGen, DocRight, BackLaw -/
import Derived.Test.YtfiamddinkokbaaGreatTB2
import Derived.Test.YtfiamddinkokbaaGreatTB18
import Derived.Test.YtfiamddinkokbaaGreatTB8
import Derived.Test.YtfiamddinkokbaaGreatTB11
import Derived.Test.YtfiamddinkokbaaGreatTB13
import Derived.Test.YtfiamddinkokbaaGreatTB12
import Derived.Test.YtfiamddinkokbaaGreatTB4
import Derived.Test.YtfiamddinkokbaaGreatTB3
import Derived.Test.YtfiamddinkokbaaGreatTB9
import Derived.Test.YtfiamddinkokbaaGreatTB14
import Derived.Test.YtfiamddinkokbaaGreatTB10
import Derived.Test.YtfiamddinkokbaaGreatTB6
import Derived.Test.YtfiamddinkokbaaGreatTB15
import Derived.BigQuiet
import Derived.Test.YtfiamddinkokbaaGreatTB1
import Derived.Test.YtfiamddinkokbaaGreatTB16
import Derived.Test.YtfiamddinkokbaaGreatTB17
set_option linter.unusedVariables false
set_option linter.unusedSimpArgs false
section
namespace Go.Proofs.YtfiamddinkokbaaGreat.F
open Go.RowKit Go.Shelf Go.Proofs.YtfiamddinkokbaaGreatW.PrintWords
theorem rdP_at (l : List SP) (i : Int) (xs ys : List SP) (c : SP) (h : l=xs++c::ys) (hi : i=xs.length) : rd_T94 l i=c := rdOf_at _ l i xs ys c h hi
theorem table_in (n m : Nat) (l : List SP) (hn : n≤4000000000) (hm : m≤4000000000) (hl : l.length≤4000000000) (hb : ∀ p∈l,0≤p.f0∧p.f0<n∧0≤p.f1∧p.f1<m) :
  ∀ (rest done:List SP) (t:List Int) (i wa wb:Int),l=done++rest→i=done.length→t.length=n→rest.Pairwise Rise→(∀ p∈rest,wa<p.f0∧wb<p.f1)→Ev (fun k=>chunk_table.l0 k n m t l (l.length:Int) i wa wb) (rest.foldl (fun t p=>t.set p.f0.toNat p.f1) t,true)
 | [],done,t,i,wa,wb,hd,hi,ht,hr,hw=>by
  refine Ev.succ ?_
  simp only [chunk_table.l0]
  exact Ev.neg (by rw [hd];simp;omega) (Ev.val rfl)
 | p::rest,done,t,i,wa,wb,hd,hi,ht,hr,hw=>by
  have hsz:l.length=done.length+(rest.length+1):=by rw [hd];simp
  have hwr:wrap64 (i+1)=i+1:=wrap_in (by omega) (by omega)
  have hrd:=rdP_at l i done rest p hd hi
  have hp:=hb p (by rw [hd];simp)
  have hwp:=hw p (List.mem_cons_self ..)
  refine Ev.succ ?_
  simp only [chunk_table.l0,hwr,hrd]
  refine Ev.pos (by omega) (Ev.pos (by omega) (Ev.pos (by omega) (Ev.neg (by omega) (Ev.neg (by omega) (Ev.neg (by omega) (Ev.neg (by omega) (Ev.pos (by omega) (Ev.pos (by omega) ?_))))))))
  exact table_in n m l hn hm hl hb rest (done++[p]) (t.set p.f0.toNat p.f1) (i+1) p.f0 p.f1 (by rw [hd];simp) (by simp;omega) (by rw [List.length_set];exact ht) (List.pairwise_cons.1 hr).2 (fun q hq=>(List.pairwise_cons.1 hr).1 q hq)
def Rises (n m : Nat) (l : List SP) : Prop := l.Pairwise Rise∧∀ p∈l,0≤p.f0∧p.f0<n∧0≤p.f1∧p.f1<m
theorem ev_table {n m : Nat} {l : List SP} (h : Rises n m l) (ha : n≤4000000000) (hb : m≤4000000000) (hl : l.length≤4000000000) : Ev (fun k=>chunk_table.f k (n : Int) (m : Int) l) (tabB n l,true) := by
 unfold chunk_table.f
 refine Ev.neg (by omega) ?_
 rw [decide_eq_false (show ¬ (m:Int)<0 by omega)]
 refine Ev.succ ?_
 simp only [chunk_table.j0]
 refine Ev.neg (by simp) (Ev.bind (a:=List.replicate n (-1)) (Ev.const ?_) ?_)
 ·unfold slices_Repeat_int_int.f
  rw [if_pos ⟨rfl,by omega,by omega⟩];simp
 ·exact table_in n m l ha hb hl h.2 l [] _ 0 (-1) (-1) rfl rfl (by simp) h.1 (fun p hp=>by have:=h.2 p hp;omega)
theorem together_f {x y : List Int} {base left right o a b i : Int} (hx : Tab x base left) (hy : Tab y base right) (ho : 0≤o) (hi : 0≤i) (h1 : o+i≤8000000000) (h2 : a+i≤8000000000) (h3 : b+i≤8000000000) (ha : 0≤a) (hb : 0≤b) :
  ∃ t:Bool,(t=true↔Tog x y base o a b i)∧chunk_sweep_together.f x y o a b i=some (t,o,a,b):=by
 have e1:wrap64 (o+i)=o+i:=wrap_in (by omega) (by omega)
 have e2:wrap64 (a+i)=a+i:=wrap_in (by omega) (by omega)
 have e3:wrap64 (b+i)=b+i:=wrap_in (by omega) (by omega)
 have l1:=hx.len
 have l2:=hy.len
 unfold chunk_sweep_together.f Tog
 rw [e1,e2,e3]
 by_cases c1:o+i<base
 ·rw [if_pos (by omega),if_pos (by omega)]
  by_cases c2:rd x (o+i)=a+i
  ·rw [if_pos c2,if_pos (by omega)]
   exact⟨_,by rw [beq_iff_eq];exact⟨fun h=>⟨c1,c2,h⟩,fun h=>h.2.2⟩,rfl⟩
  ·rw [if_neg c2]
   exact⟨false,by simp;omega,rfl⟩
 ·rw [if_neg (by omega)]
  exact⟨false,by simp;omega,rfl⟩
theorem stable_in {x y : List Int} {base left right o a b n : Int} (hx : Tab x base left) (hy : Tab y base right) (ho : 0≤o) (ha : 0≤a) (hb : 0≤b) (hs : StabIs x y base o a b n) (h1 : o+n≤8000000000) (h2 : a+n≤8000000000) (h3 : b+n≤8000000000) :
  ∀ (d:Nat) (i:Int),0≤i→i+d=n→Ev (fun k=>chunk_sweep_stable.l0 k i x y o a b) (n,o,a,b)
 | 0,i,h0,he=>by
  obtain⟨t,ht,hf⟩:=together_f (i:=i) hx hy ho h0 (by omega) (by omega) (by omega) ha hb
  have:t=false:=by
   cases t with
   | false=>rfl
   | true=>exact absurd (ht.1 rfl) (by rw [show i=n by omega];exact hs.2.2)
  subst this
  refine Ev.succ ?_
  simp only [chunk_sweep_stable.l0]
  refine Ev.bind (Ev.const hf) (Ev.neg (by simp) (Ev.val ?_))
  rw [show i=n by omega]
 | d+1,i,h0,he=>by
  obtain⟨t,ht,hf⟩:=together_f (i:=i) hx hy ho h0 (by omega) (by omega) (by omega) ha hb
  have:t=true:=ht.2 (hs.2.1 i h0 (by omega))
  subst this
  refine Ev.succ ?_
  simp only [chunk_sweep_stable.l0]
  refine Ev.bind (Ev.const hf) (Ev.pos rfl ?_)
  rw [wrap_in (show -9223372036854775808≤i+1 by omega) (by omega)]
  exact stable_in hx hy ho ha hb hs h1 h2 h3 d (i+1) (by omega) (by omega)
theorem next_in {x y : List Int} {base left right o a b tn : Int} (hx : Tab x base left) (hy : Tab y base right) (ho : 0≤o) (hn : NextIs x y base o a b tn) (h1 : base≤8000000000) :
  ∀ (d:Nat) (i:Int),o≤i→i+d=tn→Ev (fun k=>chunk_sweep_next.l0 k i x y o a b) (tn,o,a,b)
 | 0,i,h0,he=>by
  have e:i=tn:=by omega
  subst e
  have l1:=hx.len
  have l2:=hy.len
  refine Ev.succ ?_
  simp only [chunk_sweep_next.l0]
  by_cases hb:i<base
  ·have:=hn.2.2.2 hb
   exact Ev.pos (by omega) (Ev.pos (by omega) (Ev.neg (by omega) (Ev.pos (by omega) (Ev.neg (by omega) (Ev.val rfl)))))
  ·exact Ev.neg (by omega) (Ev.val rfl)
 | d+1,i,h0,he=>by
  have l1:=hx.len
  have l2:=hy.len
  have hb:=hn.2.1
  have hlt:=hn.2.2.1 i h0 (by omega)
  have next:=next_in hx hy ho hn h1 d (i+1) (by omega) (by omega)
  refine Ev.succ ?_
  simp only [chunk_sweep_next.l0]
  rw [wrap_in (show -9223372036854775808≤i+1 by omega) (by omega)]
  refine Ev.pos (by omega) (Ev.pos (by omega) ?_)
  by_cases hc:rd x i<a
  ·exact Ev.pos hc next
  ·exact Ev.neg hc (Ev.pos (by omega) (Ev.pos (by omega) next))
theorem ev_step {x y : List Int} {base left right o a b n : Int} (hx : Tab x base left) (hy : Tab y base right) (ho : 0≤o) (ha : 0≤a) (hb : 0≤b) (h1 : base≤4000000000) (h2 : left≤4000000000) (h3 : right≤4000000000) (hs : StabIs x y base o a b n) (ho' : o≤base) (ha' : a≤left) (hb' : b≤right) :
  Ev (fun k=>chunk_sweep_stable.f k x y o a b) (n,o,a,b):=by
 by_cases hp:0<n
 ·obtain⟨g1,g2,g3⟩:=stab_in hx hy ho hs hp
  exact stable_in hx hy ho ha hb hs (by omega) (by omega) (by omega) n.toNat 0 (by omega) (by omega)
 ·have:=hs.1
  exact stable_in hx hy ho ha hb hs (by omega) (by omega) (by omega) n.toNat 0 (by omega) (by omega)
theorem sweep_len {x y : List Int} {base left right : Int} (hx : Tab x base left) (hy : Tab y base right) : ∀ {o a b : Int} {l : List SC},Sweep x y base left right o a b l→0≤o→o≤base→0≤a→a≤left→0≤b→b≤right→(l.length : Int)≤(base-o)+(left-a)+(right-b) := by
 intro o a b l h h0 h1 h2 h3 h4 h5
 have hs:=steps_of hx hy h h0 h1 h2 h3 h4 h5
 clear h h0 h1 h2 h3 h4 h5
 induction hs with
 | done=>simp
 | cons h0 h1 h2 hc _ ih =>
  have:=hc.some
  have:=hc.le1
  have:=hc.le2
  have:=hc.le3
  simp only [List.length_cons]
  omega
theorem ev_ofL {x y : List Int} {base left right : Int} (hx : Tab x base left) (hy : Tab y base right) (h1 : base≤4000000000) (h2 : left≤4000000000) (h3 : right≤4000000000) :
  ∀ {o a b:Int} {l:List SC},Sweep x y base left right o a b l→0≤o→o≤base→0≤a→a≤left→0≤b→b≤right→∀ out:List SC,out.length+l.length≤100000000000→Ev (fun k=>ofL x y base left right k o a b out) (out++l):=by
 intro o a b l h
 induction h with
 | done h =>
  intro _ _ _ _ _ _ out _
  refine Ev.succ ?_
  simp only [ofL]
  rw [List.append_nil]
  exact Ev.neg h (Ev.val rfl)
 | stab h hs hp _ ih =>
  intro g0 g1 g2 g3 g4 g5 out hl
  rename_i o a b n l _
  obtain⟨k1,k2,k3⟩:=stab_in hx hy g0 hs hp
  refine Ev.succ ?_
  simp only [ofL]
  refine Ev.pos h (Ev.bind (a:=(n,o+n,a+n,b+n)) ?_ ?_)
  ·unfold stepO
   refine Ev.bind (ev_step hx hy g0 g2 g4 h1 h2 h3 hs g1 g3 g5) (Ev.neg (by omega) (Ev.val ?_))
   rw [wrap_in (by omega) (by omega),wrap_in (by omega) (by omega),wrap_in (by omega) (by omega)]
  ·refine Ev.pos (by simp only [List.length_cons] at hl;omega) ((ih (by omega) k1 (by omega) k2 (by omega) k3 (out++[chunkC n o a b (o+n) (a+n) (b+n)]) (by simp only [List.length_append,List.length_cons,List.length_nil] at *;omega)).cast ?_)
   simp
 | next h hs hn hb _ ih =>
  intro g0 g1 g2 g3 g4 g5 out hl
  rename_i o a b tn l _
  have m1:=hx.rng tn (by have:=hn.1;omega) hb
  have m2:=hy.rng tn (by have:=hn.1;omega) hb
  have m3:=hn.2.2.2 hb
  have m4:=hn.1
  have l1:=hx.len
  have l2:=hy.len
  refine Ev.succ ?_
  simp only [ofL]
  refine Ev.pos h (Ev.bind (a:=(0,tn,rd x tn,rd y tn)) ?_ ?_)
  ·unfold stepO
   exact Ev.bind (ev_step hx hy g0 g2 g4 h1 h2 h3 hs g1 g3 g5) (Ev.pos rfl (Ev.bind (a:=(tn,o,a,b)) (next_in hx hy g0 hn (by omega) (tn-o).toNat o (by omega) (by omega)) (Ev.pos hb (Ev.pos ⟨by omega,by omega,by omega⟩ (Ev.val rfl)))))
  ·refine Ev.pos (by simp only [List.length_cons] at hl;omega) ((ih (by omega) (by omega) (by omega) (by omega) (by omega) (by omega) (out++[chunkC 0 o a b tn (rd x tn) (rd y tn)]) (by simp only [List.length_append,List.length_cons,List.length_nil] at *;omega)).cast ?_)
   simp
 | last h hs hn _ ih =>
  intro g0 g1 g2 g3 g4 g5 out hl
  rename_i o a b l _
  refine Ev.succ ?_
  simp only [ofL]
  refine Ev.pos h (Ev.bind (a:=(0,base,left,right)) ?_ ?_)
  ·unfold stepO
   exact Ev.bind (ev_step hx hy g0 g2 g4 h1 h2 h3 hs g1 g3 g5) (Ev.pos rfl (Ev.bind (a:=(base,o,a,b)) (next_in hx hy g0 hn (by omega) (base-o).toNat o (by omega) (by omega)) (Ev.neg (by omega) (Ev.val rfl))))
  ·refine Ev.pos (by simp only [List.length_cons] at hl;omega) ((ih (by omega) (by omega) (by omega) (by omega) (by omega) (by omega) (out++[chunkC 0 o a b base left right]) (by simp only [List.length_append,List.length_cons,List.length_nil] at *;omega)).cast ?_)
   simp
theorem ev_chunk_of {nB nL nR : Nat} {lp rp : List SP} {cs : List SC} (h1 : Rises nB nL lp) (h2 : Rises nB nR rp) (hx : Tab (tabB nB lp) nB nL) (hy : Tab (tabB nB rp) nB nR) (ha : nB≤1000000000) (hb : nL≤1000000000) (hc : nR≤1000000000) (hl : lp.length≤4000000000) (hr : rp.length≤4000000000)
  (hs:Sweep (tabB nB lp) (tabB nB rp) nB nL nR 0 0 0 cs):Ev (fun k=>chunk_Of.f k (nB:Int) (nL:Int) (nR:Int) lp rp) (cs,0):=by
 have hlen:=sweep_len hx hy hs (by omega) (by omega) (by omega) (by omega) (by omega) (by omega)
 unfold chunk_Of.f ofF
 exact Ev.bind (ev_table h1 (by omega) (by omega) hl) (Ev.bind (ev_table h2 (by omega) (by omega) hr) (Ev.pos ⟨rfl,rfl⟩ (Ev.bind ((ev_ofL hx hy (by omega) (by omega) (by omega) hs (by omega) (by omega) (by omega) (by omega) (by omega) (by omega) [] (by simp only [List.length_nil];omega)).cast (by simp)) (Ev.val rfl))))
theorem span_cut (i j : Int) (l : List ByteArray) (hl : l.length≤4000000000) : chunk_Span_Cut.f i j l=some (spanL ⟨i,j⟩ l) := by
 unfold chunk_Span_Cut.f spanL
 by_cases c1:i<0
 ·rw [if_pos c1,if_pos (.inl c1)]
 ·rw [if_neg c1]
  by_cases c2:j>(l.length:Int)
  ·rw [if_pos c2,if_pos (.inr (.inl c2))]
  ·rw [if_neg c2]
   by_cases c3:j<i
   ·rw [if_pos c3,if_pos (.inr (.inr c3))]
   ·rw [if_neg c3,if_pos (by omega),if_pos (by omega),if_pos (by omega),if_neg (by show ¬ (i<0∨(l.length:Int)<j∨j<i);omega)]
    unfold slices_Clone_string_string.f
    rw [if_pos (by rw [List.length_drop,List.length_take];omega)]
    rfl
theorem span_len {s : SSp} {l : List ByteArray} : (spanL s l).length≤l.length := by
 unfold spanL
 split
 ·simp
 ·rw [List.length_drop,List.length_take];omega
theorem equal_in (a b : List ByteArray) (hn : a.length≤4000000000) (hab : a.length=b.length) : ∀ (ra rb da db : List ByteArray) (i : Int),a=da++ra→b=db++rb→da.length=db.length→i=da.length→Ev (fun k=>slices_Equal_string_string.l0 k a b (a.length : Int) i) (decide (ra=rb))
 | [],rb,da,db,i,ha,hb,hd,ei=>by
  have:rb=[]:=by
   rw [ha,hb] at hab;simp at hab;exact List.length_eq_zero_iff.1 (by omega)
  subst this
  refine Ev.succ ?_
  simp only [slices_Equal_string_string.l0]
  refine Ev.neg (by rw [ha];simp;omega) (Ev.val (by simp))
 | x::ra,[],da,db,i,ha,hb,hd,ei=>by
  rw [ha,hb] at hab;simp at hab;omega
 | x::ra,y::rb,da,db,i,ha,hb,hd,ei=>by
  have hsz:a.length=da.length+(ra.length+1):=by rw [ha];simp
  have hw:wrap64 (i+1)=i+1:=wrap_in (by omega) (by omega)
  refine Ev.succ ?_
  simp only [slices_Equal_string_string.l0,hw,rdOf_at _ a i da ra x ha ei,rdOf_at _ b i db rb y hb (by omega)]
  refine Ev.pos (by omega) (Ev.pos (by omega) (Ev.pos (by omega) (Ev.pos (by omega) ?_)))
  by_cases he:x.toList=y.toList
  ·refine Ev.pos he ?_
   have hxy:=toList_inj he
   subst hxy
   refine (equal_in a b hn hab ra rb (da++[x]) (db++[x]) (i+1) (by rw [ha];simp) (by rw [hb];simp) (by simp [hd]) (by simp;omega)).cast ?_
   exact decide_eq_decide.2 ⟨fun h=>by rw [h],fun h=>(List.cons.inj h).2⟩
  ·refine Ev.neg he (Ev.val ?_)
   exact (decide_eq_false (fun h=>he (by rw [(List.cons.inj h).1]))).symm
theorem ev_same (a b : List ByteArray) (hn : a.length≤4000000000) : Ev (fun k=>trim_Same_string.f k a b) (decide (a=b)) := by
 unfold trim_Same_string.f
 refine Ev.bind ?_ (Ev.val rfl)
 unfold slices_Equal_string_string.f
 by_cases h:(a.length:Int)=b.length
 ·exact Ev.pos h (equal_in a b hn (by omega) a b [] [] 0 rfl rfl rfl rfl)
 ·refine Ev.neg h (Ev.val ?_)
  exact (decide_eq_false (fun e=>h (by rw [e]))).symm
theorem ev_class (c : SC) (B L R : List ByteArray) (hB : B.length≤4000000000) (hL : L.length≤4000000000) (hR : R.length≤4000000000) : Ev (fun k=>chunk_Chunk_Class.f k c.f0 c.f1.f0 c.f1.f1 c.f2.f0 c.f2.f1 c.f3.f0 c.f3.f1 B L R) (clsI c B L R) := by
 unfold chunk_Chunk_Class.f classF clsI
 have s1:=span_len (s:=c.f1) (l:=B)
 have s2:=span_len (s:=c.f2) (l:=L)
 refine Ev.bind (Ev.const (span_cut _ _ B hB)) (Ev.bind (Ev.const (span_cut _ _ L hL)) (Ev.bind (Ev.const (span_cut _ _ R hR)) ?_))
 by_cases c0:c.f0=true
 ·rw [if_pos c0];exact Ev.pos c0 (Ev.val rfl)
 ·rw [if_neg c0]
  refine Ev.neg c0 (Ev.bind (ev_same _ _ (Nat.le_trans span_len hB)) ?_)
  by_cases c1:spanL c.f1 B=spanL c.f2 L
  ·rw [if_pos c1];exact Ev.pos (by simpa using c1) (Ev.val rfl)
  ·rw [if_neg c1]
   refine Ev.neg (by simpa using c1) (Ev.bind (ev_same _ _ (Nat.le_trans span_len hB)) ?_)
   by_cases c2:spanL c.f1 B=spanL c.f3 R
   ·rw [if_pos c2];exact Ev.pos (by simpa using c2) (Ev.val rfl)
   ·rw [if_neg c2]
    refine Ev.neg (by simpa using c2) (Ev.bind (ev_same _ _ (Nat.le_trans span_len hL)) ?_)
    by_cases c3:spanL c.f2 L=spanL c.f3 R
    ·rw [if_pos c3];exact Ev.pos (by simpa using c3) (Ev.val rfl)
    ·rw [if_neg c3];exact Ev.neg (by simpa using c3) (Ev.val rfl)
theorem ev_cut (c : SC) (B L R : List ByteArray) (hB : B.length≤4000000000) (hL : L.length≤4000000000) (hR : R.length≤4000000000) :
  Ev (fun k=>build_Files_cut.f k B L R c.f0 c.f1.f0 c.f1.f1 c.f2.f0 c.f2.f1 c.f3.f0 c.f3.f1) (c.f0,c.f1.f0,c.f1.f1,c.f2.f0,c.f2.f1,c.f3.f0,c.f3.f1,spanL c.f1 B,spanL c.f2 L,spanL c.f3 R,clsI c B L R):=by
 unfold build_Files_cut.f
 exact Ev.bind (Ev.const (span_cut _ _ B hB)) (Ev.bind (Ev.const (span_cut _ _ L hL)) (Ev.bind (Ev.const (span_cut _ _ R hR)) (Ev.bind (ev_class c B L R hB hL hR) (Ev.val rfl))))
theorem count_in (B L R : List ByteArray) (hB : B.length≤4000000000) (hL : L.length≤4000000000) (hR : R.length≤4000000000) : ∀ (rest : List SC) (n : Int),Ev (fun k=>countL k B L R rest n) (n+countB B L R rest)
 | [],n=>by
  simp only [countL]
  exact Ev.val (by simp [countB])
 | c::rest,n=>by
  simp only [countL]
  refine Ev.bind (ev_cut c B L R hB hL hR) ?_
  by_cases hc:clsI c B L R=4
  ·simp only [if_pos hc]
   refine (count_in B L R hB hL hR rest (n+1)).cast ?_
   unfold countB
   rw [List.filter_cons_of_pos (by simpa using hc)]
   simp only [List.length_cons]
   omega
  ·simp only [if_neg hc]
   refine (count_in B L R hB hL hR rest n).cast ?_
   unfold countB
   rw [List.filter_cons_of_neg (by simpa using hc)]
theorem ev_count (B L R : List ByteArray) (hB : B.length≤4000000000) (hL : L.length≤4000000000) (hR : R.length≤4000000000) (l : List SC) (hl : l.length≤4000000000000) : Ev (fun k=>build_Count.f k B L R l) (countB B L R l) := by
 unfold build_Count.f countF
 exact Ev.pos hl ((count_in B L R hB hL hR l 0).cast (by omega))
def ixK (K : List (List UInt8)) (s : ByteArray) : Int := (K.idxOf s.data.toList : Nat)
theorem numStep_pre (K : List (List UInt8)) (s : ByteArray) : K <+: numStep K s := by unfold numStep;split;exact List.prefix_refl _;exact List.prefix_append _ _
theorem numStep_mem (K : List (List UInt8)) (s : ByteArray) : s.data.toList∈numStep K s := by unfold numStep;split;assumption;simp
theorem knRow_pre : ∀ (l : List ByteArray) (K : List (List UInt8)),K <+: knRow K l
 | [],K=>List.prefix_refl _
 | s::l,K=>(numStep_pre K s).trans (knRow_pre l (numStep K s))
theorem knRow_mem : ∀ (l : List ByteArray) (K : List (List UInt8)),∀ s∈l,s.data.toList∈knRow K l
 | t::l,K,s,hs=>by
  rcases List.mem_cons.1 hs with rfl|hs
  ·exact (knRow_pre l (numStep K s)).subset (numStep_mem K s)
  ·exact knRow_mem l (numStep K t) s hs
theorem idx_pre {K K' : List (List UInt8)} (h : K <+: K') {s : List UInt8} (hs : s∈K) : K'.idxOf s=K.idxOf s := by
 obtain⟨t,rfl⟩:=h
 rw [List.idxOf_append,if_pos hs]
theorem numOf_step (K : List (List UInt8)) (s : ByteArray) : numOf K s=ixK (numStep K s) s := by
 unfold numOf ixK numStep
 split
 ·rfl
 ·rename_i h
  rw [List.idxOf_append,if_neg h,List.idxOf_eq_length h];simp
theorem numRow_map : ∀ (l : List ByteArray) (K K' : List (List UInt8)),knRow K l <+: K'→numRow K l=l.map (ixK K')
 | [],K,K',h=>rfl
 | s::l,K,K',h=>by
  rw [numRow,List.map_cons,numRow_map l (numStep K s) K' h,numOf_step]
  congr 1
  unfold ixK
  rw [idx_pre ((knRow_pre l (numStep K s)).trans h) (numStep_mem K s)]
def kn2 (B L : List ByteArray) : List (List UInt8) := knRow (knRow [] B) L
theorem number_two (B L : List ByteArray) : numberB [B,L]=[B.map (ixK (kn2 B L)),L.map (ixK (kn2 B L))] := by
 unfold numberB
 rw [numAll,numAll,numAll,numRow_map B [] (kn2 B L) (knRow_pre L _),numRow_map L (knRow [] B) (kn2 B L) (List.prefix_refl _)]
theorem kn2_left (B L : List ByteArray) : ∀ s∈B,s.data.toList∈kn2 B L := fun s hs=>(knRow_pre L _).subset (knRow_mem B [] s hs)
theorem ixK_inj {K : List (List UInt8)} {s t : ByteArray} (hs : s.data.toList∈K) (h : ixK K s=ixK K t) : s=t := by
 unfold ixK at h
 have h':K.idxOf s.data.toList=K.idxOf t.data.toList:=by omega
 have ht:t.data.toList∈K:=by
  have:=List.idxOf_lt_length_of_mem hs
  rw [h'] at this
  exact List.idxOf_lt_length_iff.1 this
 have e1:=List.getElem_idxOf (List.idxOf_lt_length_of_mem hs)
 have e2:=List.getElem_idxOf (List.idxOf_lt_length_of_mem ht)
 apply bytes_ext
 rw [←e1,←e2]
 simp only [h']
theorem rd_map_ix {K : List (List UInt8)} {B : List ByteArray} {i : Int} (h0 : 0≤i) (h1 : i<B.length) : ∃ s,B[i.toNat]? = some s∧s∈B∧rd (B.map (ixK K)) i=ixK K s := by
 have hi:i.toNat<B.length:=by omega
 refine⟨B[i.toNat],List.getElem?_eq_getElem hi,List.getElem_mem hi,?_⟩
 unfold rd
 rw [List.getD_eq_getElem?_getD,List.getElem?_map,List.getElem?_eq_getElem hi];rfl
structure Matched (B L : List ByteArray) (lp : List SP) : Prop where
 eq:merge_match.f B L=some lp
 chain:Chain (B.map (ixK (kn2 B L))) (L.map (ixK (kn2 B L))) 0 B.length 0 L.length lp
 len:lp.length=Lcs.lcs (B.map (ixK (kn2 B L))) (L.map (ixK (kn2 B L)))
 lele:lp.length≤B.length
 tab:TabOf (tabB B.length lp) B L
theorem matched_ex (B L : List ByteArray) (hB : B.length≤1000000000) (hL : L.length≤1000000000) (sB : ∀ s∈B,s.size≤4000000000) (sL : ∀ s∈L,s.size≤4000000000) : ∃ lp,Matched B L lp := by
 obtain⟨lp,h1,h2,h3⟩:=match_law (B.map (ixK (kn2 B L))) (L.map (ixK (kn2 B L))) (by rw [List.length_map];omega) (by rw [List.length_map];omega)
 have h4:=Lcs.lcs_le_left (B.map (ixK (kn2 B L))) (L.map (ixK (kn2 B L)))
 rw [List.length_map,List.length_map] at h2
 rw [List.length_map] at h4
 refine⟨lp,?_,h2,h3,by omega,?_,?_⟩
 ·unfold merge_match.f lines_Number.f
  have hcond:(∀ f∈[B,L],∀ s∈f,s.size≤4000000000)∧total [B,L]≤4000000000∧[B,L].length≤4000000000:=by
   refine⟨fun f hf=>?_,by unfold total;simp;omega,by simp⟩
   simp only [List.mem_cons,List.not_mem_nil,or_false] at hf
   rcases hf with rfl|rfl
   ·exact sB
   ·exact sL
  rw [if_pos hcond,Option.bind_some,number_two,if_pos (by simp),if_pos (by simp)]
  show (lcs_Match.f (B.map (ixK (kn2 B L))) (L.map (ixK (kn2 B L)))).bind _=_
  unfold lcs_Match.f
  rw [if_pos ⟨by rw [List.length_map];omega,by rw [List.length_map];omega⟩,h1,Option.bind_some,if_pos (by omega)];rfl
 ·have:=tab_chain (a:=B.map (ixK (kn2 B L))) (b:=L.map (ixK (kn2 B L))) (l:=lp) (by rw [List.length_map,List.length_map];exact h2)
  rwa [List.length_map,List.length_map] at this
 ·intro i h0 hi hr
  have hs:=tab_same (a:=B.map (ixK (kn2 B L))) (b:=L.map (ixK (kn2 B L))) (l:=lp) (by rw [List.length_map,List.length_map];exact h2) h0 (by rw [List.length_map];exact hi) (by rw [List.length_map];exact hr)
  rw [List.length_map] at hs
  have ht:=tab_chain (a:=B.map (ixK (kn2 B L))) (b:=L.map (ixK (kn2 B L))) (l:=lp) (by rw [List.length_map,List.length_map];exact h2)
  rw [List.length_map,List.length_map] at ht
  obtain⟨s,e1,m1,f1⟩:=rd_map_ix (K:=kn2 B L) h0 hi
  obtain⟨t,e2,m2,f2⟩:=rd_map_ix (K:=kn2 B L) (B:=L) hr (ht.rng i h0 hi).2
  rw [f1,f2] at hs
  rw [e1,e2,ixK_inj (kn2_left B L s m1) hs]
theorem Matched.rises {B L : List ByteArray} {lp : List SP} (h : Matched B L lp) : Rises B.length L.length lp := ⟨h.chain.1,fun p hp=>by have := h.chain.2 p hp;omega⟩
structure Merged (B L R : List ByteArray) (lp rp : List SP) (cs : List SC) : Prop where
 ml:Matched B L lp
 mr:Matched B R rp
 sw:Sweep (tabB B.length lp) (tabB B.length rp) B.length L.length R.length 0 0 0 cs
theorem Merged.steps {B L R : List ByteArray} {lp rp : List SP} {cs : List SC} (h : Merged B L R lp rp cs) : Steps (tabB B.length lp) (tabB B.length rp) B.length L.length R.length 0 0 0 cs :=
 steps_of h.ml.tab.1 h.mr.tab.1 h.sw (by omega) (by omega) (by omega) (by omega) (by omega) (by omega)
theorem merged_ex (B L R : List ByteArray) (hB : B.length≤1000000000) (hL : L.length≤1000000000) (hR : R.length≤1000000000) (sB : ∀ s∈B,s.size≤4000000000) (sL : ∀ s∈L,s.size≤4000000000) (sR : ∀ s∈R,s.size≤4000000000) : ∃ lp rp cs,Merged B L R lp rp cs := by
 obtain⟨lp,h1⟩:=matched_ex B L hB hL sB sL
 obtain⟨rp,h2⟩:=matched_ex B R hB hR sB sR
 obtain⟨cs,h3⟩:=sweep_ex h1.tab.1 h2.tab.1 (B.length+L.length+R.length) 0 0 0 (by omega) (by omega) (by omega) (by omega) (by omega) (by omega) (by omega)
 exact⟨lp,rp,cs,h1,h2,h3⟩
theorem chunk_count {x y : List Int} {base left right : Int} : ∀ {o a b : Int} {l : List SC},Steps x y base left right o a b l→(l.length : Int)≤2*(base-o)+1∧(Tog x y base o a b 0→(l.length : Int)≤2*(base-o)) := by
 intro o a b l h
 induction h with
 | done=>exact⟨by simp,fun _=>by simp⟩
 | cons h0 h1 h2 hc hl ih =>
  rename_i o a b o' a' b' c l
  have l1:=hc.le1
  simp only [List.length_cons]
  cases hf:c.f0 with
  | true =>
   have:=hc.st hf
   exact⟨by omega,fun _=>by omega⟩
  | false =>
   have hun:=hc.un hf
   refine⟨?_,fun ht=>absurd ht hun⟩
   rcases hc.nx hf with ⟨rfl,rfl,rfl⟩|g
   ·have:l=[]:=by
     cases hl with
     | done=>rfl
     | cons k0 k1 k2 kc _ =>
      have:=kc.le1
      have:=kc.le2
      have:=kc.le3
      have:=kc.some
      omega
    subst this
    simp
    omega
   ·have:=ih.2 g
    omega
theorem catB_cons (s : ByteArray) (l : List ByteArray) : (catB (s::l)).size=s.size+(catB l).size := by
 unfold catB
 rw [size_toB,size_toB,List.flatMap_cons,List.length_append,size_data]
theorem catB_sub {l l' : List ByteArray} (h : l.Sublist l') : (catB l).size≤(catB l').size := by
 induction h with
 | slnil=>exact Nat.le_refl _
 | cons s _ ih=>rw [catB_cons];omega
 | cons_cons s _ ih=>rw [catB_cons,catB_cons];omega
theorem catB_take_drop (l : List ByteArray) (n : Nat) : (catB (l.take n)).size+(catB (l.drop n)).size=(catB l).size := by
 conv=>rhs;rw [←List.take_append_drop n l,catB_append,ByteArray.size_append]
theorem textPs_eq (l : List ByteArray) (hn : l.length≤4000000000) (hs : (catB l).size≤4000000000) : textPs l=some ([textR (catB l)].map to106) := by
 unfold textPs
 rw [lines_join l hn hs];rfl
theorem hoist_le (st : Int) (l r : List ByteArray) : hoistN st l r+hoistM st l r≤l.length∧hoistN st l r+hoistM st l r≤r.length := ho_le st l r
theorem piece_eq (st fv : Int) (g0 g1 g2 : ByteArray) (k : Int) (b l r : List ByteArray) (nb : b.length≤1000000000) (nl : l.length≤1000000000) (nr : r.length≤1000000000) (sb : (catB b).size≤4000000000) (sl : (catB l).size≤4000000000) (sr : (catB r).size≤4000000000) :
  piecePs st fv g0 g1 g2 k b l r=some ((pieceR st fv g0 g1 g2 k b l r).map to106):=by
 unfold piecePs pieceR
 by_cases k0:k=0
 ·rw [if_pos k0,if_pos k0];exact textPs_eq b (by omega) sb
 rw [if_neg k0,if_neg k0]
 by_cases k1:k=1∨k=3∨(k=4∧fv=1)
 ·rw [if_pos k1,if_pos k1];exact textPs_eq l (by omega) sl
 rw [if_neg k1,if_neg k1]
 by_cases k2:k=2∨fv=3
 ·rw [if_pos k2,if_pos k2];exact textPs_eq r (by omega) sr
 rw [if_neg k2,if_neg k2]
 unfold confPs
 have s1:=catB_sub (List.take_sublist (hoN st l r) l)
 have s2:=catB_sub (List.drop_sublist (l.length-hoM st l r) l)
 have s3:=catB_sub ((List.drop_sublist (hoN st l r) (l.take (l.length-hoM st l r))).trans (List.take_sublist _ l))
 have s4:=catB_sub ((List.drop_sublist (hoN st l r) (r.take (r.length-hoM st l r))).trans (List.take_sublist _ r))
 rw [if_pos ⟨by omega,by omega⟩,lines_join _ (by rw [List.length_take];omega) (by omega),Option.bind_some]
 rw [lines_join (midS l (hoN st l r) (hoM st l r)) (by unfold midS;rw [List.length_drop,List.length_take];omega) (by unfold midS;omega),Option.bind_some]
 rw [lines_join (midS r (hoN st l r) (hoM st l r)) (by unfold midS;rw [List.length_drop,List.length_take];omega) (by unfold midS;omega),Option.bind_some]
 by_cases hst:st=0
 ·rw [if_pos hst,Option.bind_some,lines_join _ (by rw [List.length_drop];omega) (by omega),Option.bind_some]
  subst hst;rfl
 ·rw [if_neg hst,lines_join b (by omega) sb,Option.bind_some,lines_join _ (by rw [List.length_drop];omega) (by omega),Option.bind_some]
  unfold hunkR hunkP
  rw [if_neg hst,if_neg hst]
  simp only [List.map_cons,List.map_nil,to106]
  rfl
theorem span_sub {α : Type} (s : SSp) (l : List α) : (spanL s l).Sublist l := by
 unfold spanL
 split
 ·exact List.nil_sublist _
 ·exact (List.drop_sublist _ _).trans (List.take_sublist _ _)
theorem ev_docL (B L R : List ByteArray) (st fv : Int) (g0 g1 g2 : ByteArray) (nB : B.length≤1000000000) (nL : L.length≤1000000000) (nR : R.length≤1000000000) (sB : (catB B).size≤4000000000) (sL : (catB L).size≤4000000000) (sR : (catB R).size≤4000000000) :
  ∀ (cs:List SC) (acc:List RP),acc.length+3*cs.length≤1000000000→Ev (fun k=>docL k B L R st fv g0 g1 g2 cs (acc.map to106)) ((acc++cs.flatMap (partsR st fv g0 g1 g2 B L R)).map to106)
 | [],acc,h=>by
  simp only [docL]
  exact Ev.val (by simp)
 | c::cs,acc,h=>by
  have h3:(partsR st fv g0 g1 g2 B L R c).length≤3:=by
   unfold partsR pieceR
   split
   ·simp
   ·split
    ·simp
    ·split<;>simp
  simp only [docL]
  simp only [List.length_cons] at h
  refine Ev.bind (ev_cut c B L R (by omega) (by omega) (by omega)) ?_
  have b1:=catB_sub (span_sub c.f1 B)
  have b2:=catB_sub (span_sub c.f2 L)
  have b3:=catB_sub (span_sub c.f3 R)
  have n1:=(span_sub c.f1 B).length_le
  have n2:=(span_sub c.f2 L).length_le
  have n3:=(span_sub c.f3 R).length_le
  have hpe:piecePs st fv g0 g1 g2 (clsI c B L R) (spanL c.f1 B) (spanL c.f2 L) (spanL c.f3 R)=some ((partsR st fv g0 g1 g2 B L R c).map to106):=piece_eq st fv g0 g1 g2 _ _ _ _ (by omega) (by omega) (by omega) (by omega) (by omega) (by omega)
  refine Ev.bind (a:=(partsR st fv g0 g1 g2 B L R c).map to106) (Ev.const hpe) ?_
  refine Ev.pos (by rw [List.length_map];omega) ?_
  rw [←List.map_append]
  refine (ev_docL B L R st fv g0 g1 g2 nB nL nR sB sL sR cs (acc++partsR st fv g0 g1 g2 B L R c) (by rw [List.length_append];omega)).cast ?_
  rw [List.flatMap_cons,List.append_assoc]
theorem textSum_append (a b : List RP) : textSum (a++b)=textSum a+textSum b := by unfold textSum;rw [List.map_append,List.sum_append]
theorem piece_sum (st fv : Int) (g0 g1 g2 : ByteArray) (k : Int) (b l r : List ByteArray) : textSum (pieceR st fv g0 g1 g2 k b l r)≤(catB b).size+(catB l).size+(catB r).size := by
 have one:∀ s:ByteArray,textSum [textR s]=s.size:=fun s=>by unfold textSum;simp [textR]
 unfold pieceR
 split
 ·rw [one];omega
 ·split
  ·rw [one];omega
  ·split
   ·rw [one];omega
   ·have h1:=hoist_le st l r
    have h2:=catB_take_drop l (hoistN st l r)
    have h3:(catB (l.drop (l.length-hoistM st l r))).size≤(catB (l.drop (hoistN st l r))).size:=catB_sub (by
     rw [show l.length-hoistM st l r=hoistN st l r+(l.length-hoistM st l r-hoistN st l r) by omega,←List.drop_drop]
     exact List.drop_sublist _ _)
    have e0:(⟨#[]⟩:ByteArray).size=0:=rfl
    unfold textSum
    simp [textR,hunkR]
    omega
theorem parts_sum (st fv : Int) (g0 g1 g2 : ByteArray) (B L R : List ByteArray) : ∀ cs : List SC,textSum (cs.flatMap (partsR st fv g0 g1 g2 B L R))≤(catB (cs.flatMap fun c=>spanL c.f1 B)).size+(catB (cs.flatMap fun c=>spanL c.f2 L)).size+(catB (cs.flatMap fun c=>spanL c.f3 R)).size
 | []=>by simp [textSum]
 | c::cs=>by
  rw [List.flatMap_cons,textSum_append,List.flatMap_cons,List.flatMap_cons,List.flatMap_cons,catB_append,catB_append,catB_append,ByteArray.size_append,ByteArray.size_append,ByteArray.size_append]
  have h1:=parts_sum st fv g0 g1 g2 B L R cs
  have h2:textSum (partsR st fv g0 g1 g2 B L R c)≤_:=piece_sum st fv g0 g1 g2 (clsI c B L R) (spanL c.f1 B) (spanL c.f2 L) (spanL c.f3 R)
  omega
theorem parts_len (st fv : Int) (g0 g1 g2 : ByteArray) (B L R : List ByteArray) : ∀ cs : List SC,(cs.flatMap (partsR st fv g0 g1 g2 B L R)).length≤3*cs.length
 | []=>by simp
 | c::cs=>by
  rw [List.flatMap_cons,List.length_append,List.length_cons]
  have h1:=parts_len st fv g0 g1 g2 B L R cs
  have h3:(partsR st fv g0 g1 g2 B L R c).length≤3:=by
   unfold partsR pieceR
   split
   ·simp
   ·split
    ·simp
    ·split<;>simp
  omega
structure Okay (g0 g1 g2 : ByteArray) (st wd fv : Int) : Prop where
 lab:lineless g0=false∧lineless g1=false∧lineless g2=false
 labs:g0.size+g1.size+g2.size≤1000000000
 sty:0≤st∧st≤2
 wid:7≤wd∧wd≤64
 fav:fv=0∨fv=1∨fv=3
theorem okay_plain {g0 g1 g2 : ByteArray} {st wd fv : Int} (h : Okay g0 g1 g2 st wd fv) : doc_Labels_Plain.f g0 g1 g2=some true := by
 rw [labels_plain g0 g1 g2 (by have:=h.labs;omega),h.lab.1,h.lab.2.1,h.lab.2.2];rfl
theorem ev_build {B L R : List ByteArray} {lp rp : List SP} {cs : List SC} {g0 g1 g2 : ByteArray} {st wd fv : Int} (ho : Okay g0 g1 g2 st wd fv) (h : Merged B L R lp rp cs) (nB : B.length≤100000000) (nL : L.length≤100000000) (nR : R.length≤100000000) (sB : (catB B).size≤1000000000) (sL : (catB L).size≤1000000000) (sR : (catB R).size≤1000000000) :
  Ev (fun k=>build_Doc.f k B L R cs st g0 g1 g2 fv) ((docB st fv g0 g1 g2 B L R cs).map to106,0):=by
 have hlen:=(chunk_count h.steps).1
 have hp:=parts_len st fv g0 g1 g2 B L R cs
 have hs:=parts_sum st fv g0 g1 g2 B L R cs
 obtain⟨q1,q2,q3⟩:=steps_spans h.steps
 rw [q1,q2,q3,cut_all,cut_all,cut_all] at hs
 unfold build_Doc.f docF
 refine Ev.neg (by have:=ho.sty;have:=ho.fav;omega) (Ev.bind (Ev.const (okay_plain ho)) (Ev.pos rfl (Ev.bind ((ev_docL B L R st fv g0 g1 g2 (by omega) (by omega) (by omega) (by omega) (by omega) (by omega) cs [] (by simp only [List.length_nil];omega))) (Ev.bind (ev_doc_of _ ?_ ?_) (Ev.val rfl)))))
 ·rw [List.nil_append];omega
 ·rw [List.nil_append];omega
theorem ev_wrong {g0 g1 g2 : ByteArray} {st wd fv n : Int} (ho : Okay g0 g1 g2 st wd fv) (hn : n≤1073741824) : Ev (fun k=>merge_Options_wrong.f k g0 g1 g2 st wd fv n) 0 := by
 have hw:=ho.wid
 unfold merge_Options_wrong.f
 refine Ev.neg (by omega) (Ev.bind (Ev.const (okay_plain ho)) (Ev.pos rfl (Ev.neg (by omega) (Ev.neg (by omega) (Ev.bind (a:=([],0)) ?_ (Ev.val rfl))))))
 unfold build_Doc.f docF
 refine Ev.neg (by have:=ho.sty;have:=ho.fav;omega) (Ev.bind (Ev.const (okay_plain ho)) (Ev.pos rfl (Ev.bind (a:=([]:List PP)) ?_ (Ev.bind (ev_doc_of [] (by simp) (by simp [textSum])) (Ev.val rfl)))))
 simp only [docL]
 exact Ev.val rfl
def widthB (wd : Int) (a b c : ByteArray) : Int := mx wd (mx (mx (textRun a) (textRun b)) (textRun c)+1)
theorem ev_width {wd : Int} {a b c : ByteArray} (sa : a.size≤1000000000) (sb : b.size≤1000000000) (sc : c.size≤1000000000) : Ev (fun k=>doc_Width.f k wd [a,b,c]) (widthB wd a b c) := by
 refine (ev_doc_width wd [a,b,c] (by simp) (fun s hs=>?_)).cast ?_
 ·simp only [List.mem_cons,List.not_mem_nil,or_false] at hs
  rcases hs with rfl|rfl|rfl<;>omega
 ·have h1:=textRun_bound a
  have h2:=textRun_bound b
  have h3:=textRun_bound c
  unfold widthB
  have e:runAll [a,b,c] 0=mx (mx (textRun a) (textRun b)) (textRun c):=by
   unfold runAll
   simp only [List.foldl_cons,List.foldl_nil]
   have:mx 0 (textRun a)=textRun a:=by rcases mx_cases 0 (textRun a) with h|h<;>omega
   rw [this]
  rw [e,wrap_in]
  ·rcases mx_cases (textRun a) (textRun b) with h|h<;>rcases mx_cases (mx (textRun a) (textRun b)) (textRun c) with g|g<;>omega
  ·rcases mx_cases (textRun a) (textRun b) with h|h<;>rcases mx_cases (mx (textRun a) (textRun b)) (textRun c) with g|g<;>omega
theorem ev_texts {a b c g0 g1 g2 : ByteArray} {st wd fv : Int} {lp rp : List SP} {cs : List SC} (ho : Okay g0 g1 g2 st wd fv) (h : Merged (splitB a) (splitB b) (splitB c) lp rp cs) (hs : a.size+b.size+c.size≤100000000)
  (hn:(docB st fv g0 g1 g2 (splitB a) (splitB b) (splitB c) cs).length≤2000) (hx:∀ x∈docB st fv g0 g1 g2 (splitB a) (splitB b) (splitB c) cs,sizesP x≤1000000000) :
  Ev (fun k=>textsF k a b c g0 g1 g2 st wd fv) ((docB st fv g0 g1 g2 (splitB a) (splitB b) (splitB c) cs).map to106,lp,rp,cs,(printP (docB st fv g0 g1 g2 (splitB a) (splitB b) (splitB c) cs) (widthB wd a b c)).1,widthB wd a b c,countB (splitB a) (splitB b) (splitB c) cs,0):=by
 have na:=splitB_length a
 have nb:=splitB_length b
 have nc:=splitB_length c
 have ca:(catB (splitB a)).size=a.size:=by rw [cat_split]
 have cb:(catB (splitB b)).size=b.size:=by rw [cat_split]
 have cc:(catB (splitB c)).size=c.size:=by rw [cat_split]
 have hlen:=(chunk_count h.steps).1
 have hof:=ev_chunk_of (nB:=(splitB a).length) (nL:=(splitB b).length) (nR:=(splitB c).length) (h.ml.rises) (h.mr.rises) h.ml.tab.1 h.mr.tab.1 (by omega) (by omega) (by omega) (by have:=h.ml.lele;omega) (by have:=h.mr.lele;omega) h.sw
 unfold textsF
 refine Ev.pos ⟨by omega,by omega,by omega⟩ (Ev.bind (ev_wrong ho (by omega)) (Ev.pos rfl (Ev.bind (Ev.const (lines_split a (by omega))) (Ev.bind (Ev.const (lines_split b (by omega))) (Ev.bind (Ev.const (lines_split c (by omega))) (Ev.bind (Ev.const h.ml.eq) (Ev.bind (Ev.const h.mr.eq) (Ev.bind (ev_width (by omega) (by omega) (by omega)) (Ev.bind hof
  (Ev.bind (ev_build ho h (by omega) (by omega) (by omega) (by omega) (by omega) (by omega)) (Ev.bind (ev_mark_print _ _ hn hx) (Ev.bind (ev_count _ _ _ (by omega) (by omega) (by omega) cs (by omega)) (Ev.val rfl)))))))))))))
theorem mn_250 (n : Nat) : 0≤mn (n : Int) 250∧mn (n : Int) 250≤n∧mn (n : Int) 250≤250 := by unfold mn;split<;>omega
theorem short_f (a : ByteArray) : ∃ s,tripartitelaw12_Short.f a=some s∧s.size≤250 := by
 have h:=mn_250 a.size
 unfold tripartitelaw12_Short.f
 rw [if_pos h.1,if_pos h.2.1]
 refine⟨_,rfl,?_⟩
 rw [ByteArray.size_extract]
 omega
theorem few_f (x y z : Int) (a b c : ByteArray) (ha : a.size≤140737488351232) (hb : b.size≤140737488351232) (hc : c.size≤140737488351232) : tripartitelaw12_few.f x y z a b c=some (decide (a.size+b.size+c.size≤500)) := by
 unfold tripartitelaw12_few.f
 rw [wrap_in (n:=(a.size:Int)+b.size) (by omega) (by omega),wrap_in (by omega) (by omega)]
 congr 1
 exact decide_eq_decide.2 (by omega)
theorem bare_in (a : ByteArray) (hs : a.size≤4000000000) : ∀ (rest done : List UInt8) (i : Int),a.data.toList=done++rest→i=done.length→(10 : UInt8)∉done→∃ s,s.size≤a.size∧lineless s=false∧Ev (fun k=>tripartitelaw12_bare.l0 k a i) s
 | [],done,i,hd,hi,hn=>by
  refine⟨a,Nat.le_refl _,?_,?_⟩
  ·rw [lineless_iff,hd,List.append_nil];exact decide_eq_false hn
  ·refine Ev.succ ?_
   simp only [tripartitelaw12_bare.l0]
   exact Ev.neg (by have:=size_data a;rw [hd] at this;simp at this;omega) (Ev.val rfl)
 | c::rest,done,i,hd,hi,hn=>by
  have hsz:a.size=done.length+(rest.length+1):=by rw [←size_data a,hd];simp
  have hw:wrap64 (i+1)=i+1:=wrap_in (by omega) (by omega)
  have hbt:=bytes_bt a i done rest c hd hi
  by_cases hc:c=10
  ·subst hc
   refine⟨a.extract 0 i.toNat,by rw [ByteArray.size_extract];omega,?_,?_⟩
   ·rw [lineless_iff,extract_data,hd,List.drop_zero,show i.toNat=done.length by omega,List.take_left']
    ·exact decide_eq_false hn
    ·rfl
   ·refine Ev.succ ?_
    simp only [tripartitelaw12_bare.l0,hbt]
    exact Ev.pos (by omega) (Ev.pos (by omega) (Ev.pos rfl (Ev.pos (by omega) (Ev.val rfl))))
  ·obtain⟨s,h1,h2,h3⟩:=bare_in a hs rest (done++[c]) (i+1) (by rw [hd];simp) (by simp;omega) (by simp [hn];exact fun e=>hc e.symm)
   refine⟨s,h1,h2,Ev.succ ?_⟩
   simp only [tripartitelaw12_bare.l0,hw,hbt]
   refine Ev.pos (by omega) (Ev.pos (by omega) (Ev.neg (fun e=>hc ?_) h3))
   exact UInt8.toNat_inj.1 (by rw [show (10:UInt8).toNat=10 from rfl];omega)
theorem ev_bare (a : ByteArray) (hs : a.size≤4000000000) : ∃ s,s.size≤a.size∧lineless s=false∧Ev (fun k=>tripartitelaw12_bare.f k a) s := bare_in a hs a.data.toList [] 0 rfl rfl (by simp)
theorem u64_nonneg (x : Int) : 0≤IntKind.u64.wrap x := by
 have:IntKind.u64.wrap x=x % 18446744073709551616:=rfl
 rw [this];omega
theorem widthB_lt {wd : Int} {a b c : ByteArray} : textRun a<widthB wd a b c∧textRun b<widthB wd a b c∧textRun c<widthB wd a b c := by
 unfold widthB
 rcases mx_cases (textRun a) (textRun b) with h|h<;>rcases mx_cases (mx (textRun a) (textRun b)) (textRun c) with g|g<;>rcases mx_cases wd (mx (mx (textRun a) (textRun b)) (textRun c)+1) with f|f<;>omega
theorem merged_of (a b c : ByteArray) (ha : a.size≤100000000) (hb : b.size≤100000000) (hc : c.size≤100000000) : ∃ lp rp cs,Merged (splitB a) (splitB b) (splitB c) lp rp cs := by
 have h1:=splitB_length a
 have h2:=splitB_length b
 have h3:=splitB_length c
 exact merged_ex _ _ _ (by omega) (by omega) (by omega) (fun s hs=>by have:=splitB_mem a s hs;omega) (fun s hs=>by have:=splitB_mem b s hs;omega) (fun s hs=>by have:=splitB_mem c s hs;omega)

end Go.Proofs.YtfiamddinkokbaaGreat.F
end

section
namespace Go.Proofs.YtfiamddinkokbaaGreat.F
open Go.RowKit Go.Proofs.YtfiamddinkokbaaGreatW.PrintWords Go.Proofs.YtfiamddinkokbaaGreatW.PrintLast Go.Proofs.YtfiamddinkokbaaGreatW.PrintMore
theorem eqA119 (d : Nat) (w : World) (x0 y0 : Int) (x1 y1 : Int) :
  (Op.equalIn (d+2) 119 (.agg #[.int .i64 x0,.int .i64 x1]) (.agg #[.int .i64 y0,.int .i64 y1])).run Tryz.prog w = .ok (x0==y0&&(x1==y1)) w:=by
 refine eqA_of Tryz.underlying119 (by kernel_rfl) ?_
 refine eqf_cons (by rfl) (by go_simp;rfl) (by go_simp;rfl) (by go_simp) ?_
 exact eqf_last (by rfl) (by go_simp;rfl) (by go_simp;rfl) (by go_simp)
theorem eqA121 (d : Nat) (w : World) (x0 y0 : Bool) (x1 y1 : Int) (x2 y2 : Int) (x3 y3 : Int) (x4 y4 : Int) (x5 y5 : Int) (x6 y6 : Int) :
  (Op.equalIn (d+3) 121 (.agg #[.bool x0,.int .i64 x1,.int .i64 x2,.int .i64 x3,.int .i64 x4,.int .i64 x5,.int .i64 x6]) (.agg #[.bool y0,.int .i64 y1,.int .i64 y2,.int .i64 y3,.int .i64 y4,.int .i64 y5,.int .i64 y6])).run Tryz.prog w = .ok (x0==y0&&((x1==y1&&(x2==y2))&&((x3==y3&&(x4==y4))&&((x5==y5&&(x6==y6)))))) w:=by
 refine eqA_of Tryz.underlying121 (by kernel_rfl) ?_
 refine eqf_cons (by rfl) (by go_simp;rfl) (by go_simp;rfl) (by go_simp) ?_
 refine eqf_cons (by rfl) (by go_simp) (by go_simp) (eqA119 (d+0) w _ _ _ _) ?_
 refine eqf_cons (by rfl) (by go_simp) (by go_simp) (eqA119 (d+0) w _ _ _ _) ?_
 exact eqf_last (by rfl) (by go_simp) (by go_simp) (eqA119 (d+0) w _ _ _ _)
end Go.Proofs.YtfiamddinkokbaaGreat.F
end

section
namespace Go.Proofs.YtfiamddinkokbaaGreat.F
open Go.RowKit Go.Shelf Go.Proofs.YtfiamddinkokbaaGreatW.PrintWords
attribute [local go_sem high] eqA121
theorem alive_ex : ∃ k,tripartitetop_alive.f k=some true := ⟨60,by decide +kernel⟩
theorem alive_calls (W : World) : Calls Tryz.prog 8 #[] W fun e W'=>e = .returned (.bool true)∧Below W.heap.size W W' := by
 obtain⟨k,h⟩:=alive_ex
 exact tripartitetop_alive.calls k true W h
theorem fits_bool {st wd fv : Int} {g0 g1 g2 : ByteArray} (s0 : g0.size≤140737488351232) (s1 : g1.size≤140737488351232) (s2 : g2.size≤140737488351232) (W : World) :
  Calls Tryz.prog 7 #[.agg #[.int .i64 st,.int .i64 wd,.int .i64 fv,.string g0,.string g1,.string g2]] W fun e W'=>e = .returned (.bool (decide (g0.size+g1.size+g2.size≤500)))∧Below W.heap.size W W' :=
 tripartitetop_fits.calls st wd fv g0 g1 g2 _ W (few_f st wd fv g0 g1 g2 s0 s1 s2)
end Go.Proofs.YtfiamddinkokbaaGreat.F
end

section
namespace Go.Proofs.YtfiamddinkokbaaGreat.F
open Go.RowKit Go.Shelf Go.Proofs.YtfiamddinkokbaaGreatW.PrintWords
theorem sumP_app (a b : List S60) : sumP (a++b)=sumP a+sumP b := by unfold sumP;rw [List.map_append,List.sum_append]
theorem sumP_one (x : S60) : sumP [x]=sizesP x := by unfold sumP;simp
theorem sumP_mem {l : List S60} {x : S60} (h : x∈l) : sizesP x≤sumP l := by
 obtain⟨a,b,rfl⟩:=List.append_of_mem h
 rw [sumP_app,show x::b=[x]++b from rfl,sumP_app,sumP_one];omega
theorem lineL_le (k : Int) (fl : Bool) (lb : ByteArray) (w : Int) : (lineL k fl lb w).length≤w.toNat+lb.size+3 := by
 have h:=size_data lb
 unfold lineL
 rw [lineB_markL,data_toB]
 unfold markL
 simp only [List.length_append,List.length_replicate,List.length_singleton]
 have h1:(if fl=true then [(33:UInt8)] else []).length≤1:=by split<;>simp
 have h2:(if lb.data.toList.isEmpty=true then [] else (32:UInt8)::lb.data.toList).length≤lb.size+1:=by split<;>simp
 omega
theorem sideL_le (s : ByteArray) (q : Bool) : (sideL s q).length≤s.size+1 := by
 have h:=size_data s
 unfold sideL
 rw [List.length_append]
 have h1:(if lacksB s q=true then [(10:UInt8)] else []).length≤1:=by split<;>simp
 omega
theorem partL_le (w : Int) (hw : w≤300) (x : S60) : (partL w (to106 x)).length≤sizesP x+1300 := by
 have hx:=size_data x.f4
 unfold partL
 rw [List.length_append]
 have e4:(to106 x).f2=x.f4:=rfl
 rw [e4]
 split
 ·unfold hunkL
  have a1:=lineL_le 60 false (to106 x).f0.f0 w
  have a2:=sideL_le (to106 x).f3 (sufQ (to106 x).f3)
  have a3:=lineL_le 124 (lacksB (to106 x).f3 (sufQ (to106 x).f3)) (to106 x).f0.f1 w
  have a4:=sideL_le (to106 x).f4 (sufQ (to106 x).f4)
  have a5:=lineL_le 61 (if (to106 x).f6=true then lacksB (to106 x).f4 (sufQ (to106 x).f4) else lacksB (to106 x).f3 (sufQ (to106 x).f3)) ⟨#[]⟩ w
  have a6:=sideL_le (to106 x).f5 (sufQ (to106 x).f5)
  have a7:=lineL_le 62 (lacksB (to106 x).f5 (sufQ (to106 x).f5)) (to106 x).f0.f2 w
  have e0:(⟨#[]⟩:ByteArray).size=0:=rfl
  have b1:(to106 x).f0.f0=x.f0:=rfl
  have b2:(to106 x).f0.f1=x.f1:=rfl
  have b3:(to106 x).f0.f2=x.f2:=rfl
  have b4:(to106 x).f3=x.f5:=rfl
  have b5:(to106 x).f4=x.f6:=rfl
  have b6:(to106 x).f5=x.f7:=rfl
  rw [b1] at a1
  rw [b4] at a2
  rw [b2] at a3
  rw [b5] at a4
  rw [b6] at a6
  rw [b3] at a7
  rw [e0] at a5
  rw [b1,b2,b3,b4,b5,b6]
  rw [b4] at a3
  rw [b4,b5] at a5
  rw [b6] at a7
  simp only [List.length_append]
  have a8:(if (to106 x).f6=true then lineL 124 (lacksB x.f5 (sufQ x.f5)) x.f1 w++sideL x.f6 (sufQ x.f6) else []).length≤(lineL 124 (lacksB x.f5 (sufQ x.f5)) x.f1 w).length+(sideL x.f6 (sufQ x.f6)).length:=by split<;>simp
  unfold sizesP
  omega
 ·unfold sizesP;simp;omega
theorem printL_le (w : Int) (hw : w≤300) : ∀ l : List S60,(printL w (l.map to106)).length≤sumP l+1300*l.length
 | []=>by simp [printL]
 | x::l=>by
  have h1:=partL_le w hw x
  have h2:=printL_le w hw l
  unfold printL at *
  rw [List.map_cons,List.flatMap_cons,List.length_append,show x::l=[x]++l from rfl,sumP_app,sumP_one,List.length_append,List.length_singleton]
  omega
theorem printP_le (l : List S60) (w : Int) (hw : w≤300) : (printP l w).1.size≤sumP l+1300*l.length := by
 have h:=printL_le w hw l
 have e0:(⟨#[]⟩:ByteArray).size=0:=rfl
 unfold printP
 split
 ·split
  ·split
   ·show (toB _).size≤_
    rw [←size_data,data_toB];exact h
   ·show (⟨#[]⟩:ByteArray).size≤_
    omega
  ·show (⟨#[]⟩:ByteArray).size≤_
   omega
 ·show (⟨#[]⟩:ByteArray).size≤_
  omega
theorem ev_options2 (st wd fv : Int) (a b c : ByteArray) (hs : a.size+b.size+c.size≤500) : ∃ (g0 g1 g2 : ByteArray) (st' wd' : Int),Okay g0 g1 g2 st' wd' 0∧g0.size+g1.size+g2.size≤500∧Ev (fun k=>tripartitelaw12_Options.f k st wd fv a b c) (g0,g1,g2,st',wd',0) := by
 obtain⟨g0,s0,l0,e0⟩:=ev_bare a (by omega)
 obtain⟨g1,s1,l1,e1⟩:=ev_bare b (by omega)
 obtain⟨g2,s2,l2,e2⟩:=ev_bare c (by omega)
 have u1:=u64_nonneg st
 have u2:=u64_nonneg wd
 have t1:0≤Int.tmod (IntKind.u64.wrap st) 3∧Int.tmod (IntKind.u64.wrap st) 3<3:=by rw [Int.tmod_eq_emod_of_nonneg u1];omega
 have t2:0≤Int.tmod (IntKind.u64.wrap wd) 58∧Int.tmod (IntKind.u64.wrap wd) 58<58:=by rw [Int.tmod_eq_emod_of_nonneg u2];omega
 have w1:wrap64 (Int.tmod (IntKind.u64.wrap st) 3)=Int.tmod (IntKind.u64.wrap st) 3:=wrap_in (by omega) (by omega)
 have w2:wrap64 (Int.tmod (IntKind.u64.wrap wd) 58)=Int.tmod (IntKind.u64.wrap wd) 58:=wrap_in (by omega) (by omega)
 have w3:wrap64 (7+Int.tmod (IntKind.u64.wrap wd) 58)=7+Int.tmod (IntKind.u64.wrap wd) 58:=wrap_in (by omega) (by omega)
 refine⟨g0,g1,g2,Int.tmod (IntKind.u64.wrap st) 3,7+Int.tmod (IntKind.u64.wrap wd) 58,⟨⟨l0,l1,l2⟩,by omega,by omega,by omega,.inl rfl⟩,by omega,?_⟩
 unfold tripartitelaw12_Options.f
 refine Ev.bind (a:=(a,b,c,false,⟨#[]⟩,⟨#[]⟩,⟨#[]⟩,⟨#[]⟩,false)) (Ev.const ?_) (Ev.bind e0 (Ev.bind e1 (Ev.bind e2 (Ev.val ?_))))
 ·rfl
 ·rw [w1,w2,w3]
theorem joinP_size (z p : RP) : sizesP (joinP z p)≤sizesP z+sizesP p := by unfold sizesP joinP;simp only [ByteArray.size_append];omega
theorem ofStep_le (out : List RP) (p : RP) : (ofStep out p).length≤out.length+1∧sumP (ofStep out p)≤sumP out+sizesP p := by
 by_cases hn:isNoneP p=true
 ·rw [ofStep_none _ _ hn];omega
 rcases List.eq_nil_or_concat out with rfl|⟨u,z,rfl⟩
 ·rw [ofStep_nil _ hn,sumP_one];simp
 ·rw [List.concat_eq_append]
  by_cases hj:isTextP p=true∧isTextP z=true
  ·rw [ofStep_join u z p hn hj.1 hj.2]
   have:=joinP_size z p
   simp only [sumP_app,sumP_one,List.length_append,List.length_singleton]
   omega
  ·rw [ofStep_put u z p hn hj]
   simp only [sumP_app,sumP_one,List.length_append,List.length_singleton]
   omega
theorem ofP_le : ∀ (l out : List RP),(l.foldl ofStep out).length≤out.length+l.length∧sumP (l.foldl ofStep out)≤sumP out+sumP l
 | [],out=>by simp
 | p::l,out=>by
  have h1:=ofStep_le out p
  have h2:=ofP_le l (ofStep out p)
  rw [List.foldl_cons,show p::l=[p]++l from rfl,sumP_app,sumP_one,List.length_append,List.length_singleton]
  omega
theorem catB_take (n : Nat) (l : List ByteArray) : (catB (l.take n)).size≤(catB l).size := by
 have:=catB_append (l.take n) (l.drop n)
 rw [List.take_append_drop] at this
 rw [this,ByteArray.size_append];omega
theorem catB_drop (n : Nat) (l : List ByteArray) : (catB (l.drop n)).size≤(catB l).size := by
 have:=catB_append (l.take n) (l.drop n)
 rw [List.take_append_drop] at this
 rw [this,ByteArray.size_append];omega
theorem catB_span (s : SSp) (l : List ByteArray) : (catB (spanL s l)).size≤(catB l).size := by
 unfold spanL
 split
 ·rw [catB_nil];exact Nat.zero_le _
 ·exact Nat.le_trans (catB_drop _ _) (catB_take _ _)
theorem textR_size (s : ByteArray) : sizesP (textR s)=s.size := by
 have e0:(⟨#[]⟩:ByteArray).size=0:=rfl
 unfold sizesP textR;simp only [e0];omega
theorem hunkR_size (st : Int) (g0 g1 g2 : ByteArray) (b l r : List ByteArray) : sizesP (hunkR st g0 g1 g2 b l r)≤g0.size+g1.size+g2.size+(catB b).size+(catB l).size+(catB r).size := by
 have e0:(⟨#[]⟩:ByteArray).size=0:=rfl
 have h1:(catB (midL l (hoistN st l r) (hoistM st l r))).size≤(catB l).size:=Nat.le_trans (catB_drop _ _) (catB_take _ _)
 have h2:(catB (midL r (hoistN st l r) (hoistM st l r))).size≤(catB r).size:=Nat.le_trans (catB_drop _ _) (catB_take _ _)
 unfold sizesP hunkR
 by_cases h:st=0
 ·simp only [if_pos h,e0];omega
 ·simp only [if_neg h,e0];omega
theorem pieceR_le (st fv : Int) (g0 g1 g2 : ByteArray) (k : Int) (b l r : List ByteArray) (hb : (catB b).size≤250) (hl : (catB l).size≤250) (hr : (catB r).size≤250) (hg : g0.size+g1.size+g2.size≤500) :
  (pieceR st fv g0 g1 g2 k b l r).length≤3∧sumP (pieceR st fv g0 g1 g2 k b l r)≤2000:=by
 unfold pieceR
 split
 ·rw [sumP_one,textR_size];exact⟨by simp,by omega⟩
 split
 ·rw [sumP_one,textR_size];exact⟨by simp,by omega⟩
 split
 ·rw [sumP_one,textR_size];exact⟨by simp,by omega⟩
 ·have h1:=catB_take (hoistN st l r) l
  have h2:=catB_drop (l.length-hoistM st l r) l
  have h3:=hunkR_size st g0 g1 g2 b l r
  refine⟨by simp,?_⟩
  rw [show ∀ x y z:RP,[x,y,z]=[x]++([y]++[z]) from fun _ _ _=>rfl,sumP_app,sumP_app,sumP_one,sumP_one,sumP_one,textR_size,textR_size]
  omega
theorem flat_le (f : SC→List RP) (h : ∀ c,(f c).length≤3∧sumP (f c)≤2000) : ∀ cs : List SC,(cs.flatMap f).length≤3*cs.length∧sumP (cs.flatMap f)≤2000*cs.length
 | []=>by simp [sumP]
 | c::cs=>by
  have h1:=h c
  have h2:=flat_le f h cs
  rw [List.flatMap_cons,sumP_app,List.length_append,List.length_cons]
  omega
theorem docB_le {st fv : Int} {g0 g1 g2 : ByteArray} {B L R : List ByteArray} {cs : List SC} (hb : (catB B).size≤250) (hl : (catB L).size≤250) (hr : (catB R).size≤250) (hg : g0.size+g1.size+g2.size≤500) (hc : cs.length≤501) :
  (docB st fv g0 g1 g2 B L R cs).length≤1503∧sumP (docB st fv g0 g1 g2 B L R cs)≤1002000:=by
 have h1:=flat_le (partsR st fv g0 g1 g2 B L R) (fun c=>pieceR_le st fv g0 g1 g2 _ _ _ _ (Nat.le_trans (catB_span c.f1 B) hb) (Nat.le_trans (catB_span c.f2 L) hl) (Nat.le_trans (catB_span c.f3 R) hr) hg) cs
 have h2:=ofP_le (cs.flatMap (partsR st fv g0 g1 g2 B L R)) []
 unfold docB ofP
 have e:sumP []=0:=rfl
 rw [e,List.length_nil] at h2
 omega
theorem widthB_300 {wd : Int} {a b c : ByteArray} (hw : wd≤64) (ha : a.size≤250) (hb : b.size≤250) (hc : c.size≤250) : widthB wd a b c≤300 := by
 have h1:=textRun_bound a
 have h2:=textRun_bound b
 have h3:=textRun_bound c
 unfold widthB
 rcases mx_cases (textRun a) (textRun b) with h|h<;>rcases mx_cases (mx (textRun a) (textRun b)) (textRun c) with g|g<;>rcases mx_cases wd (mx (mx (textRun a) (textRun b)) (textRun c)+1) with f|f<;>omega
def EndsAll (l : List ByteArray) : Prop := ∀ (i : Nat) (s : ByteArray),l[i]? = some s→i+1<l.length→endsL s.data.toList=true
theorem whole_iff : ∀ l : List ByteArray,wholeP l=true↔((∀ s∈l,oneL s.data.toList=true)∧EndsAll l)
 | []=>⟨fun _=>⟨fun s hs=>(by cases hs),fun i s h1 h2=>(by simp at h2)⟩,fun _=>rfl⟩
 | x::r=>by
  rw [wholeP_cons]
  simp only [Bool.and_eq_true,Bool.or_eq_true]
  rw [whole_iff r]
  constructor
  ·rintro⟨h1,h2,h3,h4⟩
   refine⟨fun s hs=>?_,fun i s hi hl=>?_⟩
   ·rcases List.mem_cons.1 hs with rfl|hs
    ·exact h1
    ·exact h3 s hs
   ·cases i with
    | zero =>
     rw [List.getElem?_cons_zero] at hi
     obtain rfl:=Option.some.inj hi
     rcases h2 with h2|h2
     ·obtain rfl:=List.isEmpty_iff.1 h2
      simp at hl
     ·exact h2
    | succ i=>rw [List.getElem?_cons_succ] at hi;exact h4 i s hi (by rw [List.length_cons] at hl;omega)
  ·rintro⟨h1,h2⟩
   refine⟨h1 x (List.mem_cons_self ..),?_,fun s hs=>h1 s (List.mem_cons_of_mem _ hs),fun i s hi hl=>h2 (i+1) s (by rw [List.getElem?_cons_succ];exact hi) (by rw [List.length_cons];omega)⟩
   cases r with
   | nil=>exact .inl rfl
   | cons y r=>exact .inr (h2 0 x rfl (by simp))
theorem whole_take {l : List ByteArray} (h : wholeP l=true) (n : Nat) : wholeP (l.take n)=true := by
 rw [whole_iff] at h ⊢
 refine⟨fun s hs=>h.1 s (List.mem_of_mem_take hs),fun i s hi hl=>?_⟩
 rw [List.length_take] at hl
 rw [List.getElem?_take_of_lt (by omega)] at hi
 exact h.2 i s hi (by omega)
theorem whole_drop {l : List ByteArray} (h : wholeP l=true) (n : Nat) : wholeP (l.drop n)=true := by
 rw [whole_iff] at h ⊢
 refine⟨fun s hs=>h.1 s (List.mem_of_mem_drop hs),fun i s hi hl=>?_⟩
 rw [List.length_drop] at hl
 rw [List.getElem?_drop] at hi
 exact h.2 (n+i) s hi (by omega)
theorem whole_span {l : List ByteArray} (h : wholeP l=true) (s : SSp) : wholeP (spanL s l)=true := by
 unfold spanL
 split
 ·rfl
 ·exact whole_drop (whole_take h _) _
theorem mem_span {l : List ByteArray} {s : SSp} {x : ByteArray} (h : x∈spanL s l) : x∈l := (span_sub s l).subset h
def Thin (W : Nat) (l : List ByteArray) : Prop := wholeP l=true∧∀ x∈l,runL x.data.toList≤W
theorem Thin.take {W : Nat} {l : List ByteArray} (h : Thin W l) (n : Nat) : Thin W (l.take n) := ⟨whole_take h.1 n,fun x hx=>h.2 x (List.mem_of_mem_take hx)⟩
theorem Thin.drop {W : Nat} {l : List ByteArray} (h : Thin W l) (n : Nat) : Thin W (l.drop n) := ⟨whole_drop h.1 n,fun x hx=>h.2 x (List.mem_of_mem_drop hx)⟩
theorem Thin.span {W : Nat} {l : List ByteArray} (h : Thin W l) (s : SSp) : Thin W (spanL s l) := ⟨whole_span h.1 s,fun x hx=>h.2 x (mem_span hx)⟩
theorem Thin.runs {W : Nat} {l : List ByteArray} (h : Thin W l) : Runs W (catB l).data.toList := by
 intro x hx
 have e:=split_cat l h.1
 have hm:toB x∈splitB (catB l):=List.mem_map.2 ⟨x,hx,rfl⟩
 rw [e] at hm
 have:=h.2 _ hm
 rw [data_toB] at this;exact this
theorem thin_split {s : ByteArray} {w : Int} (h : textRun s<w) : Thin (w.toNat-1) (splitB s) := by
 refine⟨whole_split s,fun x hx=>?_⟩
 have h1:=(long_ge (splitB s) 0).2 x hx
 have h2:=textRun_bound s
 unfold runI at h1
 unfold textRun at h h2
 omega
theorem run_of_runs {s : ByteArray} {W : Nat} (h : Runs W s.data.toList) : textRun s≤W := by
 unfold textRun
 refine (longI_bound W (splitB s) 0 (by omega) (fun x hx=>?_)).2
 obtain⟨y,hy,rfl⟩:=List.mem_map.1 hx
 have:=h y hy
 unfold runI;rw [data_toB];omega
theorem cat_snoc (l : List ByteArray) (s : ByteArray) (h : endsL s.data.toList=true) : endsL (catB (l++[s])).data.toList=true := by
 rw [catB_append,ByteArray.data_append,Array.toList_append]
 refine ends_app _ _ ?_
 have e:catB [s]=s:=bytes_ext (by unfold catB;simp [data_toB])
 rw [e];exact h
def LastEnds (l : List ByteArray) : Prop := ∀ s,l[l.length-1]? = some s→endsL s.data.toList=true
theorem last_cat {l : List ByteArray} (h : LastEnds l) (hn : (catB l).data.toList≠[]) : endsL (catB l).data.toList=true := by
 rcases List.eq_nil_or_concat l with rfl|⟨u,z,rfl⟩
 ·exact absurd rfl hn
 ·rw [List.concat_eq_append] at h ⊢
  exact cat_snoc u z (h z (by simp))
theorem last_span {L : List ByteArray} (hw : wholeP L=true) {a a' : Int} (h0 : 0≤a) (h1 : a≤a') (h2 : a'<L.length) : LastEnds (spanL ⟨a,a'⟩ L) := by
 intro s hs
 rw [spanL_in h0 h1 (by omega)] at hs
 have hl:=cutL'_length (l:=L) h0 h1 (by omega)
 by_cases he:a=a'
 ·rw [List.getElem?_eq_none (by omega)] at hs;cases hs
 ·rw [cutL'_get h0 _ (by omega)] at hs
  exact ((whole_iff L).1 hw).2 _ s hs (by omega)
def OKP (W : Nat) (x : RP) : Prop := oneP x=true∧plainP x=true∧Runs W x.f4.data.toList∧Runs W x.f5.data.toList∧Runs W x.f6.data.toList∧Runs W x.f7.data.toList
def GP : List RP→Prop
 | []=>True
 | x::v=>(isTextP x=true→x.f4.data.toList≠[]→(∃ y∈v,¬ isNoneP y=true)→endsL x.f4.data.toList=true)∧GP v
def EP (l : List RP) : Prop := ∀ u x v,l=u++x::v→isTextP x=true→v≠[]→endsL x.f4.data.toList=true
def LP (l : List RP) : Prop := ∀ u x,l=u++[x]→isTextP x=true→endsL x.f4.data.toList=true
theorem none_text {x : RP} (h : ¬ isNoneP x=true) (ht : isTextP x=true) : x.f4.data.toList≠[] := by
 intro e
 apply h
 unfold isNoneP
 rw [ht,Bool.true_and,bytes_toList,e];rfl
theorem join_ok {W : Nat} {z p : RP} (hz : OKP W z) (hp : OKP W p) (tz : isTextP z=true) (he : endsL z.f4.data.toList=true) : OKP W (joinP z p) := by
 obtain⟨z1,z2,z3,z4,z5,z6⟩:=hz
 refine⟨?_,z2,?_,z4,z5,z6⟩
 ·unfold oneP;rw [joinP_text,tz];rfl
 ·show Runs W (z.f4++p.f4).data.toList
  rw [ByteArray.data_append,Array.toList_append]
  exact runs_app (.inl he) z3 hp.2.2.1
theorem fold_good {W : Nat} : ∀ (v out : List RP),(∀ x∈out,OKP W x)→(∀ x∈v,OKP W x)→GP v→EP out→((∃ y∈v,¬ isNoneP y=true)→LP out)→(∀ x∈v.foldl ofStep out,OKP W x)∧EP (v.foldl ofStep out)
 | [],out,h1,h2,h3,h4,h5=>⟨h1,h4⟩
 | p::v,out,h1,h2,h3,h4,h5=>by
  rw [List.foldl_cons]
  have hp:=h2 p (List.mem_cons_self ..)
  have hv:∀ x∈v,OKP W x:=fun x hx=>h2 x (List.mem_cons_of_mem _ hx)
  by_cases hn:isNoneP p=true
  ·rw [ofStep_none out p hn]
   exact fold_good v out h1 hv h3.2 h4 (fun ⟨y,hy,hyn⟩=>h5 ⟨y,List.mem_cons_of_mem _ hy,hyn⟩)
  ·have hL:LP out:=h5 ⟨p,List.mem_cons_self ..,hn⟩
   rcases List.eq_nil_or_concat out with rfl|⟨u0,z,rfl⟩
   ·rw [ofStep_nil p hn]
    refine fold_good v [p] (fun x hx=>by rw [List.mem_singleton.1 hx];exact hp) hv h3.2 (fun u x w e ht hw=>?_) (fun hy u x e ht=>?_)
    ·exact absurd (congrArg List.length e) (by
      cases w with
      | nil=>exact absurd rfl hw
      | cons c w=>simp;omega)
    ·have e2:([]:List RP)++[p]=u++[x]:=e
     obtain⟨_,e3⟩:=List.append_inj' e2 rfl
     obtain rfl:=(List.cons.inj e3).1
     exact h3.1 ht (none_text hn ht) hy
   ·rw [List.concat_eq_append] at *
    have hz:=h1 z (by simp)
    by_cases hb:isTextP p=true∧isTextP z=true
    ·have hze:=hL u0 z rfl hb.2
     rw [ofStep_join u0 z p hn hb.1 hb.2]
     refine fold_good v (u0++[joinP z p]) (fun x hx=>?_) hv h3.2 (fun u x w e ht hw=>?_) (fun hy u x e ht=>?_)
     ·rcases List.mem_append.1 hx with hx|hx
      ·exact h1 x (List.mem_append_left _ hx)
      ·rw [List.mem_singleton.1 hx];exact join_ok hz hp hb.2 hze
     ·rcases List.eq_nil_or_concat w with rfl|⟨w',q,rfl⟩
      ·exact absurd rfl hw
      ·rw [List.concat_eq_append] at e
       have e2:u0++[joinP z p]=(u++x::w')++[q]:=by rw [e];simp
       obtain⟨e3,_⟩:=List.append_inj' e2 rfl
       exact h4 u x (w'++[z]) (by rw [e3];simp) ht (by simp)
     ·obtain⟨_,e3⟩:=List.append_inj' e rfl
      rw [←(List.cons.inj e3).1]
      show endsL (z.f4++p.f4).data.toList=true
      rw [ByteArray.data_append,Array.toList_append]
      exact ends_app _ _ (h3.1 hb.1 (none_text hn hb.1) hy)
    ·rw [ofStep_put u0 z p hn hb]
     refine fold_good v (u0++[z]++[p]) (fun x hx=>?_) hv h3.2 (fun u x w e ht hw=>?_) (fun hy u x e ht=>?_)
     ·rcases List.mem_append.1 hx with hx|hx
      ·exact h1 x hx
      ·rw [List.mem_singleton.1 hx];exact hp
     ·rcases List.eq_nil_or_concat w with rfl|⟨w',q,rfl⟩
      ·exact absurd rfl hw
      ·rw [List.concat_eq_append] at e
       have e2:u0++[z]++[p]=(u++x::w')++[q]:=by rw [e];simp
       obtain⟨e3,_⟩:=List.append_inj' e2 rfl
       cases w' with
       | nil=>exact hL u x e3 ht
       | cons c w'=>exact h4 u x (c::w') e3 ht (by simp)
     ·obtain⟨_,e3⟩:=List.append_inj' e rfl
      obtain rfl:=(List.cons.inj e3).1
      exact h3.1 ht (none_text hn ht) hy
theorem right_of : ∀ (l : List RP) (tx : Bool),(∀ x∈l,oneP x=true∧plainP x=true)→Joined l→EP l→(tx=true→∀ x r,l=x::r→¬ isTextP x=true)→rightP tx l=true
 | [],_,_,_,_,_=>rfl
 | x::r,tx,h1,hj,he,ht=>by
  obtain⟨o1,o2⟩:=h1 x (List.mem_cons_self ..)
  have hj':Joined r:=⟨fun y hy=>hj.1 y (List.mem_cons_of_mem _ hy),fun u a b v e=>hj.2 (x::u) a b v (by rw [e];rfl)⟩
  have he':EP r:=fun u y v e=>he (x::u) y v (by rw [e];rfl)
  have ih:=right_of r (isTextP x) (fun y hy=>h1 y (List.mem_cons_of_mem _ hy)) hj' he' (fun hx y r' e=>fun hy=>hj.2 [] x y r' (by rw [e];rfl) ⟨hx,hy⟩)
  rw [rightP_cons,o1,o2,ih]
  cases hx:isTextP x with
  | false=>rfl
  | true =>
   have hn:=hj.1 x (List.mem_cons_self ..)
   have hne:x.f4.toList.isEmpty=false:=by
    cases hq:x.f4.toList.isEmpty with
    | false=>rfl
    | true=>exact absurd (by unfold isNoneP;rw [hx,hq];rfl) hn
   have htx:tx=false:=by
    cases tx with
    | false=>rfl
    | true=>exact absurd hx (ht rfl x r rfl)
   rw [hne,htx]
   cases r with
   | nil=>rfl
   | cons y r =>
    rw [he [] x (y::r) rfl hx (by simp)];rfl
theorem narrow_of {w : Int} (hw : 1≤w) {x : RP} (h : OKP (w.toNat-1) x) : narrowerP w x=true := by
 obtain⟨_,_,r4,r5,r6,r7⟩:=h
 have a4:=run_of_runs r4
 have a5:=run_of_runs r5
 have a6:=run_of_runs r6
 have a7:=run_of_runs r7
 unfold narrowerP
 simp only [Bool.and_eq_true,decide_eq_true_eq]
 omega
theorem textR_ok {W : Nat} {l : List ByteArray} (h : Thin W l) : OKP W (textR (catB l)) := by
 refine⟨by unfold oneP;rw [isTextP_textR];rfl,?_,h.runs,runs_nil W,runs_nil W,runs_nil W⟩
 unfold plainP
 have e:lineless (⟨#[]⟩:ByteArray)=false:=lineless_nil
 show (!lineless (⟨#[]⟩:ByteArray)&&(!lineless (⟨#[]⟩:ByteArray) && !lineless (⟨#[]⟩:ByteArray)))=true
 rw [e];rfl
theorem hunkR_ok {W : Nat} {st : Int} {g0 g1 g2 : ByteArray} {b l r : List ByteArray} (hl : lineless g0=false∧lineless g1=false∧lineless g2=false) (tb : Thin W b) (tl : Thin W l) (tr : Thin W r) : OKP W (hunkR st g0 g1 g2 b l r) := by
 have e0:(⟨#[]⟩:ByteArray).toList.isEmpty=true:=by rw [bytes_toList];rfl
 refine⟨?_,?_,runs_nil W,((tl.take _).drop _).runs,?_,((tr.take _).drop _).runs⟩
 ·unfold oneP confP hunkR
  simp only [e0,Bool.true_and]
  by_cases hs:st=0
  ·rw [if_pos hs,if_pos hs,e0];simp
  ·rw [decide_eq_true hs];simp
 ·unfold plainP hunkR
  simp only [hl.1,hl.2.2]
  split
  ·rw [lineless_nil];rfl
  ·rw [hl.2.1];rfl
 ·show Runs W (if st=0 then (⟨#[]⟩:ByteArray) else catB b).data.toList
  split
  ·exact runs_nil W
  ·exact tb.runs
theorem piece_ok {W : Nat} {st fv k : Int} {g0 g1 g2 : ByteArray} {b l r : List ByteArray} (hl : lineless g0=false∧lineless g1=false∧lineless g2=false) (tb : Thin W b) (tl : Thin W l) (tr : Thin W r) : ∀ x∈pieceR st fv g0 g1 g2 k b l r,OKP W x := by
 intro x hx
 unfold pieceR at hx
 split at hx
 ·rw [List.mem_singleton.1 hx];exact textR_ok tb
 ·split at hx
  ·rw [List.mem_singleton.1 hx];exact textR_ok tl
  ·split at hx
   ·rw [List.mem_singleton.1 hx];exact textR_ok tr
   ·rcases List.mem_cons.1 hx with rfl|hx
    ·exact textR_ok (tl.take _)
    rcases List.mem_cons.1 hx with rfl|hx
    ·exact hunkR_ok hl tb tl tr
    rw [List.mem_singleton.1 hx];exact textR_ok (tl.drop _)
theorem gp_cons {x : RP} {v : List RP} (h : isTextP x=true→x.f4.data.toList≠[]→(∃ y∈v,¬ isNoneP y=true)→endsL x.f4.data.toList=true) (hv : GP v) : GP (x::v) := ⟨h,hv⟩
theorem cls_zero {c : SC} {B L R : List ByteArray} (h : clsI c B L R=0) : c.f0=true := by
 unfold clsI at h
 cases hf:c.f0 with
 | true=>rfl
 | false =>
  rw [hf] at h
  simp only [Bool.false_eq_true,if_false] at h
  repeat' split at h
  all_goals cases h
theorem cls_four {c : SC} {B L R : List ByteArray} (h0 : c.f0=false) (h : ¬ (clsI c B L R=1∨clsI c B L R=3)) (h2 : ¬ clsI c B L R=2) : spanL c.f2 L≠spanL c.f3 R := by
 intro e
 unfold clsI at h h2
 rw [h0] at h h2
 simp only [Bool.false_eq_true,if_false] at h h2
 by_cases q1:spanL c.f1 B=spanL c.f2 L
 ·rw [if_pos q1] at h2;exact h2 rfl
 ·rw [if_neg q1] at h
  by_cases q2:spanL c.f1 B=spanL c.f3 R
  ·rw [if_pos q2] at h;exact h (.inl rfl)
  ·rw [if_neg q2,if_pos e] at h;exact h (.inr rfl)
theorem hoist_ends {L R : List ByteArray} (hL : wholeP L=true) (hR : wholeP R=true) {a a' b b' : Int} (a0 : 0≤a) (a1 : a≤a') (a2 : a'≤L.length) (b0 : 0≤b) (b1 : b≤b') (b2 : b'≤R.length) (st : Int)
  (hne:spanL ⟨a,a'⟩ L≠spanL ⟨b,b'⟩ R):LastEnds ((spanL ⟨a,a'⟩ L).take (hoistN st (spanL ⟨a,a'⟩ L) (spanL ⟨b,b'⟩ R))):=by
 rw [spanL_in a0 a1 a2,spanL_in b0 b1 b2] at *
 have l1:=cutL'_length (l:=L) a0 a1 a2
 have l2:=cutL'_length (l:=R) b0 b1 b2
 intro s hs
 have hn:hoistN st (cutL' a a' L) (cutL' b b' R)≤pre (cutL' a a' L) (cutL' b b' R):=by unfold hoistN;split;exact Nat.le_refl _;exact Nat.zero_le _
 generalize hoistN st (cutL' a a' L) (cutL' b b' R)=n at hs hn
 obtain⟨p1,p2⟩:=pre_le (cutL' a a' L) (cutL' b b' R)
 rw [List.length_take,Nat.min_eq_left (by omega)] at hs
 by_cases h0:n=0
 ·subst h0;simp at hs
 rw [List.getElem?_take_of_lt (by omega)] at hs
 have hs2:=(pre_get (cutL' a a' L) (cutL' b b' R) (n-1) (by omega)).symm.trans hs
 by_cases hlt:n<(cutL' a a' L).length
 ·rw [cutL'_get (j:=a') (l:=L) a0 (n-1) (by omega)] at hs
  exact ((whole_iff L).1 hL).2 _ s hs (by omega)
 ·have hlt2:n<(cutL' b b' R).length:=by
   apply Nat.lt_of_le_of_ne (by omega)
   intro e
   apply hne
   refine List.ext_getElem? (fun i=>?_)
   by_cases hi:i<n
   ·exact pre_get (cutL' a a' L) (cutL' b b' R) i (by omega)
   ·rw [List.getElem?_eq_none (by omega),List.getElem?_eq_none (by omega)]
  rw [cutL'_get (j:=b') (l:=R) b0 (n-1) (by omega)] at hs2
  exact ((whole_iff R).1 hR).2 _ s hs2 (by omega)
theorem last_drop {l : List ByteArray} (h : LastEnds l) (n : Nat) : LastEnds (l.drop n) := by
 intro s hs
 rw [List.length_drop,List.getElem?_drop] at hs
 by_cases hn:n<l.length
 ·rw [show n+(l.length-n-1)=l.length-1 by omega] at hs;exact h s hs
 ·rw [List.getElem?_eq_none (by omega)] at hs;cases hs
theorem steps_gp {x y : List Int} {B L R : List ByteArray} (hx : TabOf x B L) (hy : TabOf y B R) (wB : wholeP B=true) (wL : wholeP L=true) (wR : wholeP R=true) (st fv : Int) (g0 g1 g2 : ByteArray) : ∀ {o a b : Int} {cs : List SC},Steps x y B.length L.length R.length o a b cs→GP (cs.flatMap (partsR st fv g0 g1 g2 B L R)) := by
 intro o a b cs h
 induction h with
 | done=>exact trivial
 | cons h0 h1 h2 hc hl ih =>
  rename_i o a b o' a' b' c l
  have l1:=hc.le1
  have l2:=hc.le2
  have l3:=hc.le3
  rw [List.flatMap_cons]
  generalize hP:l.flatMap (partsR st fv g0 g1 g2 B L R)=P at ih
  have hmore:(∃ z∈P,¬ isNoneP z=true)→(o'<B.length∨a'<L.length∨b'<R.length)∧(c.f0=false→o'<B.length∧a'<L.length∧b'<R.length):=by
   rintro⟨z,hz,_⟩
   cases hl with
   | done=>rw [←hP] at hz;simp at hz
   | cons k0 k1 k2 kc _ =>
    have m1:=kc.le1
    have m2:=kc.le2
    have m3:=kc.le3
    have ms:=kc.some
    refine⟨by omega,fun hf=>?_⟩
    rcases hc.nx hf with g|g
    ·omega
    ·obtain⟨t1,t2,t3⟩:=g
     have r1:=hx.1.rng (o'+0) (by omega) t1
     have r2:=hy.1.rng (o'+0) (by omega) t1
     omega
  have bases:(∃ z∈P,¬ isNoneP z=true)→c.f0=true→LastEnds (spanL c.f1 B):=by
   intro hz hs
   obtain⟨s1,s2⟩:=chunk_stable hx hy h0 h1 h2 hc hs
   rcases (hmore hz).1 with g|g|g
   ·rw [hc.sp1];exact last_span wB h0 l1.1 g
   ·rw [s1,hc.sp2];exact last_span wL h1 l2.1 g
   ·rw [s2,hc.sp3];exact last_span wR h2 l3.1 g
  have lefts:(∃ z∈P,¬ isNoneP z=true)→c.f0=false→LastEnds (spanL c.f2 L):=by
   intro hz hs
   rw [hc.sp2];exact last_span wL h1 l2.1 ((hmore hz).2 hs).2.1
  have rights:(∃ z∈P,¬ isNoneP z=true)→c.f0=false→LastEnds (spanL c.f3 R):=by
   intro hz hs
   rw [hc.sp3];exact last_span wR h2 l3.1 ((hmore hz).2 hs).2.2
  have one:∀ q:List ByteArray,((∃ z∈P,¬ isNoneP z=true)→LastEnds q)→GP (textR (catB q)::P):=fun q hq=>gp_cons (fun _ hn hz=>last_cat (hq hz) hn) ih
  unfold partsR pieceR
  by_cases k0:clsI c B L R=0
  ·rw [if_pos k0]
   exact one _ (fun hz=>bases hz (cls_zero k0))
  have hf:c.f0=false:=by
   cases hf:c.f0 with
   | false=>rfl
   | true=>exact absurd (by unfold clsI;rw [if_pos hf]) k0
  rw [if_neg k0]
  split
  ·exact one _ (fun hz=>lefts hz hf)
  rename_i n1
  split
  ·exact one _ (fun hz=>rights hz hf)
  rename_i n2
  have hne:=cls_four hf (fun e=>n1 (by rcases e with e|e;exact .inl e;exact .inr (.inl e))) (fun e=>n2 (.inl e))
  refine gp_cons (fun _ hn _=>last_cat ?_ hn) (gp_cons (fun ht=>?_) (one _ (fun hz=>last_drop (lefts hz hf) _)))
  ·rw [hc.sp2,hc.sp3] at hne ⊢
   exact hoist_ends wL wR h1 l2.1 l2.2 h2 l3.1 l3.2 st hne
  ·exact absurd (text_hunk _ ht) (by unfold hunkR;simp)
theorem docB_good {a b c g0 g1 g2 : ByteArray} {st wd fv : Int} {lp rp : List SP} {cs : List SC} (ho : Okay g0 g1 g2 st wd fv) (h : Merged (splitB a) (splitB b) (splitB c) lp rp cs) :
  rightP false (docB st fv g0 g1 g2 (splitB a) (splitB b) (splitB c) cs)=true∧∀ x∈docB st fv g0 g1 g2 (splitB a) (splitB b) (splitB c) cs,narrowerP (widthB wd a b c) x=true:=by
 have hw:=widthB_lt (wd:=wd) (a:=a) (b:=b) (c:=c)
 have h0:=textRun_bound a
 have tB:=thin_split hw.1
 have tL:=thin_split hw.2.1
 have tR:=thin_split hw.2.2
 have hg:=steps_gp h.ml.tab h.mr.tab (whole_split a) (whole_split b) (whole_split c) st fv g0 g1 g2 h.steps
 have hok:∀ x∈cs.flatMap (partsR st fv g0 g1 g2 (splitB a) (splitB b) (splitB c)),OKP ((widthB wd a b c).toNat-1) x:=by
  intro x hx
  obtain⟨q,_,hx⟩:=List.mem_flatMap.1 hx
  exact piece_ok ho.lab (tB.span _) (tL.span _) (tR.span _) x hx
 obtain⟨q1,q2⟩:=fold_good _ [] (fun x hx=>by cases hx) hok hg (fun u x v e=>by simp at e) (fun _ u x e=>by simp at e)
 have hj:=joined_of (cs.flatMap (partsR st fv g0 g1 g2 (splitB a) (splitB b) (splitB c)))
 exact⟨right_of _ false (fun x hx=>⟨(q1 x hx).1,(q1 x hx).2.1⟩) hj q2 (fun e=>by cases e),fun x hx=>narrow_of (by omega) (q1 x hx)⟩
#print axioms docB_good
def confN (l : List S124) : Nat := (l.filter (fun y=>y.f1)).length
theorem confs_in (l : List S124) (hn : l.length≤4000000000) : ∀ (rest done : List S124) (x i : Int),l=done++rest→i=done.length→0≤x→x≤done.length→Ev (fun k=>doc_Doc_Conflicts.l0 k x l (l.length : Int) i) (x+confN rest)
 | [],done,x,i,hl,ei,_,_=>by
  refine Ev.succ ?_
  simp only [doc_Doc_Conflicts.l0]
  have:l.length=done.length:=by rw [hl];simp
  exact Ev.neg (by omega) (Ev.val (by simp [confN]))
 | y::rest,done,x,i,hl,ei,h0,h1=>by
  refine Ev.succ ?_
  simp only [doc_Doc_Conflicts.l0]
  have hlen:l.length=done.length+(rest.length+1):=by rw [hl];simp
  refine Ev.pos (by omega) (Ev.pos (by omega) (Ev.pos (by omega) ?_))
  rw [rd106_at l i done rest y hl ei,wrap_in (n:=i+1) (by omega) (by omega),wrap_in (n:=x+1) (by omega) (by omega)]
  have hl':l=(done++[y])++rest:=by rw [hl];simp
  have ei':i+1=((done++[y]).length:Nat):=by rw [List.length_append,List.length_singleton];omega
  have hd:(done++[y]).length=done.length+1:=by simp
  cases hy:y.f1 with
  | true =>
   refine Ev.pos rfl (Ev.cast (confs_in l hn rest (done++[y]) (x+1) (i+1) hl' ei' (by omega) (by omega)) ?_)
   have:confN (y::rest)=confN rest+1:=by unfold confN;rw [List.filter_cons,hy];rfl
   rw [this];omega
  | false =>
   refine Ev.neg (by decide) (Ev.cast (confs_in l hn rest (done++[y]) x (i+1) hl' ei' (by omega) (by omega)) ?_)
   have:confN (y::rest)=confN rest:=by unfold confN;rw [List.filter_cons,hy];rfl
   rw [this]
theorem ev_confs (l : List S124) (hn : l.length≤4000000000) : Ev (fun k=>doc_Doc_Conflicts.f k l) (confN l) := Ev.cast (confs_in l hn l [] 0 0 rfl rfl (by omega) (by simp)) (by simp)
def hunkN (l : List RP) : Nat := (l.filter (fun y=>y.f3)).length
theorem hunkN_app (a b : List RP) : hunkN (a++b)=hunkN a+hunkN b := by unfold hunkN;rw [List.filter_append,List.length_append]
theorem hunkN_one (x : RP) : hunkN [x]=if x.f3=true then 1 else 0 := by
 unfold hunkN
 cases h:x.f3<;>simp [List.filter_cons,h]
theorem confN_hunk (l : List RP) : confN (l.map to106)=hunkN l := by
 unfold confN hunkN
 rw [List.filter_map,List.length_map];rfl
theorem hunkN_step (out : List RP) (p : RP) : hunkN (ofStep out p)=hunkN out+hunkN [p] := by
 by_cases hn:isNoneP p=true
 ·rw [ofStep_none _ _ hn,hunkN_one]
  unfold isNoneP at hn
  simp only [Bool.and_eq_true] at hn
  rw [text_hunk p hn.1];rfl
 ·rcases List.eq_nil_or_concat out with rfl|⟨u,z,rfl⟩
  ·rw [ofStep_nil p hn];show hunkN [p]=0+_;omega
  ·rw [List.concat_eq_append]
   by_cases hb:isTextP p=true∧isTextP z=true
   ·rw [ofStep_join u z p hn hb.1 hb.2,hunkN_app,hunkN_app,hunkN_one,hunkN_one,hunkN_one,text_hunk p hb.1,text_hunk z hb.2,text_hunk (joinP z p) (by rw [joinP_text];exact hb.2)]
    rfl
   ·rw [ofStep_put u z p hn hb,hunkN_app]
theorem hunkN_of : ∀ (v out : List RP),hunkN (v.foldl ofStep out)=hunkN out+hunkN v
 | [],out=>by show hunkN out=hunkN out+0;omega
 | p::v,out=>by
  rw [List.foldl_cons,hunkN_of v,hunkN_step,show p::v=[p]++v from rfl,hunkN_app];omega
theorem hunkN_parts (st : Int) (g0 g1 g2 : ByteArray) (B L R : List ByteArray) (c : SC) : hunkN (partsR st 0 g0 g1 g2 B L R c)=if clsI c B L R=4 then 1 else 0 := by
 have ht:∀ s,hunkN [textR s]=0:=fun s=>by rw [hunkN_one];rfl
 unfold partsR pieceR
 by_cases k0:clsI c B L R=0
 ·rw [if_pos k0,if_neg (by omega),ht]
 rw [if_neg k0]
 by_cases k1:clsI c B L R=1∨clsI c B L R=3∨(clsI c B L R=4∧(0:Int)=1)
 ·rw [if_pos k1,if_neg (by omega),ht]
 rw [if_neg k1]
 by_cases k2:clsI c B L R=2∨(0:Int)=3
 ·rw [if_pos k2,if_neg (by omega),ht]
 rw [if_neg k2]
 have h4:clsI c B L R=4:=by
  unfold clsI at k0 k1 k2 ⊢
  repeat' split
  all_goals simp_all
 rw [if_pos h4,show ∀ (x y z:RP),[x,y,z]=[x]++([y]++[z]) from fun _ _ _=>rfl,hunkN_app,hunkN_app,ht,ht,hunkN_one]
 rfl
theorem hunkN_doc (st : Int) (g0 g1 g2 : ByteArray) (B L R : List ByteArray) (cs : List SC) : ((hunkN (docB st 0 g0 g1 g2 B L R cs) : Nat) : Int)=countB B L R cs := by
 unfold docB ofP
 rw [hunkN_of]
 have:hunkN (cs.flatMap (partsR st 0 g0 g1 g2 B L R))=(cs.filter (fun c=>decide (clsI c B L R=4))).length:=by
  induction cs with
  | nil=>rfl
  | cons c cs ih =>
   rw [List.flatMap_cons,hunkN_app,ih,hunkN_parts,List.filter_cons]
   by_cases h:clsI c B L R=4
   ·rw [if_pos h,decide_eq_true h];simp;omega
   ·rw [if_neg h,decide_eq_false h];simp
 rw [this]
 unfold countB
 show ((0+_:Nat):Int)=_
 omega
theorem ev_back {a b c g0 g1 g2 : ByteArray} {st wd : Int} (ho : Okay g0 g1 g2 st wd 0) (hg : g0.size+g1.size+g2.size≤500) (ha : a.size≤250) (hb : b.size≤250) (hc : c.size≤250) :
  ∃ (d:List RP) (lp rp:List SP) (cs:List SC) (t:ByteArray) (W n:Int),d.length≤2000∧cs.length≤501∧Ev (fun k=>textsF k a b c g0 g1 g2 st wd 0) (d.map to106,lp,rp,cs,t,W,n,0) ∧
   parseF t W=some (d.map to106,0,0)∧Ev (fun k=>mark_Print.f k (d.map to106) W) (t,0)∧n=confN (d.map to106):=by
 obtain⟨lp,rp,cs,h⟩:=merged_of a b c (by omega) (by omega) (by omega)
 have q1:=(chunk_count h.steps).1
 have q2:=splitB_length a
 have hle:=docB_le (st:=st) (fv:=0) (cs:=cs) (g0:=g0) (g1:=g1) (g2:=g2) (B:=splitB a) (L:=splitB b) (R:=splitB c) (by rw [cat_split];exact ha) (by rw [cat_split];exact hb) (by rw [cat_split];exact hc) hg (by omega)
 obtain⟨r1,r2⟩:=docB_good ho h
 have hx:∀ x∈docB st 0 g0 g1 g2 (splitB a) (splitB b) (splitB c) cs,sizesP x≤1000000000:=fun x hx=>by have:=sumP_mem hx;omega
 have ht:=ev_texts ho h (by omega) (by omega) hx
 have hn:=hunkN_doc st g0 g1 g2 (splitB a) (splitB b) (splitB c) cs
 have w3:=widthB_300 ho.wid.2 ha hb hc
 have w0:=(widthB_lt (wd:=wd) (a:=a) (b:=b) (c:=c)).1
 have wa:=(textRun_bound a).1
 have hsz:=printP_le (docB st 0 g0 g1 g2 (splitB a) (splitB b) (splitB c) cs) _ w3
 generalize widthB wd a b c=W at ht r2 w3 w0 hsz
 generalize docB st 0 g0 g1 g2 (splitB a) (splitB b) (splitB c) cs=d at ht r1 r2 hn hx hle hsz
 have hf:fitsP d W=true:=by
  unfold fitsP
  rw [decide_eq_true (show 1≤W by omega),Bool.true_and]
  exact List.all_eq_true.2 r2
 have hp:printP d W=(toB (printL W (d.map to106)),0):=by rw [printP_in (by omega) (by omega),if_pos r1,if_pos hf]
 have hm:=ev_mark_print d W (by omega) hx
 rw [hp] at ht hm hsz
 have hb:=parse_back (l:=d) (w:=W) (by omega) (by omega) r1 r2 hx
 refine⟨d,lp,rp,cs,_,W,_,by omega,by omega,ht,?_,hm,?_⟩
 ·unfold parseF
  rw [if_pos (by omega),hb]
 ·rw [confN_hunk];exact hn.symm
#print axioms ev_back
end Go.Proofs.YtfiamddinkokbaaGreat.F
end
