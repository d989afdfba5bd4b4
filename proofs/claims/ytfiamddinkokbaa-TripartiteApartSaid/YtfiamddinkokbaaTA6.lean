/- Texts joined into one file (wip/tools/pack.py): Forth, NewRun, Repeat, Fn156 -/
import Derived.Test.YtfiamddinkokbaaTA4
import Derived.Test.YtfiamddinkokbaaTA5
import Derived.BigQuiet
import Derived.Deep.DeepCutAuto
import Derived.Test.YtfiamddinkokbaaTA1
import Derived.Laws.CopyOwn
import Derived.Deep.RegionLaw
import Derived.Test.YtfiamddinkokbaaTA3
set_option linter.unusedVariables false
set_option linter.unusedSimpArgs false
section
namespace Go.Proofs.Ytfiamddinkokbaa.F
open Go.RowKit Go.Shelf Go.Proofs.YtfiamddinkokbaaW.PrintWords
def slide (xs ys : List Int) (k : Int) : Nat→Int→Int
 | 0,u=>u
 | s+1,u=>if u<xs.length∧u-k<ys.length∧rd xs u=rd ys (u-k) then slide xs ys k s (u+1) else u
def slideI (xs ys : List Int) (k u : Int) : Int := slide xs ys k ((xs.length : Int)-u).toNat u
theorem slideI_on {xs ys : List Int} {k u : Int} (h1 : u<xs.length) (h2 : u-k<ys.length) (h3 : rd xs u=rd ys (u-k)) : slideI xs ys k u=slideI xs ys k (u+1) := by
 unfold slideI
 rw [show ((xs.length:Int)-u).toNat=((xs.length:Int)-(u+1)).toNat+1 by omega,slide,if_pos ⟨h1,h2,h3⟩]
theorem slideI_off {xs ys : List Int} {k u : Int} (h : ¬ (u<xs.length∧u-k<ys.length∧rd xs u=rd ys (u-k))) : slideI xs ys k u=u := by
 unfold slideI
 cases hn:((xs.length:Int)-u).toNat with
 | zero=>rfl
 | succ m=>rw [slide,if_neg h]
def beginI (far : List Int) (off k d : Int) : Int := if k = -d∨(k≠d∧rd far (off+k-1)<rd far (off+k+1)) then rd far (off+k+1) else rd far (off+k-1)+1
theorem C_int_at {w : World} {A : Option Addr} {n : Nat} {xs : List Int} (h : Kd.C (Kd.int .i64) w A n xs) (i : Int) (h0 : 0≤i) (h1 : i<n) : ∃ ad,A=some ad∧w.cell? (ad.add i.toNat)=some (.int .i64 (rd xs i)) := by
 have hn:=h.1
 obtain⟨ad,e,hc⟩:=h.2.2 (by omega)
 refine⟨ad,e,?_⟩
 have hi:i.toNat<xs.length:=by omega
 obtain⟨c,hl,hk,hcell⟩:=hc i.toNat (xs[i.toNat]) (List.getElem?_eq_getElem hi)
 have hk':c=[Value.int .i64 (xs[i.toNat])]:=hk
 have:=hcell 0 _ (by rw [hk'];rfl)
 have e2:rd xs i=xs[i.toNat]:=by unfold rd;rw [List.getD_eq_getElem?_getD,List.getElem?_eq_getElem hi];rfl
 rw [e2]
 simpa [show (Kd.int .i64).sz=1 from rfl] using this
def Row (B bf : Nat) (c : Nat) (far : List Int) (w : World) : Prop := Kd.R (Kd.int .i64) 3 w B (fun k=>k=bf) (.slice (some ⟨bf,0,none⟩) far.length c) far
theorem begin_f (far : List Int) (off k d : Int) (hd0 : 0≤d) (hd1 : d≤20000000000) (h1 : -d≤k) (h2 : k≤d) (ho : d+1≤off) (ho1 : off≤20000000000) (hl : off+d+1<far.length) (hb : ∀ x∈far,-1≤x∧x≤100000000000) :
  lcs_run_begin.f far off k d=some (beginI far off k d):=by
 have e1:wrap64 (-d) = -d:=by unfold wrap64;omega
 have e2:wrap64 (off+k)=off+k:=by unfold wrap64;omega
 have e3:wrap64 (off+k+1)=off+k+1:=by unfold wrap64;omega
 have e4:wrap64 (off+k-1)=off+k-1:=by unfold wrap64;omega
 have hr:∀ i:Int,0≤i→i<far.length → -1≤rd far i∧rd far i≤100000000000:=by
  intro i h0 hi
  have hi2:i.toNat<far.length:=by omega
  unfold rd;rw [List.getD_eq_getElem?_getD,List.getElem?_eq_getElem hi2]
  exact hb _ (List.getElem_mem hi2)
 have r1:=hr (off+k+1) (by omega) (by omega)
 have r2:=hr (off+k-1) (by omega) (by omega)
 have e5:wrap64 (rd far (off+k-1)+1)=rd far (off+k-1)+1:=by unfold wrap64;omega
 unfold lcs_run_begin.f beginI
 rw [e1,e2,e3,e4,e5]
 by_cases hk:k = -d
 ·rw [if_pos hk,if_pos (by omega),if_pos (by omega),if_pos (.inl hk)]
 ·rw [if_neg hk]
  by_cases hk2:k=d
  ·rw [if_pos hk2,if_pos (by omega),if_pos (by omega),if_neg (by omega)]
  ·rw [if_neg hk2,if_pos (by omega),if_pos (by omega),if_pos (by omega),if_pos (by omega)]
   by_cases hk3:rd far (off+k-1)<rd far (off+k+1)
   ·rw [if_pos hk3,if_pos (.inr ⟨hk2,hk3⟩)]
   ·rw [if_neg hk3,if_neg (by omega)]
theorem two_boxes {w W1 : World} {c1 c2 : Array Value} {t1 t2 : TypeId} (hb : Below ((w.alloc (.cells c1 t1)).alloc (.cells c2 t2)).heap.size ((w.alloc (.cells c1 t1)).alloc (.cells c2 t2)) W1) :
  Below w.heap.size w W1∧W1.heap[w.heap.size]? = some (.cells c1 t1 (0,0))∧W1.heap[w.heap.size+1]? = some (.cells c2 t2 (0,0)):=by
 have hs:(w.alloc (.cells c1 t1)).heap.size=w.heap.size+1:=World.size_alloc _ _
 have hs2:((w.alloc (.cells c1 t1)).alloc (.cells c2 t2)).heap.size=w.heap.size+1+1:=by rw [World.size_alloc,hs]
 have h1:((w.alloc (.cells c1 t1)).alloc (.cells c2 t2)).heap[w.heap.size]? = some (.cells c1 t1 (0,0)):=(Lib.alloc_old (w.alloc (.cells c1 t1)) _ w.heap.size (by omega)).trans (World.alloc_heap_new w _)
 have h2:((w.alloc (.cells c1 t1)).alloc (.cells c2 t2)).heap[w.heap.size+1]? = some (.cells c2 t2 (0,0)):=by rw [←hs];exact World.alloc_heap_new (w.alloc (.cells c1 t1)) _
 exact⟨below_step (below_alloc (below_alloc (Below.refl _ _) _) _) hb,(hb.block _ (by omega)).trans h1,(hb.block _ (by omega)).trans h2⟩
def Went (bf : Nat) (i u e : Int) (w : World) (en : Ending) (w' : World) : Prop := en = .returned (.tuple #[.int .i64 u,.int .i64 e])∧∃ W1,Below w.heap.size w W1∧w'=W1.setCell ⟨bf,i.toNat,none⟩ (.int .i64 e)
set_option maxHeartbeats 4000000 in
set_option maxRecDepth 100000 in
theorem forth_calls {B f bf c : Nat} {A C : Option Addr} {ca cb : Nat} {a b : List Int} {l : List SP} {far : List Int} {w : World} (a0 a1 b0 b1 off k d : Int) (xs ys : List Int)
  (hF:Fin B f (.slice A a.length ca) (.slice C b.length cb) l w) (hA:Kd.C (Kd.int .i64) w A a.length a) (hC:Kd.C (Kd.int .i64) w C b.length b) (hR:Row B bf c far w)
  (ha0:0≤a0) (ha1:a0≤a1) (ha2:a1≤a.length) (hb0:0≤b0) (hb1:b0≤b1) (hb2:b1≤b.length) (hla:a.length≤4000000000) (hlb:b.length≤4000000000)
  (hd0:0≤d) (hd1:d≤20000000000) (hk1 : -d≤k) (hk2:k≤d) (ho:d+1≤off) (ho1:off≤20000000000) (hlf:off+d+1<far.length) (hfb:∀ x∈far,-1≤x∧x≤100000000000)
  (hxl:(xs.length:Int)=a1-a0) (hyl:(ys.length:Int)=b1-b0) (hx:∀ u:Int,0≤u→u<a1-a0→rd a (a0+u)=rd xs u) (hy:∀ u:Int,0≤u→u<b1-b0→rd b (b0+u)=rd ys u)
  (hu0:0≤beginI far off k d) (hu1:k≤beginI far off k d) (hu2:beginI far off k d≤100000000000) :
  Calls Try.prog 170 #[.pointer (some ⟨f,0,none⟩),.agg #[.int .i64 a0,.int .i64 a1,.int .i64 b0,.int .i64 b1],.agg #[.slice (some ⟨bf,0,none⟩) far.length c,.int .i64 off],.int .i64 k,.int .i64 d] w
   (Went bf (off+k) (beginI far off k d) (slideI xs ys k (beginI far off k d)) w):=by
 have hrl:=Kd.R_reads' hR
 have HRC:=Aside0.mk hrl.2.2
 have HRL:=Aside0.mk hrl.2.1
 have HBeg:=Aside0.mk (begin_f far off k d hd0 hd1 hk1 hk2 ho ho1 hlf hfb)
 have HF:=Aside0.mk hF
 have HA:=Aside0.mk hA
 have HC:=Aside0.mk hC
 have HR:=Aside0.mk hR
 have HX:=Aside0.mk hx
 have HY:=Aside0.mk hy
 have HXL:=Aside0.mk hxl
 have HYL:=Aside0.mk hyl
 have HLF:=Aside0.mk hlf
 clear hF hA hC hR hx hy hfb hxl hyl hrl hlf
 generalize beginI far off k d=u0 at *
 go_enter Try.func170,Try.ntmps170
 go_wp2_with (first|(go_at_call 173;with_reducible refine (lcs_run_begin.calls _ _ far off k d u0 _ (Kd.C_alloc (Kd.C_alloc HRC.out _) _) HRL.out HBeg.out).mono ?_;rintro e W1 ⟨rfl,hb1⟩;have h2b:=two_boxes hb1;clear hb1))
 obtain⟨hb1,hx6,hx7⟩:=h2b
 have HB1:=Aside0.mk hb1
 have p0:=(blk_cell hx6 0).trans (rfl:_=some (Value.int .i64 a0))
 have p1:=(blk_cell hx6 1).trans (rfl:_=some (Value.int .i64 a1))
 have p2:=(blk_cell hx6 2).trans (rfl:_=some (Value.int .i64 b0))
 have p3:=(blk_cell hx6 3).trans (rfl:_=some (Value.int .i64 b1))
 have r0:=(blk_cell hx7 0).trans (rfl:_=some (Value.slice (some ⟨bf,0,none⟩) far.length c))
 have r1:=(blk_cell hx7 1).trans (rfl:_=some (Value.int .i64 off))
 have q0:=(HF.out.below hb1).c0
 have q1:=(HF.out.below hb1).c1
 have hst:=Kd.R_cell (0:Int) (Kd.R_below HR.out hb1) (off+k) (by omega) (by have:=HLF.out;omega)
 have st1:=hst.1
 have st2:=hst.2
 have st3:0≤off+k:=by omega
 have st4:off+k<(far.length:Int):=by have:=HLF.out;omega
 clear hb1 hx6 hx7 hst
 go_loopg [12] (a1-a0).toNat (fun gg s12 wr=>∃ (u:Int) (m:Nat),s12 = .int .i64 u∧wr=W1.drewN m∧0≤u∧k≤u∧u≤100000000000∧Aside0 (slideI xs ys k u=slideI xs ys k u0)∧Aside0 ((a1-a0-u).toNat≤gg))
 case atStart=>exact⟨u0,0,rfl,rfl,hu0,hu1,hu2,⟨rfl⟩,⟨by omega⟩⟩
 case round =>
  obtain⟨u,m,rfl,rfl,hv0,hv1,hv2,HS,HM⟩:=hrel
  by_cases h1:u<a1-a0
  ·have h1b:decide (u<a1-a0)=true:=decide_eq_true h1
   by_cases h2:u-k<b1-b0
   ·have h2b:decide (u-k<b1-b0)=true:=decide_eq_true h2
    obtain⟨ad,e1,hx1⟩:=C_int_at (Kd.C_below HA.out HB1.out) (a0+u) (by omega) (by omega)
    subst e1
    obtain⟨bd,e2,hx2⟩:=C_int_at (Kd.C_below HC.out HB1.out) (b0+u-k) (by omega) (by omega)
    subst e2
    have i1:0≤a0+u:=by omega
    have i2:a0+u<(a.length:Int):=by omega
    have i3:0≤b0+u-k:=by omega
    have i4:b0+u-k<(b.length:Int):=by omega
    have hxu:=HX.out u hv0 h1
    have hyu:=HY.out (u-k) (by omega) h2
    rw [show b0+(u-k)=b0+u-k by omega] at hyu
    by_cases h3:rd a (a0+u)=rd b (b0+u-k)
    ·have h3b:(rd a (a0+u)==rd b (b0+u-k))=true:=beq_iff_eq.2 h3
     have H3:Aside0 (slideI xs ys k (u+1)=slideI xs ys k u0):=⟨by rw [←slideI_on (by have:=HXL.out;omega) (by have:=HYL.out;omega) (by rw [←hxu,←hyu];exact h3)];exact HS.out⟩
     clear h3 hxu hyu
     go_wp2
     go_quiet (fail)
     go_wp2
     go_roundg ((a1-a0-(u+1)).toNat)
     case measure=>have:=HM.out;omega
     case rel=>exact⟨u+1,m+nq,by go_num,rfl,by omega,by omega,by omega,H3,⟨Nat.le_refl _⟩⟩
    ·have h3b:(rd a (a0+u)==rd b (b0+u-k))=false:=by simpa using h3
     have H3:=Aside0.mk (show slideI xs ys k u0=u by rw [←HS.out];exact slideI_off (by rw [←hxu,←hyu];exact fun h=>h3 h.2.2))
     clear h3 hxu hyu
     go_wp2
     go_quiet (fail)
     go_wp2
     go_ret2
     rw [H3.out]
     exact⟨rfl,W1.drewN (m+nq),pw_below_drewN HB1.out _,rfl⟩
   ·have h2b:decide (u-k<b1-b0)=false:=decide_eq_false h2
    have H3:=Aside0.mk (show slideI xs ys k u0=u by rw [←HS.out];exact slideI_off (fun h=>h2 (by have:=HYL.out;omega)))
    go_wp2
    go_quiet (fail)
    go_wp2
    go_ret2
    rw [H3.out]
    exact⟨rfl,W1.drewN (m+nq),pw_below_drewN HB1.out _,rfl⟩
  ·have h1b:decide (u<a1-a0)=false:=decide_eq_false h1
   have H3:=Aside0.mk (show slideI xs ys k u0=u by rw [←HS.out];exact slideI_off (fun h=>h1 (by have:=HXL.out;omega)))
   go_wp2
   go_quiet (fail)
   go_wp2
   go_ret2
   rw [H3.out]
   exact⟨rfl,W1.drewN (m+nq),pw_below_drewN HB1.out _,rfl⟩
def newRow (n : Nat) : List Int := (List.replicate (2*n+3) (-1)).set (n+2) 0
theorem newRow_length (n : Nat) : (newRow n).length=2*n+3 := by simp [newRow]
theorem newRow_bound (n : Nat) : ∀ x∈newRow n,-1≤x∧x≤100000000000 := by
 intro x hx
 rcases List.mem_or_eq_of_mem_set hx with h|h
 ·rw [List.eq_of_mem_replicate h];omega
 ·omega
theorem Row.put {B bf c : Nat} {far : List Int} {w : World} (h : Row B bf c far w) (i x : Int) : Row B bf c (far.set i.toNat x) (w.setCell ⟨bf,i.toNat,none⟩ (.int .i64 x)) := by
 have:=Kd.R_putn h i x
 unfold Row
 rw [List.length_set]
 exact this
theorem Row.below {B bf c : Nat} {far : List Int} {w w' : World} (h : Row B bf c far w) (hb : Below w.heap.size w w') : Row B bf c far w' := Kd.R_below h hb
theorem Row.far {B bf c : Nat} {fr : List Int} {w : World} (h : Row B bf c fr w) {p : Addr} (hp : bf≠p.block) (v : Value) : Row B bf c fr (w.setCell p v) := Kd.R_step h (fun k hk _=>by rw [hk];exact Below.heap_setCell _ _ _ _ hp)
theorem Row.lt {B bf c : Nat} {fr : List Int} {w : World} (h : Row B bf c fr w) : bf<w.heap.size := Kd.R_lt h bf rfl
theorem Row.lo {B bf c : Nat} {fr : List Int} {w : World} (h : Row B bf c fr w) : B≤bf := Kd.R_base h bf rfl
theorem Row.lower {B B' bf c : Nat} {fr : List Int} {w : World} (h : Row B bf c fr w) (hb : B'≤B) : Row B' bf c fr w := Kd.R_lower h hb
def fillRow (N i : Nat) : List Int := List.replicate i (-1)++List.replicate (N-i) 0
theorem fillRow_length (N i : Nat) (h : i≤N) : (fillRow N i).length=N := by simp [fillRow];omega
theorem fillRow_set (N i : Nat) (h : i<N) : (fillRow N i).set i (-1)=fillRow N (i+1) := by
 unfold fillRow
 rw [List.set_append_right _ _ (by simp),List.length_replicate,Nat.sub_self,show N-i=(N-(i+1))+1 by omega,List.replicate_succ,List.set_cons_zero,List.replicate_succ' (n:=i),List.append_assoc];rfl
def NewRun (n : Nat) (w : World) (e : Ending) (w' : World) : Prop := ∃ g c,e = .returned (.agg #[.slice (some ⟨g,0,none⟩) (newRow n).length c,.int .i64 (n+1)])∧w.heap.size≤g∧Row w.heap.size g c (newRow n) w'∧Below w.heap.size w w'
set_option maxHeartbeats 4000000 in
set_option maxRecDepth 100000 in
theorem newRun_calls (n : Nat) (w : World) (hn : n≤8000000000) : Calls Try.prog 169 #[.int .i64 n] w (NewRun n w) := by
 have hmk:=print_make (P:=Try.prog) 50 3 .i64 8 Try.underlying50 (by kernel_rfl) (by omega) (2*n+3) (by omega)
 rw [show ((2*n+3:Nat):Int)=2*(n:Int)+3 by omega] at hmk
 go_enter Try.func169,Try.ntmps169
 go_wp2
 have hs:(w.alloc (.cells #[.slice none 0 0,.int .i64 0] 213)).heap.size=w.heap.size+1:=World.size_alloc _ _
 have hrow:Row w.heap.size (w.heap.size+1) (2*n+3) (fillRow (2*n+3) 0) ((w.alloc (.cells #[.slice none 0 0,.int .i64 0] 213)).alloc (.cells (madeCells #[.int .i64 0] (2*n+3)) 3)):=by
  have:=Kd.R_of_own (ok:=fun k=>k=w.heap.size+1) (h1:=fun _=>rfl) (own_made_of' (enc:=fun x:Int=>Value.int .i64 x) (d:=0) (w.alloc (.cells #[.slice none 0 0,.int .i64 0] 213)) w.heap.size 3 (2*n+3) (by omega) (by omega)) (by intro k hk;rw [←hs];simpa [Value.ownBlock] using hk.symm)
  unfold Row fillRow
  rw [hs] at this
  rw [List.replicate_zero,List.nil_append,Nat.sub_zero,List.length_replicate]
  exact this
 have hbx:((w.alloc (.cells #[.slice none 0 0,.int .i64 0] 213)).alloc (.cells (madeCells #[.int .i64 0] (2*n+3)) 3)).heap[w.heap.size]? = some (.cells #[.slice none 0 0,.int .i64 0] 213 (0,0)) :=
  (Lib.alloc_old (w.alloc (.cells #[.slice none 0 0,.int .i64 0] 213)) _ w.heap.size (by omega)).trans (World.alloc_heap_new w _)
 have hbl:=below_alloc (below_alloc (Below.refl w.heap.size w) (.cells #[.slice none 0 0,.int .i64 0] 213)) (.cells (madeCells #[.int .i64 0] (2*n+3)) 3)
 have HROW:=Aside0.mk hrow
 have HBX:=Aside0.mk hbx
 have HBL:=Aside0.mk hbl
 clear hrow hbx hbl hs hmk
 generalize ((w.alloc (.cells #[.slice none 0 0,.int .i64 0] 213)).alloc (.cells (madeCells #[.int .i64 0] (2*n+3)) 3))=W at *
 go_loopg [12] (2*n+3) (fun gg s12 wr=>∃ i:Nat,i≤2*n+3∧2*n+3-i≤gg∧s12 = .int .i64 i∧Aside0 (Row w.heap.size (w.heap.size+1) (2*n+3) (fillRow (2*n+3) i) wr)∧Aside0 (wr.heap[w.heap.size]? = some (.cells #[.slice none 0 0,.int .i64 0] 213 (0,0)))∧Aside0 (Below w.heap.size w wr))
 case atStart=>exact⟨0,Nat.zero_le _,by omega,rfl,HROW,HBX,HBL⟩
 case round =>
  clear HROW HBX HBL
  obtain⟨i,hi,hg,rfl,HR,HX,HB⟩:=hrel
  by_cases hlt:i<2*n+3
  ·have hltz:(i:Int)<2*(n:Int)+3:=by omega
   have a0:0≤(i:Int):=by omega
   have hc:=Kd.R_celln (0:Int) HR.out (i:Int) a0 (by rw [fillRow_length _ _ hi];omega)
   rw [Int.toNat_natCast] at hc
   have c1:=hc.1
   have c2:=hc.2
   have hput:=Row.put HR.out (i:Int) (-1)
   rw [Int.toNat_natCast,fillRow_set _ _ hlt] at hput
   have HP:=Aside0.mk hput
   clear hc hput
   go_wp2
   go_roundg (2*n+3-(i+1))
   case measure=>omega
   case rel=>exact⟨i+1,by omega,by omega,by go_num,HP,⟨(Below.heap_setCell _ _ _ _ (by simp)).trans HX.out⟩,⟨HB.out.setCell (p:=⟨w.heap.size+1,i,none⟩) (by simp) _⟩⟩
  ·obtain rfl:i=2*n+3:=by omega
   have q1:(((2*n+3:Nat):Int)<2*(n:Int)+3)=False:=by simp
   have a0:(0:Int)≤(n:Int)+1+1:=by omega
   have a1:(n:Int)+1+1<2*(n:Int)+3:=by omega
   have a2:((n:Int)+1+1).toNat=n+2:=by omega
   have hrow2:fillRow (2*n+3) (2*n+3)=List.replicate (2*n+3) (-1):=by simp [fillRow]
   have hc:=Kd.R_celln (0:Int) HR.out ((n:Int)+1+1) a0 (by rw [fillRow_length _ _ hi];omega)
   rw [a2] at hc
   have c1:=hc.1
   have c2:=hc.2
   have b0:=(blk_cell HX.out 0).trans (rfl:_=some (Value.slice none 0 0))
   have b1:=(blk_cell HX.out 1).trans (rfl:_=some (Value.int .i64 0))
   have f0:=Lib.frozen_of_heap HX.out 0
   have f1:=Lib.frozen_of_heap HX.out 1
   have hput:=Row.put (HR.out) ((n:Int)+1+1) 0
   rw [a2,hrow2] at hput
   have HP:=Aside0.mk hput
   have hsz:w.heap.size+2≤wr.heap.size:=HR.out.lt
   have hne:wr.heap.size≠w.heap.size+1:=by omega
   have hne2:wr.heap.size≠w.heap.size:=by omega
   have hne3:w.heap.size+1≠wr.heap.size:=by omega
   have hne4:w.heap.size+1<wr.heap.size:=by omega
   have hne5:w.heap.size<wr.heap.size:=by omega
   have hne6:w.heap.size≠wr.heap.size:=by omega
   clear hc hput hrow2
   go_wp2
   refine bodyPost_ret (v := .agg #[.slice (some ⟨w.heap.size+1,0,none⟩) (2*n+3) (2*n+3),.int .i64 ((n:Int)+1)]) (by simp [results,Try.results169,go_sem,b0,b1,hne5,hne6]) rfl ?_
   refine⟨w.heap.size+1,2*n+3,by rw [newRow_length],by omega,?_,?_⟩
   ·refine Row.below ?_ (below_alloc (Below.refl _ _) _)
    exact (HP.out.far (by simp) _).far (by simp) _
   ·refine Below.alloc ?_ (by have:=HB.out.size;simp [World.setCell];omega) _
    exact ((HB.out.setCell (p:=⟨w.heap.size+1,n+2,none⟩) (by simp) _).setCell (p:=⟨w.heap.size,0,none⟩) (Nat.le_refl _) _).setCell (p:=⟨w.heap.size,1,none⟩) (Nat.le_refl _) _
end Go.Proofs.Ytfiamddinkokbaa.F
end

section
namespace Go.Proofs.Ytfiamddinkokbaa.F
open Go.RowKit Go.Shelf Go.Proofs.YtfiamddinkokbaaW.PrintWords Go.Proofs.YtfiamddinkokbaaW.PrintLast Go.Proofs.YtfiamddinkokbaaW.PrintMore
def rowI (l : List Int) : List Value := l.map fun x => .int .i64 x
def repRow (N n : Nat) (c : Int) : List Int := List.replicate n c++List.replicate (N-n) 0
theorem repRow_length (N n : Nat) (c : Int) (h : n≤N) : (repRow N n c).length=N := by simp [repRow];omega
theorem rep_splice (N n m : Nat) (c : Int) (h : n+m≤N) : splice (rowI (repRow N n c)) n (rowI (List.replicate m c))=rowI (repRow N (n+m) c) := by
 unfold splice rowI repRow
 have e1:(List.replicate n c++List.replicate (N-n) (0:Int)).take n=List.replicate n c:=by rw [List.take_append_of_le_length (by simp),List.take_of_length_le (by simp)]
 have e2:(List.replicate n c++List.replicate (N-n) (0:Int)).drop (n+m)=List.replicate (N-(n+m)) 0:=by
  rw [List.drop_append,List.drop_of_length_le (by simp),List.nil_append,List.drop_replicate,List.length_replicate]
  congr 1;omega
 rw [←List.map_take,←List.map_drop,List.length_map,List.length_replicate,e1,e2,←List.map_append,←List.map_append,←List.append_assoc,List.replicate_append_replicate]
theorem rowI_rep (n : Nat) (c : Int) : rowI (List.replicate n c)=List.replicate n (.int .i64 c) := by simp [rowI]
theorem rowI_at {n : Nat} {c : Int} {j : Nat} {v : Value} (h : (rowI (List.replicate n c))[j]? = some v) : j<n∧v = .int .i64 c := by
 rw [rowI_rep,List.getElem?_replicate] at h
 split at h
 ·exact⟨by assumption,(Option.some.inj h).symm⟩
 ·cases h
theorem rowI_one {n : Nat} {c : Int} : ∀ v∈rowI (List.replicate n c),v.oneCell'=true := by
 intro v hv
 rw [rowI_rep] at hv
 rw [List.eq_of_mem_replicate hv];rfl
theorem rowI_len (n : Nat) (c : Int) : (rowI (List.replicate n c)).length=n := by simp [rowI]
theorem row_of_block {w : World} {B g N : Nat} {l : List Int} (hl : l.length=N) (hN : N≤9000000000) (hB : B≤g) (h : w.heap[g]? = some (.cells (rowI l).toArray 3 (0,0))) : Kd.R (Kd.int .i64) 3 w B (fun _=>True) (.slice (some ⟨g,0,none⟩) N N) l := by
 subst hl
 refine Kd.R_of_own (h1:=fun _=>rfl) (enc:=fun x:Int=>Value.int .i64 x) ⟨by simp [encs],.inr ⟨g,l.length,_,rfl,hB,h,Nat.le_refl _,by unfold maxLen;omega,by simp [rowI],?_⟩⟩ (fun _ _=>trivial)
 simp only [rowI,encs,Nat.mul_one]
 rw [List.take_of_length_le (by simp)]
def Repd (N : Nat) (c : Int) (w : World) (e : Ending) (w' : World) : Prop := ∃ v0_ : Value,e = .returned v0_∧Kd.R (Kd.int .i64) 3 w' w.heap.size (fun _=>True) v0_ (List.replicate N c)∧Below w.heap.size w w'
set_option maxHeartbeats 800000 in
set_option maxRecDepth 100000 in
theorem repeat_calls (A : Option Addr) (ca N : Nat) (c : Int) (w : World) (hA : Kd.C (Kd.int .i64) w A 1 [c]) (hca : 1≤ca) (hN : N≤4000000000) :
  Calls Try.prog 156 #[.slice A 1 ca,.int .i64 N] w (Repd N c w):=by
 have hmk:=print_make (P:=Try.prog) 50 3 .i64 8 Try.underlying50 (by kernel_rfl) (by omega) N (by omega)
 have hmul:∀ W:World,Calls Try.prog 151 #[.int .u64 1,.int .u64 (N:Int)] W fun e w'=>e = .returned (.tuple #[.int .u64 0,.int .u64 (N:Int)])∧W=w':=by
  intro W
  have:=Try.bits_Mul 1 N (by omega) (by omega) W
  rw [Nat.one_mul,Nat.div_eq_of_lt (by omega),Nat.mod_eq_of_lt (by omega)] at this
  exact this.mono fun _ _ h=>⟨h.1,h.2.symm⟩
 have HMUL:=Aside0.mk hmul
 have HA:=Aside0.mk hA
 have hb0:=below_alloc (Below.refl w.heap.size w) (.cells (madeCells #[.int .i64 0] N) 3)
 have hg0:(w.alloc (.cells (madeCells #[.int .i64 0] N) 3)).heap[w.heap.size]? = some (.cells (rowI (repRow N 0 c)).toArray 3 (0,0)):=by
  have e:madeCells #[.int .i64 0] N=(rowI (repRow N 0 c)).toArray:=by
   apply Array.ext'
   apply List.ext_getElem
   ·simp [madeCells,rowI,repRow]
   ·intro i h1 h2
    simp [madeCells,rowI,repRow,Nat.mod_one]
  rw [e];exact World.alloc_heap_new w _
 have hlen:(rowI (List.replicate (min 1 N) c)).length=Nat.min 1 N:=rowI_len _ _
 have hpos:0<(rowI (List.replicate (min 1 N) c)).length→∃ ad,A=some ad∧∀ j v,(rowI (List.replicate (min 1 N) c))[j]? = some v→(w.alloc (.cells (madeCells #[.int .i64 0] N) 3)).cell? (ad.add j)=some v:=by
  intro hp
  obtain⟨ad,e,hc⟩:=C_int_at (Kd.C_below HA.out hb0) 0 (by omega) (by omega)
  refine⟨ad,e,fun j v hj=>?_⟩
  obtain⟨hj1,rfl⟩:=rowI_at hj
  have:j=0:=by omega
  subst this
  exact hc
 have hfit:0+(rowI (List.replicate (min 1 N) c)).length≤(rowI (repRow N 0 c)).length:=by rw [rowI_len];simp [rowI,repRow];omega
 have hsp:splice (rowI (repRow N 0 c)) 0 (rowI (List.replicate (min 1 N) c))=rowI (repRow N (min 1 N) c):=by
  have:=rep_splice N 0 (min 1 N) c (by omega)
  rwa [Nat.zero_add] at this
 have HB0:=Aside0.mk hb0
 have HG0:=Aside0.mk hg0
 have HLEN:=Aside0.mk hlen
 have HPOS:=Aside0.mk hpos
 have HFIT:=Aside0.mk hfit
 have HSP:=Aside0.mk hsp
 clear hb0 hg0 hlen hpos hfit hsp
 have h1:(((1:Nat):Int)<0)=False:=by simp
 have h2:decide ((N:Int)<0)=false:=by simp
 clear hmul hA
 go_enter Try.func156,Try.ntmps156
 have hbig:decide (9223372036854775807<(N:Int))=false:=decide_eq_false (by omega)
 go_wp2_with (first
  | (go_at_call 151;(with_reducible refine (HMUL.out _).mono ?_);rintro e w1 ⟨rfl,rfl⟩)
  | ((with_reducible refine wpList_copy_splice rfl (.tmp 31) (.tmp 32) 50 50 rfl 3 Try.underlying50 (by kernel_rfl) (some ⟨w.heap.size,0,none⟩) A N N 1 ca rfl rfl w.heap.size 0 (rowI (repRow N 0 c)) 3 HG0.out (rowI (List.replicate (min 1 N) c)) HLEN.out (fun hp=>⟨rfl,HPOS.out hp⟩) HFIT.out rowI_one w.heap.size w HB0.out (Nat.le_refl _) ?_);intro w2 hg2 hb2;have HG2:=Aside0.mk (HSP.out▸hg2.out);have HB2:=Aside0.mk hb2;clear hg2 hb2))
 go_loopg [8] N (fun gg s8 wr=>∃ n:Nat,n≤N∧N-n≤gg∧s8 = .int .i64 n∧Aside0 (min 1 N≤n)∧Aside0 (wr.heap[w.heap.size]? = some (.cells (rowI (repRow N n c)).toArray 3 (0,0)))∧Aside0 (Below w.heap.size w wr))
 case atStart=>exact⟨min 1 N,by omega,by omega,by rw [rowI_len],⟨Nat.le_refl _⟩,HG2,HB2⟩
 case round =>
  clear HG2 HB2 HG0 HB0 HPOS HFIT HSP
  obtain⟨n,hn,hg,rfl,HM,HG,HB⟩:=hrel
  by_cases hlt:n<N
  ·have hltb:decide (n<N)=true:=decide_eq_true hlt
   have p0:(0:Int)≤(n:Int):=by omega
   have p1:(n:Int)≤(N:Int):=by omega
   have hn1:(rowI (List.replicate (min n (N-n)) c)).length=Nat.min n (N-n):=rowI_len _ _
   have hfit:n+(rowI (List.replicate (min n (N-n)) c)).length≤(rowI (repRow N n c)).length:=by rw [rowI_len];simp [rowI,repRow];omega
   have hsp:=rep_splice N n (min n (N-n)) c (by omega)
   have hg':wr.drew.heap[w.heap.size]? = some (.cells (rowI (repRow N n c)).toArray 3 (0,0)):=HG.out
   have hpos:∃ ad,(some (⟨w.heap.size,0,none⟩:Addr))=some ad∧∀ j v,(rowI (List.replicate (min n (N-n)) c))[j]? = some v→wr.drew.cell? (ad.add j)=some v:=by
    refine⟨_,rfl,fun j v hj=>?_⟩
    obtain⟨hj1,rfl⟩:=rowI_at hj
    rw [add_plain,blk_cell hg' j]
    simp only [rowI,repRow,List.getElem?_toArray,List.map_append,List.map_replicate]
    rw [List.getElem?_append_left (by simp;omega),List.getElem?_replicate,if_pos (by omega)]
   have HN:=Aside0.mk hn1
   have HFIT:=Aside0.mk hfit
   have HSP:=Aside0.mk hsp
   have HPOS:=Aside0.mk hpos
   have HG':=Aside0.mk hg'
   have HB':=Aside0.mk (Below.drew HB.out)
   clear hn1 hfit hsp hpos hg'
   have hNn:¬ N=n:=by omega
   have HWR:Aside0 (IntKind.i64.wrap ((n:Int)+((rowI (List.replicate (min n (N-n)) c)).length:Int))=((n+min n (N-n):Nat):Int)):=⟨by rw [rowI_len,i64_w];unfold wrap64;omega⟩
   go_wp2
   go_region_law (refine step_copy_splice rfl (.tmp 41) (.tmp 44) 50 50 rfl 3 Try.underlying50 (by kernel_rfl) (some ⟨w.heap.size,n,none⟩) (some ⟨w.heap.size,0,none⟩) (N-n) (N-n) n N (by go_simp) (by go_simp) w.heap.size n (rowI (repRow N n c)) 3 HG'.out (rowI (List.replicate (min n (N-n)) c)) HN.out (fun _=>⟨rfl,HPOS.out⟩) HFIT.out rowI_one w.heap.size w HB'.out (Nat.le_refl _) ?_;intro w4 hg4 hb4;have HG4:=Aside0.mk (HSP.out▸hg4.out);have HB4:=Aside0.mk hb4;clear hg4 hb4)
   all_goals simp only [HWR.out]
   all_goals go_wp2
   all_goals go_roundg (N-(n+min n (N-n)))
   case measure=>have:=HM.out;omega
   case rel=>exact⟨n+min n (N-n),by omega,Nat.le_refl _,rfl,⟨by have:=HM.out;omega⟩,HG4,HB4⟩
  ·obtain rfl:n=N:=by omega
   have q1:((n:Int)<(n:Int))=False:=by simp
   go_wp2
   go_ret
   refine⟨_,rfl,?_,HB.out⟩
   have:=row_of_block (N:=n) (l:=repRow n n c) (repRow_length n n c (Nat.le_refl _)) (by omega) (Nat.le_refl _) HG.out
   rwa [show repRow n n c=List.replicate n c by simp [repRow]] at this
end Go.Proofs.Ytfiamddinkokbaa.F
namespace Go.Proofs.Ytfiamddinkokbaa.F
open Go.RowKit Go.Shelf Go.Proofs.YtfiamddinkokbaaW.PrintWords
theorem ext_repeat (A0 : Option Addr) (c0 : Nat) (l0 : List Int) (a1 : Int) (r : List Int) (w : World) (hr0 : Kd.C (Kd.int .i64) w A0 l0.length l0) (hc0 : l0.length≤c0)
  (h:(if l0.length=1∧0≤a1∧a1≤4000000000 then some (List.replicate a1.toNat (l0.headD 0)) else none)=some r) :
  Calls Try.prog 156 #[.slice A0 l0.length c0,.int .i64 a1] w fun e w'=>∃ v0_:Value,e = .returned (v0_)∧Kd.R (Kd.int .i64) 3 w' w.heap.size (fun _=>True) v0_ r∧Below w.heap.size w w':=by
 split at h
 case isFalse=>cases h
 case isTrue hl =>
 obtain rfl:=Option.some.inj h
 obtain⟨h1,h2,h3⟩:=hl
 obtain⟨c,rfl⟩:∃ c,l0=[c]:=List.length_eq_one_iff.1 h1
 have:=repeat_calls A0 c0 a1.toNat c w hr0 hc0 (by omega)
 rw [show ((a1.toNat:Nat):Int)=a1 by omega] at this
 exact this
end Go.Proofs.Ytfiamddinkokbaa.F
end

section
namespace Go.Proofs.Ytfiamddinkokbaa.F
open Go.RowKit Go.Proofs.YtfiamddinkokbaaW.PrintWords Go.Proofs.YtfiamddinkokbaaW.PrintLast Go.Proofs.YtfiamddinkokbaaW.PrintMore
attribute [local go_sem] max2_int min2_int max_two min_two max_three min_three max_four min_four
def slices_Repeat_int_int.f (l0 : List Int) (a1 : Int) : Option (List Int) := if l0.length=1∧0≤a1∧a1≤4000000000 then some (List.replicate a1.toNat (l0.headD 0)) else none
theorem slices_Repeat_int_int.calls (A0 : Option Addr) (c0 : Nat) (l0 : List Int) (a1 : Int) (r : List Int) (w : World) (hr0 : Kd.C (Kd.int .i64) w A0 l0.length l0) (hc0 : l0.length≤c0) (h : slices_Repeat_int_int.f l0 a1=some r) :
  Calls Try.prog 156 #[.slice A0 l0.length c0,.int .i64 a1] w fun e w'=>∃ v0_:Value,e = .returned (v0_)∧Kd.R (Kd.int .i64) 3 w' w.heap.size (fun _=>True) v0_ r∧Below w.heap.size w w':=by
 exact ext_repeat A0 c0 l0 a1 r w hr0 hc0 h
end Go.Proofs.Ytfiamddinkokbaa.F
end
