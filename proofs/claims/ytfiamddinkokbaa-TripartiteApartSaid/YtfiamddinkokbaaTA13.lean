/- Texts joined into one file (wip/tools/pack.py): Find, Match, Fn32, Fn44, Fn41, Fn43 -/
import Derived.Test.YtfiamddinkokbaaTA11
import Derived.Test.YtfiamddinkokbaaTA12
import Derived.Test.YtfiamddinkokbaaTA3
set_option linter.unusedVariables false
set_option linter.unusedSimpArgs false
section
namespace Go.Proofs.Ytfiamddinkokbaa.F
open Go.RowKit Go.Shelf Go.Proofs.YtfiamddinkokbaaW.PrintWords
def pieceI (a : List Int) (lo hi : Int) : List Int := (a.take hi.toNat).drop lo.toNat
theorem pieceI_length {a : List Int} {lo hi : Int} (h0 : 0≤lo) (h1 : lo≤hi) (h2 : hi≤a.length) : ((pieceI a lo hi).length : Int)=hi-lo := by
 unfold pieceI;rw [List.length_drop,List.length_take];omega
theorem pieceI_rd {a : List Int} {lo hi : Int} (h0 : 0≤lo) (h2 : hi≤a.length) (u : Int) (hu0 : 0≤u) (hu1 : u<hi-lo) : rd a (lo+u)=rd (pieceI a lo hi) u := by
 unfold rd pieceI
 rw [List.getD_eq_getElem?_getD,List.getD_eq_getElem?_getD,List.getElem?_drop,List.getElem?_take_of_lt (by omega),show (lo+u).toNat=lo.toNat+u.toNat by omega]
theorem cut_mid_C {w : World} {A : Option Addr} {c : Nat} {xs : List Int} (h : Kd.C (Kd.int .i64) w A xs.length xs) (hc : xs.length≤c) (lo hi : Int) (h0 : 0≤lo) (h1 : lo≤hi) (h2 : hi≤xs.length) :
  ∃ (A':Option Addr) (n':Nat),n'=(pieceI xs lo hi).length∧(∀ W:World,(Instr.slice 50 (.slice A xs.length c) (some (.int .i64 lo)) (some (.int .i64 hi)) none).run Try.prog W = .ok (.slice A' n' (c-lo.toNat)) W) ∧
   Kd.C (Kd.int .i64) w A' n' (pieceI xs lo hi)∧n'≤c-lo.toNat:=by
 obtain⟨i0,hi0,hz0,hz1,hz2⟩:=info_parts (show (Try.prog.info? 3).map (fun i=>(i.zero,i.size,i.bytes))=some (some (.int .i64 0),1,8) by kernel_rfl)
 have hcut:=cut_mid (P:=Try.prog) 50 3 .i64 .i64 Try.underlying50 hi0 1 hz1 A xs.length c lo hi h0 h1 h2 hc
 have hm:=Kd.C_mid (lo:=lo.toNat) (hi:=hi.toNat) h (by omega) (by omega) hc
 have hl:hi.toNat-lo.toNat=(pieceI xs lo hi).length:=by have:=pieceI_length h0 h1 h2;omega
 refine⟨if c=lo.toNat then A else A.map (·.add (lo.toNat*1)),_,rfl,fun W=>?_,?_,?_⟩
 ·rw [hcut W,hl]
 ·exact hm
 ·rw [←hl];omega
theorem ends_quiet {A C : Option Addr} {ca cb n m : Nat} {xs ys : List Int} {w : World} (hn : n=xs.length) (hm : m=ys.length) (hA : Kd.C (Kd.int .i64) w A n xs) (hC : Kd.C (Kd.int .i64) w C m ys) (hca : n≤ca) (hcb : m≤cb) (hx : n≤4000000000) (hy : m≤4000000000) :
  Calls Try.prog 165 #[.slice A n ca,.slice C m cb] w fun e w'=>e = .returned (.tuple #[.int .i64 (endsN xs ys),.int .i64 (endsM xs ys)])∧∃ k,w'=w.drewN k:=by
 subst hn hm
 exact (ends_calls hA hC hca hcb hx hy).mono fun e w' ⟨he,hw⟩=>⟨he,hw.out⟩
theorem ends_le (xs ys : List Int) : endsN xs ys+endsM xs ys≤xs.length∧endsN xs ys+endsM xs ys≤ys.length := by
 have h1:=pre_le xs ys
 have h2:=pre_le (xs.drop (pre xs ys)).reverse (ys.drop (pre xs ys)).reverse
 rw [List.length_reverse,List.length_reverse,List.length_drop,List.length_drop] at h2
 unfold endsN endsM
 omega
def findF (a b : List Int) : Nat→Int→Int→Int→Int→Option (List SP)
 | 0,_,_,_,_=>none
 | s+1,a0,a1,b0,b1 =>
  if 0≤a0∧a0≤a1∧a1≤a.length∧0≤b0∧b0≤b1∧b1≤b.length then
   (if a0+endsN (pieceI a a0 a1) (pieceI b b0 b1)<a1-endsM (pieceI a a0 a1) (pieceI b b0 b1)∧b0+endsN (pieceI a a0 a1) (pieceI b b0 b1)<b1-endsM (pieceI a a0 a1) (pieceI b b0 b1) then
    (middleF (pieceI a (a0+endsN (pieceI a a0 a1) (pieceI b b0 b1)) (a1-endsM (pieceI a a0 a1) (pieceI b b0 b1))) (pieceI b (b0+endsN (pieceI a a0 a1) (pieceI b b0 b1)) (b1-endsM (pieceI a a0 a1) (pieceI b b0 b1)))).bind fun r =>
     if 0≤r.1∧0≤r.2.1∧0≤r.2.2∧a0+endsN (pieceI a a0 a1) (pieceI b b0 b1)+r.1+r.2.2≤a1∧b0+endsN (pieceI a a0 a1) (pieceI b b0 b1)+r.2.1+r.2.2≤b1 then
      (findF a b s (a0+endsN (pieceI a a0 a1) (pieceI b b0 b1)) (a0+endsN (pieceI a a0 a1) (pieceI b b0 b1)+r.1) (b0+endsN (pieceI a a0 a1) (pieceI b b0 b1)) (b0+endsN (pieceI a a0 a1) (pieceI b b0 b1)+r.2.1)).bind fun l1 =>
       (findF a b s (a0+endsN (pieceI a a0 a1) (pieceI b b0 b1)+r.1+r.2.2) (a1-endsM (pieceI a a0 a1) (pieceI b b0 b1)) (b0+endsN (pieceI a a0 a1) (pieceI b b0 b1)+r.2.1+r.2.2) (b1-endsM (pieceI a a0 a1) (pieceI b b0 b1))).bind fun l2 =>
        some (l1++diagP (a0+endsN (pieceI a a0 a1) (pieceI b b0 b1)+r.1) (b0+endsN (pieceI a a0 a1) (pieceI b b0 b1)+r.2.1) r.2.2.toNat++l2)
     else none
   else some []).bind fun mid=>some (diagP a0 b0 (endsN (pieceI a a0 a1) (pieceI b b0 b1))++mid++diagP (a1-endsM (pieceI a a0 a1) (pieceI b b0 b1)) (b1-endsM (pieceI a a0 a1) (pieceI b b0 b1)) (endsM (pieceI a a0 a1) (pieceI b b0 b1)))
  else none
set_option maxHeartbeats 8000000 in
set_option maxRecDepth 100000 in
theorem find_calls {w0 : World} {f : Nat} {A C : Option Addr} {ca cb : Nat} {a b : List Int} (hA : Kd.C (Kd.int .i64) w0 A a.length a) (hC : Kd.C (Kd.int .i64) w0 C b.length b) (hca : a.length≤ca) (hcb : b.length≤cb) (hla : a.length≤4000000000) (hlb : b.length≤4000000000) :
  ∀ (s:Nat) (a0 a1 b0 b1:Int) (r l:List SP) (w:World),findF a b s a0 a1 b0 b1=some r→Fin w0.heap.size f (.slice A a.length ca) (.slice C b.length cb) l w→Below w0.heap.size w0 w→l.length+r.length≤8000000000 →
  Calls Try.prog 155 #[.pointer (some ⟨f,0,none⟩),.agg #[.int .i64 a0,.int .i64 a1,.int .i64 b0,.int .i64 b1]] w fun e w' =>
   e = .returned (.tuple #[])∧Fin w0.heap.size f (.slice A a.length ca) (.slice C b.length cb) (l++r) w'∧Below w0.heap.size w w'∧Keeps 196 f w w':=by
 intro s
 induction s with
 | zero=>intro a0 a1 b0 b1 r l w h;exact absurd h (by simp [findF])
 | succ s ih0 =>
  intro a0 a1 b0 b1 r l w h hF hB hlen
  rw [findF] at h
  split at h
  case isFalse=>cases h
  case isTrue hrng =>
  obtain⟨ha0,ha1,ha2,hb0,hb1,hb2⟩:=hrng
  have ih:=Aside0.mk ih0
  obtain⟨A1,n1,hn1,hcut1,hA1,hc1⟩:=cut_mid_C hA hca a0 a1 ha0 ha1 ha2
  obtain⟨C1,m1,hm1,hcut2,hC1,hd1⟩:=cut_mid_C hC hcb b0 b1 hb0 hb1 hb2
  have hnz:(n1:Int)=a1-a0:=by rw [hn1];exact pieceI_length ha0 ha1 ha2
  have hmz:(m1:Int)=b1-b0:=by rw [hm1];exact pieceI_length hb0 hb1 hb2
  have hel:=ends_le (pieceI a a0 a1) (pieceI b b0 b1)
  rw [←hn1,←hm1] at hel
  have HEND:=fun W=>ends_quiet (A:=A1) (C:=C1) (ca:=ca-a0.toNat) (cb:=cb-b0.toNat) (w:=W) hn1 hm1
  generalize endsN (pieceI a a0 a1) (pieceI b b0 b1)=en at *
  generalize endsM (pieceI a a0 a1) (pieceI b b0 b1)=em at *
  have HH:=Aside0.mk h
  have HF:=Aside0.mk hF
  have HBB:=Aside0.mk hB
  have HL:=Aside0.mk hlen
  have HA:=Aside0.mk hA
  have HC:=Aside0.mk hC
  have HA1:=Aside0.mk hA1
  have HC1:=Aside0.mk hC1
  have HE:=Aside0.mk HEND
  have e1:n1≤4000000000:=by omega
  have e2:m1≤4000000000:=by omega
  have q0:=hF.c0
  have q1:=hF.c1
  have hflt:=hF.lt
  have hel1:=hel.1
  have hel2:=hel.2
  clear h hF hB hlen ih0 hA hC hA1 hC1 HEND hn1 hm1 hel
  go_enter Try.func155,Try.ntmps155
  go_wp2
  go_quiet ((go_at_call 165;refine Calls.quiet_of (HE.out _ (Kd.C_drewN (Kd.C_alloc (Kd.C_below HA1.out HBB.out) _) _) (Kd.C_drewN (Kd.C_alloc (Kd.C_below HC1.out HBB.out) _) _) hc1 hd1 e1 e2)))
  have hbx:((w.alloc (.cells #[.int .i64 a0,.int .i64 a1,.int .i64 b0,.int .i64 b1] 193)).drewN nq).heap[w.heap.size]? = some (.cells #[.int .i64 a0,.int .i64 a1,.int .i64 b0,.int .i64 b1] 193 (0,0)):=World.alloc_heap_new w _
  have hbel:=pw_below_drewN (below_alloc (Below.refl w.heap.size w) (.cells #[.int .i64 a0,.int .i64 a1,.int .i64 b0,.int .i64 b1] 193)) nq
  have HX:=Aside0.mk hbx
  have hne:w.heap.size≠f:=by omega
  have HF0:=Aside0.mk (HF.out.below hbel)
  have HB:=Aside0.mk (hbel.mono HBB.out.size)
  have HK:=Aside0.mk (Keeps.below (T:=196) (b:=f) hbel)
  have hwf:w.heap.size<((w.alloc (.cells #[.int .i64 a0,.int .i64 a1,.int .i64 b0,.int .i64 b1] 193)).drewN nq).heap.size:=(Array.getElem?_eq_some_iff.1 hbx).1
  clear hbx hbel q0 q1 hcut1 hcut2
  generalize (w.alloc (.cells #[.int .i64 a0,.int .i64 a1,.int .i64 b0,.int .i64 b1] 193)).drewN nq=W0 at *
  obtain⟨n3,hn3⟩:∃ n3,n3=w.heap.size:=⟨_,rfl⟩
  rw [←hn3] at HX hne hwf ⊢
  have HBW:Aside0 (w0.heap.size≤W0.heap.size):=⟨by have:=HBB.out.size;have:=HB.out.size;omega⟩
  have HRL:Aside0 (en+em≤4000000000):=⟨by omega⟩
  clear hn3
  have p0:=(blk_cell HX.out 0).trans (rfl:_=some (Value.int .i64 a0))
  have p1:=(blk_cell HX.out 1).trans (rfl:_=some (Value.int .i64 a1))
  have p2:=(blk_cell HX.out 2).trans (rfl:_=some (Value.int .i64 b0))
  have p3:=(blk_cell HX.out 3).trans (rfl:_=some (Value.int .i64 b1))
  have r0:(0:Int)≤(en:Int):=by omega
  have r1:(0:Int)≤(em:Int):=by omega
  have r2:a0+(en:Int)+em≤a1:=by omega
  have r3:b0+(en:Int)+em≤b1:=by omega
  have r4:a1≤4000000000:=by omega
  have r5:b1≤4000000000:=by omega
  have s1:b0≤8000000000:=by omega
  have s2:a0≤8000000000:=by omega
  have s3:en≤8000000000:=by omega
  have s4:em≤8000000000:=by omega
  have s5:0≤a1-(em:Int):=by omega
  have s6:0≤b1-(em:Int):=by omega
  have s7:a1-(em:Int)≤8000000000:=by omega
  have s8:b1-(em:Int)≤8000000000:=by omega
  have tk1:True:=trivial
  have tk2:True:=trivial
  have tk3:True:=trivial
  have hr:=HH.out
  obtain⟨mid,hmid,hr2⟩:=Option.bind_eq_some_iff.1 hr
  obtain rfl:=Option.some.inj hr2
  clear hr hr2 HH
  have HMID:=Aside0.mk hmid
  clear hmid
  have HLL:Aside0 (l.length+en+mid.length+em≤8000000000):=⟨by have:=HL.out;simp only [List.length_append,diagP_length] at this;omega⟩
  have hl1:l.length≤8000000000:=by have:=HLL.out;omega
  by_cases h1:a0+(en:Int)<a1-em
  ·have h1b:decide (a0+(en:Int)<a1-em)=true:=decide_eq_true h1
   by_cases h2:b0+(en:Int)<b1-em
   ·have h2b:decide (b0+(en:Int)<b1-em)=true:=decide_eq_true h2
    have hm:=HMID.out
    rw [if_pos ⟨h1,h2⟩] at hm
    obtain⟨⟨g0,g1,g2⟩,hmf,hm⟩:=Option.bind_eq_some_iff.1 hm
    simp only at hm
    split at hm
    case isFalse=>cases hm
    case isTrue hg =>
    obtain⟨hg0,hg1,hg2,hg3,hg4⟩:=hg
    obtain⟨m2,rfl⟩:=Int.eq_ofNat_of_zero_le hg2
    obtain⟨l1,hl1f,hm⟩:=Option.bind_eq_some_iff.1 hm
    obtain⟨l2,hl2f,hm⟩:=Option.bind_eq_some_iff.1 hm
    obtain rfl:=Option.some.inj hm
    rw [Int.toNat_natCast] at HLL
    have HMF:=Aside0.mk hmf
    have HL1:=Aside0.mk hl1f
    have HL2:=Aside0.mk hl2f
    have HLA:Aside0 (l.length+en+(l1.length+m2+l2.length)+em≤8000000000):=⟨by have:=HLL.out;simp only [List.length_append,diagP_length] at this;omega⟩
    clear hm HMID hmf hl1f hl2f HLL
    have HXL:=Aside0.mk (pieceI_length (a:=a) (lo:=a0+(en:Int)) (hi:=a1-(em:Int)) (by omega) (by omega) (by omega))
    have HYL:=Aside0.mk (pieceI_length (a:=b) (lo:=b0+(en:Int)) (hi:=b1-(em:Int)) (by omega) (by omega) (by omega))
    have HXR:=Aside0.mk (pieceI_rd (a:=a) (lo:=a0+(en:Int)) (hi:=a1-(em:Int)) (by omega) (by omega))
    have HYR:=Aside0.mk (pieceI_rd (a:=b) (lo:=b0+(en:Int)) (hi:=b1-(em:Int)) (by omega) (by omega))
    have u0:0≤a0+(en:Int):=by omega
    have u1:a0+(en:Int)≤a1-(em:Int):=by omega
    have u2:a1-(em:Int)≤a.length:=by omega
    have v0:0≤b0+(en:Int):=by omega
    have v1:b0+(en:Int)≤b1-(em:Int):=by omega
    have v2:b1-(em:Int)≤b.length:=by omega
    have x0:0≤a0+(en:Int)+g0:=by omega
    have x1:a0+(en:Int)+g0≤8000000000:=by omega
    have x2:0≤b0+(en:Int)+g1:=by omega
    have x3:b0+(en:Int)+g1≤8000000000:=by omega
    have x4:m2≤8000000000:=by omega
    have fk1:True:=trivial
    have fk2:True:=trivial
    go_wp2_with (first
     | (go_at_call 166;have _t:=tk1;(with_reducible refine (same_calls a0 b0 en HF0.out ha0 s2 hb0 s1 s3 hl1 HBW.out).mono ?_);rintro e W1 ⟨rfl,hf1,hb1,hk1⟩;clear tk1;have HX1:=Aside0.mk (hk1.cell HX.out (by decide) hne);clear HX p0 p1 p2 p3;have p0:=(blk_cell HX1.out 0).trans (rfl:_=some (Value.int .i64 a0));have p1:=(blk_cell HX1.out 1).trans (rfl:_=some (Value.int .i64 a1));have p2:=(blk_cell HX1.out 2).trans (rfl:_=some (Value.int .i64 b0));have p3:=(blk_cell HX1.out 3).trans (rfl:_=some (Value.int .i64 b1));have HF1:=Aside0.mk hf1;have HB1:=Aside0.mk (Below.trans HB.out hb1);have HK1:=Aside0.mk (HK.out.trans hk1);have HBW1:=Aside0.mk (Nat.le_trans HBW.out hb1.size);clear hf1 hb1 hk1 HF0 HB HK HBW)
     | (go_at_call 167;(with_reducible refine (middle_calls (B:=w0.heap.size) (f:=f) (w:=W1.alloc (.cells #[.int .i64 (a0+(en:Int)),.int .i64 (a1-(em:Int)),.int .i64 (b0+(en:Int)),.int .i64 (b1-(em:Int))] 193)) (a0+(en:Int)) (a1-(em:Int)) (b0+(en:Int)) (b1-(em:Int)) _ _ g0 g1 (m2:Int) (HF1.out.below (below_alloc (Below.refl _ _) _)) (Kd.C_below HA.out (Below.alloc (Below.trans HBB.out HB1.out) HBW1.out _)) (Kd.C_below HC.out (Below.alloc (Below.trans HBB.out HB1.out) HBW1.out _)) u0 u1 u2 v0 v1 v2 hla hlb HXL.out HYL.out HXR.out HYR.out (Nat.le_trans HBW1.out (below_alloc (Below.refl _ _) _).size) HMF.out).mono ?_);rintro e W2 ⟨⟨dd,rfl⟩,hb2⟩;have H6:=Aside0.mk ((hb2.block _ (by rw [World.size_alloc];omega)).trans (World.alloc_heap_new W1 (.cells #[.int .i64 (a0+(en:Int)),.int .i64 (a1-(em:Int)),.int .i64 (b0+(en:Int)),.int .i64 (b1-(em:Int))] 193)));have hb2':=below_step (below_alloc (Below.refl W1.heap.size W1) (.cells #[.int .i64 (a0+(en:Int)),.int .i64 (a1-(em:Int)),.int .i64 (b0+(en:Int)),.int .i64 (b1-(em:Int))] 193)) hb2;have HF2:=Aside0.mk (HF1.out.below hb2');have HB2:=Aside0.mk (Below.trans HB1.out (hb2'.mono HBW1.out));have HK2:=Aside0.mk (HK1.out.trans (Keeps.below hb2'));have HBW2:=Aside0.mk (Nat.le_trans HBW1.out hb2'.size);have HN6:=Aside0.mk (show W1.heap.size≠f from fun e=>by have:=HF1.out.lt;omega);clear hb2 hb2' HF1 HB1 HK1 HBW1 HX1 p0 p1 p2 p3;generalize W1.heap.size=n6 at *;have hn6:n6<W2.heap.size:=(Array.getElem?_eq_some_iff.1 H6.out).1;have hn6':n6≠W2.heap.size:=Nat.ne_of_lt hn6;have p0:=(blk_cell H6.out 0).trans (rfl:_=some (Value.int .i64 (a0+(en:Int))));have p1:=(blk_cell H6.out 1).trans (rfl:_=some (Value.int .i64 (a1-(em:Int))));have p2:=(blk_cell H6.out 2).trans (rfl:_=some (Value.int .i64 (b0+(en:Int))));have p3:=(blk_cell H6.out 3).trans (rfl:_=some (Value.int .i64 (b1-(em:Int)))))
     | (go_at_call 155;have _t:=fk1;(with_reducible refine (ih.out (a0+(en:Int)) (a0+(en:Int)+g0) (b0+(en:Int)) (b0+(en:Int)+g1) l1 _ (W2.alloc (.cells #[.int .i64 (a0+(en:Int)+g0),.int .i64 (b0+(en:Int)+g1),.int .i64 (m2:Int),.int .i64 dd] 209)) HL1.out (HF2.out.below (below_alloc (Below.refl _ _) _)) (Below.alloc (Below.trans HBB.out HB2.out) HBW2.out _) ?fl1).mono ?_);(case fl1=>have:=HLA.out;rw [List.length_append,diagP_length];omega);rintro e W3 ⟨rfl,hf3,hb3,hk3⟩;clear fk1;have H6':=Aside0.mk (hk3.cell ((Lib.alloc_old W2 _ n6 (Array.getElem?_eq_some_iff.1 H6.out).1).trans H6.out) (by decide) HN6.out);have H7:=Aside0.mk (hk3.cell (World.alloc_heap_new W2 _) (by decide) (fun e=>by have:=HF2.out.lt;omega));have HF3:=Aside0.mk hf3;have HB3:=Aside0.mk (Below.trans (HB2.out.alloc HBW2.out _) hb3);have HK3:=Aside0.mk ((HK2.out.alloc _).trans hk3);have HBW3:=Aside0.mk (Nat.le_trans (Nat.le_trans HBW2.out (below_alloc (Below.refl _ _) _).size) hb3.size);have HN7:=Aside0.mk (show W2.heap.size≠f from fun e=>by have:=HF2.out.lt;omega);clear hn6 hn6' hf3 hb3 hk3 HF2 HB2 HK2 HBW2 H6 p0 p1 p2 p3;generalize W2.heap.size=n7 at *;have p0:=(blk_cell H6'.out 0).trans (rfl:_=some (Value.int .i64 (a0+(en:Int))));have p1:=(blk_cell H6'.out 1).trans (rfl:_=some (Value.int .i64 (a1-(em:Int))));have p2:=(blk_cell H6'.out 2).trans (rfl:_=some (Value.int .i64 (b0+(en:Int))));have p3:=(blk_cell H6'.out 3).trans (rfl:_=some (Value.int .i64 (b1-(em:Int))));have o0:=(blk_cell H7.out 0).trans (rfl:_=some (Value.int .i64 (a0+(en:Int)+g0)));have o1:=(blk_cell H7.out 1).trans (rfl:_=some (Value.int .i64 (b0+(en:Int)+g1)));have o2:=(blk_cell H7.out 2).trans (rfl:_=some (Value.int .i64 (m2:Int)));have o3:=(blk_cell H7.out 3).trans (rfl:_=some (Value.int .i64 dd)))
     | (go_at_call 166;have _t:=tk2;have _t2:=H7;(with_reducible refine (same_calls (a0+(en:Int)+g0) (b0+(en:Int)+g1) m2 HF3.out x0 x1 x2 x3 x4 ?sl2 HBW3.out).mono ?_);(case sl2=>have:=HLA.out;simp only [List.length_append,diagP_length];omega);rintro e W4 ⟨rfl,hf4,hb4,hk4⟩;clear tk2;have H6'':=Aside0.mk (hk4.cell H6'.out (by decide) HN6.out);have H7'':=Aside0.mk (hk4.cell H7.out (by decide) HN7.out);have HF4:=Aside0.mk hf4;have HB4:=Aside0.mk (Below.trans HB3.out hb4);have HK4:=Aside0.mk (HK3.out.trans hk4);have HBW4:=Aside0.mk (Nat.le_trans HBW3.out hb4.size);clear hf4 hb4 hk4 HF3 HB3 HK3 HBW3 H6' H7 p0 p1 p2 p3 o0 o1 o2 o3;have p0:=(blk_cell H6''.out 0).trans (rfl:_=some (Value.int .i64 (a0+(en:Int))));have p1:=(blk_cell H6''.out 1).trans (rfl:_=some (Value.int .i64 (a1-(em:Int))));have p2:=(blk_cell H6''.out 2).trans (rfl:_=some (Value.int .i64 (b0+(en:Int))));have p3:=(blk_cell H6''.out 3).trans (rfl:_=some (Value.int .i64 (b1-(em:Int))));have o0:=(blk_cell H7''.out 0).trans (rfl:_=some (Value.int .i64 (a0+(en:Int)+g0)));have o1:=(blk_cell H7''.out 1).trans (rfl:_=some (Value.int .i64 (b0+(en:Int)+g1)));have o2:=(blk_cell H7''.out 2).trans (rfl:_=some (Value.int .i64 (m2:Int)));have o3:=(blk_cell H7''.out 3).trans (rfl:_=some (Value.int .i64 dd)))
     | (go_at_call 155;have _t:=fk2;(with_reducible refine (ih.out (a0+(en:Int)+g0+(m2:Int)) (a1-(em:Int)) (b0+(en:Int)+g1+(m2:Int)) (b1-(em:Int)) l2 _ W4 HL2.out HF4.out (Below.trans HBB.out HB4.out) ?fl2).mono ?_);(case fl2=>have:=HLA.out;simp only [List.length_append,diagP_length];omega);rintro e W5 ⟨rfl,hf5,hb5,hk5⟩;clear fk2;have H65:=Aside0.mk (hk5.cell H6''.out (by decide) HN6.out);have HF5:=Aside0.mk hf5;have HB5:=Aside0.mk (Below.trans HB4.out hb5);have HK5:=Aside0.mk (HK4.out.trans hk5);have HBW5:=Aside0.mk (Nat.le_trans HBW4.out hb5.size);clear hf5 hb5 hk5 HF4 HB4 HK4 HBW4 H6'' H7'' p0 p1 p2 p3 o0 o1 o2 o3;have p0:=(blk_cell H65.out 0).trans (rfl:_=some (Value.int .i64 (a0+(en:Int))));have p1:=(blk_cell H65.out 1).trans (rfl:_=some (Value.int .i64 (a1-(em:Int))));have p2:=(blk_cell H65.out 2).trans (rfl:_=some (Value.int .i64 (b0+(en:Int))));have p3:=(blk_cell H65.out 3).trans (rfl:_=some (Value.int .i64 (b1-(em:Int)))))
     | (go_at_call 166;have _t:=tk3;have _t2:=HF5;(with_reducible refine (same_calls (a1-(em:Int)) (b1-(em:Int)) em HF5.out s5 s7 s6 s8 s4 ?sl3 HBW5.out).mono ?_);(case sl3=>have:=HLA.out;simp only [List.length_append,diagP_length];omega);rintro e W6 ⟨rfl,hf6,hb6,hk6⟩;clear tk3))
    go_end0
    refine⟨rfl,?_,Below.trans HB5.out hb6,HK5.out.trans hk6⟩
    have e_:l++(diagP a0 b0 en++(l1++diagP (a0+(en:Int)+g0) (b0+(en:Int)+g1) (m2:Int).toNat++l2)++diagP (a1-(em:Int)) (b1-(em:Int)) em)=l++diagP a0 b0 en++l1++diagP (a0+(en:Int)+g0) (b0+(en:Int)+g1) m2++l2++diagP (a1-(em:Int)) (b1-(em:Int)) em:=by simp only [List.append_assoc,Int.toNat_natCast]
    rw [e_];exact hf6
   ·have h2b:decide (b0+(en:Int)<b1-em)=false:=decide_eq_false h2
    have hm:=HMID.out
    rw [if_neg (by omega)] at hm
    obtain rfl:=Option.some.inj hm
    clear hm HMID
    have hl2:(l++diagP a0 b0 en).length≤8000000000:=by have:=HLL.out;rw [List.length_append,diagP_length];omega
    have HL2:=Aside0.mk hl2
    clear hl2
    go_wp2_with (first
     | (go_at_call 166;have _t:=tk1;(with_reducible refine (same_calls a0 b0 en HF0.out ha0 s2 hb0 s1 s3 hl1 HBW.out).mono ?_);rintro e W1 ⟨rfl,hf1,hb1,hk1⟩;clear tk1;have HX1:=Aside0.mk (hk1.cell HX.out (by decide) hne);clear HX p0 p1 p2 p3;have p0:=(blk_cell HX1.out 0).trans (rfl:_=some (Value.int .i64 a0));have p1:=(blk_cell HX1.out 1).trans (rfl:_=some (Value.int .i64 a1));have p2:=(blk_cell HX1.out 2).trans (rfl:_=some (Value.int .i64 b0));have p3:=(blk_cell HX1.out 3).trans (rfl:_=some (Value.int .i64 b1));have HF1:=Aside0.mk hf1;have HB1:=Aside0.mk (Below.trans HB.out hb1);have HK1:=Aside0.mk (HK.out.trans hk1);have HBW1:=Aside0.mk (Nat.le_trans HBW.out hb1.size);clear hf1 hb1 hk1 HF0 HB HK HBW)
     | (go_at_call 166;have _t:=tk2;(with_reducible refine (same_calls (a1-(em:Int)) (b1-(em:Int)) em (HF1.out.below (below_alloc (Below.refl _ _) _)) s5 s7 s6 s8 s4 HL2.out (Nat.le_trans HBW1.out (below_alloc (Below.refl _ _) _).size)).mono ?_);rintro e W2 ⟨rfl,hf2,hb2,hk2⟩;clear tk2))
    go_end0
    refine⟨rfl,?_,Below.trans (HB1.out.alloc HBW1.out _) hb2,(HK1.out.alloc _).trans hk2⟩
    rw [List.append_nil,←List.append_assoc];exact hf2
  ·have h1b:decide (a0+(en:Int)<a1-em)=false:=decide_eq_false h1
   have hm:=HMID.out
   rw [if_neg (by omega)] at hm
   obtain rfl:=Option.some.inj hm
   clear hm HMID
   have hl2:(l++diagP a0 b0 en).length≤8000000000:=by have:=HLL.out;rw [List.length_append,diagP_length];omega
   have HL2:=Aside0.mk hl2
   clear hl2
   go_wp2_with (first
    | (go_at_call 166;have _t:=tk1;(with_reducible refine (same_calls a0 b0 en HF0.out ha0 s2 hb0 s1 s3 hl1 HBW.out).mono ?_);rintro e W1 ⟨rfl,hf1,hb1,hk1⟩;clear tk1;have HX1:=Aside0.mk (hk1.cell HX.out (by decide) hne);clear HX p0 p1 p2 p3;have p0:=(blk_cell HX1.out 0).trans (rfl:_=some (Value.int .i64 a0));have p1:=(blk_cell HX1.out 1).trans (rfl:_=some (Value.int .i64 a1));have p2:=(blk_cell HX1.out 2).trans (rfl:_=some (Value.int .i64 b0));have p3:=(blk_cell HX1.out 3).trans (rfl:_=some (Value.int .i64 b1));have HF1:=Aside0.mk hf1;have HB1:=Aside0.mk (Below.trans HB.out hb1);have HK1:=Aside0.mk (HK.out.trans hk1);have HBW1:=Aside0.mk (Nat.le_trans HBW.out hb1.size);clear hf1 hb1 hk1 HF0 HB HK HBW)
    | (go_at_call 166;have _t:=tk2;(with_reducible refine (same_calls (a1-(em:Int)) (b1-(em:Int)) em (HF1.out.below (below_alloc (Below.refl _ _) _)) s5 s7 s6 s8 s4 HL2.out (Nat.le_trans HBW1.out (below_alloc (Below.refl _ _) _).size)).mono ?_);rintro e W2 ⟨rfl,hf2,hb2,hk2⟩;clear tk2))
   go_end0
   refine⟨rfl,?_,Below.trans (HB1.out.alloc HBW1.out _) hb2,(HK1.out.alloc _).trans hk2⟩
   rw [List.append_nil,←List.append_assoc];exact hf2
def matchF (a b : List Int) : Option (List SP) := findF a b (a.length+b.length+1) 0 a.length 0 b.length
set_option maxHeartbeats 4000000 in
set_option maxRecDepth 100000 in
theorem match_calls (A0 : Option Addr) (c0 : Nat) (l0 : List Int) (A1 : Option Addr) (c1 : Nat) (l1 : List Int) (r : List SP) (w : World) (hr0 : Kd.C (Kd.int .i64) w A0 l0.length l0) (hc0 : l0.length≤c0) (hr1 : Kd.C (Kd.int .i64) w A1 l1.length l1) (hc1 : l1.length≤c1)
  (h:(if l0.length≤4000000000∧l1.length≤4000000000 then (matchF l0 l1).bind (fun r=>if r.length≤8000000000 then some r else none) else none)=some r) :
  Calls Try.prog 132 #[.slice A0 l0.length c0,.slice A1 l1.length c1] w fun e w'=>∃ v0_:Value,e = .returned (v0_)∧Kd.R k196 196 w' w.heap.size (fun _=>True) v0_ r∧Below w.heap.size w w':=by
 split at h
 case isFalse=>cases h
 case isTrue hl =>
 obtain⟨r',hm,h⟩:=Option.bind_eq_some_iff.1 h
 split at h
 case isFalse=>cases h
 case isTrue hrl =>
 obtain rfl:=Option.some.inj h
 have hf:Fin w.heap.size w.heap.size (.slice A0 l0.length c0) (.slice A1 l1.length c1) [] (w.alloc (.cells #[.slice A0 l0.length c0,.slice A1 l1.length c1,.slice none 0 0] 190)):=⟨_,Nat.le_refl _,World.alloc_heap_new w _,Kd.R_nil _ _ _ _ _⟩
 have hb:=below_alloc (Below.refl w.heap.size w) (.cells #[.slice A0 l0.length c0,.slice A1 l1.length c1,.slice none 0 0] 190)
 have HC:=Aside0.mk (find_calls hr0 hr1 hc0 hc1 hl.1 hl.2 _ 0 l0.length 0 l1.length r' [] _ hm hf hb (by simpa using hrl))
 have HB:=Aside0.mk hb
 clear hf hb hm hr0 hr1 h
 go_enter Try.func132,Try.ntmps132
 go_wp2_with (first|(go_at_call 155;refine HC.out.mono ?_;rintro e w1 ⟨rfl,⟨v,hf0,hf1,hf2⟩,hb1,hk1⟩;have c2:=(blk_cell hf1 2).trans (rfl:_=some v);have HR:=Aside0.mk hf2;have HB1:=Aside0.mk (Below.trans HB.out hb1);obtain⟨Av,cv,rfl⟩:=Kd.R_slice hf2;clear hf0 hf1 hf2 hb1 hk1))
 go_ret
 exact⟨_,rfl,Kd.R_mono HR.out (fun _ _=>trivial),HB1.out⟩
end Go.Proofs.Ytfiamddinkokbaa.F
end

section
namespace Go.Proofs.Ytfiamddinkokbaa.F
open Go.RowKit Go.Proofs.YtfiamddinkokbaaW.PrintWords Go.Proofs.YtfiamddinkokbaaW.PrintLast Go.Proofs.YtfiamddinkokbaaW.PrintMore
attribute [local go_sem] max2_int min2_int max_two min_two max_three min_three max_four min_four



def lines_Run.f (a0 : ByteArray) : Option Int := if a0.size≤4000000000 then some ((runL a0.data.toList : Nat) : Int) else none
theorem lines_Run.calls (a0 : ByteArray) (r : Int) (w : World) (h : lines_Run.f a0=some r) :
  Calls Try.prog 43 #[.string a0] w fun e w'=>e = .returned (.int .i64 r)∧Below w.heap.size w w':=by
 exact ext_run a0 r w h
end Go.Proofs.Ytfiamddinkokbaa.F
end
