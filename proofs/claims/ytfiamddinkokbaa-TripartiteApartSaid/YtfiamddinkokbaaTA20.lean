/- Texts joined into one file (wip/tools/pack.py): Fits, Fn73, Fn20, Fn21, Fn78, Fn28, FeqA109, Fn77, Fn27, Fn25, Fn74, Fn23, Fn76, Fn26, Fn22, Fn31, Fn36, Fn83, Fn37, Fn35, Fn82, Fn34, May, LineA, LineB, Fn86, Fn95, Fn96, Fn154, Fn130, Fn98 -/
import Derived.Test.YtfiamddinkokbaaTA14
import Derived.Test.YtfiamddinkokbaaTA2
import Derived.Shelf.SlicesQ.IndexFunc
import Derived.Deep.RegionHeld3
import Derived.Test.YtfiamddinkokbaaTA3
import Derived.Test.YtfiamddinkokbaaTA15
import Derived.Test.YtfiamddinkokbaaTA16
import Derived.Test.YtfiamddinkokbaaTA19
import Derived.Test.YtfiamddinkokbaaTA13
import Derived.Test.YtfiamddinkokbaaTA1
set_option linter.unusedVariables false
set_option linter.unusedSimpArgs false
section
namespace Go.Proofs.Ytfiamddinkokbaa.F
open Go.RowKit Go.Shelf Go.Proofs.YtfiamddinkokbaaW.PrintWords
def texts106 (x : S106) : List ByteArray := [x.f2,x.f3,x.f4,x.f5]
def agg106 (x : S106) : Value := .agg #[.string x.f0.f0,.string x.f0.f1,.string x.f0.f2,.bool x.f1,.string x.f2,.string x.f3,.string x.f4,.string x.f5,.bool x.f6]
def widest (k : Nat) (x : S106) : Int := (doc_run.f k (texts106 x)).getD 0
theorem fits_lit (W : World) (n : Nat) (t : TypeId) (a b c d : ByteArray) (h : W.heap[n]? = some (.cells #[.string a,.string b,.string c,.string d] t (0,0))) : Kd.C Kd.string W (some ⟨n,0,none⟩) 4 [a,b,c,d] := by
 refine⟨rfl,by omega,fun _=>⟨_,rfl,?_⟩⟩
 intro j p hj
 refine⟨[.string p],rfl,rfl,?_⟩
 intro i u hi
 have hi0:i=0:=by
  match i,hi with
  | 0,_=>rfl
 subst hi0
 obtain rfl:Value.string p=u:=by simpa using hi
 rw [add_plain]
 have hz:(Kd.string).sz=1:=rfl
 rw [hz,Nat.mul_one,Nat.add_zero]
 have:∀ i v,(#[Value.string a,.string b,.string c,.string d]:Array Value)[i]? = some v→W.cell? ⟨n,i,none⟩=some v:=by
  intro i v hv
  exact (blk_cell h i).trans hv
 apply this
 match j,hj with
 | 0,hj=>simpa using hj
 | 1,hj=>simpa using hj
 | 2,hj=>simpa using hj
 | 3,hj=>simpa using hj
theorem fits_new (W : World) (o : Obj) : (W.alloc o).drew.heap[W.heap.size]? = some o := World.alloc_heap_new W o
theorem fits_run (k n : Nat) (t : TypeId) (a b c d : ByteArray) (r : Int) (W : World) (h : W.heap[n]? = some (.cells #[.string a,.string b,.string c,.string d] t (0,0))) (hr : doc_run.f k [a,b,c,d]=some r) :
  Calls Try.prog 71 #[.slice (some ⟨n,0,none⟩) 4 4] W fun e w'=>e = .returned (.int .i64 r)∧Below W.heap.size W w' :=
 doc_run.calls k (some ⟨n,0,none⟩) 4 [a,b,c,d] r W (fits_lit W n t a b c d h) (Nat.le_refl 4) hr
theorem fits_keep {w0 W w' : World} {a0 a1 a2 a3 a4 : Addr} {v0 v1 v2 v3 v4 : Value} (hb : Below W.heap.size W w')
  (h:W.cell? a0=some v0∧W.cell? a1=some v1∧W.cell? a2=some v2∧W.cell? a3=some v3∧W.cell? a4=some v4∧Below w0.heap.size w0 W) :
  w'.cell? a0=some v0∧w'.cell? a1=some v1∧w'.cell? a2=some v2∧w'.cell? a3=some v3∧w'.cell? a4=some v4∧Below w0.heap.size w0 w':=by
 obtain⟨h0,h1,h2,h3,h4,h5⟩:=h
 exact⟨(hb.cell (World.block_lt_of_cell? W _ h0)).trans h0,(hb.cell (World.block_lt_of_cell? W _ h1)).trans h1,(hb.cell (World.block_lt_of_cell? W _ h2)).trans h2,(hb.cell (World.block_lt_of_cell? W _ h3)).trans h3,
  (hb.cell (World.block_lt_of_cell? W _ h4)).trans h4,below_step h5 hb⟩
set_option maxHeartbeats 4000000 in
set_option maxRecDepth 100000 in
theorem fits_pred (k B : Nat) (lim : Int) (w W : World) (x : S106) (r : Int) (hB : B<w.heap.size) (hc : w.cell? ⟨B,0,none⟩=some (.int .i64 lim)) (hb : Below w.heap.size w W)
  (hr:doc_run.f k (texts106 x)=some r) :
  Calls Try.prog 117 (#[agg106 x] ++ #[.pointer (some ⟨B,0,none⟩)]) W fun e w'=>e = .returned (.bool (decide (lim≤r)))∧Below w.heap.size w w':=by
 have hW:W.cell? ⟨B,0,none⟩=some (.int .i64 lim):=(hb.cell (p:=⟨B,0,none⟩) hB).trans hc
 have hBW:B<W.heap.size:=World.block_lt_of_cell? W _ hW
 show Calls Try.prog 117 #[agg106 x,.pointer (some ⟨B,0,none⟩)] W _
 unfold agg106
 obtain⟨H0,hH⟩:∃ H0,W.heap.size=H0:=⟨_,rfl⟩
 clear hc hB
 obtain⟨⟨l1,l2,l3⟩,b1,s2,s3,s4,s5,b6⟩:=x
 have HX:Aside0 (doc_run.f k [s2,s3,s4,s5]=some r):=⟨hr⟩
 clear hr
 dsimp only
 go_enter Try.func117,Try.ntmps117
 go_wp2_with fail
 try rw [hH]
 have hbox:(W.alloc (Obj.cells #[Value.string l1,Value.string l2,Value.string l3,Value.bool b1,Value.string s2,Value.string s3,Value.string s4,Value.string s5,Value.bool b6] 106)).heap[H0]? = some (Obj.cells #[Value.string l1,Value.string l2,Value.string l3,Value.bool b1,Value.string s2,Value.string s3,Value.string s4,Value.string s5,Value.bool b6] 106):=by
  rw [←hH];exact World.alloc_heap_new _ _
 have hbel:Below w.heap.size w (W.alloc (Obj.cells #[Value.string l1,Value.string l2,Value.string l3,Value.bool b1,Value.string s2,Value.string s3,Value.string s4,Value.string s5,Value.bool b6] 106)):=below_alloc hb _
 have hlim:(W.alloc (Obj.cells #[Value.string l1,Value.string l2,Value.string l3,Value.bool b1,Value.string s2,Value.string s3,Value.string s4,Value.string s5,Value.bool b6] 106)).cell? ⟨B,0,none⟩=some (.int .i64 lim) :=
  ((below_alloc (Below.refl _ _) _).cell hBW).trans hW
 clear hb hW hBW hH
 generalize W.alloc (Obj.cells #[Value.string l1,Value.string l2,Value.string l3,Value.bool b1,Value.string s2,Value.string s3,Value.string s4,Value.string s5,Value.bool b6] 106)=W1 at hbox hbel hlim ⊢
 have e4:W1.cell? ⟨H0,4,none⟩=some (.string s2):=(blk_cell hbox 4).trans rfl
 have e5:W1.cell? ⟨H0,5,none⟩=some (.string s3):=(blk_cell hbox 5).trans rfl
 have e6:W1.cell? ⟨H0,6,none⟩=some (.string s4):=(blk_cell hbox 6).trans rfl
 have e7:W1.cell? ⟨H0,7,none⟩=some (.string s5):=(blk_cell hbox 7).trans rfl
 go_region_held3 (fun w'=>w'.cell? ⟨B,0,none⟩=some (.int .i64 lim)∧w'.cell? ⟨H0,4,none⟩=some (.string s2)∧w'.cell? ⟨H0,5,none⟩=some (.string s3)∧w'.cell? ⟨H0,6,none⟩=some (.string s4)∧w'.cell? ⟨H0,7,none⟩=some (.string s5)∧Below w.heap.size w w')
  ((first|exact fits_keep (by first|assumption|exact below_drew (below_alloc (Below.refl _ _) _)|exact below_alloc (Below.refl _ _) _|exact below_drew (Below.refl _ _)) (by first|assumption|(refine⟨?_,?_,?_,?_,?_,?_⟩<;>assumption))))
  (first|(go_at_call 71;refine (fits_run k _ 9 s2 s3 s4 s5 r _ (fits_new _ _) HX.out).mono ?_;rintro e w' ⟨rfl,hb'⟩))
 all_goals go_wp2
 all_goals go_ret
 all_goals (refine⟨rfl,?_⟩;first|assumption|(go_split_ands;assumption))
instance inhab106 : Inhabited S106 := ⟨z106⟩
theorem getD106 (l : List S106) (j : Nat) : l[j]! = l.getD j z106 := by rw [List.getElem!_eq_getElem?_getD,List.getD_eq_getElem?_getD];rfl
def wide (k : Nat) (lim : Int) (x : S106) : Bool := decide (lim≤widest k x)
def fitsOk (k : Nat) (l : List S106) : Bool := l.all fun x=>(doc_run.f k (texts106 x)).isSome
set_option maxHeartbeats 4000000 in
set_option maxRecDepth 100000 in
theorem fits_index (k B : Nat) (lim : Int) (A : Option Addr) (c : Nat) (l : List S106) (w : World) (hB : B<w.heap.size) (hc : w.cell? ⟨B,0,none⟩=some (.int .i64 lim))
  (hr:Kd.C k106 w A l.length l) (hok:fitsOk k l=true) :
  Calls Try.prog 143 #[.slice A l.length c,.func (.func 117) #[] #[.pointer (some ⟨B,0,none⟩)]] w fun e w' =>
   e = .returned (.int .i64 (Lib.idxBy (fun _ y=>wide k lim y) l z106))∧Below w.heap.size w w':=by
 have eg:∀ args w,(callFunc 117 args).run Try.prog w = .ok (.enter 117 args) w:=enters_of Try.func117 (by kernel_rfl) rfl
 have hrun:∀ x∈l,doc_run.f k (texts106 x)=some (widest k x):=by
  intro x hx
  have h1:=List.all_eq_true.1 hok x hx
  obtain⟨r,hr⟩:=Option.isSome_iff_exists.1 h1
  unfold widest
  rw [hr];rfl
 have hlen:l.length≤9223372036854775807:=hr.2.1
 have hpred:∀ (W:World) (x:S106),x∈l→Below w.heap.size w W→Calls Try.prog 117 (#[agg106 x] ++ #[.pointer (some ⟨B,0,none⟩)]) W fun e w'=>e = .returned (.bool (wide k lim x))∧Below w.heap.size w w' :=
  fun W x hx hb=>fits_pred k B lim w W x (widest k x) hB hc hb (hrun x hx)
 have HR0:=Aside0.mk hr
 clear hr hc hB hok hrun
 go_enter Try.func143,Try.ntmps143
 go_wp2
 go_loopg [5,8] l.length (fun gg _ s8 wr=>∃ kk:Nat,kk≤l.length∧l.length-kk≤gg∧s8 = .int .i64 kk∧Aside (Below w.heap.size w wr)∧Aside (∀ j,j<kk→wide k lim (l.getD j z106)=false))
 case atStart=>exact⟨0,Nat.zero_le _,by omega,rfl,Below.refl _ w,fun j hj=>absurd hj (Nat.not_lt_zero _)⟩
 case round =>
  obtain⟨kk,hkk,hg,rfl,BW,AA⟩:=hrel
  by_cases hlt:kk<l.length
  ·have hltz:(kk:Int)<(l.length:Int):=by omega
   obtain⟨ad,rfl,hx0,hx1,hx2,hx3,hx4,hx5,hx6,hx7,hx8⟩:=at_T106 (Kd.C_below HR0.out BW.out) (kk:Int) (by omega) hltz
   have hcall:=hpred wr (l.getD kk z106) (by rw [List.getD_eq_getElem?_getD,List.getElem?_eq_getElem hlt];exact List.getElem_mem hlt) BW.out
   have hrd:rd_T106 l (kk:Int)=l.getD kk z106:=rfl
   rw [Int.toNat_natCast] at hx0 hx1 hx2 hx3 hx4 hx5 hx6 hx7 hx8
   rw [hrd] at hx0 hx1 hx2 hx3 hx4 hx5 hx6 hx7 hx8
   clear hpred hrd
   generalize hy:l.getD kk z106=y at hx0 hx1 hx2 hx3 hx4 hx5 hx6 hx7 hx8 hcall
   have BB:Aside (l.getD kk z106=y):=hy
   clear hy
   unfold agg106 at hcall
   obtain⟨⟨l1,l2,l3⟩,b1,s2,s3,s4,s5,b6⟩:=y
   have p0:(0:Int)≤(kk:Int):=by omega
   cases hq:wide k lim ⟨⟨l1,l2,l3⟩,b1,s2,s3,s4,s5,b6⟩ with
   | true =>
    rw [hq] at hcall
    go_wp2_with (go_at_fn 117;refine hcall.mono ?_;rintro e w' ⟨rfl,hb'⟩)
    go_ret
    refine⟨?_,hb'⟩
    have hit:=Lib.idxBy_hit (fun _ y=>wide k lim y) l l.length kk z106 hlt (Nat.le_refl _) (by show wide k lim l[kk]! = true;rw [getD106,BB.out];exact hq) (fun j hj=>by show wide k lim l[j]! = false;rw [getD106];exact AA.out j hj)
    rw [List.take_length] at hit
    rw [hit];rfl
   | false =>
    rw [hq] at hcall
    go_wp2_with (go_at_fn 117;refine hcall.mono ?_;rintro e w' ⟨rfl,hb'⟩)
    go_roundg (l.length-(kk+1))
    case measure=>omega
    case rel =>
     refine⟨kk+1,by omega,by omega,by go_num,hb',(show Aside _ from fun j hj=>?_)⟩
     by_cases e:j=kk
     ·subst e
      rw [BB.out];exact hq
     ·exact AA.out j (by omega)
  ·have hltz:¬ (kk:Int)<(l.length:Int):=by omega
   have:kk=l.length:=by omega
   subst this
   go_wp2
   go_ret
   refine⟨?_,BW.out⟩
   have miss:=Lib.idxBy_miss (fun _ y=>wide k lim y) l l.length z106 (fun j hj=>by show wide k lim l[j]! = false;rw [getD106];exact AA.out j hj)
   rw [List.take_length] at miss
   rw [miss];rfl
theorem fits_contains (k B : Nat) (lim : Int) (A : Option Addr) (c : Nat) (l : List S106) (w : World) (hB : B<w.heap.size) (hc : w.cell? ⟨B,0,none⟩=some (.int .i64 lim))
  (hr:Kd.C k106 w A l.length l) (hok:fitsOk k l=true) :
  Calls Try.prog 116 #[.slice A l.length c,.func (.func 117) #[] #[.pointer (some ⟨B,0,none⟩)]] w fun e w' =>
   e = .returned (.bool (l.any (wide k lim)))∧Below w.heap.size w w':=by
 have hcon:=fits_index k B lim A c l w hB hc hr hok
 rw [show l.any (wide k lim)=decide (0≤Lib.idxBy (fun _ y=>wide k lim y) l z106) from (Lib.idxBy_nonneg_iff (fun _ y=>wide k lim y) l z106).symm]
 clear hr hc hok
 generalize Lib.idxBy (fun _ y=>wide k lim y) l z106=r at hcon ⊢
 go_enter Try.func116,Try.ntmps116
 go_wp2_with (go_at_call 143;refine hcon.mono ?_;rintro e w' ⟨rfl,hb'⟩)
 go_ret
 exact⟨rfl,hb'⟩
def fitsF (k : Nat) (l : List S106) (a1 : Int) : Option Bool := if 1≤a1 then (if fitsOk k l=true then some (!l.any (wide k a1)) else none) else some false
theorem fits_calls (k : Nat) (A : Option Addr) (c : Nat) (l : List S106) (a1 : Int) (r : Bool) (w : World) (hr : Kd.C k106 w A l.length l) (hc : l.length≤c) (h : fitsF k l a1=some r) :
  Calls Try.prog 73 #[.slice A l.length c,.int .i64 a1] w fun e w'=>e = .returned (.bool r)∧Below w.heap.size w w':=by
 unfold fitsF at h
 by_cases h1:1≤a1
 ·rw [if_pos h1] at h
  by_cases h2:fitsOk k l=true
  ·rw [if_pos h2] at h
   obtain rfl:=Option.some.inj h
   have hcon:=fits_contains k w.heap.size a1 A c l (w.alloc (.cells #[.int .i64 a1] 3)) (by simp) (by simp) (Kd.C_alloc hr _) h2
   clear hr h2
   generalize l.any (wide k a1)=q at hcon ⊢
   have h1b:decide (1≤a1)=true:=decide_eq_true h1
   have h1e:=eq_true h1
   go_enter Try.func73,Try.ntmps73
   go_wp2_with (go_at_call 116;refine hcon.mono ?_;rintro e w' ⟨rfl,hb'⟩)
   go_ret
   exact⟨rfl,below_step (below_alloc (Below.refl _ _) _) hb'⟩
  ·rw [if_neg h2] at h;cases h
 ·rw [if_neg h1] at h
  obtain rfl:=Option.some.inj h
  have h1b:decide (1≤a1)=false:=decide_eq_false h1
  have h1e:=eq_false h1
  go_enter Try.func73,Try.ntmps73
  go_wp2
  go_ret
  exact⟨rfl,below_alloc (Below.refl _ _) _⟩
theorem fits_mono : ∀ l a1 k,LeO (fitsF k l a1) (fitsF (k+1) l a1) := by
 intro l a1 k r h
 unfold fitsF at h ⊢
 by_cases h1:1≤a1
 ·rw [if_pos h1] at h ⊢
  by_cases h2:fitsOk k l=true
  ·rw [if_pos h2] at h
   have hx:∀ x∈l,doc_run.f (k+1) (texts106 x)=doc_run.f k (texts106 x):=by
    intro x hx
    obtain⟨v,hv⟩:=Option.isSome_iff_exists.1 (List.all_eq_true.1 h2 x hx)
    rw [hv,doc_run.mono _ _ _ hv]
   have h3:fitsOk (k+1) l=true:=by
    refine List.all_eq_true.2 fun x hm=>?_
    rw [hx x hm];exact List.all_eq_true.1 h2 x hm
   have h4:l.any (wide (k+1) a1)=l.any (wide k a1):=by
    rw [Bool.eq_iff_iff,List.any_eq_true,List.any_eq_true]
    constructor<;>(rintro⟨x,hm,hw⟩;refine⟨x,hm,?_⟩;unfold wide widest at hw ⊢;rw [hx x hm] at *;exact hw)
   rw [if_pos h3,h4];exact h
  ·rw [if_neg h2] at h;cases h
 ·rw [if_neg h1] at h ⊢;exact h
end Go.Proofs.Ytfiamddinkokbaa.F
end

section
namespace Go.Proofs.Ytfiamddinkokbaa.F
open Go.RowKit Go.Proofs.YtfiamddinkokbaaW.PrintWords Go.Proofs.YtfiamddinkokbaaW.PrintLast Go.Proofs.YtfiamddinkokbaaW.PrintMore
attribute [local go_sem] max2_int min2_int max_two min_two max_three min_three max_four min_four
def doc_Doc_Fits.f (k : Nat) (l0 : List S106) (a1 : Int) : Option Bool := fitsF k l0 a1
theorem doc_Doc_Fits.mono : ∀ l0 a1 k,LeO (doc_Doc_Fits.f k l0 a1) (doc_Doc_Fits.f (k+1) l0 a1) := fits_mono
theorem doc_Doc_Fits.calls (k : Nat) (A0 : Option Addr) (c0 : Nat) (l0 : List (S106)) (a1 : Int) (r : Bool) (w : World) (hr0 : Kd.C k106 w A0 l0.length l0) (hc0 : l0.length≤c0) (h : doc_Doc_Fits.f k l0 a1=some r) :
  Calls Try.prog 73 #[.slice A0 l0.length c0,.int .i64 a1] w fun e w'=>e = .returned (.bool r)∧Below w.heap.size w w':=by
 exact fits_calls k A0 c0 l0 a1 r w hr0 hc0 h


end Go.Proofs.Ytfiamddinkokbaa.F
end

section
namespace Go.Proofs.Ytfiamddinkokbaa.F
open Go.RowKit Go.Proofs.YtfiamddinkokbaaW.PrintWords Go.Proofs.YtfiamddinkokbaaW.PrintLast Go.Proofs.YtfiamddinkokbaaW.PrintMore
attribute [local go_sem] max2_int min2_int max_two min_two max_three min_three max_four min_four
attribute [local go_sem high] eqA106

end Go.Proofs.Ytfiamddinkokbaa.F
end

section
namespace Go.Proofs.Ytfiamddinkokbaa.F
open Go.RowKit Go.Proofs.YtfiamddinkokbaaW.PrintWords Go.Proofs.YtfiamddinkokbaaW.PrintLast Go.Proofs.YtfiamddinkokbaaW.PrintMore
attribute [local go_sem] max2_int min2_int max_two min_two max_three min_three max_four min_four

theorem eqA109 (d : Nat) (w : World) (x0 y0 : ByteArray) (x1 y1 : ByteArray) (x2 y2 : ByteArray) (x3 y3 : Bool) (x4 y4 : ByteArray) (x5 y5 : ByteArray) (x6 y6 : ByteArray) (x7 y7 : ByteArray) (x8 y8 : Bool) :
  (Op.equalIn (d+2) 109 (.agg #[.string x0,.string x1,.string x2,.bool x3,.string x4,.string x5,.string x6,.string x7,.bool x8]) (.agg #[.string y0,.string y1,.string y2,.bool y3,.string y4,.string y5,.string y6,.string y7,.bool y8])).run Try.prog w = .ok (x0.toList==y0.toList&&(x1.toList==y1.toList&&(x2.toList==y2.toList&&(x3==y3&&(x4.toList==y4.toList&&(x5.toList==y5.toList&&(x6.toList==y6.toList&&(x7.toList==y7.toList&&(x8==y8))))))))) w:=by
 refine eqA_of Try.underlying109 (by kernel_rfl) ?_
 refine eqf_cons (by rfl) (by go_simp;rfl) (by go_simp;rfl) (by go_simp) ?_
 refine eqf_cons (by rfl) (by go_simp;rfl) (by go_simp;rfl) (by go_simp) ?_
 refine eqf_cons (by rfl) (by go_simp;rfl) (by go_simp;rfl) (by go_simp) ?_
 refine eqf_cons (by rfl) (by go_simp;rfl) (by go_simp;rfl) (by go_simp) ?_
 refine eqf_cons (by rfl) (by go_simp;rfl) (by go_simp;rfl) (by go_simp) ?_
 refine eqf_cons (by rfl) (by go_simp;rfl) (by go_simp;rfl) (by go_simp) ?_
 refine eqf_cons (by rfl) (by go_simp;rfl) (by go_simp;rfl) (by go_simp) ?_
 refine eqf_cons (by rfl) (by go_simp;rfl) (by go_simp;rfl) (by go_simp) ?_
 exact eqf_last (by rfl) (by go_simp;rfl) (by go_simp;rfl) (by go_simp)
end Go.Proofs.Ytfiamddinkokbaa.F
end

section
namespace Go.Proofs.Ytfiamddinkokbaa.F
open Go.RowKit Go.Proofs.YtfiamddinkokbaaW.PrintWords Go.Proofs.YtfiamddinkokbaaW.PrintLast Go.Proofs.YtfiamddinkokbaaW.PrintMore
attribute [local go_sem] max2_int min2_int max_two min_two max_three min_three max_four min_four
attribute [local go_sem high] eqA109

end Go.Proofs.Ytfiamddinkokbaa.F
end

section
namespace Go.Proofs.Ytfiamddinkokbaa.F
open Go.RowKit Go.Proofs.YtfiamddinkokbaaW.PrintWords Go.Proofs.YtfiamddinkokbaaW.PrintLast Go.Proofs.YtfiamddinkokbaaW.PrintMore
attribute [local go_sem] max2_int min2_int max_two min_two max_three min_three max_four min_four

end Go.Proofs.Ytfiamddinkokbaa.F
end

section
namespace Go.Proofs.Ytfiamddinkokbaa.F
open Go.RowKit Go.Proofs.YtfiamddinkokbaaW.PrintWords Go.Proofs.YtfiamddinkokbaaW.PrintLast Go.Proofs.YtfiamddinkokbaaW.PrintMore
attribute [local go_sem] max2_int min2_int max_two min_two max_three min_three max_four min_four
attribute [local go_sem high] eqA109

end Go.Proofs.Ytfiamddinkokbaa.F
end

section
namespace Go.Proofs.Ytfiamddinkokbaa.F
open Go.RowKit Go.Proofs.YtfiamddinkokbaaW.PrintWords Go.Proofs.YtfiamddinkokbaaW.PrintLast Go.Proofs.YtfiamddinkokbaaW.PrintMore
attribute [local go_sem] max2_int min2_int max_two min_two max_three min_three max_four min_four












end Go.Proofs.Ytfiamddinkokbaa.F
end

section
namespace Go.Proofs.Ytfiamddinkokbaa.F
open Go.RowKit Go.Shelf Go.Proofs.YtfiamddinkokbaaW.PrintWords
def lineless (s : ByteArray) : Bool := decide (0≤Lib.indexByte s.data.toList 10)
theorem new_cell0 (W : World) (cs : Array Value) (t : TypeId) (i : Nat) (v : Value) (h : cs[i]? = some v) : (W.alloc (.cells cs t)).cell? ⟨W.heap.size,i,none⟩=some v := (blk_cell (World.alloc_heap_new W _) i).trans h
theorem tr0 {W W' : World} {p : Addr} {v : Value} (hb : Below W.heap.size W W') (h : W.cell? p=some v) : W'.cell? p=some v := (hb.cell (World.block_lt_of_cell? W _ h)).trans h
theorem encode_small : ∀ n : _root_.Fin 128,Utf8.encode ((n.val : Nat) : Int)=⟨#[UInt8.ofNat n.val]⟩ := by decide +kernel
theorem ln_size_toB (l : List UInt8) : (toB l).size=l.length := by rw [←show (toB l).data.toList.length=(toB l).size from Array.length_toList,data_toB]
theorem ln_bytes_ext {a b : ByteArray} (h : a.data.toList=b.data.toList) : a=b := by rw [←toB_data a,h,toB_data]
theorem ln_toList (s : ByteArray) : s.toList=s.data.toList := ByteArray.toList_eq s
def lineB (k : Int) (fl : Bool) (lb : ByteArray) (width : Int) : ByteArray :=
 toB (List.replicate width.toNat (UInt8.ofNat k.toNat)++((if fl=true then [33] else [])++((if lb.toList.isEmpty=true then [] else 32::lb.data.toList)++[10])))
theorem repeat_one (c : UInt8) : ∀ n : Nat,Lib.repeatL [c] n=List.replicate n c := by
 intro n
 induction n with
 | zero=>rfl
 | succ n ih=>simp [Lib.repeatL,ih,List.replicate_succ]
theorem line_repeat (n : Nat) (h : n<128) (c : Nat) (hc : c≤1073741824) (W : World) :
  Calls Try.prog 129 #[.string (Utf8.encode (n:Int)),.int .i64 c] W fun e w'=>e = .returned (.string (toB (List.replicate c (UInt8.ofNat n))))∧Below W.heap.size W w':=by
 have e1:=encode_small ⟨n,h⟩
 simp only at e1
 rw [e1]
 have hs:(⟨#[UInt8.ofNat n]⟩:ByteArray).size=1:=rfl
 refine (Try.strings_Repeat ⟨#[UInt8.ofNat n]⟩ c W (by omega) (by rw [hs];omega)).mono ?_
 rintro e w' ⟨rfl,hb⟩
 refine⟨?_,hb⟩
 have:Lib.repeatL (⟨#[UInt8.ofNat n]⟩:ByteArray).data.toList c=List.replicate c (UInt8.ofNat n):=repeat_one _ c
 rw [this];rfl
set_option maxHeartbeats 8000000 in
set_option maxRecDepth 100000 in
theorem line_calls (k : Int) (fl : Bool) (lb : ByteArray) (width : Int) (w : World) (h0 : 0≤k) (h1 : k<128) (w0 : 0≤width) (w1 : width≤1073741824) (hl : lb.size≤4000000000) :
  Calls Try.prog 96 #[.agg #[.int .u8 k,.bool fl,.string lb],.int .i64 width] w fun e w'=>e = .returned (.string (lineB k fl lb width))∧Below w.heap.size w w':=by
 obtain⟨n,rfl⟩:=Int.eq_ofNat_of_zero_le h0
 obtain⟨c,rfl⟩:=Int.eq_ofNat_of_zero_le w0
 have h2:n<128:=by omega
 have h3:c≤1073741824:=by omega
 have hs:=line_repeat n h2 c h3
 unfold lineB
 rw [Int.toNat_natCast,Int.toNat_natCast]
 have ht:(toB (List.replicate c (UInt8.ofNat n))).size=c:=by rw [ln_size_toB];simp
 generalize hT:toB (List.replicate c (UInt8.ofNat n))=t at hs ht
 have hT2:List.replicate c (UInt8.ofNat n)=t.data.toList:=by rw [←hT,data_toB]
 rw [hT2]
 clear hT hT2
 have f1:(9223372036854775807<t.size+1)=False:=eq_false (by omega)
 have f2:(9223372036854775807<1+lb.size)=False:=eq_false (by omega)
 have f3:(9223372036854775807<t.size+(1+lb.size))=False:=eq_false (by omega)
 have f4:(9223372036854775807<t.size+1+(1+lb.size))=False:=eq_false (by omega)
 have f5:(9223372036854775807<t.size+(1+lb.size)+1)=False:=eq_false (by omega)
 have f6:(9223372036854775807<t.size+1+(1+lb.size)+1)=False:=eq_false (by omega)
 have f7:(9223372036854775807<t.size+1+1)=False:=eq_false (by omega)
 clear h2 h3 w0 w1 hl ht
 generalize hk:(n:Int)=k at *
 generalize hc:(c:Int)=cc at *
 clear hk hc n c
 have HE:Aside0 (lb.toList.isEmpty=true↔lb.data.toList=[]):=⟨by rw [List.isEmpty_iff,ln_toList]⟩
 have HB:=Aside0.mk (below_alloc (Below.refl w.heap.size w) (.cells #[.int .u8 k,.bool fl,.string lb] 62))
 have c0:=new_cell0 w #[.int .u8 k,.bool fl,.string lb] 62 0 (.int .u8 k) rfl
 have c1:=new_cell0 w #[.int .u8 k,.bool fl,.string lb] 62 1 (.bool fl) rfl
 have c2:=new_cell0 w #[.int .u8 k,.bool fl,.string lb] 62 2 (.string lb) rfl
 go_enter Try.func96,Try.ntmps96
 go_wp2_with (first
  | (go_at_call 129;refine (hs _).mono ?_;rintro e w1 ⟨rfl,hb1⟩;replace c0:=tr0 hb1 c0;replace c1:=tr0 hb1 c1;replace c2:=tr0 hb1 c2;replace HB:=Aside0.mk (below_step HB.out hb1);clear hb1 hs))
 all_goals go_ret
 all_goals refine⟨?_,HB.out⟩
 all_goals first
  | (exfalso;simp_all;done)
  | (refine (?_:Ending.returned (Value.string _)=Ending.returned (Value.string _));refine congrArg Ending.returned (congrArg Value.string (ln_bytes_ext ?_));simp [data_toB, *];done)
  | (refine (?_:Ending.returned (Value.string _)=Ending.returned (Value.string _));refine congrArg Ending.returned (congrArg Value.string (ln_bytes_ext ?_));simp_all [data_toB];done)
end Go.Proofs.Ytfiamddinkokbaa.F
end

section
namespace Go.Proofs.Ytfiamddinkokbaa.F
open Go.RowKit Go.Proofs.YtfiamddinkokbaaW.PrintWords Go.Proofs.YtfiamddinkokbaaW.PrintLast Go.Proofs.YtfiamddinkokbaaW.PrintMore
attribute [local go_sem] max2_int min2_int max_two min_two max_three min_three max_four min_four
def mark_wide.f (a0 : Int) : Option (Bool) := if a0≥1 then (some (decide (a0≤1073741824))) else (some false)
set_option maxHeartbeats 8000000 in
set_option maxRecDepth 100000 in
theorem mark_wide.calls (a0 : Int) (r : Bool) (w : World) (h : mark_wide.f a0=some r) :
  Calls Try.prog 86 #[.int .i64 a0] w fun e w'=>e = .returned (.bool r)∧Drawn0 w w':=by
 have H:(if a0≥1 then (some (decide (a0≤1073741824))) else (some false))=some r:=h
 clear h
 by_cases c2:a0≥1
 ·rw [if_pos c2] at H
  have c2b0:decide (1≤a0)=true:=decide_eq_true c2
  clear c2
  obtain rfl:=Option.some.inj H
  go_enter Try.func86,Try.ntmps86
  go_wp2
  go_ret
  exact⟨by first|rfl|(simp;done)|(simp [*];done),by repeat (first|exact Drawn0.refl _|apply Drawn0.step)⟩
 ·rw [if_neg c2] at H
  have c2b0:decide (1≤a0)=false:=decide_eq_false c2
  clear c2
  obtain rfl:=Option.some.inj H
  go_enter Try.func86,Try.ntmps86
  go_wp2
  go_ret
  exact⟨by first|rfl|(simp;done)|(simp [*];done),by repeat (first|exact Drawn0.refl _|apply Drawn0.step)⟩





end Go.Proofs.Ytfiamddinkokbaa.F
end
