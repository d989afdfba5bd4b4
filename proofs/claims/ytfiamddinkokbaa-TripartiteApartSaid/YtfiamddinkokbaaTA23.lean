/- Texts joined into one file (wip/tools/pack.py): MarkPrint, Fn47, Fn126, Fn91, Fn92, Fn93, Fn48, Fn103, Fn108 -/
import Derived.Test.YtfiamddinkokbaaTA22
import Derived.Test.YtfiamddinkokbaaTA20
import Derived.Test.YtfiamddinkokbaaTA19
import Derived.Test.YtfiamddinkokbaaTA3
import Derived.Test.YtfiamddinkokbaaTA21
import Derived.Test.YtfiamddinkokbaaTA9
set_option linter.unusedVariables false
set_option linter.unusedSimpArgs false
section
namespace Go.Proofs.Ytfiamddinkokbaa.F
open Go.RowKit Go.Shelf Go.Proofs.YtfiamddinkokbaaW.PrintWords
def sufQ (s : ByteArray) : Bool := (strings_HasSuffix.f s ⟨#[10]⟩).getD false
def partL (wd : Int) (x : S106) : List UInt8 := x.f2.data.toList++(if x.f1=true then hunkL wd false x (sufQ x.f3) (sufQ x.f4) (sufQ x.f5) else [])
def printL (wd : Int) (l : List S106) : List UInt8 := l.flatMap (partL wd)
def okPart (x : S106) : Bool := decide (x.f0.f0.size≤4000000000)&&(decide (x.f0.f1.size≤4000000000)&&(decide (x.f0.f2.size≤4000000000)&&(decide (x.f2.size≤4000000000)&&(decide (x.f3.size≤4000000000)&&(decide (x.f4.size≤4000000000)&&(decide (x.f5.size≤4000000000) &&
 ((strings_HasSuffix.f x.f3 ⟨#[10]⟩).isSome&&((strings_HasSuffix.f x.f4 ⟨#[10]⟩).isSome&&(strings_HasSuffix.f x.f5 ⟨#[10]⟩).isSome))))))))
def printF (k : Nat) (l : List S106) (wd : Int) : Option (ByteArray×Int) :=
 (mark_wide.f wd).bind fun t=>if t=true then ((doc_Doc_Right.f k l).bind fun r=>if r=true then ((doc_Doc_Fits.f k l wd).bind fun g =>
  if g=true then (if l.all okPart=true∧l.length≤2000∧0≤wd∧wd≤1073741824 then some (toB (printL wd l),0) else none) else some (⟨#[]⟩,4)) else some (⟨#[]⟩,11)) else some (⟨#[]⟩,4)
theorem sufQ_some {s : ByteArray} (h : (strings_HasSuffix.f s ⟨#[10]⟩).isSome=true) : strings_HasSuffix.f s ⟨#[10]⟩=some (sufQ s) := by
 unfold sufQ
 obtain⟨q,hq⟩:=Option.isSome_iff_exists.1 h
 rw [hq];rfl
theorem pr_new (B : Nat) (wd : Int) (W : World) (hB : B≤W.heap.size) : Pr B W.heap.size wd false [] (W.alloc (.cells #[.pointer none,.slice none 0 0,.int .i64 wd,.bool false] 129)) :=
 ⟨_,_,⟨hB,World.alloc_heap_new _ _,rfl,rfl,.inl rfl,World.ownsRowF_nil _ _ _ _,by simp [Value.ownBlock]⟩⟩
set_option maxHeartbeats 4000000 in
set_option maxRecDepth 100000 in
theorem print_wide (A : Option Addr) (c n : Nat) (wd : Int) (w : World) (e0 : mark_wide.f wd=some false) :
  Calls Try.prog 47 #[.slice A n c,.int .i64 wd] w fun e w'=>e = .returned (.tuple #[.string ⟨#[]⟩,.int .i64 4])∧Below w.heap.size w w':=by
 have H0:=fun W=>mark_wide.calls wd false W e0
 have HB:=Aside0.mk (Below.refl w.heap.size w)
 go_enter Try.func47,Try.ntmps47
 go_wp2_with (first|(go_at_call 86;refine (H0 _).mono ?_;rintro e w1 ⟨rfl,nd,rfl⟩))
 go_ret2
 exact⟨rfl,pw_below_drewN HB.out nd⟩
set_option maxHeartbeats 4000000 in
set_option maxRecDepth 100000 in
theorem print_right (k : Nat) (A : Option Addr) (c : Nat) (l : List S106) (wd : Int) (w : World) (hr : Kd.C k106 w A l.length l) (hc : l.length≤c) (e0 : mark_wide.f wd=some true) (e1 : doc_Doc_Right.f k l=some false) :
  Calls Try.prog 47 #[.slice A l.length c,.int .i64 wd] w fun e w'=>e = .returned (.tuple #[.string ⟨#[]⟩,.int .i64 11])∧Below w.heap.size w w':=by
 have H0:=fun W=>mark_wide.calls wd true W e0
 have H1:=fun W (hb:Below w.heap.size w W)=>doc_Doc_Right.calls k A c l false W (Kd.C_below hr hb) hc e1
 have HB:=Aside0.mk (Below.refl w.heap.size w)
 clear hr e1 e0
 go_enter Try.func47,Try.ntmps47
 go_wp2_with (first
  | (go_at_call 86;refine (H0 _).mono ?_;rintro e w1 ⟨rfl,nd,rfl⟩;replace HB:=Aside0.mk (pw_below_drewN HB.out nd))
  | (go_at_call 72;refine (H1 _ HB.out).mono ?_;rintro e w2 ⟨rfl,hb⟩;replace HB:=Aside0.mk (below_step HB.out hb);clear hb))
 go_ret2
 exact⟨rfl,HB.out⟩
set_option maxHeartbeats 4000000 in
set_option maxRecDepth 100000 in
theorem print_fits (k : Nat) (A : Option Addr) (c : Nat) (l : List S106) (wd : Int) (w : World) (hr : Kd.C k106 w A l.length l) (hc : l.length≤c) (e0 : mark_wide.f wd=some true) (e1 : doc_Doc_Right.f k l=some true) (e2 : doc_Doc_Fits.f k l wd=some false) :
  Calls Try.prog 47 #[.slice A l.length c,.int .i64 wd] w fun e w'=>e = .returned (.tuple #[.string ⟨#[]⟩,.int .i64 4])∧Below w.heap.size w w':=by
 have H0:=fun W=>mark_wide.calls wd true W e0
 have H1:=fun W (hb:Below w.heap.size w W)=>doc_Doc_Right.calls k A c l true W (Kd.C_below hr hb) hc e1
 have H2:=fun W (hb:Below w.heap.size w W)=>doc_Doc_Fits.calls k A c l wd false W (Kd.C_below hr hb) hc e2
 have HB:=Aside0.mk (Below.refl w.heap.size w)
 clear hr e1 e0 e2
 go_enter Try.func47,Try.ntmps47
 go_wp2_with (first
  | (go_at_call 86;refine (H0 _).mono ?_;rintro e w1 ⟨rfl,nd,rfl⟩;replace HB:=Aside0.mk (pw_below_drewN HB.out nd))
  | (go_at_call 72;refine (H1 _ HB.out).mono ?_;rintro e w2 ⟨rfl,hb⟩;replace HB:=Aside0.mk (below_step HB.out hb);clear hb)
  | (go_at_call 73;refine (H2 _ HB.out).mono ?_;rintro e w2 ⟨rfl,hb⟩;replace HB:=Aside0.mk (below_step HB.out hb);clear hb))
 go_ret2
 exact⟨rfl,HB.out⟩
theorem pr_drew {B b : Nat} {wd : Int} {lk : Bool} {bs : List UInt8} {w : World} (h : Pr B b wd lk bs w) : Pr B b wd lk bs w.drew := h.below (below_drew1 (Below.refl _ _))
theorem partL_length (wd : Int) (w1 : wd≤1073741824) (x : S106) (h : okPart x=true) : (partL wd x).length≤45000000000 := by
 unfold okPart at h
 simp only [Bool.and_eq_true,decide_eq_true_eq] at h
 obtain⟨z0,z1,z2,ztx,z3,z4,z5,_⟩:=h
 have hz:(⟨#[]⟩:ByteArray).size=0:=rfl
 unfold partL
 rw [List.length_append,size_dataL]
 split
 ·unfold hunkL
  simp only [List.length_append]
  have a0:=lineL_length 60 false x.f0.f0 wd w1
  have a1:=sideL_length x.f3 (sufQ x.f3)
  have a3:=lineL_length 61 (if x.f6=true then lacksB x.f4 (sufQ x.f4) else lacksB x.f3 (sufQ x.f3)) ⟨#[]⟩ wd w1
  have a4:=sideL_length x.f5 (sufQ x.f5)
  have a5:=lineL_length 62 (lacksB x.f5 (sufQ x.f5)) x.f0.f2 wd w1
  have a6:(if x.f6=true then lineL 124 (lacksB x.f3 (sufQ x.f3)) x.f0.f1 wd++sideL x.f4 (sufQ x.f4) else []).length≤10000000000:=by
   split
   ·rw [List.length_append]
    have b0:=lineL_length 124 (lacksB x.f3 (sufQ x.f3)) x.f0.f1 wd w1
    have b1:=sideL_length x.f4 (sufQ x.f4)
    omega
   ·simp
  omega
 ·simp;omega
theorem printL_length (wd : Int) (w1 : wd≤1073741824) : ∀ l : List S106,(∀ x∈l,okPart x=true)→(printL wd l).length≤l.length*45000000000
 | [],_=>by simp [printL]
 | x::l,h=>by
  have h1:=partL_length wd w1 x (h x (by simp))
  have h2:=printL_length wd w1 l (fun y hy=>h y (by simp [hy]))
  have e:printL wd (x::l)=partL wd x++printL wd l:=by simp [printL]
  rw [e,List.length_append,List.length_cons]
  omega
set_option maxHeartbeats 8000000 in
set_option maxRecDepth 100000 in
theorem print_main (k : Nat) (A : Option Addr) (c : Nat) (l : List S106) (wd : Int) (w : World) (hr : Kd.C k106 w A l.length l) (hc : l.length≤c) (e0 : mark_wide.f wd=some true) (e1 : doc_Doc_Right.f k l=some true) (e2 : doc_Doc_Fits.f k l wd=some true)
  (hok:l.all okPart=true) (hn:l.length≤2000) (w0:0≤wd) (w1:wd≤1073741824) :
  Calls Try.prog 47 #[.slice A l.length c,.int .i64 wd] w fun e w'=>e = .returned (.tuple #[.string (toB (printL wd l)),.int .i64 0])∧Below w.heap.size w w':=by
 have H0:=fun W=>mark_wide.calls wd true W e0
 have H1:=fun W (hb:Below w.heap.size w W)=>doc_Doc_Right.calls k A c l true W (Kd.C_below hr hb) hc e1
 have H2:=fun W (hb:Below w.heap.size w W)=>doc_Doc_Fits.calls k A c l wd true W (Kd.C_below hr hb) hc e2
 have HR:=Aside0.mk hr
 have HB:=Aside0.mk (Below.refl w.heap.size w)
 clear hr e1 e0 e2
 go_enter Try.func47,Try.ntmps47
 go_wp2_with (first
  | (go_at_call 86;refine (H0 _).mono ?_;rintro e w1 ⟨rfl,nd,rfl⟩;replace HB:=Aside0.mk (pw_below_drewN HB.out nd))
  | (go_at_call 72;refine (H1 _ HB.out).mono ?_;rintro e w2 ⟨rfl,hb⟩;replace HB:=Aside0.mk (below_step HB.out hb);clear hb)
  | (go_at_call 73;refine (H2 _ HB.out).mono ?_;rintro e w2 ⟨rfl,hb⟩;replace HB:=Aside0.mk (below_step HB.out hb);clear hb))
 have HP:=Aside0.mk (pr_new w.heap.size wd w2 HB.out.size)
 replace HB:=Aside0.mk (below_step HB.out (below_alloc (Below.refl w2.heap.size w2) (.cells #[.pointer none,.slice none 0 0,.int .i64 wd,.bool false] 129)))
 clear H0 H1 H2
 generalize w2.alloc (.cells #[.pointer none,.slice none 0 0,.int .i64 wd,.bool false] 129)=W at HP HB ⊢
 generalize w2.heap.size=b at HP ⊢
 go_loopg [27] l.length (fun gg s27 wr=>∃ kk:Nat,kk≤l.length∧l.length-kk≤gg∧s27 = .int .i64 kk∧Aside0 (Below w.heap.size w wr)∧Aside0 (Pr w.heap.size b wd false (printL wd (l.take kk)) wr))
 case atStart=>exact⟨0,Nat.zero_le _,by omega,rfl,HB,HP⟩
 case round =>
  clear HB HP
  obtain⟨kk,hkk,hg,rfl,HB,HP⟩:=hrel
  by_cases hlt:kk<l.length
  ·have hltz:(kk:Int)<(l.length:Int):=by omega
   have p0:(0:Int)≤(kk:Int):=by omega
   obtain⟨ad,rfl,hx0,hx1,hx2,hx3,hx4,hx5,hx6,hx7,hx8⟩:=at_T106 (Kd.C_below HR.out HB.out) (kk:Int) p0 hltz
   have hrd:rd_T106 l (kk:Int)=l.getD kk z106:=rfl
   rw [Int.toNat_natCast] at hx0 hx1 hx2 hx3 hx4 hx5 hx6 hx7 hx8
   rw [hrd] at hx0 hx1 hx2 hx3 hx4 hx5 hx6 hx7 hx8
   generalize hy:l.getD kk z106=y at hx0 hx1 hx2 hx3 hx4 hx5 hx6 hx7 hx8
   obtain⟨⟨l0,l1,l2⟩,hk,tx,s3,s4,s5,hb⟩:=y
   have hmem:(⟨⟨l0,l1,l2⟩,hk,tx,s3,s4,s5,hb⟩:S106)∈l:=by
    rw [←hy,List.getD_eq_getElem?_getD,List.getElem?_eq_getElem hlt];exact List.getElem_mem hlt
   have ho:=List.all_eq_true.1 hok _ hmem
   unfold okPart at ho
   simp only [Bool.and_eq_true,decide_eq_true_eq] at ho
   obtain⟨z0,z1,z2,ztx,z3,z4,z5,q3,q4,q5⟩:=ho
   have hlen:=printL_length wd w1 (l.take kk) (fun x hx=>List.all_eq_true.1 hok x (List.mem_of_mem_take hx))
   have hlen2:(l.take kk).length≤2000:=by rw [List.length_take];omega
   have hlen3:(printL wd (l.take kk)).length≤2000*45000000000:=Nat.le_trans hlen (Nat.mul_le_mul_right _ hlen2)
   have hstep:printL wd (l.take (kk+1))=printL wd (l.take kk)++partL wd ⟨⟨l0,l1,l2⟩,hk,tx,s3,s4,s5,hb⟩:=by
    rw [List.take_add_one,List.getElem?_eq_getElem hlt]
    have:l[kk]=⟨⟨l0,l1,l2⟩,hk,tx,s3,s4,s5,hb⟩:=by rw [←hy,List.getD_eq_getElem?_getD,List.getElem?_eq_getElem hlt];rfl
    simp [printL,this]
   have HS:=Aside0.mk hstep
   have HQ3:=Aside0.mk (sufQ_some q3)
   have HQ4:=Aside0.mk (sufQ_some q4)
   have HQ5:=Aside0.mk (sufQ_some q5)
   generalize printL wd (l.take kk)=cur at HP hlen3 HS
   clear hstep q3 q4 q5 hlen hlen2 hmem hy hrd
   go_wp2_with fail
   have hblk:=World.alloc_heap_new wr (.cells #[.string l0,.string l1,.string l2,.bool hk,.string tx,.string s3,.string s4,.string s5,.bool hb] 106)
   have hne:wr.heap.size≠b:=by have:=HP.out.lt;omega
   replace HP:=Aside0.mk (HP.out.below (below_alloc (Below.refl wr.heap.size wr) (.cells #[.string l0,.string l1,.string l2,.bool hk,.string tx,.string s3,.string s4,.string s5,.bool hb] 106)))
   replace HB:=Aside0.mk (below_step HB.out (below_alloc (Below.refl wr.heap.size wr) (.cells #[.string l0,.string l1,.string l2,.bool hk,.string tx,.string s3,.string s4,.string s5,.bool hb] 106)))
   clear hx0 hx1 hx2 hx3 hx4 hx5 hx6 hx7 hx8
   generalize wr.alloc (.cells #[.string l0,.string l1,.string l2,.bool hk,.string tx,.string s3,.string s4,.string s5,.bool hb] 106)=W2 at *
   generalize wr.heap.size=nb at *
   have k4:=(blk_cell hblk 4).trans (rfl:_=some (Value.string tx))
   go_region_with ((first
    | (go_at_call 87;refine (pr_write (w:=W2.drew) tx (pr_drew HP.out) (by omega) HB.out.size).mono ?_;rintro e W3 ⟨rfl,hp_,hb_,hk_⟩)))
   have hblk3:=hk_.cell (show W2.drew.heap[nb]? = _ from hblk) (by decide) hne
   have j0:=(blk_cell hblk3 0).trans (rfl:_=some (Value.string l0))
   have j1:=(blk_cell hblk3 1).trans (rfl:_=some (Value.string l1))
   have j2:=(blk_cell hblk3 2).trans (rfl:_=some (Value.string l2))
   have j3:=(blk_cell hblk3 3).trans (rfl:_=some (Value.bool hk))
   have j4:=(blk_cell hblk3 4).trans (rfl:_=some (Value.string tx))
   have j5:=(blk_cell hblk3 5).trans (rfl:_=some (Value.string s3))
   have j6:=(blk_cell hblk3 6).trans (rfl:_=some (Value.string s4))
   have j7:=(blk_cell hblk3 7).trans (rfl:_=some (Value.string s5))
   have j8:=(blk_cell hblk3 8).trans (rfl:_=some (Value.bool hb))
   have HP3:=Aside0.mk hp_
   have HB3:=Aside0.mk (below_weaken HB.out (Nat.le_refl _) (pr_drawn hb_))
   clear hblk k4 hp_ hb_ hk_ HP HB hblk3
   generalize ht3:tx.data.toList=txl at HP3
   have htl:txl.length=tx.size:=by rw [←ht3];exact size_dataL tx
   cases hk with
   | false =>
    go_wp2
    go_roundg (l.length-(kk+1))
    case measure=>omega
    case rel =>
     refine⟨kk+1,by omega,by omega,by go_num,HB3,⟨?_⟩⟩
     rw [HS.out]
     have:partL wd ⟨⟨l0,l1,l2⟩,false,tx,s3,s4,s5,hb⟩=txl:=by unfold partL;simp [ht3]
     rw [this];exact HP3.out
   | true =>
    go_wp2_with (first
     | (go_at_call 88;refine (pr_hunk ⟨⟨l0,l1,l2⟩,true,tx,s3,s4,s5,hb⟩ _ _ _ HP3.out w0 w1 z0 z1 z2 z3 z4 z5 HQ3.out HQ4.out HQ5.out (by rw [List.length_append];omega) HB3.out.size).mono ?_;rintro e W4 ⟨rfl,hp4,hb4,_⟩))
    go_roundg (l.length-(kk+1))
    case measure=>omega
    case rel =>
     refine⟨kk+1,by omega,by omega,by go_num,⟨below_weaken HB3.out (Nat.le_refl _) hb4⟩,⟨?_⟩⟩
     rw [HS.out]
     have:partL wd ⟨⟨l0,l1,l2⟩,true,tx,s3,s4,s5,hb⟩=txl++hunkL wd false ⟨⟨l0,l1,l2⟩,true,tx,s3,s4,s5,hb⟩ (sufQ s3) (sufQ s4) (sufQ s5):=by unfold partL;simp [ht3]
     rw [this,←List.append_assoc];exact hp4
  ·obtain rfl:kk=l.length:=by omega
   have q1:((l.length:Int)<(l.length:Int))=False:=by simp
   rw [List.take_length] at HP
   obtain⟨p_,v_,hbld⟩:=HP.out
   have HS2:=fun hB=>bld_string hbld hB
   go_wp2_with (first
    | (go_at_call 89;refine (HS2 HB.out.size).mono ?_;rintro e W5 ⟨rfl,hb5,_⟩))
   go_ret2
   exact⟨rfl,below_weaken HB.out (Nat.le_refl _) hb5⟩
theorem print_calls (k : Nat) (A : Option Addr) (c : Nat) (l : List S106) (wd : Int) (r1 : ByteArray) (r2 : Int) (w : World) (hr : Kd.C k106 w A l.length l) (hc : l.length≤c) (h : printF k l wd=some (r1,r2)) :
  Calls Try.prog 47 #[.slice A l.length c,.int .i64 wd] w fun e w'=>e = .returned (.tuple #[.string r1,.int .i64 r2])∧Below w.heap.size w w':=by
 unfold printF at h
 obtain⟨t,e0,h⟩:=Option.bind_eq_some_iff.1 h
 cases t with
 | false =>
  rw [if_neg (by decide)] at h
  cases h
  exact print_wide A c l.length wd w e0
 | true =>
  rw [if_pos rfl] at h
  obtain⟨r,e1,h⟩:=Option.bind_eq_some_iff.1 h
  cases r with
  | false =>
   rw [if_neg (by decide)] at h
   cases h
   exact print_right k A c l wd w hr hc e0 e1
  | true =>
   rw [if_pos rfl] at h
   obtain⟨g,e2,h⟩:=Option.bind_eq_some_iff.1 h
   cases g with
   | false =>
    rw [if_neg (by decide)] at h
    cases h
    exact print_fits k A c l wd w hr hc e0 e1 e2
   | true =>
    rw [if_pos rfl] at h
    split at h
    ·rename_i hx
     cases h
     exact print_main k A c l wd w hr hc e0 e1 e2 hx.1 hx.2.1 hx.2.2.1 hx.2.2.2
    ·cases h
theorem print_mono : ∀ l wd k,LeO (printF k l wd) (printF (k+1) l wd) := by
 intro l wd k
 unfold printF
 refine LeO.bind (LeO.refl _) (fun _=>?_)
 refine LeO.ite ?_ (LeO.refl _)
 refine LeO.bind (doc_Doc_Right.mono _ _) (fun _=>?_)
 refine LeO.ite ?_ (LeO.refl _)
 refine LeO.bind (doc_Doc_Fits.mono _ _ _) (fun _=>LeO.refl _)
#print axioms print_calls
end Go.Proofs.Ytfiamddinkokbaa.F
end

section
namespace Go.Proofs.Ytfiamddinkokbaa.F
open Go.RowKit Go.Proofs.YtfiamddinkokbaaW.PrintWords Go.Proofs.YtfiamddinkokbaaW.PrintLast Go.Proofs.YtfiamddinkokbaaW.PrintMore
attribute [local go_sem] max2_int min2_int max_two min_two max_three min_three max_four min_four
def mark_Print.f (k : Nat) (l0 : List S106) (a1 : Int) : Option (ByteArray×Int) := printF k l0 a1
theorem mark_Print.mono : ∀ l0 a1 k,LeO (mark_Print.f k l0 a1) (mark_Print.f (k+1) l0 a1) := print_mono
theorem mark_Print.calls (k : Nat) (A0 : Option Addr) (c0 : Nat) (l0 : List (S106)) (a1 : Int) (r1 : ByteArray) (r2 : Int) (w : World) (hr0 : Kd.C k106 w A0 l0.length l0) (hc0 : l0.length≤c0) (h : mark_Print.f k l0 a1=some (r1,r2)) :
  Calls Try.prog 47 #[.slice A0 l0.length c0,.int .i64 a1] w fun e w'=>e = .returned (.tuple #[.string r1,.int .i64 r2])∧Below w.heap.size w w':=by
 exact print_calls k A0 c0 l0 a1 r1 r2 w hr0 hc0 h
end Go.Proofs.Ytfiamddinkokbaa.F
end

section
namespace Go.Proofs.Ytfiamddinkokbaa.F
open Go.RowKit Go.Proofs.YtfiamddinkokbaaW.PrintWords Go.Proofs.YtfiamddinkokbaaW.PrintLast Go.Proofs.YtfiamddinkokbaaW.PrintMore
attribute [local go_sem] max2_int min2_int max_two min_two max_three min_three max_four min_four
attribute [local go_sem high] eqA109

end Go.Proofs.Ytfiamddinkokbaa.F
end

section
namespace Go.Proofs.Ytfiamddinkokbaa.F
open Go.RowKit Go.Proofs.YtfiamddinkokbaaW.PrintWords Go.Proofs.YtfiamddinkokbaaW.PrintLast Go.Proofs.YtfiamddinkokbaaW.PrintMore
attribute [local go_sem] max2_int min2_int max_two min_two max_three min_three max_four min_four




def chunk_Of.f (k : Nat) (a0 : Int) (a1 : Int) (a2 : Int) (l3 : List S196) (l4 : List S196) : Option ((List S91)×Int) := ofF k a0 a1 a2 l3 l4
theorem chunk_Of.mono : ∀ a0 a1 a2 l3 l4 k,LeO (chunk_Of.f k a0 a1 a2 l3 l4) (chunk_Of.f (k+1) a0 a1 a2 l3 l4) := of_mono
theorem chunk_Of.calls (k : Nat) (a0 : Int) (a1 : Int) (a2 : Int) (A3 : Option Addr) (c3 : Nat) (l3 : List (S196)) (A4 : Option Addr) (c4 : Nat) (l4 : List (S196)) (r1 : List (S91)) (r2 : Int) (w : World) (hr3 : Kd.C k196 w A3 l3.length l3) (hc3 : l3.length≤c3) (hr4 : Kd.C k196 w A4 l4.length l4) (hc4 : l4.length≤c4) (h : chunk_Of.f k a0 a1 a2 l3 l4=some (r1,r2)) :
  Calls Try.prog 103 #[.int .i64 a0,.int .i64 a1,.int .i64 a2,.slice A3 l3.length c3,.slice A4 l4.length c4] w fun e w'=>∃ v0_:Value,e = .returned (.tuple #[v0_,.int .i64 r2])∧Kd.R k91 91 w' w.heap.size (fun _=>True) v0_ r1∧Below w.heap.size w w':=by
 exact of_calls k a0 a1 a2 A3 c3 l3 A4 c4 l4 r1 r2 w hr3 hc3 hr4 hc4 h
def slices_Clone_string_string.f (l0 : List ByteArray) : Option (List ByteArray) := if l0.length≤4000000000 then some l0 else none
theorem slices_Clone_string_string.calls (A0 : Option Addr) (c0 : Nat) (l0 : List ByteArray) (r : List ByteArray) (w : World) (hr0 : Kd.C Kd.string w A0 l0.length l0) (hc0 : l0.length≤c0) (h : slices_Clone_string_string.f l0=some r) :
  Calls Try.prog 108 #[.slice A0 l0.length c0] w fun e w'=>∃ v0_:Value,e = .returned (v0_)∧Kd.R Kd.string 9 w' w.heap.size (fun _=>True) v0_ r∧Below w.heap.size w w':=by
 exact ext_clone A0 c0 l0 r w hr0 hc0 h
end Go.Proofs.Ytfiamddinkokbaa.F
end
