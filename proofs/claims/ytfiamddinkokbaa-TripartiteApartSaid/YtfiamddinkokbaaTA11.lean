/- Texts joined into one file (wip/tools/pack.py): Middle -/
import Derived.Test.YtfiamddinkokbaaTA10
set_option linter.unusedVariables false
set_option linter.unusedSimpArgs false
namespace Go.Proofs.Ytfiamddinkokbaa.F
open Go.RowKit Go.Shelf Go.Proofs.YtfiamddinkokbaaW.PrintWords
theorem newRun_at (x : Int) (N : Nat) (w : World) (hx : x=N) (h1 : N≤8000000000) : Calls Try.prog 169 #[.int .i64 x] w fun e w' =>
  ∃ g c,e = .returned (.agg #[.slice (some ⟨g,0,none⟩) (2*N+3) c,.int .i64 ((N:Int)+1)])∧w.heap.size≤g∧Row w.heap.size g c (newRow N) w'∧Below w.heap.size w w':=by
 subst hx
 refine (newRun_calls N w h1).mono ?_
 rintro e w' ⟨g,c,rfl,h⟩
 exact⟨g,c,by rw [newRow_length],h⟩
structure Mid (w : World) (L n3 n4 n8 n9 bf cf br cr : Nat) (a0 a1 b0 b1 off : Int) (fore rear : List Int) (wr : World) : Prop where
 below:Below w.heap.size w wr
 x3:wr.heap[n3]? = some (.cells #[.int .i64 a0,.int .i64 a1,.int .i64 b0,.int .i64 b1] 193 (0,0))
 x4:wr.heap[n4]? = some (.cells #[.int .i64 0,.int .i64 0,.int .i64 0,.int .i64 0] 209 (0,0))
 x8:wr.heap[n8]? = some (.cells #[.slice (some ⟨bf,0,none⟩) L cf,.int .i64 off] 213 (0,0))
 x9:wr.heap[n9]? = some (.cells #[.slice (some ⟨br,0,none⟩) L cr,.int .i64 off] 213 (0,0))
 lf:fore.length=L
 lr:rear.length=L
 rf:Row w.heap.size bf cf fore wr
 rr:Row w.heap.size br cr rear wr
 ne:bf≠br
theorem mid_start {w w1 w2 : World} {N nq gf cf gr cr : Nat} {a0 a1 b0 b1 off : Int}
  (hb1:Below (((w.alloc (.cells #[.int .i64 a0,.int .i64 a1,.int .i64 b0,.int .i64 b1] 193)).alloc (.cells #[.int .i64 0,.int .i64 0,.int .i64 0,.int .i64 0] 209)).drewN nq).heap.size
   (((w.alloc (.cells #[.int .i64 a0,.int .i64 a1,.int .i64 b0,.int .i64 b1] 193)).alloc (.cells #[.int .i64 0,.int .i64 0,.int .i64 0,.int .i64 0] 209)).drewN nq) w1)
  (hg1:(((w.alloc (.cells #[.int .i64 a0,.int .i64 a1,.int .i64 b0,.int .i64 b1] 193)).alloc (.cells #[.int .i64 0,.int .i64 0,.int .i64 0,.int .i64 0] 209)).drewN nq).heap.size≤gf)
  (hrow1:Row (((w.alloc (.cells #[.int .i64 a0,.int .i64 a1,.int .i64 b0,.int .i64 b1] 193)).alloc (.cells #[.int .i64 0,.int .i64 0,.int .i64 0,.int .i64 0] 209)).drewN nq).heap.size gf cf (newRow N) w1)
  (hb2:Below w1.heap.size w1 w2) (hg2:w1.heap.size≤gr) (hrow2:Row w1.heap.size gr cr (newRow N) w2) :
  Mid w (2*N+3) w.heap.size (w.heap.size+1) w2.heap.size (w2.heap.size+1) gf cf gr cr a0 a1 b0 b1 off (newRow N) (newRow N)
   ((w2.alloc (.cells #[.slice (some ⟨gf,0,none⟩) (2*N+3) cf,.int .i64 off] 213)).alloc (.cells #[.slice (some ⟨gr,0,none⟩) (2*N+3) cr,.int .i64 off] 213)):=by
 have hs0:(((w.alloc (.cells #[.int .i64 a0,.int .i64 a1,.int .i64 b0,.int .i64 b1] 193)).alloc (.cells #[.int .i64 0,.int .i64 0,.int .i64 0,.int .i64 0] 209)).drewN nq).heap.size=w.heap.size+1+1:=by
  show ((w.alloc _).alloc _).heap.size=_
  rw [World.size_alloc,World.size_alloc]
 have hb1':Below ((w.alloc (.cells #[.int .i64 a0,.int .i64 a1,.int .i64 b0,.int .i64 b1] 193)).alloc (.cells #[.int .i64 0,.int .i64 0,.int .i64 0,.int .i64 0] 209)).heap.size ((w.alloc (.cells #[.int .i64 a0,.int .i64 a1,.int .i64 b0,.int .i64 b1] 193)).alloc (.cells #[.int .i64 0,.int .i64 0,.int .i64 0,.int .i64 0] 209)) w1 :=
  ⟨hb1.os,hb1.tape,hb1.output,hb1.size,hb1.block⟩
 obtain⟨q1,q2,q3⟩:=two_boxes hb1'
 have z1:w1.heap.size≤w2.heap.size:=hb2.size
 have z2:gf<w1.heap.size:=hrow1.lt
 have z3:w.heap.size+1<w1.heap.size:=by omega
 have hb3:Below w2.heap.size w2 ((w2.alloc (.cells #[.slice (some ⟨gf,0,none⟩) (2*N+3) cf,.int .i64 off] 213)).alloc (.cells #[.slice (some ⟨gr,0,none⟩) (2*N+3) cr,.int .i64 off] 213)):=below_alloc (below_alloc (Below.refl _ _) _) _
 obtain⟨_,q4,q5⟩:=two_boxes (w:=w2) (Below.refl ((w2.alloc (.cells #[.slice (some ⟨gf,0,none⟩) (2*N+3) cf,.int .i64 off] 213)).alloc (.cells #[.slice (some ⟨gr,0,none⟩) (2*N+3) cr,.int .i64 off] 213)).heap.size _)
 exact⟨below_step (below_step q1 hb2) hb3,(hb3.block _ (by omega)).trans ((hb2.block _ (by omega)).trans q2),(hb3.block _ (by omega)).trans ((hb2.block _ (by omega)).trans q3),q4,q5,newRow_length N,newRow_length N,
  ((hrow1.below hb2).below hb3).lower (by omega),(hrow2.below hb3).lower (by omega),by omega⟩
theorem type_ne {w : World} {i j : Nat} {cs cs' : Array Value} {t t' : TypeId} (h : w.heap[i]? = some (.cells cs t (0,0))) (h' : w.heap[j]? = some (.cells cs' t' (0,0))) (ht : t≠t') : i≠j := by
 intro e;subst e
 rw [h] at h'
 injection h' with h'
 injection h' with _ h' _
 exact ht h'
theorem Row.typed {B bf c : Nat} {fr : List Int} {w : World} (h : Row B bf c fr w) : ∃ cells,w.heap[bf]? = some (.cells cells 3 (0,0)) := Kd.R_typed h bf rfl
theorem Mid.fore {w : World} {L n3 n4 n8 n9 bf cf br cr : Nat} {a0 a1 b0 b1 off : Int} {fore rear : List Int} {wr W1 : World} (h : Mid w L n3 n4 n8 n9 bf cf br cr a0 a1 b0 b1 off fore rear wr) (hb : Below wr.heap.size wr W1) (i e : Int) :
  Mid w L n3 n4 n8 n9 bf cf br cr a0 a1 b0 b1 off (fore.set i.toNat e) rear (W1.setCell ⟨bf,i.toNat,none⟩ (.int .i64 e)):=by
 have hlt:∀ {k:Nat} {o:Obj},wr.heap[k]? = some o→W1.heap[k]? = some o:=fun hk=>(hb.block _ (Array.getElem?_eq_some_iff.1 hk).1).trans hk
 have hrf:=h.rf.below hb
 obtain⟨cells,hty⟩:=hrf.typed
 refine⟨(below_step h.below hb).setCell (p:=⟨bf,i.toNat,none⟩) hrf.lo _,?_,?_,?_,?_,by rw [List.length_set];exact h.lf,h.lr,hrf.put i e,(h.rr.below hb).far (fun e=>h.ne e.symm) _,h.ne⟩
 ·exact (Below.heap_setCell _ _ _ _ (type_ne (hlt h.x3) hty (by decide))).trans (hlt h.x3)
 ·exact (Below.heap_setCell _ _ _ _ (type_ne (hlt h.x4) hty (by decide))).trans (hlt h.x4)
 ·exact (Below.heap_setCell _ _ _ _ (type_ne (hlt h.x8) hty (by decide))).trans (hlt h.x8)
 ·exact (Below.heap_setCell _ _ _ _ (type_ne (hlt h.x9) hty (by decide))).trans (hlt h.x9)
theorem Mid.rear {w : World} {L n3 n4 n8 n9 bf cf br cr : Nat} {a0 a1 b0 b1 off : Int} {fore rear : List Int} {wr W1 : World} (h : Mid w L n3 n4 n8 n9 bf cf br cr a0 a1 b0 b1 off fore rear wr) (hb : Below wr.heap.size wr W1) (i e : Int) :
  Mid w L n3 n4 n8 n9 bf cf br cr a0 a1 b0 b1 off fore (rear.set i.toNat e) (W1.setCell ⟨br,i.toNat,none⟩ (.int .i64 e)):=by
 have hlt:∀ {k:Nat} {o:Obj},wr.heap[k]? = some o→W1.heap[k]? = some o:=fun hk=>(hb.block _ (Array.getElem?_eq_some_iff.1 hk).1).trans hk
 have hrf:=h.rr.below hb
 obtain⟨cells,hty⟩:=hrf.typed
 refine⟨(below_step h.below hb).setCell (p:=⟨br,i.toNat,none⟩) hrf.lo _,?_,?_,?_,?_,h.lf,by rw [List.length_set];exact h.lr,(h.rf.below hb).far h.ne _,hrf.put i e,h.ne⟩
 ·exact (Below.heap_setCell _ _ _ _ (type_ne (hlt h.x3) hty (by decide))).trans (hlt h.x3)
 ·exact (Below.heap_setCell _ _ _ _ (type_ne (hlt h.x4) hty (by decide))).trans (hlt h.x4)
 ·exact (Below.heap_setCell _ _ _ _ (type_ne (hlt h.x8) hty (by decide))).trans (hlt h.x8)
 ·exact (Below.heap_setCell _ _ _ _ (type_ne (hlt h.x9) hty (by decide))).trans (hlt h.x9)
set_option maxHeartbeats 8000000 in
set_option maxRecDepth 100000 in
theorem middle_calls {B f : Nat} {A C : Option Addr} {ca cb : Nat} {a b : List Int} {l : List SP} {w : World} (a0 a1 b0 b1 : Int) (xs ys : List Int) (r0 r1 r2 : Int)
  (hF:Fin B f (.slice A a.length ca) (.slice C b.length cb) l w) (hA:Kd.C (Kd.int .i64) w A a.length a) (hC:Kd.C (Kd.int .i64) w C b.length b)
  (ha0:0≤a0) (ha1:a0≤a1) (ha2:a1≤a.length) (hb0:0≤b0) (hb1:b0≤b1) (hb2:b1≤b.length) (hla:a.length≤4000000000) (hlb:b.length≤4000000000)
  (hxl:(xs.length:Int)=a1-a0) (hyl:(ys.length:Int)=b1-b0) (hx:∀ u:Int,0≤u→u<a1-a0→rd a (a0+u)=rd xs u) (hy:∀ u:Int,0≤u→u<b1-b0→rd b (b0+u)=rd ys u)
  (hBw:B≤w.heap.size) (h:middleF xs ys=some (r0,r1,r2)) :
  Calls Try.prog 167 #[.pointer (some ⟨f,0,none⟩),.agg #[.int .i64 a0,.int .i64 a1,.int .i64 b0,.int .i64 b1]] w fun e w'=>(∃ dd:Int,e = .returned (.agg #[.int .i64 (a0+r0),.int .i64 (b0+r1),.int .i64 r2,.int .i64 dd]))∧Below w.heap.size w w':=by
 have HF:=Aside0.mk hF
 have HA:=Aside0.mk hA
 have HC:=Aside0.mk hC
 have HX:=Aside0.mk hx
 have HY:=Aside0.mk hy
 have HXL:=Aside0.mk hxl
 have HYL:=Aside0.mk hyl
 have HH:=Aside0.mk h
 have HBw:=Aside0.mk hBw
 clear hF hA hC hx hy hxl hyl h hBw
 obtain⟨N,hN⟩:∃ N:Nat,N=xs.length+ys.length:=⟨_,rfl⟩
 have HN:=Aside0.mk hN
 have g1:a1-a0+(b1-b0)=(N:Int):=by have:=HXL.out;have:=HYL.out;omega
 have G1:=Aside0.mk g1
 have g2:N≤8000000000:=by omega
 clear hN g1
 have t1:True:=trivial
 have t2:True:=trivial
 go_enter Try.func167,Try.ntmps167
 go_wp2
 go_quiet (fail)
 go_wp2_with (first|(go_at_call 169;have _t:=t1;(with_reducible refine (newRun_at _ N _ G1.out g2).mono ?_);rintro e w1 ⟨gf,cf,rfl,hg1,hrow1,hb1⟩;clear t1)|(go_at_call 169;have _t:=t2;(with_reducible refine (newRun_at _ N _ G1.out g2).mono ?_);rintro e w2 ⟨gr,cr,rfl,hg2,hrow2,hb2⟩;clear t2))
 have HM:=Aside0.mk (mid_start (off:=(N:Int)+1) hb1 hg1 hrow1 hb2 hg2 hrow2)
 clear hb1 hg1 hrow1 hb2 hg2 hrow2
 generalize ((w2.alloc (.cells #[.slice (some ⟨gf,0,none⟩) (2*N+3) cf,.int .i64 ((N:Int)+1)] 213)).alloc (.cells #[.slice (some ⟨gr,0,none⟩) (2*N+3) cr,.int .i64 ((N:Int)+1)] 213))=W at *
 obtain⟨n9,hn9⟩:∃ n9,n9=w2.heap.size+1:=⟨_,rfl⟩
 rw [←hn9] at HM ⊢
 clear hn9
 generalize w2.heap.size=n8 at *
 obtain⟨n4,hn4⟩:∃ n4,n4=w.heap.size+1:=⟨_,rfl⟩
 rw [←hn4] at HM ⊢
 have HN4:Aside0 (w.heap.size≤n4):=⟨by omega⟩
 clear hn4
 obtain⟨n3,hn3⟩:∃ n3,n3=w.heap.size:=⟨_,rfl⟩
 have hH:midF xs ys ((N:Int)+1) (a1-a0-(b1-b0)) (a1-a0) (b1-b0) (N+1) 0 (newRow N) (newRow N)=some (r0,r1,r2):=by
  have:=HH.out
  unfold middleF at this
  rw [←HN.out,HXL.out,HYL.out] at this
  exact this
 have HH2:=Aside0.mk hH
 clear hH HH hn3
 have HXR:Aside0 (∀ u:Int,0≤u→u<a1-a0→rd a (a1-1-u)=rd xs.reverse u):=⟨fun u h0 h1=>by
  rw [rd_reverse xs u h0 (by have:=HXL.out;omega),←HX.out _ (by have:=HXL.out;omega) (by have:=HXL.out;omega)]
  congr 1;have:=HXL.out;omega⟩
 have HYR:Aside0 (∀ u:Int,0≤u→u<b1-b0→rd b (b1-1-u)=rd ys.reverse u):=⟨fun u h0 h1=>by
  rw [rd_reverse ys u h0 (by have:=HYL.out;omega),←HY.out _ (by have:=HYL.out;omega) (by have:=HYL.out;omega)]
  congr 1;have:=HYL.out;omega⟩
 have HXRL:Aside0 ((xs.reverse.length:Int)=a1-a0):=⟨by rw [List.length_reverse];exact HXL.out⟩
 have HYRL:Aside0 ((ys.reverse.length:Int)=b1-b0):=⟨by rw [List.length_reverse];exact HYL.out⟩
 obtain⟨xr,hxr⟩:∃ xr,xr=xs.reverse:=⟨_,rfl⟩
 obtain⟨yr,hyr⟩:∃ yr,yr=ys.reverse:=⟨_,rfl⟩
 rw [←hxr] at HXR HXRL
 rw [←hyr] at HYR HYRL
 have HXrev:=Aside0.mk hxr
 have HYrev:=Aside0.mk hyr
 have gN:a1-a0+(b1-b0)=(N:Int):=G1.out
 have HGN:=Aside0.mk gN
 clear hxr hyr gN
 go_loopg [10] (N+2) (fun gg s10 wr=>∃ (s:Nat) (d:Int) (fore rear:List Int),s≤gg∧s10 = .int .i64 d∧0≤d∧(s:Int)+d≤N+1 ∧
  Aside0 (midF xs ys ((N:Int)+1) (a1-a0-(b1-b0)) (a1-a0) (b1-b0) s d fore rear=some (r0,r1,r2))∧Aside0 (Mid w (2*N+3) w.heap.size n4 n8 n9 gf cf gr cr a0 a1 b0 b1 ((N:Int)+1) fore rear wr))
 case atStart=>exact⟨N+1,0,newRow N,newRow N,by omega,rfl,by omega,by omega,HH2,HM⟩
 case round =>
  clear HH2 HM
  obtain⟨s,d,fore,rear,hg,rfl,hd0,hsd,HH,HM⟩:=hrel
  cases s with
  | zero=>exact absurd HH.out (by simp [midF])
  | succ s =>
   have hh:=HH.out
   simp only [midF] at hh
   have HK:=Aside0.mk hh
   clear hh HH
   have hd1:d≤N:=by omega
   have hd2:d≤20000000000:=by omega
   go_wp2
   obtain⟨wo,rfl⟩:∃ wo:World,wo=wr:=⟨_,rfl⟩
   go_loopg [11] (d.toNat+2) (fun gg s11 wr=>∃ (t:Nat) (k:Int) (far:List Int),t≤gg∧s11 = .int .i64 k∧k+2*(t:Int)=d+2 ∧ -d≤k ∧
       Aside0 ((midK1 (fun fore'=>midK2 (a1-a0) (b1-b0) (fun rear'=>midF xs ys ((N:Int)+1) (a1-a0-(b1-b0)) (a1-a0) (b1-b0) s (d+1) fore' rear') (frontF xr yr fore' ((N:Int)+1) (a1-a0-(b1-b0)) (a1-a0) d d ((a1-a0-(b1-b0)).tmod 2==0) (d+1).toNat (-d) rear))) (frontF xs ys rear ((N:Int)+1) (a1-a0-(b1-b0)) (a1-a0) d (d-1) ((a1-a0-(b1-b0)).tmod 2 != 0) t k far)=some (r0,r1,r2))∧Aside0 (Mid w (2*N+3) w.heap.size n4 n8 n9 gf cf gr cr a0 a1 b0 b1 ((N:Int)+1) far rear wr))
   case atStart=>exact⟨(d+1).toNat,-d,fore,by omega,rfl,by omega,by omega,⟨by rw [HXrev.out,HYrev.out];exact HK.out⟩,HM⟩
   case round =>
    clear HM HK
    obtain⟨t,k,far,hgt,rfl,hkt,hkd,HK,HM⟩:=hrel
    cases t with
    | zero =>
     have hkd1:d<k:=by omega
     have hkd2:decide (k≤d)=false:=decide_eq_false (by omega)
     have hh:=HK.out
     simp only [frontF,midK1] at hh
     have HK2:=Aside0.mk hh
     clear hh HK hkd1 hkd2
     go_wp2
     obtain⟨wo2,rfl⟩:∃ wo2:World,wo2=wr:=⟨_,rfl⟩
     obtain⟨fore,rfl⟩:∃ fo,fo=far:=⟨_,rfl⟩
     go_loopg [15] (d.toNat+2) (fun gg s11 wr=>∃ (t:Nat) (k:Int) (far:List Int),t≤gg∧s11 = .int .i64 k∧k+2*(t:Int)=d+2 ∧ -d≤k ∧
         Aside0 ((midK2 (a1-a0) (b1-b0) (fun rear'=>midF xs ys ((N:Int)+1) (a1-a0-(b1-b0)) (a1-a0) (b1-b0) s (d+1) fore rear')) (frontF xr yr fore ((N:Int)+1) (a1-a0-(b1-b0)) (a1-a0) d d ((a1-a0-(b1-b0)).tmod 2==0) t k far)=some (r0,r1,r2))∧Aside0 (Mid w (2*N+3) w.heap.size n4 n8 n9 gf cf gr cr a0 a1 b0 b1 ((N:Int)+1) fore far wr))
     case atStart=>exact⟨(d+1).toNat,-d,rear,by omega,rfl,by omega,by omega,HK2,HM⟩
     case round =>
      clear HM HK2
      obtain⟨t,k,far,hgt,rfl,hkt,hkd,HK,HM⟩:=hrel
      cases t with
      | zero =>
       have hkd1:d<k:=by omega
       have hkd2:decide (k≤d)=false:=decide_eq_false (by omega)
       have hh:=HK.out
       simp only [frontF,midK2] at hh
       have HH2:=Aside0.mk hh
       clear hh HK
       go_wp2
       go_roundg s
       case measure=>omega
       case rel=>exact⟨s,d+1,fore,far,Nat.le_refl _,by go_num,by omega,by omega,HH2,HM⟩
      | succ t =>
       have hkd1:k≤d:=by omega
       have hkd2:decide (k≤d)=true:=decide_eq_true hkd1
       have hh:=HK.out
       simp only [frontF] at hh
       by_cases hok:okFar xr yr far fore ((N:Int)+1) k d=true
       ·rw [if_pos hok] at hh
        have hok2:=okFar_out hok
        obtain⟨hu0,hu1,hu2,hfb,hob,hu3,hu4⟩:=hok2
        have HFB:=Aside0.mk hfb
        have HOB:=Aside0.mk hob
        have HHH:=Aside0.mk hh
        clear hok hh HK hfb hob
        have HM0:=Aside0.mk HM.out
        have p0:=(blk_cell HM.out.x3 0).trans (rfl:_=some (Value.int .i64 a0))
        have p1:=(blk_cell HM.out.x3 1).trans (rfl:_=some (Value.int .i64 a1))
        have p2:=(blk_cell HM.out.x3 2).trans (rfl:_=some (Value.int .i64 b0))
        have p3:=(blk_cell HM.out.x3 3).trans (rfl:_=some (Value.int .i64 b1))
        have e0:=(blk_cell HM.out.x9 0).trans (rfl:_=some (Value.slice (some ⟨gr,0,none⟩) (2*N+3) cr))
        have e1:=(blk_cell HM.out.x9 1).trans (rfl:_=some (Value.int .i64 ((N:Int)+1)))
        have hcall:=fun W0 (hW:W0=wr)=>back_calls (B:=B) (f:=f) (bf:=gr) (c:=cr) (w:=W0) a0 a1 b0 b1 ((N:Int)+1) k d xr yr (hW▸HF.out.below HM.out.below) (hW▸Kd.C_below HA.out HM.out.below) (hW▸Kd.C_below HC.out HM.out.below) (hW▸HM.out.rr.lower HBw.out) ha0 ha1 ha2 hb0 hb1 hb2 hla hlb hd0 hd2 hkd hkd1 (by omega) (by omega) (by rw [HM.out.lr];omega) HFB.out HXRL.out HYRL.out HXR.out HYR.out hu0 hu1 hu2
        rw [HM.out.lr] at hcall
        have HCALL:=Aside0.mk hcall
        clear hcall
        generalize hbeg:beginI far ((N:Int)+1) k d=u at *
        generalize hsl:slideI xr yr k u=e at *
        clear hbeg hsl
        have tk1:True:=trivial
        by_cases hmet:metB ((a1-a0-(b1-b0)).tmod 2==0) fore ((N:Int)+1) (a1-a0-(b1-b0)-k) d (a1-a0) e=true
        ·rw [if_pos hmet] at HHH
         obtain⟨m1,m2',m3',m4,m5'⟩:=metB_true hmet
         have m2:=decide_eq_true m2'
         have m3:=decide_eq_true m3'
         have m5:=decide_eq_true m5'
         have ix0:0≤(N:Int)+1+(a1-a0-(b1-b0)-k):=by omega
         have ix1:(N:Int)+1+(a1-a0-(b1-b0)-k)<((2*N+3:Nat):Int):=by omega
         have ro:=rd_bound HOB.out ((N:Int)+1+(a1-a0-(b1-b0)-k))
         have ro0:=ro.1
         have ro1:=ro.2
         have hr:=HHH.out
         simp only [midK2] at hr
         have HRR:=Aside0.mk hr
         clear hmet m2' m3' m5' HHH hr ro
         go_wp2_with (first|(go_at_call 171;refine (HCALL.out _ rfl).mono ?_;rintro en W3 ⟨rfl,W1,hb1,rfl⟩;have HM2:=Aside0.mk (HM0.out.rear hb1 ((N:Int)+1+k) e);clear hb1 HCALL HM HM0 p0 p1 p2 p3 e0 e1;generalize W1.setCell ⟨gr,((N:Int)+1+k).toNat,none⟩ (.int .i64 e)=W2 at HM2 ⊢;have p0:=(blk_cell HM2.out.x3 0).trans (rfl:_=some (Value.int .i64 a0));have p1:=(blk_cell HM2.out.x3 1).trans (rfl:_=some (Value.int .i64 a1));have p2:=(blk_cell HM2.out.x3 2).trans (rfl:_=some (Value.int .i64 b0));have p3:=(blk_cell HM2.out.x3 3).trans (rfl:_=some (Value.int .i64 b1));have z0:=(blk_cell HM2.out.x4 0).trans (rfl:_=some (Value.int .i64 0));have y0:=Lib.frozen_of_heap HM2.out.x4 0;have z1:=(blk_cell HM2.out.x4 1).trans (rfl:_=some (Value.int .i64 0));have y1:=Lib.frozen_of_heap HM2.out.x4 1;have z2:=(blk_cell HM2.out.x4 2).trans (rfl:_=some (Value.int .i64 0));have y2:=Lib.frozen_of_heap HM2.out.x4 2;have z3:=(blk_cell HM2.out.x4 3).trans (rfl:_=some (Value.int .i64 0));have y3:=Lib.frozen_of_heap HM2.out.x4 3;have e0:=(blk_cell HM2.out.x8 0).trans (rfl:_=some (Value.slice (some ⟨gf,0,none⟩) (2*N+3) cf));have e1:=(blk_cell HM2.out.x8 1).trans (rfl:_=some (Value.int .i64 ((N:Int)+1)));have ec:=(Kd.R_celln (0:Int) HM2.out.rf ((N:Int)+1+(a1-a0-(b1-b0)-k)) ix0 (by rw [HM2.out.lf];exact ix1)).1;rw [rdOf_rd] at ec))
         refine bodyPost_ret (v := .agg #[.int .i64 (a1-e),.int .i64 (b1-(e-k)),.int .i64 (e-u),.int .i64 (2*d)]) (by simp [results,Try.results167,go_sem,z0,z1,z2,z3]) rfl ?_
         have hrr:=HRR.out
         have hrr1:=Option.some.inj hrr
         simp only [Prod.mk.injEq] at hrr1
         obtain⟨k1,k2,k3⟩:=hrr1
         refine⟨⟨2*d,?_⟩,(((HM2.out.below.setCell (p:=⟨n4,0,none⟩) HN4.out _).setCell (p:=⟨n4,1,none⟩) HN4.out _).setCell (p:=⟨n4,2,none⟩) HN4.out _).setCell (p:=⟨n4,3,none⟩) HN4.out _⟩
         rw [←k1,←k2,←k3,show a1-e=a0+(a1-a0-e) by omega,show b1-(e-k)=b0+(b1-b0-(e-k)) by omega]
        ·rw [if_neg hmet] at HHH
         have hm:=metB_false hmet
         have hc0:=HHH
         clear hmet
         rcases hm with m1|⟨m1,m2⟩|⟨m1,m2,m3⟩|⟨m1,m2,m3,m4⟩|⟨m1,m2,m3,m4,m5⟩
         ·clear hc0
          go_wp2_with (first|(go_at_call 171;refine (HCALL.out _ rfl).mono ?_;rintro en W3 ⟨rfl,W1,hb1,rfl⟩;have HM2:=Aside0.mk (HM0.out.rear hb1 ((N:Int)+1+k) e);clear hb1 HCALL HM HM0 p0 p1 p2 p3 e0 e1;generalize W1.setCell ⟨gr,((N:Int)+1+k).toNat,none⟩ (.int .i64 e)=W2 at HM2 ⊢;have p0:=(blk_cell HM2.out.x3 0).trans (rfl:_=some (Value.int .i64 a0));have p1:=(blk_cell HM2.out.x3 1).trans (rfl:_=some (Value.int .i64 a1));have p2:=(blk_cell HM2.out.x3 2).trans (rfl:_=some (Value.int .i64 b0));have p3:=(blk_cell HM2.out.x3 3).trans (rfl:_=some (Value.int .i64 b1))))
          go_roundg t
          case measure=>omega
          case rel=>exact⟨t,k+2,far.set ((N:Int)+1+k).toNat e,Nat.le_refl _,by go_num,by omega,by omega,HHH,HM2⟩
         ·clear hc0
          go_wp2_with (first|(go_at_call 171;refine (HCALL.out _ rfl).mono ?_;rintro en W3 ⟨rfl,W1,hb1,rfl⟩;have HM2:=Aside0.mk (HM0.out.rear hb1 ((N:Int)+1+k) e);clear hb1 HCALL HM HM0 p0 p1 p2 p3 e0 e1;generalize W1.setCell ⟨gr,((N:Int)+1+k).toNat,none⟩ (.int .i64 e)=W2 at HM2 ⊢;have p0:=(blk_cell HM2.out.x3 0).trans (rfl:_=some (Value.int .i64 a0));have p1:=(blk_cell HM2.out.x3 1).trans (rfl:_=some (Value.int .i64 a1));have p2:=(blk_cell HM2.out.x3 2).trans (rfl:_=some (Value.int .i64 b0));have p3:=(blk_cell HM2.out.x3 3).trans (rfl:_=some (Value.int .i64 b1))))
          go_roundg t
          case measure=>omega
          case rel=>exact⟨t,k+2,far.set ((N:Int)+1+k).toNat e,Nat.le_refl _,by go_num,by omega,by omega,HHH,HM2⟩
         ·clear hc0
          go_wp2_with (first|(go_at_call 171;refine (HCALL.out _ rfl).mono ?_;rintro en W3 ⟨rfl,W1,hb1,rfl⟩;have HM2:=Aside0.mk (HM0.out.rear hb1 ((N:Int)+1+k) e);clear hb1 HCALL HM HM0 p0 p1 p2 p3 e0 e1;generalize W1.setCell ⟨gr,((N:Int)+1+k).toNat,none⟩ (.int .i64 e)=W2 at HM2 ⊢;have p0:=(blk_cell HM2.out.x3 0).trans (rfl:_=some (Value.int .i64 a0));have p1:=(blk_cell HM2.out.x3 1).trans (rfl:_=some (Value.int .i64 a1));have p2:=(blk_cell HM2.out.x3 2).trans (rfl:_=some (Value.int .i64 b0));have p3:=(blk_cell HM2.out.x3 3).trans (rfl:_=some (Value.int .i64 b1))))
          go_roundg t
          case measure=>omega
          case rel=>exact⟨t,k+2,far.set ((N:Int)+1+k).toNat e,Nat.le_refl _,by go_num,by omega,by omega,HHH,HM2⟩
         ·clear hc0
          have n2:=of_decide_eq_true m2
          have n3:=of_decide_eq_true m3
          have ix0:0≤(N:Int)+1+(a1-a0-(b1-b0)-k):=by omega
          have ix1:(N:Int)+1+(a1-a0-(b1-b0)-k)<((2*N+3:Nat):Int):=by omega
          have ro:=rd_bound HOB.out ((N:Int)+1+(a1-a0-(b1-b0)-k))
          have ro0:=ro.1
          have ro1:=ro.2
          clear n2 n3 ro
          go_wp2_with (first|(go_at_call 171;refine (HCALL.out _ rfl).mono ?_;rintro en W3 ⟨rfl,W1,hb1,rfl⟩;have HM2:=Aside0.mk (HM0.out.rear hb1 ((N:Int)+1+k) e);clear hb1 HCALL HM HM0 p0 p1 p2 p3 e0 e1;generalize W1.setCell ⟨gr,((N:Int)+1+k).toNat,none⟩ (.int .i64 e)=W2 at HM2 ⊢;have p0:=(blk_cell HM2.out.x3 0).trans (rfl:_=some (Value.int .i64 a0));have p1:=(blk_cell HM2.out.x3 1).trans (rfl:_=some (Value.int .i64 a1));have p2:=(blk_cell HM2.out.x3 2).trans (rfl:_=some (Value.int .i64 b0));have p3:=(blk_cell HM2.out.x3 3).trans (rfl:_=some (Value.int .i64 b1));have z0:=(blk_cell HM2.out.x4 0).trans (rfl:_=some (Value.int .i64 0));have y0:=Lib.frozen_of_heap HM2.out.x4 0;have z1:=(blk_cell HM2.out.x4 1).trans (rfl:_=some (Value.int .i64 0));have y1:=Lib.frozen_of_heap HM2.out.x4 1;have z2:=(blk_cell HM2.out.x4 2).trans (rfl:_=some (Value.int .i64 0));have y2:=Lib.frozen_of_heap HM2.out.x4 2;have z3:=(blk_cell HM2.out.x4 3).trans (rfl:_=some (Value.int .i64 0));have y3:=Lib.frozen_of_heap HM2.out.x4 3;have e0:=(blk_cell HM2.out.x8 0).trans (rfl:_=some (Value.slice (some ⟨gf,0,none⟩) (2*N+3) cf));have e1:=(blk_cell HM2.out.x8 1).trans (rfl:_=some (Value.int .i64 ((N:Int)+1)));have ec:=(Kd.R_celln (0:Int) HM2.out.rf ((N:Int)+1+(a1-a0-(b1-b0)-k)) ix0 (by rw [HM2.out.lf];exact ix1)).1;rw [rdOf_rd] at ec))
          go_roundg t
          case measure=>omega
          case rel=>exact⟨t,k+2,far.set ((N:Int)+1+k).toNat e,Nat.le_refl _,by go_num,by omega,by omega,HHH,HM2⟩
         ·clear hc0
          have n2:=of_decide_eq_true m2
          have n3:=of_decide_eq_true m3
          have ix0:0≤(N:Int)+1+(a1-a0-(b1-b0)-k):=by omega
          have ix1:(N:Int)+1+(a1-a0-(b1-b0)-k)<((2*N+3:Nat):Int):=by omega
          have ro:=rd_bound HOB.out ((N:Int)+1+(a1-a0-(b1-b0)-k))
          have ro0:=ro.1
          have ro1:=ro.2
          clear n2 n3 ro
          go_wp2_with (first|(go_at_call 171;refine (HCALL.out _ rfl).mono ?_;rintro en W3 ⟨rfl,W1,hb1,rfl⟩;have HM2:=Aside0.mk (HM0.out.rear hb1 ((N:Int)+1+k) e);clear hb1 HCALL HM HM0 p0 p1 p2 p3 e0 e1;generalize W1.setCell ⟨gr,((N:Int)+1+k).toNat,none⟩ (.int .i64 e)=W2 at HM2 ⊢;have p0:=(blk_cell HM2.out.x3 0).trans (rfl:_=some (Value.int .i64 a0));have p1:=(blk_cell HM2.out.x3 1).trans (rfl:_=some (Value.int .i64 a1));have p2:=(blk_cell HM2.out.x3 2).trans (rfl:_=some (Value.int .i64 b0));have p3:=(blk_cell HM2.out.x3 3).trans (rfl:_=some (Value.int .i64 b1));have z0:=(blk_cell HM2.out.x4 0).trans (rfl:_=some (Value.int .i64 0));have y0:=Lib.frozen_of_heap HM2.out.x4 0;have z1:=(blk_cell HM2.out.x4 1).trans (rfl:_=some (Value.int .i64 0));have y1:=Lib.frozen_of_heap HM2.out.x4 1;have z2:=(blk_cell HM2.out.x4 2).trans (rfl:_=some (Value.int .i64 0));have y2:=Lib.frozen_of_heap HM2.out.x4 2;have z3:=(blk_cell HM2.out.x4 3).trans (rfl:_=some (Value.int .i64 0));have y3:=Lib.frozen_of_heap HM2.out.x4 3;have e0:=(blk_cell HM2.out.x8 0).trans (rfl:_=some (Value.slice (some ⟨gf,0,none⟩) (2*N+3) cf));have e1:=(blk_cell HM2.out.x8 1).trans (rfl:_=some (Value.int .i64 ((N:Int)+1)));have ec:=(Kd.R_celln (0:Int) HM2.out.rf ((N:Int)+1+(a1-a0-(b1-b0)-k)) ix0 (by rw [HM2.out.lf];exact ix1)).1;rw [rdOf_rd] at ec))
          go_roundg t
          case measure=>omega
          case rel=>exact⟨t,k+2,far.set ((N:Int)+1+k).toNat e,Nat.le_refl _,by go_num,by omega,by omega,HHH,HM2⟩
       ·rw [if_neg hok] at hh
        exact absurd hh (by simp [midK2])
    | succ t =>
     have hkd1:k≤d:=by omega
     have hkd2:decide (k≤d)=true:=decide_eq_true hkd1
     have hh:=HK.out
     simp only [frontF] at hh
     by_cases hok:okFar xs ys far rear ((N:Int)+1) k d=true
     ·rw [if_pos hok] at hh
      have hok2:=okFar_out hok
      obtain⟨hu0,hu1,hu2,hfb,hob,hu3,hu4⟩:=hok2
      have HFB:=Aside0.mk hfb
      have HOB:=Aside0.mk hob
      have HHH:=Aside0.mk hh
      clear hok hh HK hfb hob
      have HM0:=Aside0.mk HM.out
      have p0:=(blk_cell HM.out.x3 0).trans (rfl:_=some (Value.int .i64 a0))
      have p1:=(blk_cell HM.out.x3 1).trans (rfl:_=some (Value.int .i64 a1))
      have p2:=(blk_cell HM.out.x3 2).trans (rfl:_=some (Value.int .i64 b0))
      have p3:=(blk_cell HM.out.x3 3).trans (rfl:_=some (Value.int .i64 b1))
      have e0:=(blk_cell HM.out.x8 0).trans (rfl:_=some (Value.slice (some ⟨gf,0,none⟩) (2*N+3) cf))
      have e1:=(blk_cell HM.out.x8 1).trans (rfl:_=some (Value.int .i64 ((N:Int)+1)))
      have hcall:=fun W0 (hW:W0=wr)=>forth_calls (B:=B) (f:=f) (bf:=gf) (c:=cf) (w:=W0) a0 a1 b0 b1 ((N:Int)+1) k d xs ys (hW▸HF.out.below HM.out.below) (hW▸Kd.C_below HA.out HM.out.below) (hW▸Kd.C_below HC.out HM.out.below) (hW▸HM.out.rf.lower HBw.out) ha0 ha1 ha2 hb0 hb1 hb2 hla hlb hd0 hd2 hkd hkd1 (by omega) (by omega) (by rw [HM.out.lf];omega) HFB.out HXL.out HYL.out HX.out HY.out hu0 hu1 hu2
      rw [HM.out.lf] at hcall
      have HCALL:=Aside0.mk hcall
      clear hcall
      generalize hbeg:beginI far ((N:Int)+1) k d=u at *
      generalize hsl:slideI xs ys k u=e at *
      clear hbeg hsl
      have tk1:True:=trivial
      by_cases hmet:metB ((a1-a0-(b1-b0)).tmod 2 != 0) rear ((N:Int)+1) (a1-a0-(b1-b0)-k) (d-1) (a1-a0) e=true
      ·rw [if_pos hmet] at HHH
       obtain⟨m1,m2',m3',m4,m5'⟩:=metB_true hmet
       have m2:=decide_eq_true m2'
       have m3:=decide_eq_true m3'
       have m5:=decide_eq_true m5'
       have ix0:0≤(N:Int)+1+(a1-a0-(b1-b0)-k):=by omega
       have ix1:(N:Int)+1+(a1-a0-(b1-b0)-k)<((2*N+3:Nat):Int):=by omega
       have ro:=rd_bound HOB.out ((N:Int)+1+(a1-a0-(b1-b0)-k))
       have ro0:=ro.1
       have ro1:=ro.2
       have hr:=HHH.out
       simp only [midK1] at hr
       have HRR:=Aside0.mk hr
       clear hmet m2' m3' m5' HHH hr ro
       go_wp2_with (first|(go_at_call 170;refine (HCALL.out _ rfl).mono ?_;rintro en W3 ⟨rfl,W1,hb1,rfl⟩;have HM2:=Aside0.mk (HM0.out.fore hb1 ((N:Int)+1+k) e);clear hb1 HCALL HM HM0 p0 p1 p2 p3 e0 e1;generalize W1.setCell ⟨gf,((N:Int)+1+k).toNat,none⟩ (.int .i64 e)=W2 at HM2 ⊢;have p0:=(blk_cell HM2.out.x3 0).trans (rfl:_=some (Value.int .i64 a0));have p1:=(blk_cell HM2.out.x3 1).trans (rfl:_=some (Value.int .i64 a1));have p2:=(blk_cell HM2.out.x3 2).trans (rfl:_=some (Value.int .i64 b0));have p3:=(blk_cell HM2.out.x3 3).trans (rfl:_=some (Value.int .i64 b1));have z0:=(blk_cell HM2.out.x4 0).trans (rfl:_=some (Value.int .i64 0));have y0:=Lib.frozen_of_heap HM2.out.x4 0;have z1:=(blk_cell HM2.out.x4 1).trans (rfl:_=some (Value.int .i64 0));have y1:=Lib.frozen_of_heap HM2.out.x4 1;have z2:=(blk_cell HM2.out.x4 2).trans (rfl:_=some (Value.int .i64 0));have y2:=Lib.frozen_of_heap HM2.out.x4 2;have z3:=(blk_cell HM2.out.x4 3).trans (rfl:_=some (Value.int .i64 0));have y3:=Lib.frozen_of_heap HM2.out.x4 3;have e0:=(blk_cell HM2.out.x9 0).trans (rfl:_=some (Value.slice (some ⟨gr,0,none⟩) (2*N+3) cr));have e1:=(blk_cell HM2.out.x9 1).trans (rfl:_=some (Value.int .i64 ((N:Int)+1)));have ec:=(Kd.R_celln (0:Int) HM2.out.rr ((N:Int)+1+(a1-a0-(b1-b0)-k)) ix0 (by rw [HM2.out.lr];exact ix1)).1;rw [rdOf_rd] at ec))
       refine bodyPost_ret (v := .agg #[.int .i64 (a0+u),.int .i64 (b0+u-k),.int .i64 (e-u),.int .i64 (2*d-1)]) (by simp [results,Try.results167,go_sem,z0,z1,z2,z3]) rfl ?_
       have hrr:=HRR.out
       have hrr1:=Option.some.inj hrr
       simp only [Prod.mk.injEq] at hrr1
       obtain⟨k1,k2,k3⟩:=hrr1
       refine⟨⟨2*d-1,?_⟩,(((HM2.out.below.setCell (p:=⟨n4,0,none⟩) HN4.out _).setCell (p:=⟨n4,1,none⟩) HN4.out _).setCell (p:=⟨n4,2,none⟩) HN4.out _).setCell (p:=⟨n4,3,none⟩) HN4.out _⟩
       rw [←k1,←k2,←k3,show b0+u-k=b0+(u-k) by omega]
      ·rw [if_neg hmet] at HHH
       have hm:=metB_false hmet
       have hc0:=HHH
       clear hmet
       rcases hm with m1|⟨m1,m2⟩|⟨m1,m2,m3⟩|⟨m1,m2,m3,m4⟩|⟨m1,m2,m3,m4,m5⟩
       ·clear hc0
        go_wp2_with (first|(go_at_call 170;refine (HCALL.out _ rfl).mono ?_;rintro en W3 ⟨rfl,W1,hb1,rfl⟩;have HM2:=Aside0.mk (HM0.out.fore hb1 ((N:Int)+1+k) e);clear hb1 HCALL HM HM0 p0 p1 p2 p3 e0 e1;generalize W1.setCell ⟨gf,((N:Int)+1+k).toNat,none⟩ (.int .i64 e)=W2 at HM2 ⊢;have p0:=(blk_cell HM2.out.x3 0).trans (rfl:_=some (Value.int .i64 a0));have p1:=(blk_cell HM2.out.x3 1).trans (rfl:_=some (Value.int .i64 a1));have p2:=(blk_cell HM2.out.x3 2).trans (rfl:_=some (Value.int .i64 b0));have p3:=(blk_cell HM2.out.x3 3).trans (rfl:_=some (Value.int .i64 b1))))
        go_roundg t
        case measure=>omega
        case rel=>exact⟨t,k+2,far.set ((N:Int)+1+k).toNat e,Nat.le_refl _,by go_num,by omega,by omega,HHH,HM2⟩
       ·clear hc0
        go_wp2_with (first|(go_at_call 170;refine (HCALL.out _ rfl).mono ?_;rintro en W3 ⟨rfl,W1,hb1,rfl⟩;have HM2:=Aside0.mk (HM0.out.fore hb1 ((N:Int)+1+k) e);clear hb1 HCALL HM HM0 p0 p1 p2 p3 e0 e1;generalize W1.setCell ⟨gf,((N:Int)+1+k).toNat,none⟩ (.int .i64 e)=W2 at HM2 ⊢;have p0:=(blk_cell HM2.out.x3 0).trans (rfl:_=some (Value.int .i64 a0));have p1:=(blk_cell HM2.out.x3 1).trans (rfl:_=some (Value.int .i64 a1));have p2:=(blk_cell HM2.out.x3 2).trans (rfl:_=some (Value.int .i64 b0));have p3:=(blk_cell HM2.out.x3 3).trans (rfl:_=some (Value.int .i64 b1))))
        go_roundg t
        case measure=>omega
        case rel=>exact⟨t,k+2,far.set ((N:Int)+1+k).toNat e,Nat.le_refl _,by go_num,by omega,by omega,HHH,HM2⟩
       ·clear hc0
        go_wp2_with (first|(go_at_call 170;refine (HCALL.out _ rfl).mono ?_;rintro en W3 ⟨rfl,W1,hb1,rfl⟩;have HM2:=Aside0.mk (HM0.out.fore hb1 ((N:Int)+1+k) e);clear hb1 HCALL HM HM0 p0 p1 p2 p3 e0 e1;generalize W1.setCell ⟨gf,((N:Int)+1+k).toNat,none⟩ (.int .i64 e)=W2 at HM2 ⊢;have p0:=(blk_cell HM2.out.x3 0).trans (rfl:_=some (Value.int .i64 a0));have p1:=(blk_cell HM2.out.x3 1).trans (rfl:_=some (Value.int .i64 a1));have p2:=(blk_cell HM2.out.x3 2).trans (rfl:_=some (Value.int .i64 b0));have p3:=(blk_cell HM2.out.x3 3).trans (rfl:_=some (Value.int .i64 b1))))
        go_roundg t
        case measure=>omega
        case rel=>exact⟨t,k+2,far.set ((N:Int)+1+k).toNat e,Nat.le_refl _,by go_num,by omega,by omega,HHH,HM2⟩
       ·clear hc0
        have n2:=of_decide_eq_true m2
        have n3:=of_decide_eq_true m3
        have ix0:0≤(N:Int)+1+(a1-a0-(b1-b0)-k):=by omega
        have ix1:(N:Int)+1+(a1-a0-(b1-b0)-k)<((2*N+3:Nat):Int):=by omega
        have ro:=rd_bound HOB.out ((N:Int)+1+(a1-a0-(b1-b0)-k))
        have ro0:=ro.1
        have ro1:=ro.2
        clear n2 n3 ro
        go_wp2_with (first|(go_at_call 170;refine (HCALL.out _ rfl).mono ?_;rintro en W3 ⟨rfl,W1,hb1,rfl⟩;have HM2:=Aside0.mk (HM0.out.fore hb1 ((N:Int)+1+k) e);clear hb1 HCALL HM HM0 p0 p1 p2 p3 e0 e1;generalize W1.setCell ⟨gf,((N:Int)+1+k).toNat,none⟩ (.int .i64 e)=W2 at HM2 ⊢;have p0:=(blk_cell HM2.out.x3 0).trans (rfl:_=some (Value.int .i64 a0));have p1:=(blk_cell HM2.out.x3 1).trans (rfl:_=some (Value.int .i64 a1));have p2:=(blk_cell HM2.out.x3 2).trans (rfl:_=some (Value.int .i64 b0));have p3:=(blk_cell HM2.out.x3 3).trans (rfl:_=some (Value.int .i64 b1));have z0:=(blk_cell HM2.out.x4 0).trans (rfl:_=some (Value.int .i64 0));have y0:=Lib.frozen_of_heap HM2.out.x4 0;have z1:=(blk_cell HM2.out.x4 1).trans (rfl:_=some (Value.int .i64 0));have y1:=Lib.frozen_of_heap HM2.out.x4 1;have z2:=(blk_cell HM2.out.x4 2).trans (rfl:_=some (Value.int .i64 0));have y2:=Lib.frozen_of_heap HM2.out.x4 2;have z3:=(blk_cell HM2.out.x4 3).trans (rfl:_=some (Value.int .i64 0));have y3:=Lib.frozen_of_heap HM2.out.x4 3;have e0:=(blk_cell HM2.out.x9 0).trans (rfl:_=some (Value.slice (some ⟨gr,0,none⟩) (2*N+3) cr));have e1:=(blk_cell HM2.out.x9 1).trans (rfl:_=some (Value.int .i64 ((N:Int)+1)));have ec:=(Kd.R_celln (0:Int) HM2.out.rr ((N:Int)+1+(a1-a0-(b1-b0)-k)) ix0 (by rw [HM2.out.lr];exact ix1)).1;rw [rdOf_rd] at ec))
        go_roundg t
        case measure=>omega
        case rel=>exact⟨t,k+2,far.set ((N:Int)+1+k).toNat e,Nat.le_refl _,by go_num,by omega,by omega,HHH,HM2⟩
       ·clear hc0
        have n2:=of_decide_eq_true m2
        have n3:=of_decide_eq_true m3
        have ix0:0≤(N:Int)+1+(a1-a0-(b1-b0)-k):=by omega
        have ix1:(N:Int)+1+(a1-a0-(b1-b0)-k)<((2*N+3:Nat):Int):=by omega
        have ro:=rd_bound HOB.out ((N:Int)+1+(a1-a0-(b1-b0)-k))
        have ro0:=ro.1
        have ro1:=ro.2
        clear n2 n3 ro
        go_wp2_with (first|(go_at_call 170;refine (HCALL.out _ rfl).mono ?_;rintro en W3 ⟨rfl,W1,hb1,rfl⟩;have HM2:=Aside0.mk (HM0.out.fore hb1 ((N:Int)+1+k) e);clear hb1 HCALL HM HM0 p0 p1 p2 p3 e0 e1;generalize W1.setCell ⟨gf,((N:Int)+1+k).toNat,none⟩ (.int .i64 e)=W2 at HM2 ⊢;have p0:=(blk_cell HM2.out.x3 0).trans (rfl:_=some (Value.int .i64 a0));have p1:=(blk_cell HM2.out.x3 1).trans (rfl:_=some (Value.int .i64 a1));have p2:=(blk_cell HM2.out.x3 2).trans (rfl:_=some (Value.int .i64 b0));have p3:=(blk_cell HM2.out.x3 3).trans (rfl:_=some (Value.int .i64 b1));have z0:=(blk_cell HM2.out.x4 0).trans (rfl:_=some (Value.int .i64 0));have y0:=Lib.frozen_of_heap HM2.out.x4 0;have z1:=(blk_cell HM2.out.x4 1).trans (rfl:_=some (Value.int .i64 0));have y1:=Lib.frozen_of_heap HM2.out.x4 1;have z2:=(blk_cell HM2.out.x4 2).trans (rfl:_=some (Value.int .i64 0));have y2:=Lib.frozen_of_heap HM2.out.x4 2;have z3:=(blk_cell HM2.out.x4 3).trans (rfl:_=some (Value.int .i64 0));have y3:=Lib.frozen_of_heap HM2.out.x4 3;have e0:=(blk_cell HM2.out.x9 0).trans (rfl:_=some (Value.slice (some ⟨gr,0,none⟩) (2*N+3) cr));have e1:=(blk_cell HM2.out.x9 1).trans (rfl:_=some (Value.int .i64 ((N:Int)+1)));have ec:=(Kd.R_celln (0:Int) HM2.out.rr ((N:Int)+1+(a1-a0-(b1-b0)-k)) ix0 (by rw [HM2.out.lr];exact ix1)).1;rw [rdOf_rd] at ec))
        go_roundg t
        case measure=>omega
        case rel=>exact⟨t,k+2,far.set ((N:Int)+1+k).toNat e,Nat.le_refl _,by go_num,by omega,by omega,HHH,HM2⟩
     ·rw [if_neg hok] at hh
      exact absurd hh (by simp [midK1])
end Go.Proofs.Ytfiamddinkokbaa.F
