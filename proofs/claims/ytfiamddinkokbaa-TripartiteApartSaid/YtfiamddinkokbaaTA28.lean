/- Texts joined into one file (wip/tools/pack.py): BuildDoc, Count, Fn105, Fn38, Fn132 -/
import Derived.Test.YtfiamddinkokbaaTA27
import Derived.Test.YtfiamddinkokbaaTA26
import Derived.Test.YtfiamddinkokbaaTA15
import Derived.Test.YtfiamddinkokbaaTA16
import Derived.Test.YtfiamddinkokbaaTA6
import Derived.Test.YtfiamddinkokbaaTA3
import Derived.Test.YtfiamddinkokbaaTA13
set_option linter.unusedVariables false
set_option linter.unusedSimpArgs false
section
namespace Go.Proofs.Ytfiamddinkokbaa.F
open Go.RowKit Go.Shelf Go.Proofs.YtfiamddinkokbaaW.PrintWords
abbrev SCh := S91
def docL (k : Nat) (B L R : List ByteArray) (st fv : Int) (g0 g1 g2 : ByteArray) : List SCh→List PP→Option (List PP)
 | [],acc=>some acc
 | c::cs,acc=>(build_Files_cut.f k B L R c.f0 c.f1.f0 c.f1.f1 c.f2.f0 c.f2.f1 c.f3.f0 c.f3.f1).bind fun t =>
   (piecePs st fv g0 g1 g2 t.2.2.2.2.2.2.2.2.2.2 t.2.2.2.2.2.2.2.1 t.2.2.2.2.2.2.2.2.1 t.2.2.2.2.2.2.2.2.2.1).bind fun ps=>if acc.length≤1000000000 then docL k B L R st fv g0 g1 g2 cs (acc++ps) else none
def docF (k : Nat) (B L R : List ByteArray) (l : List SCh) (st : Int) (g0 g1 g2 : ByteArray) (fv : Int) : Option (List PP×Int) :=
 if st<0∨2<st∨(fv≠0∧fv≠1∧fv≠3) then some ([],5)
 else (doc_Labels_Plain.f g0 g1 g2).bind fun t=>if t=true then (docL k B L R st fv g0 g1 g2 l []).bind fun ps=>(doc_Of.f k ps).bind fun d=>some (d,0) else some ([],3)
theorem docL_mono (B L R : List ByteArray) (st fv : Int) (g0 g1 g2 : ByteArray) (k : Nat) : ∀ (l : List SCh) (acc : List PP),LeO (docL k B L R st fv g0 g1 g2 l acc) (docL (k+1) B L R st fv g0 g1 g2 l acc)
 | [],acc=>LeO.refl _
 | c::cs,acc=>LeO.bind (build_Files_cut.mono _ _ _ _ _ _ _ _ _ _ k) (fun t=>LeO.bind (LeO.refl _) (fun ps=>LeO.ite (docL_mono B L R st fv g0 g1 g2 k cs _) (LeO.refl _)))
theorem doc_mono : ∀ B L R l st g0 g1 g2 fv k,LeO (docF k B L R l st g0 g1 g2 fv) (docF (k+1) B L R l st g0 g1 g2 fv) := fun B L R l st g0 g1 g2 fv k=>by
 unfold docF
 exact LeO.ite (LeO.refl _) (LeO.bind (LeO.refl _) (fun t=>LeO.ite (LeO.bind (docL_mono _ _ _ _ _ _ _ _ k _ _) (fun ps=>LeO.bind (doc_Of.mono _ k) (fun d=>LeO.refl _))) (LeO.refl _)))
theorem stays_R {f base : Nat} {ok : Nat→Prop} {w : World} {v : Value} {xs : List ByteArray} {cs : Array Value} {T : TypeId} (h : Kd.R Kd.string 9 w base ok v xs) (hf : w.heap[f]? = some (.cells cs T (0,0))) (hT : T≠9) : ∃ A c,v = .slice A xs.length c∧Stays f w A c xs := by
 obtain⟨A,c,rfl,hc,_⟩:=Kd.R_reads h
 refine⟨A,c,rfl,hc,fun W hk=>?_⟩
 refine (Kd.R_reads' (Kd.R_move (Kd.R_bound h) (w1:=W) (fun k hk2=>?_))).2.2
 obtain⟨_,_,_,q,hq,cells,hcell⟩:=hk2
 have hq9:q=9:=by
  rcases List.mem_cons.1 hq with e|e
  ·exact e
  ·cases e
 subst hq9
 refine hk k cells _ _ hcell (by decide) (fun e=>?_)
 subst e
 rw [hcell] at hf
 injection hf with hf
 injection hf with _ hf _
 exact hT hf.symm
set_option maxHeartbeats 8000000 in
set_option maxRecDepth 100000 in
theorem doc_bad (A0 : Option Addr) (c0 : Nat) (B : List ByteArray) (A1 : Option Addr) (c1 : Nat) (L : List ByteArray) (A2 : Option Addr) (c2 : Nat) (R : List ByteArray) (A3 : Option Addr) (c3 : Nat) (l : List SCh) (st : Int) (g0 g1 g2 : ByteArray) (fv : Int) (w : World) (hbad : st<0∨2<st∨(fv≠0∧fv≠1∧fv≠3)) :
  Calls Try.prog 104 #[.agg #[.slice A0 B.length c0,.slice A1 L.length c1,.slice A2 R.length c2],.slice A3 l.length c3,.int .i64 st,.agg #[.string g0,.string g1,.string g2],.int .i64 fv] w fun e w'=>∃ v0_:Value,e = .returned (.tuple #[v0_,.int .i64 5])∧Kd.R k106 106 w' w.heap.size (fun _=>True) v0_ []∧Below w.heap.size w w':=by
 by_cases h1:st<0
 ·have q1:decide (st<0)=true:=decide_eq_true h1
  clear hbad
  go_enter Try.func104,Try.ntmps104
  go_wp2
  go_ret2
  exact⟨_,rfl,Kd.R_nil _ _ _ _ _,below_alloc (below_alloc (Below.refl _ _) _) _⟩
 have q1:decide (st<0)=false:=decide_eq_false h1
 by_cases h2:2<st
 ·have q2:decide (2<st)=true:=decide_eq_true h2
  clear hbad h1
  go_enter Try.func104,Try.ntmps104
  go_wp2
  go_ret2
  exact⟨_,rfl,Kd.R_nil _ _ _ _ _,below_alloc (below_alloc (Below.refl _ _) _) _⟩
 have q2:decide (2<st)=false:=decide_eq_false h2
 obtain⟨f0,f1,f3⟩:fv≠0∧fv≠1∧fv≠3:=by
  rcases hbad with h|h|h
  ·exact absurd h h1
  ·exact absurd h h2
  ·exact h
 have q3:(fv != (0:Int))=true:=bne_iff_ne.2 f0
 have q4:(fv != (1:Int))=true:=bne_iff_ne.2 f1
 have q5:(fv != (3:Int))=true:=bne_iff_ne.2 f3
 clear hbad h1 h2 f0 f1 f3
 go_enter Try.func104,Try.ntmps104
 go_wp2
 go_ret2
 exact⟨_,rfl,Kd.R_nil _ _ _ _ _,below_alloc (below_alloc (Below.refl _ _) _) _⟩
set_option maxHeartbeats 8000000 in
set_option maxRecDepth 100000 in
theorem doc_label (A0 : Option Addr) (c0 : Nat) (B : List ByteArray) (A1 : Option Addr) (c1 : Nat) (L : List ByteArray) (A2 : Option Addr) (c2 : Nat) (R : List ByteArray) (A3 : Option Addr) (c3 : Nat) (l : List SCh) (st : Int) (g0 g1 g2 : ByteArray) (fv : Int) (w : World) (h1 : ¬ st<0) (h2 : ¬ 2<st) (h3 : fv=0∨fv=1∨fv=3) (hp : doc_Labels_Plain.f g0 g1 g2=some false) :
  Calls Try.prog 104 #[.agg #[.slice A0 B.length c0,.slice A1 L.length c1,.slice A2 R.length c2],.slice A3 l.length c3,.int .i64 st,.agg #[.string g0,.string g1,.string g2],.int .i64 fv] w fun e w'=>∃ v0_:Value,e = .returned (.tuple #[v0_,.int .i64 3])∧Kd.R k106 106 w' w.heap.size (fun _=>True) v0_ []∧Below w.heap.size w w':=by
 have q1:decide (st<0)=false:=decide_eq_false h1
 have q2:decide (2<st)=false:=decide_eq_false h2
 have HP:=Aside0.mk (fun W=>doc_Labels_Plain.calls g0 g1 g2 false W hp)
 clear h1 h2 hp
 rcases h3 with rfl|rfl|rfl
 all_goals
  go_enter Try.func104,Try.ntmps104
  go_wp2_with (first|(go_at_call 114;(with_reducible refine (HP.out _).mono ?_);rintro e w1 ⟨rfl,hb⟩;have HB:=Aside0.mk hb;clear hb))
  go_ret2
  exact⟨_,rfl,Kd.R_nil _ _ _ _ _,below_step (below_alloc (below_alloc (Below.refl _ _) _) _) HB.out⟩
set_option maxHeartbeats 16000000 in
set_option maxRecDepth 100000 in
theorem doc_good (k : Nat) (A0 : Option Addr) (c0 : Nat) (B : List ByteArray) (A1 : Option Addr) (c1 : Nat) (L : List ByteArray) (A2 : Option Addr) (c2 : Nat) (R : List ByteArray) (A3 : Option Addr) (c3 : Nat) (l : List SCh) (st : Int) (g0 g1 g2 : ByteArray) (fv : Int) (w : World) (h1 : ¬ st<0) (h2 : ¬ 2<st) (h3 : fv=0∨fv=1∨fv=3) (hp : doc_Labels_Plain.f g0 g1 g2=some true)
  (hA:Kd.C Kd.string w A0 B.length B) (hB:Kd.C Kd.string w A1 L.length L) (hC:Kd.C Kd.string w A2 R.length R) (hD:Kd.C k91 w A3 l.length l) (hc0:B.length≤c0) (hc1:L.length≤c1) (hc2:R.length≤c2) (hc3:l.length≤c3) (ps r:List PP) (hl:docL k B L R st fv g0 g1 g2 l []=some ps) (ho:doc_Of.f k ps=some r) :
  Calls Try.prog 104 #[.agg #[.slice A0 B.length c0,.slice A1 L.length c1,.slice A2 R.length c2],.slice A3 l.length c3,.int .i64 st,.agg #[.string g0,.string g1,.string g2],.int .i64 fv] w fun e w'=>∃ v0_:Value,e = .returned (.tuple #[v0_,.int .i64 0])∧Kd.R k106 106 w' w.heap.size (fun _=>True) v0_ r∧Below w.heap.size w w':=by
 have q1:decide (st<0)=false:=decide_eq_false h1
 have q2:decide (2<st)=false:=decide_eq_false h2
 have HP:=Aside0.mk (fun W=>doc_Labels_Plain.calls g0 g1 g2 true W hp)
 have hl4:l.length≤9223372036854775807:=hD.2.1
 have HL:=Aside0.mk hl
 have HA:=Aside0.mk hA
 have HB:=Aside0.mk hB
 have HC:=Aside0.mk hC
 have HD:=Aside0.mk hD
 have HO:=Aside0.mk ho
 have HC0:=Aside0.mk hc0
 have HC1:=Aside0.mk hc1
 have HC2:=Aside0.mk hc2
 clear h1 h2 hp hl hA hB hC hD ho hc0 hc1 hc2 hc3
 have hq:((fv != (0:Int))=false)∨((fv != (0:Int))=true∧(fv != (1:Int))=false)∨((fv != (0:Int))=true∧(fv != (1:Int))=true∧(fv != (3:Int))=false):=by
  rcases h3 with rfl|rfl|rfl
  ·exact .inl rfl
  ·exact .inr (.inl ⟨rfl,rfl⟩)
  ·exact .inr (.inr ⟨rfl,rfl,rfl⟩)
 clear h3
 rcases hq with q3|⟨q3,q4⟩|⟨q3,q4,q5⟩
 all_goals
  go_enter Try.func104,Try.ntmps104
  go_wp2_with (first|(go_at_call 114;(with_reducible refine (HP.out _).mono ?_);rintro e w1 ⟨rfl,hb⟩;obtain⟨hb1,hx5,hx8⟩:=two_boxes hb;have HB1:=Aside0.mk hb1;have HX5:=Aside0.mk hx5;have d0:=(blk_cell hx8 0).trans (rfl:_=some (Value.string g0));have d1:=(blk_cell hx8 1).trans (rfl:_=some (Value.string g1));have d2:=(blk_cell hx8 2).trans (rfl:_=some (Value.string g2));clear hb hb1 hx5 hx8))
  clear d0 d1 d2 q1 q2 HP
  have hw01:w.heap.size<w1.heap.size:=(Array.getElem?_eq_some_iff.1 HX5.out).1
  have hnew:=World.alloc_heap_new w1 (.cells #[.string g0,.string g1,.string g2,.int .i64 st,.int .i64 fv,.slice none 0 0] 176)
  have HBL:Aside0 (Bld w.heap.size w1.heap.size w1.heap.size g0 g1 g2 st fv [] (w1.alloc (.cells #[.string g0,.string g1,.string g2,.int .i64 st,.int .i64 fv,.slice none 0 0] 176))):=⟨⟨_,Nat.le_of_lt hw01,hnew,Kd.R_nil _ _ _ _ _⟩⟩
  have HW1:Aside0 (Below w.heap.size w (w1.alloc (.cells #[.string g0,.string g1,.string g2,.int .i64 st,.int .i64 fv,.slice none 0 0] 176))):=⟨below_step HB1.out (below_alloc (Below.refl _ _) _)⟩
  have HFL:Aside0 ((w1.alloc (.cells #[.string g0,.string g1,.string g2,.int .i64 st,.int .i64 fv,.slice none 0 0] 176)).heap[w.heap.size]? = some (.cells #[.slice A0 B.length c0,.slice A1 L.length c1,.slice A2 R.length c2] 144 (0,0))):=⟨((below_alloc (Below.refl w1.heap.size w1) _).block _ hw01).trans HX5.out⟩
  have HNE:Aside0 (w.heap.size≠w1.heap.size):=⟨by omega⟩
  clear hnew HB1 HX5 hw01
  generalize (w1.alloc (.cells #[.string g0,.string g1,.string g2,.int .i64 st,.int .i64 fv,.slice none 0 0] 176))=W3 at *
  obtain⟨f,hf⟩:∃ f,f=w1.heap.size:=⟨_,rfl⟩
  rw [←hf] at HBL HNE ⊢
  clear hf
  go_loopg [45] l.length (fun gg s45 wr=>∃ (i:Nat) (acc:List PP),i≤l.length∧l.length-i≤gg∧s45 = .int .i64 i∧Aside0 (docL k B L R st fv g0 g1 g2 (l.drop i) acc=some ps)∧Aside0 (Bld w.heap.size f f g0 g1 g2 st fv acc wr)∧Aside0 (wr.heap[w.heap.size]? = some (.cells #[.slice A0 B.length c0,.slice A1 L.length c1,.slice A2 R.length c2] 144 (0,0)))∧Aside0 (Below w.heap.size w wr))
  case atStart=>exact⟨0,[],Nat.zero_le _,by omega,rfl,⟨by rw [List.drop_zero];exact HL.out⟩,HBL,HFL,HW1⟩
  case round =>
   clear HL HBL HFL HW1
   obtain⟨i,acc,hi,hg,rfl,HL,HF,HX,HW⟩:=hrel
   by_cases hlt:i<l.length
   ·have hltz:(i:Int)<(l.length:Int):=by omega
    have hq:=HL.out
    rw [List.drop_eq_getElem_cons hlt,docL] at hq
    obtain⟨t,ht,hq1⟩:=Option.bind_eq_some_iff.1 hq
    obtain⟨qs,hqs,hq2⟩:=Option.bind_eq_some_iff.1 hq1
    clear hq hq1
    split at hq2
    case isFalse=>cases hq2
    case isTrue hacc =>
    obtain⟨t1,t2,t3,t4,t5,t6,t7,t8,t9,t10,t11⟩:=t
    simp only at hqs
    obtain⟨ad,rfl,hx0,hx1,hx2,hx3,hx4,hx5,hx6⟩:=at_T91 (Kd.C_below HD.out HW.out) (i:Int) (by omega) hltz
    have hrd:rd_T91 l (i:Int)=l[i]:=by unfold rd_T91;rw [Int.toNat_natCast,List.getD_eq_getElem?_getD,List.getElem?_eq_getElem hlt];rfl
    rw [Int.toNat_natCast] at hx0 hx1 hx2 hx3 hx4 hx5 hx6
    rw [hrd] at hx0 hx1 hx2 hx3 hx4 hx5 hx6
    generalize l[i]=ch at hx0 hx1 hx2 hx3 hx4 hx5 hx6 ht
    obtain⟨k0,⟨k1,k2⟩,⟨k3,k4⟩,⟨k5,k6⟩⟩:=ch
    simp only at hx0 hx1 hx2 hx3 hx4 hx5 hx6 ht
    have HQ:=Aside0.mk hq2
    have HCut:=Aside0.mk (fun W (hb:Below w.heap.size w W)=>build_Files_cut.calls k A0 c0 B A1 c1 L A2 c2 R k0 k1 k2 k3 k4 k5 k6 t1 t2 t3 t4 t5 t6 t7 t8 t9 t10 t11 W (Kd.C_below HA.out hb) HC0.out (Kd.C_below HB.out hb) HC1.out (Kd.C_below HC.out hb) HC2.out ht)
    have HPS:=Aside0.mk hqs
    have HACC:=Aside0.mk hacc
    have y0:=(blk_cell HX.out 0).trans (rfl:_=some (Value.slice A0 B.length c0))
    have y1:=(blk_cell HX.out 1).trans (rfl:_=some (Value.slice A1 L.length c1))
    have y2:=(blk_cell HX.out 2).trans (rfl:_=some (Value.slice A2 R.length c2))
    have z0:∀ o,(wr.alloc o).cell? ⟨w.heap.size,0,none⟩=some (Value.slice A0 B.length c0):=fun o=>tr1 o y0
    have z1:∀ o,(wr.alloc o).cell? ⟨w.heap.size,1,none⟩=some (Value.slice A1 L.length c1):=fun o=>tr1 o y1
    have z2:∀ o,(wr.alloc o).cell? ⟨w.heap.size,2,none⟩=some (Value.slice A2 R.length c2):=fun o=>tr1 o y2
    clear hq2 hqs hacc ht hrd HL y0 y1 y2
    go_wp2_with (first
     | (go_at_call 137;(with_reducible refine (HCut.out _ (below_alloc HW.out _)).mono ?_);rintro e w2 ⟨v7,v8,v9,rfl,r7,r8,r9,hb2⟩;have hbw:=below_step (below_alloc (Below.refl wr.heap.size wr) _) hb2;have hF2:=HF.out.below hbw;obtain⟨_,_,hfc,_⟩:=id hF2;obtain⟨A7,n7,rfl,S7⟩:=stays_R r7 hfc (by decide);obtain⟨A8,n8,rfl,S8⟩:=stays_R r8 hfc (by decide);obtain⟨A9,n9,rfl,S9⟩:=stays_R r9 hfc (by decide);have HF2:=Aside0.mk hF2;have HS7:=Aside0.mk S7;have HS8:=Aside0.mk S8;have HS9:=Aside0.mk S9;have HX2:=Aside0.mk (after_call hbw HX.out);have HW2:=Aside0.mk (below_step HW.out hbw);clear r7 r8 r9 hb2 hbw hF2 hfc S7 S8 S9)
     | (go_at_call 136;(with_reducible refine (piece_calls t1 t2 t3 t4 t5 t6 t7 t11 A7 A8 A9 n7 n8 n9 t8 t9 t10 HF2.out HS7.out HS8.out HS9.out HACC.out HPS.out HW2.out.size).mono ?_);rintro e w3 ⟨rfl,r1,r2,r3⟩;have HF3:=Aside0.mk r1;have HW3:=Aside0.mk (Below.trans HW2.out r2);have HX3:=Aside0.mk (r3.cell HX2.out (by decide) HNE.out);clear r1 r2 r3))
    go_roundg (l.length-(i+1))
    case measure=>omega
    case rel=>exact⟨i+1,acc++qs,by omega,Nat.le_refl _,by go_num,HQ,HF3,HX3,HW3⟩
   ·have hq:=HL.out
    rw [List.drop_of_length_le (by omega),docL] at hq
    obtain rfl:=Option.some.inj hq
    obtain rfl:i=l.length:=by omega
    obtain⟨v,h0,h1,hR⟩:=HF.out
    obtain⟨Av,cv,rfl,hcv,hCv⟩:=Kd.R_reads hR
    have c5:=(blk_cell h1 5).trans (rfl:_=some (Value.slice Av acc.length cv))
    have HCV:=Aside0.mk hCv
    clear hq hR h0 h1 hCv
    go_wp2_with (first|(go_at_call 24;(with_reducible refine (doc_Of.calls k Av cv acc r _ HCV.out hcv HO.out).mono ?_);rintro e w3 ⟨v0,rfl,r1,r2⟩;have R1:=Aside0.mk r1;have R2:=Aside0.mk r2;clear r1 r2))
    go_ret2
    exact⟨_,rfl,Kd.R_lower R1.out HW.out.size,below_step HW.out R2.out⟩
theorem doc_calls (k : Nat) (A0 : Option Addr) (c0 : Nat) (B : List ByteArray) (A1 : Option Addr) (c1 : Nat) (L : List ByteArray) (A2 : Option Addr) (c2 : Nat) (R : List ByteArray) (A3 : Option Addr) (c3 : Nat) (l : List SCh) (st : Int) (g0 g1 g2 : ByteArray) (fv : Int) (r1 : List PP) (r2 : Int) (w : World)
  (hA:Kd.C Kd.string w A0 B.length B) (hc0:B.length≤c0) (hB:Kd.C Kd.string w A1 L.length L) (hc1:L.length≤c1) (hC:Kd.C Kd.string w A2 R.length R) (hc2:R.length≤c2) (hD:Kd.C k91 w A3 l.length l) (hc3:l.length≤c3) (h:docF k B L R l st g0 g1 g2 fv=some (r1,r2)) :
  Calls Try.prog 104 #[.agg #[.slice A0 B.length c0,.slice A1 L.length c1,.slice A2 R.length c2],.slice A3 l.length c3,.int .i64 st,.agg #[.string g0,.string g1,.string g2],.int .i64 fv] w fun e w'=>∃ v0_:Value,e = .returned (.tuple #[v0_,.int .i64 r2])∧Kd.R k106 106 w' w.heap.size (fun _=>True) v0_ r1∧Below w.heap.size w w':=by
 unfold docF at h
 split at h
 ·rename_i hbad
  simp only [Option.some.injEq,Prod.mk.injEq] at h
  obtain⟨rfl,rfl⟩:=h
  exact doc_bad A0 c0 B A1 c1 L A2 c2 R A3 c3 l st g0 g1 g2 fv w hbad
 ·rename_i hbad
  obtain⟨t,ht,h⟩:=Option.bind_eq_some_iff.1 h
  have h1:¬ st<0:=fun e=>hbad (.inl e)
  have h2:¬ 2<st:=fun e=>hbad (.inr (.inl e))
  have h3:fv=0∨fv=1∨fv=3:=by omega
  cases t with
  | true =>
   rw [if_pos rfl] at h
   obtain⟨ps,hps,h⟩:=Option.bind_eq_some_iff.1 h
   obtain⟨d,hd,h⟩:=Option.bind_eq_some_iff.1 h
   simp only [Option.some.injEq,Prod.mk.injEq] at h
   obtain⟨rfl,rfl⟩:=h
   exact doc_good k A0 c0 B A1 c1 L A2 c2 R A3 c3 l st g0 g1 g2 fv w h1 h2 h3 ht hA hB hC hD hc0 hc1 hc2 hc3 ps d hps hd
  | false =>
   rw [if_neg (by simp)] at h
   simp only [Option.some.injEq,Prod.mk.injEq] at h
   obtain⟨rfl,rfl⟩:=h
   exact doc_label A0 c0 B A1 c1 L A2 c2 R A3 c3 l st g0 g1 g2 fv w h1 h2 h3 ht
end Go.Proofs.Ytfiamddinkokbaa.F
end

section
namespace Go.Proofs.Ytfiamddinkokbaa.F
open Go.RowKit Go.Shelf Go.Proofs.YtfiamddinkokbaaW.PrintWords
def countL (k : Nat) (B L R : List ByteArray) : List SCh→Int→Option Int
 | [],n=>some n
 | c::cs,n=>(build_Files_cut.f k B L R c.f0 c.f1.f0 c.f1.f1 c.f2.f0 c.f2.f1 c.f3.f0 c.f3.f1).bind fun t=>countL k B L R cs (if t.2.2.2.2.2.2.2.2.2.2=4 then n+1 else n)
def countF (k : Nat) (B L R : List ByteArray) (l : List SCh) : Option Int := if l.length≤4000000000000 then countL k B L R l 0 else none
theorem countL_mono (B L R : List ByteArray) (k : Nat) : ∀ (l : List SCh) (n : Int),LeO (countL k B L R l n) (countL (k+1) B L R l n)
 | [],n=>LeO.refl _
 | c::cs,n=>LeO.bind (build_Files_cut.mono _ _ _ _ _ _ _ _ _ _ k) (fun t=>countL_mono B L R k cs _)
theorem count_mono : ∀ B L R l k,LeO (countF k B L R l) (countF (k+1) B L R l) := fun B L R l k=>LeO.ite (countL_mono B L R k l 0) (LeO.refl _)
theorem piece_field (b : Bool) (a1 a2 a3 a4 a5 a6 z : Int) (A B C : Option Addr) (n m k x y w : Nat) (W : World) : (Instr.field 179 (.agg #[.bool b,.int .i64 a1,.int .i64 a2,.int .i64 a3,.int .i64 a4,.int .i64 a5,.int .i64 a6,.slice A n x,.slice B m y,.slice C k w,.int .i64 z]) 4).run Try.prog W = .ok (.int .i64 z) W := by
 have hu:=Try.underlying179
 unfold Instr.field
 go_simp
 rfl
attribute [local go_sem] piece_field
set_option maxHeartbeats 8000000 in
set_option maxRecDepth 100000 in
theorem count_calls (k : Nat) (A0 : Option Addr) (c0 : Nat) (B : List ByteArray) (A1 : Option Addr) (c1 : Nat) (L : List ByteArray) (A2 : Option Addr) (c2 : Nat) (R : List ByteArray) (A3 : Option Addr) (c3 : Nat) (l : List SCh) (r : Int) (w : World)
  (hA:Kd.C Kd.string w A0 B.length B) (hc0:B.length≤c0) (hB:Kd.C Kd.string w A1 L.length L) (hc1:L.length≤c1) (hC:Kd.C Kd.string w A2 R.length R) (hc2:R.length≤c2) (hD:Kd.C k91 w A3 l.length l) (hc3:l.length≤c3) (h:countF k B L R l=some r) :
  Calls Try.prog 105 #[.agg #[.slice A0 B.length c0,.slice A1 L.length c1,.slice A2 R.length c2],.slice A3 l.length c3] w fun e w'=>e = .returned (.int .i64 r)∧Below w.heap.size w w':=by
 unfold countF at h
 split at h
 case isFalse=>cases h
 case isTrue hl4 =>
 have HL:=Aside0.mk h
 have HA:=Aside0.mk hA
 have HB:=Aside0.mk hB
 have HC:=Aside0.mk hC
 have HD:=Aside0.mk hD
 have HC0:=Aside0.mk hc0
 have HC1:=Aside0.mk hc1
 have HC2:=Aside0.mk hc2
 clear h hA hB hC hD hc0 hc1 hc2 hc3
 go_enter Try.func105,Try.ntmps105
 go_wp2
 have HW1:=Aside0.mk (below_alloc (Below.refl w.heap.size w) (.cells #[.slice A0 B.length c0,.slice A1 L.length c1,.slice A2 R.length c2] 144))
 have HFL:=Aside0.mk (World.alloc_heap_new w (.cells #[.slice A0 B.length c0,.slice A1 L.length c1,.slice A2 R.length c2] 144))
 generalize (w.alloc (.cells #[.slice A0 B.length c0,.slice A1 L.length c1,.slice A2 R.length c2] 144))=W3 at *
 go_loopg [5,10] l.length (fun gg s5 s10 wr=>∃ (i:Nat) (n:Int),i≤l.length∧l.length-i≤gg∧s5 = .int .i64 n∧s10 = .int .i64 i∧0≤n∧n≤i∧Aside0 (countL k B L R (l.drop i) n=some r)∧Aside0 (wr.heap[w.heap.size]? = some (.cells #[.slice A0 B.length c0,.slice A1 L.length c1,.slice A2 R.length c2] 144 (0,0)))∧Aside0 (Below w.heap.size w wr))
 case atStart=>exact⟨0,0,Nat.zero_le _,by omega,rfl,rfl,by omega,by omega,⟨by rw [List.drop_zero];exact HL.out⟩,HFL,HW1⟩
 case round =>
  clear HL HFL HW1
  obtain⟨i,n,hi,hg,rfl,rfl,hn0,hn1,HL,HX,HW⟩:=hrel
  by_cases hlt:i<l.length
  ·have hltz:(i:Int)<(l.length:Int):=by omega
   have hq:=HL.out
   rw [List.drop_eq_getElem_cons hlt,countL] at hq
   obtain⟨t,ht,hq1⟩:=Option.bind_eq_some_iff.1 hq
   clear hq
   obtain⟨t1,t2,t3,t4,t5,t6,t7,t8,t9,t10,t11⟩:=t
   simp only at hq1
   obtain⟨ad,rfl,hx0,hx1,hx2,hx3,hx4,hx5,hx6⟩:=at_T91 (Kd.C_below HD.out HW.out) (i:Int) (by omega) hltz
   have hrd:rd_T91 l (i:Int)=l[i]:=by unfold rd_T91;rw [Int.toNat_natCast,List.getD_eq_getElem?_getD,List.getElem?_eq_getElem hlt];rfl
   rw [Int.toNat_natCast] at hx0 hx1 hx2 hx3 hx4 hx5 hx6
   rw [hrd] at hx0 hx1 hx2 hx3 hx4 hx5 hx6
   generalize l[i]=ch at hx0 hx1 hx2 hx3 hx4 hx5 hx6 ht
   obtain⟨k0,⟨k1,k2⟩,⟨k3,k4⟩,⟨k5,k6⟩⟩:=ch
   simp only at hx0 hx1 hx2 hx3 hx4 hx5 hx6 ht
   have HCut:=Aside0.mk (fun W (hb:Below w.heap.size w W)=>build_Files_cut.calls k A0 c0 B A1 c1 L A2 c2 R k0 k1 k2 k3 k4 k5 k6 t1 t2 t3 t4 t5 t6 t7 t8 t9 t10 t11 W (Kd.C_below HA.out hb) HC0.out (Kd.C_below HB.out hb) HC1.out (Kd.C_below HC.out hb) HC2.out ht)
   have y0:=(blk_cell HX.out 0).trans (rfl:_=some (Value.slice A0 B.length c0))
   have y1:=(blk_cell HX.out 1).trans (rfl:_=some (Value.slice A1 L.length c1))
   have y2:=(blk_cell HX.out 2).trans (rfl:_=some (Value.slice A2 R.length c2))
   have z0:∀ o,(wr.alloc o).cell? ⟨w.heap.size,0,none⟩=some (Value.slice A0 B.length c0):=fun o=>tr1 o y0
   have z1:∀ o,(wr.alloc o).cell? ⟨w.heap.size,1,none⟩=some (Value.slice A1 L.length c1):=fun o=>tr1 o y1
   have z2:∀ o,(wr.alloc o).cell? ⟨w.heap.size,2,none⟩=some (Value.slice A2 R.length c2):=fun o=>tr1 o y2
   clear ht hrd HL y0 y1 y2
   by_cases h4:t11=4
   ·have q4:(t11==(4:Int))=true:=beq_iff_eq.2 h4
    rw [if_pos h4] at hq1
    have HQ:=Aside0.mk hq1
    clear hq1 h4
    go_wp2_with (first|(go_at_call 137;(with_reducible refine (HCut.out _ (below_alloc HW.out _)).mono ?_);rintro e w2 ⟨v7,v8,v9,rfl,r7,r8,r9,hb2⟩;have hbw:=below_step (below_alloc (Below.refl wr.heap.size wr) _) hb2;obtain⟨A7,n7,rfl⟩:=Kd.R_slice r7;obtain⟨A8,n8,rfl⟩:=Kd.R_slice r8;obtain⟨A9,n9,rfl⟩:=Kd.R_slice r9;have HX2:=Aside0.mk (after_call hbw HX.out);have HW2:=Aside0.mk (below_step HW.out hbw);clear r7 r8 r9 hb2 hbw))
    go_roundg (l.length-(i+1))
    case measure=>omega
    case rel=>exact⟨i+1,n+1,by omega,Nat.le_refl _,rfl,by go_num,by omega,by omega,HQ,HX2,HW2⟩
   ·have q4:(t11==(4:Int))=false:=beq_eq_false_iff_ne.2 h4
    rw [if_neg h4] at hq1
    have HQ:=Aside0.mk hq1
    clear hq1 h4
    go_wp2_with (first|(go_at_call 137;(with_reducible refine (HCut.out _ (below_alloc HW.out _)).mono ?_);rintro e w2 ⟨v7,v8,v9,rfl,r7,r8,r9,hb2⟩;have hbw:=below_step (below_alloc (Below.refl wr.heap.size wr) _) hb2;obtain⟨A7,n7,rfl⟩:=Kd.R_slice r7;obtain⟨A8,n8,rfl⟩:=Kd.R_slice r8;obtain⟨A9,n9,rfl⟩:=Kd.R_slice r9;have HX2:=Aside0.mk (after_call hbw HX.out);have HW2:=Aside0.mk (below_step HW.out hbw);clear r7 r8 r9 hb2 hbw))
    go_roundg (l.length-(i+1))
    case measure=>omega
    case rel=>exact⟨i+1,n,by omega,Nat.le_refl _,rfl,by go_num,by omega,by omega,HQ,HX2,HW2⟩
  ·have hq:=HL.out
   rw [List.drop_of_length_le (by omega),countL] at hq
   obtain rfl:=Option.some.inj hq
   clear hq
   go_wp2
   go_ret
   exact⟨rfl,HW.out⟩
end Go.Proofs.Ytfiamddinkokbaa.F
end

section
namespace Go.Proofs.Ytfiamddinkokbaa.F
open Go.RowKit Go.Proofs.YtfiamddinkokbaaW.PrintWords Go.Proofs.YtfiamddinkokbaaW.PrintLast Go.Proofs.YtfiamddinkokbaaW.PrintMore
attribute [local go_sem] max2_int min2_int max_two min_two max_three min_three max_four min_four
def build_Count.f (k : Nat) (l0_0 l0_1 l0_2 : List ByteArray) (l1 : List S91) : Option Int := countF k l0_0 l0_1 l0_2 l1
theorem build_Count.mono : ∀ l0_0 l0_1 l0_2 l1 k,LeO (build_Count.f k l0_0 l0_1 l0_2 l1) (build_Count.f (k+1) l0_0 l0_1 l0_2 l1) := count_mono
theorem build_Count.calls (k : Nat) (A0_0 : Option Addr) (c0_0 : Nat) (l0_0 : List ByteArray) (A0_1 : Option Addr) (c0_1 : Nat) (l0_1 : List ByteArray) (A0_2 : Option Addr) (c0_2 : Nat) (l0_2 : List ByteArray) (A1 : Option Addr) (c1 : Nat) (l1 : List (S91)) (r : Int) (w : World) (hr0_0 : Kd.C Kd.string w A0_0 l0_0.length l0_0) (hc0_0 : l0_0.length≤c0_0) (hr0_1 : Kd.C Kd.string w A0_1 l0_1.length l0_1) (hc0_1 : l0_1.length≤c0_1) (hr0_2 : Kd.C Kd.string w A0_2 l0_2.length l0_2) (hc0_2 : l0_2.length≤c0_2) (hr1 : Kd.C k91 w A1 l1.length l1) (hc1 : l1.length≤c1) (h : build_Count.f k l0_0 l0_1 l0_2 l1=some r) :
  Calls Try.prog 105 #[.agg #[.slice A0_0 l0_0.length c0_0,.slice A0_1 l0_1.length c0_1,.slice A0_2 l0_2.length c0_2],.slice A1 l1.length c1] w fun e w'=>e = .returned (.int .i64 r)∧Below w.heap.size w w':=by
 exact count_calls k A0_0 c0_0 l0_0 A0_1 c0_1 l0_1 A0_2 c0_2 l0_2 A1 c1 l1 r w hr0_0 hc0_0 hr0_1 hc0_1 hr0_2 hc0_2 hr1 hc1 h
def lines_Number.f (l0 : List (List ByteArray)) : Option (List (List Int)) := if (∀ f∈l0,∀ s∈f,s.size≤4000000000)∧total l0≤4000000000∧l0.length≤4000000000 then some (numberB l0) else none
theorem lines_Number.calls (A0 : Option Addr) (c0 : Nat) (l0 : List (List ByteArray)) (r : List (List Int)) (w : World) (hr0 : Kd.C (Kd.slice 9 Kd.string) w A0 l0.length l0) (hc0 : l0.length≤c0) (h : lines_Number.f l0=some r) :
  Calls Try.prog 38 #[.slice A0 l0.length c0] w fun e w'=>∃ v0_:Value,e = .returned (v0_)∧Kd.S (Kd.slice 3 (Kd.int .i64)) 50 w' w.heap.size (fun _=>True) v0_ r∧Below w.heap.size w w':=by
 exact ext_number A0 c0 l0 r w hr0 hc0 h
def lcs_Match.f (l0 l1 : List Int) : Option (List S196) := if l0.length≤4000000000∧l1.length≤4000000000 then (matchF l0 l1).bind (fun r=>if r.length≤8000000000 then some r else none) else none
theorem lcs_Match.calls (A0 : Option Addr) (c0 : Nat) (l0 : List Int) (A1 : Option Addr) (c1 : Nat) (l1 : List Int) (r : List (S196)) (w : World) (hr0 : Kd.C (Kd.int .i64) w A0 l0.length l0) (hc0 : l0.length≤c0) (hr1 : Kd.C (Kd.int .i64) w A1 l1.length l1) (hc1 : l1.length≤c1) (h : lcs_Match.f l0 l1=some r) :
  Calls Try.prog 132 #[.slice A0 l0.length c0,.slice A1 l1.length c1] w fun e w'=>∃ v0_:Value,e = .returned (v0_)∧Kd.R k196 196 w' w.heap.size (fun _=>True) v0_ r∧Below w.heap.size w w':=by
 exact match_calls A0 c0 l0 A1 c1 l1 r w hr0 hc0 hr1 hc1 h
end Go.Proofs.Ytfiamddinkokbaa.F
end
