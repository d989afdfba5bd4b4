/- Texts joined into one file (wip/tools/pack.py): ParseLaw, ParseLaw2, Reader, ReaderM, Rd060, Rd1124, Rd161, Rd261, Rd362, Parse -/
import Derived.Test.YtfiamddinkokbaaGreatTB2
import Derived.Test.YtfiamddinkokbaaGreatTB15
import Derived.Test.YtfiamddinkokbaaGreatTB11
import Derived.Test.YtfiamddinkokbaaGreatTB9
import Derived.Test.YtfiamddinkokbaaGreatTB8
set_option linter.unusedVariables false
set_option linter.unusedSimpArgs false
section
namespace Go.Proofs.YtfiamddinkokbaaGreat.F
open Go.RowKit Go.Proofs.YtfiamddinkokbaaGreatW.PrintWords Go.Proofs.YtfiamddinkokbaaGreatW.PrintLast Go.Proofs.YtfiamddinkokbaaGreatW.PrintMore
structure PSt where
 out:List S60
 now:S60
 wh:Int
 buf:List UInt8
def toP (k wh : Int) : Int := if k=60∧wh=0 then 1 else if k=124∧wh=1 then 2 else if k=61∧(wh=1∨wh=2) then 3 else if k=62∧wh=3 then 0 else -1
def lacksP (b : List UInt8) : Bool := !(trimL b).isEmpty && !endsL (trimL b)
def sideP (fl : Bool) (b : List UInt8) : ByteArray := toB (if fl=true then trimL b else b)
def textP (s : ByteArray) : S60 := ⟨⟨#[]⟩,⟨#[]⟩,⟨#[]⟩,false,s,⟨#[]⟩,⟨#[]⟩,⟨#[]⟩,false⟩
def openP (lb : ByteArray) : S60 := ⟨lb,⟨#[]⟩,⟨#[]⟩,true,⟨#[]⟩,⟨#[]⟩,⟨#[]⟩,⟨#[]⟩,false⟩
def leftP (x : S60) (s : ByteArray) : S60 := ⟨x.f0,x.f1,x.f2,x.f3,x.f4,s,x.f6,x.f7,x.f8⟩
def baseP (x : S60) (s : ByteArray) : S60 := ⟨x.f0,x.f1,x.f2,x.f3,x.f4,x.f5,s,x.f7,x.f8⟩
def closeP (x : S60) (s lb : ByteArray) : S60 := ⟨x.f0,x.f1,lb,x.f3,x.f4,x.f5,x.f6,s,x.f8⟩
def hasP (x : S60) (lb : ByteArray) : S60 := ⟨x.f0,lb,x.f2,x.f3,x.f4,x.f5,x.f6,x.f7,true⟩
def putP (st : PSt) (s lb : ByteArray) : List S60×S60 :=
 if st.wh=0 then (st.out++[textP s],openP lb) else if st.wh=1 then (st.out,leftP st.now s) else if st.wh=2 then (st.out,baseP st.now s) else if st.wh=3 then (st.out++[closeP st.now s lb],closeP st.now s lb) else (st.out,st.now)
def markP (st : PSt) (k : Int) (fl : Bool) (lb : ByteArray) : PSt×Int :=
 if toP k st.wh = -1 then (st,if k=60 then 7 else 8)
 else if fl=true∧lacksP st.buf=false then (st,9)
 else (⟨(putP st (sideP fl st.buf) lb).1,if toP k st.wh=2 then hasP (putP st (sideP fl st.buf) lb).2 lb else (putP st (sideP fl st.buf) lb).2,toP k st.wh,[]⟩,0)
def readP (w : Int) : List ByteArray→Int→PSt→PSt×Int×Int
 | [],_,st=>(st,0,0)
 | x::t,i,st =>
  if (readA x w).2.2.2.1=true then
   (if (markP st (readA x w).1 (readA x w).2.1 (readA x w).2.2.1).2=0 then readP w t (i+1) (markP st (readA x w).1 (readA x w).2.1 (readA x w).2.2.1).1
    else (st,(markP st (readA x w).1 (readA x w).2.1 (readA x w).2.2.1).2,i+1))
  else if (readA x w).2.2.2.2=0 then readP w t (i+1) ⟨st.out,st.now,st.wh,st.buf++x.data.toList⟩ else (st,(readA x w).2.2.2.2,i+1)
def newP : PSt := ⟨[],textP ⟨#[]⟩,0,[]⟩
def lastP (n : Int) (q : PSt×Int×Int) : List S60×Int×Int :=
 if q.2.1=0 then (if q.1.wh=0 then (ofP (q.1.out++[textP (toB q.1.buf)]),0,0) else ([],10,n+1)) else ([],q.2.1,q.2.2)
def parseP (s : ByteArray) (w : Int) : List S60×Int×Int :=
 if 1≤w∧w≤1073741824 then lastP (splitB s).length (readP w (splitB s) 0 newP) else ([],4,0)
theorem split_app : ∀ (n : Nat) (a b : List UInt8),a.length≤n→(endsL a=true∨a=[])→splitL (a++b)=splitL a++splitL b
 | 0,a,b,hn,h=>by
  obtain rfl:=List.length_eq_zero_iff.1 (Nat.le_zero.1 hn)
  rfl
 | n+1,a,b,hn,h=>by
  rcases nl_cases a with h1|⟨q,r,hq,rfl⟩
  ·rcases h with h|rfl
   ·rw [endsL_no a h1] at h;cases h
   ·rfl
  ·rw [List.append_assoc,List.cons_append,splitL_line q (r++b) hq,splitL_line q r hq,List.cons_append]
   rw [split_app n r b (by rw [List.length_append,List.length_cons] at hn;omega) ?_]
   rcases List.eq_nil_or_concat r with rfl|⟨u,z,rfl⟩
   ·exact .inr rfl
   ·left
    rcases h with h|h
    ·unfold endsL at h ⊢
     rw [List.concat_eq_append] at h ⊢
     rw [←List.cons_append,←List.append_assoc,List.getLast?_concat] at h
     rw [List.getLast?_concat];exact h
    ·simp at h
theorem split_two (a b : List UInt8) (h : endsL a=true∨a=[]) : splitL (a++b)=splitL a++splitL b := split_app a.length a b (Nat.le_refl _) h
theorem ends_app (a b : List UInt8) (h : endsL b=true) : endsL (a++b)=true := by
 rcases List.eq_nil_or_concat b with rfl|⟨u,z,rfl⟩
 ·cases h
 ·unfold endsL at h ⊢
  rw [List.concat_eq_append] at h ⊢
  rw [List.getLast?_concat] at h
  rw [←List.append_assoc,List.getLast?_concat];exact h
def Runs (n : Nat) (b : List UInt8) : Prop := ∀ x∈splitL b,runL x≤n
theorem runs_nil (n : Nat) : Runs n [] := fun x hx=>by cases hx
theorem runs_app {n : Nat} {a b : List UInt8} (h : endsL a=true∨a=[]) (ha : Runs n a) (hb : Runs n b) : Runs n (a++b) := by
 intro x hx
 rw [split_two a b h] at hx
 rcases List.mem_append.1 hx with hx|hx
 ·exact ha x hx
 ·exact hb x hx
theorem Runs.mono {n m : Nat} {b : List UInt8} (h : Runs n b) (hm : n≤m) : Runs m b := fun x hx=>Nat.le_trans (h x hx) hm
theorem run_end (p : List UInt8) (h : (10 : UInt8)∉p) : runL (p++[10])=runL p := by
 cases p with
 | nil=>rfl
 | cons c t =>
  rw [List.cons_append]
  unfold runL
  simp only
  cases hs:isSign c with
  | false=>simp
  | true =>
   rw [if_pos rfl,if_pos rfl]
   have hc:(10==c)=false:=by
    cases hq:(10==c) with
    | false=>rfl
    | true=>rw [←beq_iff_eq.1 hq] at hs;cases hs
   have e:cutL c (c::(t++[10]))=cutL c (c::t)++[10]:=by
    unfold cutL
    rw [←List.cons_append,List.dropWhile_append]
    split
    ·rename_i he
     rw [List.isEmpty_iff.1 he,List.dropWhile_cons_of_neg (by rw [hc];simp)];rfl
    ·rfl
   rw [e];simp only [List.length_append,List.length_cons,List.length_nil];omega
theorem runs_end : ∀ (n : Nat) (p : List UInt8) (m : Nat),p.length≤m→Runs n p→Runs n (p++[10])
 | n,p,0,hm,h=>by
  obtain rfl:=List.length_eq_zero_iff.1 (Nat.le_zero.1 hm)
  intro x hx
  rw [List.mem_singleton.1 (show x∈[[(10:UInt8)]] from hx)];exact Nat.zero_le _
 | n,p,m+1,hm,h=>by
  rcases nl_cases p with h1|⟨q,r,hq,rfl⟩
  ·intro x hx
   rw [splitL_line p [] h1] at hx
   rcases List.mem_cons.1 hx with rfl|hx
   ·rw [run_end p h1]
    cases p with
    | nil=>exact Nat.zero_le _
    | cons c t=>exact h (c::t) (by rw [splitL_last (c::t) (by simp) h1];simp)
   ·cases hx
  ·have h2:Runs n r:=fun x hx=>h x (by rw [splitL_line q r hq];exact List.mem_cons_of_mem _ hx)
   have h3:=runs_end n r m (by rw [List.length_append,List.length_cons] at hm;omega) h2
   intro x hx
   rw [List.append_assoc,List.cons_append,splitL_line q (r++[10]) hq] at hx
   rcases List.mem_cons.1 hx with rfl|hx
   ·exact h (q++[10]) (by rw [splitL_line q r hq];simp)
   ·exact h3 x hx
theorem long_ge : ∀ (l : List ByteArray) (n : Int),n≤longI l n∧∀ x∈l,runI x≤longI l n
 | [],n=>⟨Int.le_refl _,fun x hx=>by cases hx⟩
 | y::l,n=>by
  have h:=long_ge l (mx n (runI y))
  have e:longI (y::l) n=longI l (mx n (runI y)):=rfl
  have h2:=mx_cases n (runI y)
  rw [e]
  refine⟨by omega,fun x hx=>?_⟩
  rcases List.mem_cons.1 hx with rfl|hx
  ·omega
  ·exact h.2 x hx
theorem runs_text (s : ByteArray) : Runs (textRun s).toNat s.data.toList := by
 intro x hx
 have h:=(long_ge (splitB s) 0).2 (toB x) (List.mem_map.2 ⟨x,hx,rfl⟩)
 have h2:=textRun_bound s
 unfold runI at h;rw [data_toB] at h
 show runL x≤(textRun s).toNat
 unfold textRun at h2 ⊢
 omega
theorem side_ends (s : ByteArray) : endsL (sideL s (endsL s.data.toList))=true∨sideL s (endsL s.data.toList)=[] := by
 unfold sideL lacksB
 cases hq:endsL s.data.toList with
 | true=>left;simp [hq]
 | false =>
  cases he:s.toList.isEmpty with
  | true =>
   right
   rw [bytes_toList] at he
   simp [List.isEmpty_iff.1 he]
  | false=>left;simp;exact endsL_at _
theorem side_runs (s : ByteArray) (q : Bool) : Runs (textRun s).toNat (sideL s q) := by
 unfold sideL
 split
 ·exact runs_end _ _ _ (Nat.le_refl _) (runs_text s)
 ·rw [List.append_nil];exact runs_text s
theorem side_back (s : ByteArray) : sideP (lacksB s (endsL s.data.toList)) (sideL s (endsL s.data.toList))=s∧¬ (lacksB s (endsL s.data.toList)=true∧lacksP (sideL s (endsL s.data.toList))=false) := by
 unfold sideL
 cases hl:lacksB s (endsL s.data.toList) with
 | false =>
  refine⟨?_,fun h=>by cases h.1⟩
  unfold sideP
  simp [toB_data]
 | true =>
  rw [if_pos rfl]
  unfold lacksB at hl
  rw [bytes_toList] at hl
  simp only [Bool.and_eq_true,Bool.not_eq_true'] at hl
  refine⟨?_,fun h=>?_⟩
  ·unfold sideP;rw [if_pos rfl,trimL_snoc,toB_data]
  ·have h2:=h.2
   unfold lacksP at h2
   rw [trimL_snoc,hl.1,hl.2] at h2
   cases h2
def rpB (w : Int) (b : List UInt8) (i : Int) (st : PSt) : PSt×Int×Int := readP w ((splitL b).map toB) i st
theorem read_text {w : Int} (h1 : 1≤w) (h2 : w≤1073741824) : ∀ (L : List (List UInt8)) (rest : List ByteArray) (i : Int) (st : PSt),(∀ x∈L,(runL x : Int)<w) →
  readP w (L.map toB++rest) i st=readP w rest (i+L.length) ⟨st.out,st.now,st.wh,st.buf++L.flatten⟩
 | [],rest,i,st,h=>by simp
 | x::L,rest,i,st,h=>by
  have hx:=h x (List.mem_cons_self ..)
  have e:readA (toB x) w=(0,false,⟨#[]⟩,false,0):=by
   unfold readA runI
   rw [if_pos ⟨h1,h2⟩,data_toB,if_pos hx]
  rw [List.map_cons,List.cons_append,readP,e]
  simp only [Bool.false_eq_true,if_false,if_true]
  rw [read_text h1 h2 L rest (i+1) _ (fun y hy=>h y (List.mem_cons_of_mem _ hy)),data_toB]
  simp only [List.flatten_cons,List.append_assoc,List.length_cons]
  congr 1
  omega
theorem rp_text {w : Int} (h1 : 1≤w) (h2 : w≤1073741824) (a b : List UInt8) (i : Int) (out : List S60) (now : S60) (wh : Int) (buf : List UInt8) (ha : Runs (w.toNat-1) a) (he : endsL a=true∨a=[]) :
  ∃ i',rpB w (a++b) i ⟨out,now,wh,buf⟩=rpB w b i' ⟨out,now,wh,buf++a⟩:=by
 refine⟨i+(splitL a).length,?_⟩
 unfold rpB
 rw [split_two a b he,List.map_append,read_text h1 h2 (splitL a) _ i _ (fun x hx=>by have:=ha x hx;omega),split_flat]
theorem rp_last {w : Int} (h1 : 1≤w) (h2 : w≤1073741824) (a : List UInt8) (i : Int) (st : PSt) (ha : Runs (w.toNat-1) a) :
  rpB w a i st=(⟨st.out,st.now,st.wh,st.buf++a⟩,0,0):=by
 unfold rpB
 have:=read_text h1 h2 (splitL a) [] i st (fun x hx=>by have:=ha x hx;omega)
 rw [List.append_nil,split_flat] at this
 rw [this];rfl
theorem mark_split (c : UInt8) (fl : Bool) (lb : ByteArray) (n : Nat) (b : List UInt8) (hm : mayB (c.toNat : Int) fl lb=true) : splitL (markL c fl lb.data.toList n++b)=markL c fl lb.data.toList n::splitL b := by
 have hs:=may_isSign c fl lb hm
 have hl:lineless lb=false:=by
  unfold mayB at hm
  simp only [Bool.and_eq_true,Bool.not_eq_true'] at hm
  exact hm.2.1
 rw [lineless_iff] at hl
 have hl2:(10:UInt8)∉lb.data.toList:=of_decide_eq_false hl
 have hc:¬ (10:UInt8)=c:=fun e=>by rw [←e] at hs;cases hs
 have key:∃ q,(10:UInt8)∉q∧markL c fl lb.data.toList n=q++[10]:=by
  refine⟨List.replicate n c++((if fl=true then [33] else [])++(if lb.data.toList.isEmpty=true then [] else 32::lb.data.toList)),?_,?_⟩
  ·intro h
   rcases List.mem_append.1 h with h|h
   ·exact hc (List.mem_replicate.1 h).2
   rcases List.mem_append.1 h with h|h
   ·split at h
    ·exact absurd (List.mem_singleton.1 h) (by decide)
    ·cases h
   ·split at h
    ·cases h
    ·rcases List.mem_cons.1 h with h|h
     ·exact absurd h (by decide)
     ·exact hl2 h
  ·unfold markL;simp only [List.append_assoc]
 obtain⟨q,hq,e⟩:=key
 rw [e,List.append_assoc,List.singleton_append,splitL_line q b hq]
theorem rp_mark {w : Int} (h1 : 1≤w) (h2 : w≤1073741824) (c : UInt8) (fl : Bool) (lb : ByteArray) (b : List UInt8) (i : Int) (st st' : PSt) (hm : mayB (c.toNat : Int) fl lb=true) (he : markP st (c.toNat : Int) fl lb=(st',0)) :
  rpB w (markL c fl lb.data.toList w.toNat++b) i st=rpB w b (i+1) st':=by
 unfold rpB
 rw [mark_split c fl lb w.toNat b hm,List.map_cons,readP]
 have hm':mayB (c.toNat:Int) fl (toB lb.data.toList)=true:=by rw [toB_data];exact hm
 rw [read_back c fl lb.data.toList w w h1 hm' h1 h2,if_neg (Int.lt_irrefl _),if_neg (Int.lt_irrefl _)]
 simp only [if_true]
 rw [toB_data,he];simp only [if_true]
theorem mark_ends (c : UInt8) (fl : Bool) (lb : List UInt8) (n : Nat) : endsL (markL c fl lb n)=true := by
 unfold markL
 exact ends_app _ _ (ends_app _ _ (ends_app _ _ rfl))
theorem mark_runs (c : UInt8) (fl : Bool) (lb : ByteArray) (n : Nat) (hn : 1≤n) (hm : mayB (c.toNat : Int) fl lb=true) : Runs n (markL c fl lb.data.toList n) := by
 intro x hx
 have e:=mark_split c fl lb n [] hm
 rw [List.append_nil] at e
 rw [e] at hx
 rcases List.mem_cons.1 hx with rfl|hx
 ·rw [run_mark c (may_isSign c fl lb hm) fl _ n hn];exact Nat.le_refl _
 ·cases hx
#print axioms mark_runs
theorem markP_ok {st : PSt} {k : Int} {fl : Bool} {lb : ByteArray} {d : Int} (hd : toP k st.wh=d) (hn : d ≠ -1) (hf : ¬ (fl=true∧lacksP st.buf=false)) :
  markP st k fl lb=(⟨(putP st (sideP fl st.buf) lb).1,if d=2 then hasP (putP st (sideP fl st.buf) lb).2 lb else (putP st (sideP fl st.buf) lb).2,d,[]⟩,0):=by
 subst hd
 unfold markP
 rw [if_neg hn,if_neg hf]
theorem may_open (lb : ByteArray) (h : lineless lb=false) : mayB (((60 : UInt8).toNat : Nat) : Int) false lb=true := by
 have e:(((60:UInt8).toNat:Nat):Int)=60:=rfl
 rw [e];unfold mayB signI;rw [h];rfl
theorem may_base (fl : Bool) (lb : ByteArray) (h : lineless lb=false) : mayB (((124 : UInt8).toNat : Nat) : Int) fl lb=true := by
 have e:(((124:UInt8).toNat:Nat):Int)=124:=rfl
 rw [e];unfold mayB signI;rw [h];cases fl<;>rfl
theorem may_mid (fl : Bool) : mayB (((61 : UInt8).toNat : Nat) : Int) fl (⟨#[]⟩ : ByteArray)=true := by
 have e:(((61:UInt8).toNat:Nat):Int)=61:=rfl
 rw [e];unfold mayB signI;rw [lineless_nil,bytes_toList];cases fl<;>rfl
theorem may_close (fl : Bool) (lb : ByteArray) (h : lineless lb=false) : mayB (((62 : UInt8).toNat : Nat) : Int) fl lb=true := by
 have e:(((62:UInt8).toNat:Nat):Int)=62:=rfl
 rw [e];unfold mayB signI;rw [h];cases fl<;>rfl
theorem line60 (fl : Bool) (lb : ByteArray) (w : Int) : lineL 60 fl lb w=markL 60 fl lb.data.toList w.toNat := lineL_eq 60 fl lb w
theorem line124 (fl : Bool) (lb : ByteArray) (w : Int) : lineL 124 fl lb w=markL 124 fl lb.data.toList w.toNat := lineL_eq 124 fl lb w
theorem line61 (fl : Bool) (lb : ByteArray) (w : Int) : lineL 61 fl lb w=markL 61 fl lb.data.toList w.toNat := lineL_eq 61 fl lb w
theorem line62 (fl : Bool) (lb : ByteArray) (w : Int) : lineL 62 fl lb w=markL 62 fl lb.data.toList w.toNat := lineL_eq 62 fl lb w
theorem empty_is {s : ByteArray} (h : s.toList.isEmpty=true) : s=⟨#[]⟩ := toList_inj (by rw [List.isEmpty_iff.1 h,bytes_toList])
theorem narrow_four {w : Int} {x : S60} (h : narrowerP w x=true) : textRun x.f4<w∧textRun x.f5<w∧textRun x.f6<w∧textRun x.f7<w := by
 unfold narrowerP at h
 simp only [Bool.and_eq_true,decide_eq_true_eq] at h
 exact h
theorem plain_three {x : S60} (h : plainP x=true) : lineless x.f0=false∧lineless x.f1=false∧lineless x.f2=false := by
 unfold plainP at h
 simp only [Bool.and_eq_true,Bool.not_eq_true'] at h
 exact h
def hunkQ (w : Int) (x : S60) : List UInt8 := hunkL w false (to106 x) (endsL x.f5.data.toList) (endsL x.f6.data.toList) (endsL x.f7.data.toList)
theorem runs_side {w : Int} {s : ByteArray} (q : Bool) (h : textRun s<w) : Runs (w.toNat-1) (sideL s q) := (side_runs s q).mono (by have := textRun_bound s;omega)
theorem rp_hunk {w : Int} (h1 : 1≤w) (h2 : w≤1073741824) (x : S60) (hc : confP x=true) (hp : plainP x=true) (hn : narrowerP w x=true) (b : List UInt8) (i : Int) (out : List S60) (now : S60) (buf : List UInt8) :
  ∃ i' now',rpB w (hunkQ w x++b) i ⟨out,now,0,buf⟩=rpB w b i' ⟨out++[textP (toB buf),x],now',0,[]⟩:=by
 obtain⟨p0,p1,p2⟩:=plain_three hp
 obtain⟨n4,n5,n6,n7⟩:=narrow_four hn
 obtain⟨l0,l1,l2,hk,tx,s5,s6,s7,hb⟩:=x
 simp only at p0 p1 p2 n4 n5 n6 n7
 unfold confP at hc
 simp only [Bool.and_eq_true,Bool.or_eq_true] at hc
 obtain⟨rfl,htx,hbb⟩:=hc
 obtain rfl:=empty_is htx
 unfold hunkQ hunkL
 simp only [to106,List.append_assoc]
 simp only [line60,line124,line61,line62]
 rw [rp_mark h1 h2 60 false l0 _ i ⟨out,now,0,buf⟩ ⟨out++[textP (toB buf)],openP l0,1,[]⟩ (may_open l0 p0) (markP_ok (d:=1) rfl (by decide) (fun h=>by cases h.1))]
 obtain⟨i1,e1⟩:=rp_text h1 h2 (sideL s5 (endsL s5.data.toList)) _ (i+1) (out++[textP (toB buf)]) (openP l0) 1 [] (runs_side _ n5) (side_ends s5)
 rw [e1,List.nil_append]
 obtain⟨b5,f5⟩:=side_back s5
 obtain⟨b6,f6⟩:=side_back s6
 obtain⟨b7,f7⟩:=side_back s7
 cases hb with
 | false =>
  obtain⟨hs6,hl1⟩:s6.toList.isEmpty=true∧l1.toList.isEmpty=true:=by simpa using hbb
  obtain rfl:=empty_is hs6
  obtain rfl:=empty_is hl1
  simp only [Bool.false_eq_true,if_false,List.nil_append]
  rw [rp_mark h1 h2 61 (lacksB s5 (endsL s5.data.toList)) ⟨#[]⟩ _ i1 _ ⟨out++[textP (toB buf)],leftP (openP l0) s5,3,[]⟩ (may_mid _) ((markP_ok (d:=3) rfl (by decide) f5).trans (by simp only;rw [b5];rfl))]
  obtain⟨i2,e2⟩:=rp_text h1 h2 (sideL s7 (endsL s7.data.toList)) (markL 62 (lacksB s7 (endsL s7.data.toList)) l2.data.toList w.toNat++b) (i1+1) (out++[textP (toB buf)]) (leftP (openP l0) s5) 3 [] (runs_side _ n7) (side_ends s7)
  rw [e2,List.nil_append]
  rw [rp_mark h1 h2 62 (lacksB s7 (endsL s7.data.toList)) l2 _ i2 _ ⟨out++[textP (toB buf)]++[closeP (leftP (openP l0) s5) s7 l2],closeP (leftP (openP l0) s5) s7 l2,0,[]⟩ (may_close _ l2 p2) ((markP_ok (d:=0) rfl (by decide) f7).trans (by simp only;rw [b7];rfl))]
  exact⟨i2+1,_,by rw [List.append_assoc];rfl⟩
 | true =>
  simp only [if_true,List.append_assoc]
  rw [rp_mark h1 h2 124 (lacksB s5 (endsL s5.data.toList)) l1 _ i1 _ ⟨out++[textP (toB buf)],hasP (leftP (openP l0) s5) l1,2,[]⟩ (may_base _ l1 p1) ((markP_ok (d:=2) rfl (by decide) f5).trans (by simp only;rw [b5];rfl))]
  obtain⟨i2,e2⟩:=rp_text h1 h2 (sideL s6 (endsL s6.data.toList)) (markL 61 (lacksB s6 (endsL s6.data.toList)) (⟨#[]⟩:ByteArray).data.toList w.toNat++(sideL s7 (endsL s7.data.toList)++(markL 62 (lacksB s7 (endsL s7.data.toList)) l2.data.toList w.toNat++b))) (i1+1) (out++[textP (toB buf)]) (hasP (leftP (openP l0) s5) l1) 2 [] (runs_side _ n6) (side_ends s6)
  rw [e2,List.nil_append]
  rw [rp_mark h1 h2 61 (lacksB s6 (endsL s6.data.toList)) ⟨#[]⟩ _ i2 _ ⟨out++[textP (toB buf)],baseP (hasP (leftP (openP l0) s5) l1) s6,3,[]⟩ (may_mid _) ((markP_ok (d:=3) rfl (by decide) f6).trans (by simp only;rw [b6];rfl))]
  obtain⟨i3,e3⟩:=rp_text h1 h2 (sideL s7 (endsL s7.data.toList)) (markL 62 (lacksB s7 (endsL s7.data.toList)) l2.data.toList w.toNat++b) (i2+1) (out++[textP (toB buf)]) (baseP (hasP (leftP (openP l0) s5) l1) s6) 3 [] (runs_side _ n7) (side_ends s7)
  rw [e3,List.nil_append]
  rw [rp_mark h1 h2 62 (lacksB s7 (endsL s7.data.toList)) l2 _ i3 _ ⟨out++[textP (toB buf)]++[closeP (baseP (hasP (leftP (openP l0) s5) l1) s6) s7 l2],closeP (baseP (hasP (leftP (openP l0) s5) l1) s6) s7 l2,0,[]⟩ (may_close _ l2 p2) ((markP_ok (d:=0) rfl (by decide) f7).trans (by simp only;rw [b7];rfl))]
  exact⟨i3+1,_,by rw [List.append_assoc];rfl⟩
theorem hunk_runs {w : Int} (h1 : 1≤w) (x : S60) (hp : plainP x=true) (hn : narrowerP w x=true) : Runs w.toNat (hunkQ w x)∧endsL (hunkQ w x)=true := by
 obtain⟨p0,p1,p2⟩:=plain_three hp
 obtain⟨n4,n5,n6,n7⟩:=narrow_four hn
 have hw:1≤w.toNat:=by omega
 have m60:=fun b=>runs_app (n:=w.toNat) (b:=b) (.inl (mark_ends 60 false x.f0.data.toList w.toNat)) (mark_runs 60 false x.f0 w.toNat hw (may_open _ p0))
 have m124:=fun b fl=>runs_app (n:=w.toNat) (b:=b) (.inl (mark_ends 124 fl x.f1.data.toList w.toNat)) (mark_runs 124 fl x.f1 w.toNat hw (may_base fl _ p1))
 have m61:=fun b fl=>runs_app (n:=w.toNat) (b:=b) (.inl (mark_ends 61 fl (⟨#[]⟩:ByteArray).data.toList w.toNat)) (mark_runs 61 fl ⟨#[]⟩ w.toNat hw (may_mid fl))
 have s5:=fun b=>runs_app (n:=w.toNat) (b:=b) (side_ends x.f5) ((runs_side _ n5).mono (Nat.sub_le ..))
 have s6:=fun b=>runs_app (n:=w.toNat) (b:=b) (side_ends x.f6) ((runs_side _ n6).mono (Nat.sub_le ..))
 have s7:=fun b=>runs_app (n:=w.toNat) (b:=b) (side_ends x.f7) ((runs_side _ n7).mono (Nat.sub_le ..))
 have m62:=fun fl=>mark_runs 62 fl x.f2 w.toNat hw (may_close fl _ p2)
 unfold hunkQ hunkL
 have e0:(to106 x).f0.f0=x.f0:=rfl
 have e1:(to106 x).f0.f1=x.f1:=rfl
 have e2:(to106 x).f0.f2=x.f2:=rfl
 have e3:(to106 x).f3=x.f5:=rfl
 have e4:(to106 x).f4=x.f6:=rfl
 have e5:(to106 x).f5=x.f7:=rfl
 have e6:(to106 x).f6=x.f8:=rfl
 rw [e0,e1,e2,e3,e4,e5,e6]
 simp only [List.append_assoc,line60,line124,line61,line62]
 cases x.f8 with
 | false =>
  simp only [Bool.false_eq_true,if_false,List.nil_append]
  exact⟨m60 _ (s5 _ (m61 _ _ (s7 _ (m62 _)))),ends_app _ _ (ends_app _ _ (ends_app _ _ (ends_app _ _ (mark_ends ..))))⟩
 | true =>
  simp only [if_true,List.append_assoc]
  exact⟨m60 _ (s5 _ (m124 _ _ (s6 _ (m61 _ _ (s7 _ (m62 _)))))),ends_app _ _ (ends_app _ _ (ends_app _ _ (ends_app _ _ (ends_app _ _ (ends_app _ _ (mark_ends ..))))))⟩
theorem isText_textP (s : ByteArray) : isTextP (textP s)=true := by
 unfold isTextP textP;simp only [bytes_toList];rfl
theorem text_is {x : S60} (h : isTextP x=true) : x=textP x.f4 := by
 obtain⟨l0,l1,l2,hk,tx,s5,s6,s7,hb⟩:=x
 unfold isTextP at h
 simp only [Bool.and_eq_true,Bool.not_eq_true'] at h
 obtain⟨h0,h1,h2,rfl,h5,h6,h7,rfl⟩:=h
 rw [empty_is h0,empty_is h1,empty_is h2,empty_is h5,empty_is h6,empty_is h7];rfl
def pendP : List UInt8→List S60
 | []=>[]
 | c::t=>[textP (toB (c::t))]
theorem pend_text {s : ByteArray} (h : s.toList.isEmpty=false) : pendP s.data.toList=[textP s] := by
 rw [bytes_toList] at h
 cases hs:s.data.toList with
 | nil=>rw [hs] at h;cases h
 | cons c t =>
  have e:toB (c::t)=s:=by rw [←hs,toB_data]
  show [textP (toB (c::t))]=[textP s]
  rw [e]
theorem fold_pend (buf : List UInt8) (d r : List S60) (h : Joined (d++pendP buf++r)) : (textP (toB buf)::r).foldl ofStep d=d++pendP buf++r := by
 cases buf with
 | nil =>
  have hn:isNoneP (textP (toB []))=true:=by unfold isNoneP;rw [isText_textP];show (toB []).toList.isEmpty=true;rw [bytes_toList];rfl
  rw [List.foldl_cons,ofStep_none d _ hn]
  have:=fold_joined r d (by simpa [pendP] using h)
  simpa [pendP] using this
 | cons c t =>
  have:=fold_joined (textP (toB (c::t))::r) d (by simpa [pendP] using h)
  simpa [pendP] using this
theorem joined_left {a b : List S60} (h : Joined (a++b)) : Joined a :=
 ⟨fun x hx=>h.1 x (List.mem_append_left _ hx),fun u x y v e=>h.2 u x y (v++b) (by rw [e];simp)⟩
theorem joined_right : ∀ (l : List S60) (tx : Bool),rightP tx l=true→Joined l∧(tx=true→∀ x r,l=x::r→¬ isTextP x=true)
 | [],tx,h=>⟨joined_nil,fun _ x r e=>by cases e⟩
 | x::r,tx,h=>by
  rw [rightP_cons] at h
  simp only [Bool.and_eq_true] at h
  obtain⟨ho,hp,ht,hr⟩:=h
  obtain⟨⟨j1,j2⟩,j3⟩:=joined_right r _ hr
  refine⟨⟨fun y hy=>?_,fun u a b v e=>?_⟩,fun htx y r' e=>?_⟩
  ·rcases List.mem_cons.1 hy with rfl|hy
   ·intro hn
    unfold isNoneP at hn
    simp only [Bool.and_eq_true] at hn
    rw [hn.1,hn.2] at ht
    simp at ht
   ·exact j1 y hy
  ·cases u with
   | nil =>
    obtain⟨rfl,e2⟩:=List.cons.inj e
    exact fun hc=>j3 hc.1 b v e2 hc.2
   | cons c u=>exact j2 u a b v (List.cons.inj e).2
  ·obtain⟨rfl,_⟩:=List.cons.inj e
   intro hc
   rw [hc,htx] at ht
   simp at ht
theorem part_print (w : Int) (x : S60) (r : List S60) (hs : sizesP x≤1000000000) : printL w ((x::r).map to106)=x.f4.data.toList++((if x.f3=true then hunkQ w x else [])++printL w (r.map to106)) := by
 have hx:=sizes_le hs
 have e3:sufQ (to106 x).f3=endsL x.f5.data.toList:=sufQ_eq x.f5 (by omega)
 have e4:sufQ (to106 x).f4=endsL x.f6.data.toList:=sufQ_eq x.f6 (by omega)
 have e5:sufQ (to106 x).f5=endsL x.f7.data.toList:=sufQ_eq x.f7 (by omega)
 have e:printL w ((x::r).map to106)=partL w (to106 x)++printL w (r.map to106):=by simp [printL]
 rw [e]
 unfold partL hunkQ
 rw [e3,e4,e5,List.append_assoc]
 rfl
theorem rp_parts {w : Int} (h1 : 1≤w) (h2 : w≤1073741824) : ∀ (l : List S60) (tx : Bool) (i : Int) (out : List S60) (now : S60) (buf : List UInt8) (d : List S60),rightP tx l=true→(∀ x∈l,narrowerP w x=true)→(∀ x∈l,sizesP x≤1000000000) →
  ofP out=d→Joined (d++pendP buf++l) →
  ∃ out' now' buf',rpB w (printL w (l.map to106)) i ⟨out,now,0,buf⟩=(⟨out',now',0,buf'⟩,0,0)∧ofP (out'++[textP (toB buf')])=d++pendP buf++l
 | [],tx,i,out,now,buf,d,hr,hn,hs,ho,hj=>by
  refine⟨out,now,buf,rfl,?_⟩
  have:=fold_pend buf d [] hj
  unfold ofP at ho ⊢
  rw [List.foldl_append,ho];exact this
 | x::r,tx,i,out,now,buf,d,hr,hn,hs,ho,hj=>by
  rw [rightP_cons] at hr
  simp only [Bool.and_eq_true] at hr
  obtain⟨hone,hplain,htx,hr'⟩:=hr
  have hnx:=hn x (List.mem_cons_self ..)
  have hn':∀ y∈r,narrowerP w y=true:=fun y hy=>hn y (List.mem_cons_of_mem _ hy)
  have hs':∀ y∈r,sizesP y≤1000000000:=fun y hy=>hs y (List.mem_cons_of_mem _ hy)
  rw [part_print w x r (hs x (List.mem_cons_self ..))]
  by_cases ht:isTextP x=true
  ·rw [text_hunk x ht]
   simp only [Bool.false_eq_true,if_false,List.nil_append]
   rw [ht] at htx
   simp only [Bool.not_true,Bool.false_or,Bool.and_eq_true,Bool.or_eq_true,Bool.not_eq_true'] at htx
   have hb:buf=[]:=by
    cases buf with
    | nil=>rfl
    | cons c t=>exact absurd ⟨isText_textP _,ht⟩ (hj.2 d (textP (toB (c::t))) x r (by simp [pendP]))
   subst hb
   have ep:pendP x.f4.data.toList=[x]:=by rw [pend_text htx.2.1,←text_is ht]
   have hj2:Joined (d++pendP x.f4.data.toList++r):=by rw [ep];simpa [pendP] using hj
   have hf:=(narrow_four hnx).1
   have hrun:Runs (w.toNat-1) x.f4.data.toList:=(runs_text x.f4).mono (by have:=textRun_bound x.f4;omega)
   have el:d++pendP []++x::r=d++pendP x.f4.data.toList++r:=by rw [ep];simp [pendP]
   rcases htx.2.2 with he|he
   ·obtain rfl:=List.isEmpty_iff.1 he
    have e0:printL w (([]:List S60).map to106)=[]:=rfl
    rw [e0,List.append_nil,rp_last h1 h2 _ i _ hrun]
    refine⟨out,now,_,rfl,?_⟩
    have:=fold_pend x.f4.data.toList d [] hj2
    unfold ofP at ho ⊢
    rw [List.foldl_append,ho,el];exact this
   ·obtain⟨i',e⟩:=rp_text h1 h2 x.f4.data.toList (printL w (r.map to106)) i out now 0 [] hrun (.inl he)
    rw [e,el,List.nil_append]
    exact rp_parts h1 h2 r _ i' out now x.f4.data.toList d hr' hn' hs' ho hj2
  ·have hk:x.f3=true:=by
    have:=one_hunk x hone
    cases h3:x.f3 with
    | true=>rfl
    | false=>rw [h3] at this;exact absurd this ht
   have hc:confP x=true:=by
    unfold oneP at hone
    simp only [Bool.or_eq_true] at hone
    exact hone.resolve_left ht
   have h4:x.f4.data.toList=[]:=by
    unfold confP at hc
    simp only [Bool.and_eq_true] at hc
    rw [←bytes_toList];exact List.isEmpty_iff.1 hc.2.1
   rw [if_pos hk,h4,List.nil_append]
   obtain⟨i',now',e⟩:=rp_hunk h1 h2 x hc hplain hnx (printL w (r.map to106)) i out now buf
   rw [e]
   have el:d++pendP buf++x::r=(d++pendP buf++[x])++pendP []++r:=by simp [pendP]
   rw [el] at hj ⊢
   refine rp_parts h1 h2 r _ i' _ now' [] _ hr' hn' hs' ?_ hj
   have:=fold_pend buf d [x] (joined_left (by rw [List.append_assoc] at hj;exact hj))
   unfold ofP at ho ⊢
   rw [List.foldl_append,ho];exact this
theorem parse_back {l : List S60} {w : Int} (h1 : 1≤w) (h2 : w≤1073741824) (hr : rightP false l=true) (hf : ∀ x∈l,narrowerP w x=true) (hs : ∀ x∈l,sizesP x≤1000000000) :
  parseP (toB (printL w (l.map to106))) w=(l,0,0):=by
 obtain⟨out',now',buf',e,ho⟩:=rp_parts h1 h2 l false 0 [] (textP ⟨#[]⟩) [] [] hr hf hs rfl (by simpa [pendP] using (joined_right l false hr).1)
 unfold parseP
 rw [if_pos ⟨h1,h2⟩]
 have e2:readP w (splitB (toB (printL w (l.map to106)))) 0 newP=(⟨out',now',0,buf'⟩,0,0):=by unfold splitB;rw [data_toB];exact e
 rw [e2]
 unfold lastP
 simp only [if_true]
 rw [ho];rfl
theorem print_runs {w : Int} (h1 : 1≤w) : ∀ (l : List S60) (tx : Bool),rightP tx l=true→(∀ x∈l,narrowerP w x=true)→(∀ x∈l,sizesP x≤1000000000)→Runs w.toNat (printL w (l.map to106))
 | [],_,_,_,_=>runs_nil _
 | x::r,tx,hr,hn,hs=>by
  rw [rightP_cons] at hr
  simp only [Bool.and_eq_true] at hr
  obtain⟨hone,hplain,htx,hr'⟩:=hr
  have hnx:=hn x (List.mem_cons_self ..)
  have ih:=print_runs h1 r _ hr' (fun y hy=>hn y (List.mem_cons_of_mem _ hy)) (fun y hy=>hs y (List.mem_cons_of_mem _ hy))
  rw [part_print w x r (hs x (List.mem_cons_self ..))]
  have hrun:Runs w.toNat x.f4.data.toList:=(runs_text x.f4).mono (by have:=textRun_bound x.f4;have:=(narrow_four hnx).1;omega)
  by_cases ht:isTextP x=true
  ·rw [text_hunk x ht]
   simp only [Bool.false_eq_true,if_false,List.nil_append]
   rw [ht] at htx
   simp only [Bool.not_true,Bool.false_or,Bool.and_eq_true,Bool.or_eq_true,Bool.not_eq_true'] at htx
   rcases htx.2.2 with he|he
   ·obtain rfl:=List.isEmpty_iff.1 he
    have e0:printL w (([]:List S60).map to106)=[]:=rfl
    rw [e0,List.append_nil];exact hrun
   ·exact runs_app (.inl he) hrun ih
  ·have hc:confP x=true:=by
    unfold oneP at hone
    simp only [Bool.or_eq_true] at hone
    exact hone.resolve_left ht
   have h4:x.f4.data.toList=[]:=by
    unfold confP at hc
    simp only [Bool.and_eq_true] at hc
    rw [←bytes_toList];exact List.isEmpty_iff.1 hc.2.1
   rw [h4,List.nil_append]
   obtain⟨a,b⟩:=hunk_runs h1 x hplain hnx
   split
   ·exact runs_app (.inl b) a ih
   ·exact ih
theorem parse_text {s : ByteArray} {w : Int} (h1 : 1≤w) (h2 : w≤1073741824) (h : Runs (w.toNat-1) s.data.toList) : parseP s w=(ofP [textP s],0,0) := by
 unfold parseP
 rw [if_pos ⟨h1,h2⟩]
 have e:=rp_last h1 h2 s.data.toList 0 newP h
 unfold rpB at e
 have e2:splitB s=(splitL s.data.toList).map toB:=rfl
 rw [e2,e]
 unfold lastP newP
 simp only [if_true,List.nil_append,toB_data]
theorem parse_wide {l : List S60} {w : Int} (h1 : 1≤w) (h2 : w+1≤1073741824) (hr : rightP false l=true) (hf : ∀ x∈l,narrowerP w x=true) (hs : ∀ x∈l,sizesP x≤1000000000) :
  parseP (toB (printL w (l.map to106))) (w+1)=(ofP [textP (toB (printL w (l.map to106)))],0,0) :=
 parse_text (by omega) h2 (by rw [data_toB];exact (print_runs h1 l false hr hf hs).mono (by omega))
#print axioms parse_back
#print axioms parse_wide
end Go.Proofs.YtfiamddinkokbaaGreat.F
end

section
namespace Go.Proofs.YtfiamddinkokbaaGreat.F
open Go.RowKit Go.Shelf Go.Proofs.YtfiamddinkokbaaGreatW.PrintWords
abbrev rdC (vo : Value) (x : S60) (wh : Int) (p v : Value) : Array Value := #[vo,.string x.f0,.string x.f1,.string x.f2,.bool x.f3,.string x.f4,.string x.f5,.string x.f6,.string x.f7,.bool x.f8,.int .i64 wh,p,v]
structure RdAt (B b : Nat) (vo p v : Value) (st : PSt) (w : World) : Prop where
 bld:BldAt 133 11 B b (rdC vo st.now st.wh p v) p v st.buf w
 row:Kd.R k124 124 w B (fun j=>j≠b) vo (st.out.map to106)
def Rd (B b : Nat) (st : PSt) (w : World) : Prop := ∃ vo p v,RdAt B b vo p v st w
def KeepU (b : Nat) (w w' : World) : Prop := ∀ k cs t fr,w.heap[k]? = some (.cells cs t fr)→t≠5→t≠124→k≠b→w'.heap[k]? = w.heap[k]?
theorem KeepU.of {b : Nat} {w w' : World} (h : KeepT b w w') : KeepU b w w' := fun k cs t fr hk ht _ hb=>h k cs t fr hk ht hb
theorem KeepU.trans {b : Nat} {w w1 w2 : World} (h : KeepU b w w1) (g : KeepU b w1 w2) : KeepU b w w2 := fun k cs t fr hk ht hp hb=>by
 have h1:=h k cs t fr hk ht hp hb
 rw [g k cs t fr (h1.trans hk) ht hp hb,h1]
theorem KeepU.set {b : Nat} {w w' : World} (h : KeepU b w w') (i : Nat) (v : Value) : KeepU b w (w'.setCell ⟨b,i,none⟩ v) := fun k cs t fr hk ht hp hb=>by
 rw [Below.heap_setCell _ _ _ _ hb];exact h k cs t fr hk ht hp hb
theorem KeepU.drew {b : Nat} {w w' : World} (h : KeepU b w w') : KeepU b w w'.drew := fun k cs t fr hk ht hp hb=>h k cs t fr hk ht hp hb
theorem KeepU.grown {b : Nat} {w w1 w2 : World} {row : Option Nat} (h : KeepU b w w1) (hg : w1.grownBy w2 row) (ht : ∀ k,row=some k→∃ cells,w1.heap[k]? = some (.cells cells 124 (0,0))) : KeepU b w w2 := fun k cs t fr hk hu hp hb=>by
 have h1:=h k cs t fr hk hu hp hb
 have h2:=h1.trans hk
 rw [hg.block k (Array.getElem?_eq_some_iff.1 h2).1 (fun e=>?_),h1]
 obtain⟨cells,hc⟩:=ht k e.symm
 rw [h2] at hc
 injection hc with hc
 injection hc with _ hc _
 exact hp hc
theorem KeepU.cell {b : Nat} {w w' : World} (h : KeepU b w w') {k : Nat} {cs : Array Value} {t : TypeId} (hk : w.heap[k]? = some (.cells cs t (0,0))) (ht : t≠5) (hp : t≠124) (hb : k≠b) : w'.heap[k]? = some (.cells cs t (0,0)) := (h k cs t (0,0) hk ht hp hb).trans hk
theorem R_keepT {B b : Nat} {vo : Value} {xs : List S124} {w w' : World} (h : Kd.R k124 124 w B (fun j=>j≠b) vo xs) (hk : KeepT b w w') : Kd.R k124 124 w' B (fun j=>j≠b) vo xs := by
 have hE:(k124).E=[]:=rfl
 refine Kd.R_reok hE (Kd.R_move (Kd.R_tight hE h) (fun k ho=>?_)) (fun k ho=>h.1 k ho)
 obtain⟨cells,hc⟩:=Kd.R_typed h k ho.symm
 exact hk k cells _ _ hc (by decide) (h.1 k ho.symm)
theorem RdAt.below {B b : Nat} {vo p v : Value} {st : PSt} {w w' : World} (h : RdAt B b vo p v st w) (hb : Below w.heap.size w w') : RdAt B b vo p v st w' :=
 ⟨h.bld.move (hb.block b h.bld.lt) (fun k hk=>hb.block k (h.bld.own.lt k hk).2),Kd.R_below h.row hb⟩
theorem Rd.below {B b : Nat} {st : PSt} {w w' : World} (h : Rd B b st w) (hb : Below w.heap.size w w') : Rd B b st w' := by
 obtain⟨vo,p,v,h⟩:=h
 exact⟨vo,p,v,h.below hb⟩
theorem RdAt.froz {B b : Nat} {vo p v : Value} {st : PSt} {w : World} (h : RdAt B b vo p v st w) (j : Nat) : w.frozen? ⟨b,j,none⟩=false := Lib.frozen_of_heap h.bld.blk j
theorem keepT_own {T : TypeId} {o B b : Nat} {cs : Array Value} {p v : Value} {bs : List UInt8} {w w' : World} (h : BldAt T o B b cs p v bs w) (hk : ∀ k,k<w.heap.size→k≠b→some k≠v.ownBlock→w'.heap[k]? = w.heap[k]?) : KeepT b w w' := fun k cs t fr hkk ht hkb=>hk k (Array.getElem?_eq_some_iff.1 hkk).1 hkb (fun e=>by
 obtain⟨cells,fz,hc⟩:=ownF_typed h.own k e.symm
 rw [hkk] at hc
 injection hc with hc
 injection hc with _ hc _
 exact ht hc)
theorem rd_write {B b : Nat} {st : PSt} {w : World} (s : ByteArray) (h : Rd B b st w) (hlen : st.buf.length+s.size≤140737488355328) (hBw : B≤w.heap.size) :
  Calls Tryz.prog 68 #[.pointer (some ⟨b,11,none⟩),.string s] w fun e w'=>e = .returned (.tuple #[.int .i64 s.size,.nilIface])∧Rd B b ⟨st.out,st.now,st.wh,st.buf++s.data.toList⟩ w'∧Below B w w'∧KeepT b w w':=by
 obtain⟨vo,p,v,h⟩:=h
 refine (bld_write s h.bld (by kernel_rfl) (by decide) hlen hBw).mono ?_
 rintro e w' ⟨rfl,v',h',hb,hk⟩
 exact⟨rfl,⟨vo,_,v',h',R_keepT h.row (keepT_own h.bld hk)⟩,hb,keepT_own h.bld hk⟩
theorem rd_string {B b : Nat} {vo p v : Value} {st : PSt} {w : World} (h : RdAt B b vo p v st w) (hBw : B≤w.heap.size) :
  Calls Tryz.prog 77 #[.pointer (some ⟨b,11,none⟩)] w fun e w'=>e = .returned (.string (toB st.buf))∧RdAt B b vo p v st w'∧Below B w w'∧KeepT b w w':=by
 refine (bld_string h.bld hBw).mono ?_
 rintro e w' ⟨rfl,hb,hk,h'⟩
 exact⟨rfl,⟨h',R_keepT h.row (keepT_own h.bld (fun k hl _ ho=>hk k hl ho))⟩,hb,keepT_own h.bld (fun k hl _ ho=>hk k hl ho)⟩
theorem RdAt.wipe {B b : Nat} {vo p v : Value} {st : PSt} {w w' : World} (h : RdAt B b vo p v st w) (hb : w'.heap[b]? = some (.cells (rdC vo st.now st.wh (.pointer none) (.slice none 0 0)) 133 (0,0))) (hk : ∀ k,k≠b→w'.heap[k]? = w.heap[k]?) : RdAt B b vo (.pointer none) (.slice none 0 0) ⟨st.out,st.now,st.wh,[]⟩ w' :=
 ⟨⟨h.bld.lo,hb,rfl,rfl,.inl rfl,World.ownsRowF_nil _ _ _ _,by simp [Value.ownBlock]⟩,Kd.R_move h.row hk⟩
theorem rd_new {B b : Nat} {v1 : Value} {out : List S60} {now : S60} {wh : Int} {w w' : World} (hlo : B≤b) (hb : w'.heap[b]? = some (.cells (rdC v1 now wh (.pointer none) (.slice none 0 0)) 133 (0,0))) (hr : Kd.R k124 124 w B (fun j=>j≠b) v1 (out.map to106)) (hk : ∀ k,k≠b→w'.heap[k]? = w.heap[k]?) : Rd B b ⟨out,now,wh,[]⟩ w' :=
 ⟨v1,_,_,⟨hlo,hb,rfl,rfl,.inl rfl,World.ownsRowF_nil _ _ _ _,by simp [Value.ownBlock]⟩,Kd.R_move hr hk⟩
set_option maxHeartbeats 2000000 in
set_option maxRecDepth 100000 in
theorem rd_reset {B b : Nat} {vo p v : Value} {st : PSt} {w : World} (h : RdAt B b vo p v st w) :
  Calls Tryz.prog 107 #[.pointer (some ⟨b,11,none⟩)] w fun e w'=>e = .returned (.tuple #[])∧RdAt B b vo (.pointer none) (.slice none 0 0) ⟨st.out,st.now,st.wh,[]⟩ w'∧Below B w w'∧KeepT b w w':=by
 have HH:=Zd h
 have c11:w.cell? ⟨b,11,none⟩=some p:=(Lib.cell_of_heap h.bld.blk 11).trans rfl
 have c12:w.cell? ⟨b,12,none⟩=some v:=(Lib.cell_of_heap h.bld.blk 12).trans rfl
 have f11:=h.froz 11
 have f12:=h.froz 12
 clear h
 go_enter Tryz.func107,Tryz.ntmps107
 go_wp2
 go_end0
 have hb:=HH.out.bld.blk
 refine⟨rfl,HH.out.wipe ?_ (fun k hk=>?_),Below.setCell (p:=⟨b,12,none⟩) (Below.setCell (p:=⟨b,11,none⟩) (Below.refl B w) HH.out.bld.lo _) HH.out.bld.lo _,((KeepT.refl b w).set 11 _).set 12 _⟩
 ·simp [World.setCell,Array.getElem?_modify,hb]
 ·rw [Below.heap_setCell _ _ _ _ hk,Below.heap_setCell _ _ _ _ hk]
set_option maxHeartbeats 4000000 in
set_option maxRecDepth 100000 in
theorem rd_to {B b : Nat} {vo p v : Value} {st : PSt} {w : World} (k d : Int) (h : RdAt B b vo p v st w) (hw : 0≤st.wh∧st.wh≤3) (hd : toP k st.wh=d) :
  Calls Tryz.prog 103 #[.pointer (some ⟨b,0,none⟩),.int .u8 k] w fun e w'=>e = .returned (.int .i64 d)∧w'=w:=by
 have c10:w.cell? ⟨b,10,none⟩=some (.int .i64 st.wh):=(Lib.cell_of_heap h.bld.blk 10).trans rfl
 generalize st.wh=wh at c10 hw hd
 clear h
 have go:∀ k0:Int,k=k0∨True:=fun _ => .inr trivial
 clear go
 obtain⟨h0,h3⟩:=hw
 by_cases k60:k=60
 ·subst k60
  obtain rfl|rfl|rfl|rfl:wh=0∨wh=1∨wh=2∨wh=3:=by omega
  all_goals
   subst hd
   go_enter Tryz.func103,Tryz.ntmps103
   go_wp2
   go_ret
   exact⟨rfl,rfl⟩
 by_cases k124:k=124
 ·subst k124
  obtain rfl|rfl|rfl|rfl:wh=0∨wh=1∨wh=2∨wh=3:=by omega
  all_goals
   subst hd
   go_enter Tryz.func103,Tryz.ntmps103
   go_wp2
   go_ret
   exact⟨rfl,rfl⟩
 by_cases k61:k=61
 ·subst k61
  obtain rfl|rfl|rfl|rfl:wh=0∨wh=1∨wh=2∨wh=3:=by omega
  all_goals
   subst hd
   go_enter Tryz.func103,Tryz.ntmps103
   go_wp2
   go_ret
   exact⟨rfl,rfl⟩
 by_cases k62:k=62
 ·subst k62
  obtain rfl|rfl|rfl|rfl:wh=0∨wh=1∨wh=2∨wh=3:=by omega
  all_goals
   subst hd
   go_enter Tryz.func103,Tryz.ntmps103
   go_wp2
   go_ret
   exact⟨rfl,rfl⟩
 have hr:d = -1:=by
  rw [←hd];unfold toP
  rw [if_neg (fun e=>k60 e.1),if_neg (fun e=>k124 e.1),if_neg (fun e=>k61 e.1),if_neg (fun e=>k62 e.1)]
 subst hr
 have q60:(k==(60:Int))=false:=beq_eq_false_iff_ne.2 k60
 have q124:(k==(124:Int))=false:=beq_eq_false_iff_ne.2 k124
 have q61:(k==(61:Int))=false:=beq_eq_false_iff_ne.2 k61
 have q62:(k==(62:Int))=false:=beq_eq_false_iff_ne.2 k62
 clear hd k60 k124 k61 k62
 go_enter Tryz.func103,Tryz.ntmps103
 go_wp2
 go_ret
 exact⟨rfl,rfl⟩
set_option maxHeartbeats 4000000 in
set_option maxRecDepth 100000 in
theorem rd_sideA {B b : Nat} {vo p v : Value} {st : PSt} {w : World} (fl : Bool) (h : RdAt B b vo p v st w) (hn : st.buf.length≤4000000000) (hBw : B≤w.heap.size) :
  Calls Tryz.prog 70 #[.pointer (some ⟨b,0,none⟩),.bool fl] w fun e w'=>e = .returned (.string (sideP fl st.buf))∧RdAt B b vo (.pointer none) (.slice none 0 0) ⟨st.out,st.now,st.wh,[]⟩ w'∧Below B w w'∧KeepT b w w':=by
 have HS:=Zd (rd_string h hBw)
 have HT:=Zd (fun W=>strings_TrimSuffix.calls (toB st.buf) ⟨#[10]⟩ _ W (trims (toB st.buf) (by rw [←size_data,data_toB];exact hn)))
 have HB:=Zd hBw
 clear h hBw hn
 cases fl
 ·have e:sideP false st.buf=toB st.buf:=rfl
  rw [e]
  go_enter Tryz.func70,Tryz.ntmps70
  go_wp2_with (first
   | (go_at_call 77;refine HS.out.mono ?_;rintro e w1 ⟨rfl,h1,hb1,hk1⟩;have H1:=Zd h1;have HB1:=Zd hb1;have HK1:=Zd hk1;clear h1 hb1 hk1)
   | (go_at_call 107;refine (rd_reset H1.out).mono ?_;rintro e w2 ⟨rfl,h2,hb2,hk2⟩;have H2:=Zd h2;have HB2:=Zd (Below.trans HB1.out hb2);have HK2:=Zd (KeepT.trans HK1.out hk2);clear h2 hb2 hk2))
  go_ret
  exact⟨rfl,H2.out,HB2.out,HK2.out⟩
 ·have e:sideP true st.buf=toB (trimL (toB st.buf).data.toList):=by rw [data_toB];rfl
  rw [e]
  go_enter Tryz.func70,Tryz.ntmps70
  go_wp2_with (first
   | (go_at_call 77;refine HS.out.mono ?_;rintro e w1 ⟨rfl,h1,hb1,hk1⟩;have H1:=Zd h1;have HB1:=Zd hb1;have HK1:=Zd hk1;clear h1 hb1 hk1)
   | (go_at_call 107;refine (rd_reset H1.out).mono ?_;rintro e w2 ⟨rfl,h2,hb2,hk2⟩;have H2:=Zd h2;have HB2:=Zd (Below.trans HB1.out hb2);have HK2:=Zd (KeepT.trans HK1.out hk2);clear h2 hb2 hk2)
   | (go_at_call 100;refine (HT.out _).mono ?_;rintro e w3 ⟨rfl,nd,rfl⟩))
  go_ret
  exact⟨rfl,H2.out.below (pw_below_drewN (Below.refl _ _) nd),pw_below_drewN HB2.out nd,HK2.out.drewN nd⟩
theorem rd_side {B b : Nat} {st : PSt} {w : World} (fl : Bool) (h : Rd B b st w) (hn : st.buf.length≤4000000000) (hBw : B≤w.heap.size) :
  Calls Tryz.prog 70 #[.pointer (some ⟨b,0,none⟩),.bool fl] w fun e w'=>e = .returned (.string (sideP fl st.buf))∧(∃ vo,RdAt B b vo (.pointer none) (.slice none 0 0) ⟨st.out,st.now,st.wh,[]⟩ w')∧Below B w w'∧KeepT b w w':=by
 obtain⟨vo,p,v,h⟩:=h
 refine (rd_sideA fl h hn hBw).mono ?_
 rintro e w' ⟨rfl,h1,hb,hk⟩
 exact⟨rfl,⟨vo,h1⟩,hb,hk⟩
set_option maxHeartbeats 4000000 in
set_option maxRecDepth 100000 in
theorem rd_lacks {B b : Nat} {st : PSt} {w : World} (h : Rd B b st w) (hn : st.buf.length≤4000000000) (hBw : B≤w.heap.size) :
  Calls Tryz.prog 104 #[.pointer (some ⟨b,0,none⟩)] w fun e w'=>e = .returned (.bool (lacksP st.buf))∧Rd B b st w'∧Below B w w'∧KeepT b w w':=by
 obtain⟨vo,p,v,h⟩:=h
 have HS:=Zd (rd_string h hBw)
 have HT:=Zd (fun W=>strings_TrimSuffix.calls (toB st.buf) ⟨#[10]⟩ _ W (trims (toB st.buf) (by rw [←size_data,data_toB];exact hn)))
 have HQ:=Zd (fun W=>strings_HasSuffix.calls (toB (trimL (toB st.buf).data.toList)) ⟨#[10]⟩ _ W (sufx _ (by rw [←size_data,data_toB,data_toB];have:=trimL_le st.buf;omega)))
 have HB:=Zd hBw
 have el:lacksP st.buf=(!(toB (trimL (toB st.buf).data.toList)).toList.isEmpty && !endsL (toB (trimL (toB st.buf).data.toList)).data.toList):=by rw [bytes_toList,data_toB,data_toB];rfl
 rw [el]
 clear h hBw hn el
 generalize endsL (toB (trimL (toB st.buf).data.toList)).data.toList=q at HQ ⊢
 generalize toB (trimL (toB st.buf).data.toList)=s at HQ HT ⊢
 go_enter Tryz.func104,Tryz.ntmps104
 go_wp2_with (first
  | (go_at_call 77;refine HS.out.mono ?_;rintro e w1 ⟨rfl,h1,hb1,hk1⟩;have H1:=Zd h1;have HB1:=Zd hb1;have HK1:=Zd hk1;clear h1 hb1 hk1)
  | (go_at_call 100;refine (HT.out _).mono ?_;rintro e w3 ⟨rfl,nd,rfl⟩)
  | (go_at_call 109;refine (HQ.out _).mono ?_;rintro e w2 ⟨rfl,nd2,rfl⟩))
 all_goals go_ret
 ·rename_i hz
  rw [show (!s.toList.isEmpty && !q)=false by rw [hz];rfl]
  exact⟨rfl,⟨_,_,_,H1.out.below (pw_below_drewN (Below.refl _ _) nd)⟩,pw_below_drewN HB1.out nd,HK1.out.drewN nd⟩
 ·exact⟨rfl,⟨_,_,_,H1.out.below (pw_below_drewN (Below.refl _ _) _)⟩,pw_below_drewN HB1.out _,HK1.out.drewN _⟩
theorem tr1o {W : World} {p : Addr} {v : Value} (o : Obj) (h : W.cell? p=some v) : (W.alloc o).cell? p=some v := ((below_alloc (Below.refl W.heap.size W) o).cell (World.block_lt_of_cell? W _ h)).trans h
theorem part_inf : (Tryz.prog.info? 124).map (fun i=>(i.zero,i.size,i.bytes))=some (some (.agg #[.string ⟨#[]⟩,.string ⟨#[]⟩,.string ⟨#[]⟩,.bool false,.string ⟨#[]⟩,.string ⟨#[]⟩,.string ⟨#[]⟩,.string ⟨#[]⟩,.bool false]),9,128) := by kernel_rfl
set_option maxHeartbeats 4000000 in
set_option maxRecDepth 100000 in
theorem rd_stray {B b : Nat} {st : PSt} {w : World} (k : Int) (fl : Bool) (lb : ByteArray) (h : Rd B b st w) (hw : 0≤st.wh∧st.wh≤3) (hd : toP k st.wh = -1) (hBw : B≤w.heap.size) :
  Calls Tryz.prog 67 #[.pointer (some ⟨b,0,none⟩),.agg #[.int .u8 k,.bool fl,.string lb]] w fun e w'=>e = .returned (.int .i64 (if k=60 then 7 else 8))∧Below B w w':=by
 obtain⟨vo,p,v,h⟩:=h
 have HT:=Zd (fun W (hb:Below w.heap.size w W)=>rd_to k (-1) (h.below hb) hw hd)
 have HB:=Zd (fun o=>(Below.refl B w).alloc hBw o)
 clear h hw hd hBw
 by_cases h60:k=60
 ·subst h60
  rw [if_pos rfl]
  go_enter Tryz.func67,Tryz.ntmps67
  go_wp2_with (go_at_call 103;refine (HT.out _ (below_alloc (Below.refl _ _) _)).mono ?_;rintro e w1 ⟨rfl,rfl⟩)
  go_ret
  exact⟨rfl,HB.out _⟩
 ·rw [if_neg h60]
  have q:(k==(60:Int))=false:=beq_eq_false_iff_ne.2 h60
  clear h60
  go_enter Tryz.func67,Tryz.ntmps67
  go_wp2_with (go_at_call 103;refine (HT.out _ (below_alloc (Below.refl _ _) _)).mono ?_;rintro e w1 ⟨rfl,rfl⟩)
  go_ret
  exact⟨rfl,HB.out _⟩
set_option maxHeartbeats 4000000 in
set_option maxRecDepth 100000 in
theorem rd_flag {B b : Nat} {st : PSt} {w : World} (k d : Int) (lb : ByteArray) (h : Rd B b st w) (hw : 0≤st.wh∧st.wh≤3) (hd : toP k st.wh=d) (hn : d ≠ -1) (hl : lacksP st.buf=false) (hs : st.buf.length≤4000000000) (hBw : B≤w.heap.size) :
  Calls Tryz.prog 67 #[.pointer (some ⟨b,0,none⟩),.agg #[.int .u8 k,.bool true,.string lb]] w fun e w'=>e = .returned (.int .i64 9)∧Below B w w':=by
 obtain⟨vo,p,v,h⟩:=h
 have HT:=Zd (fun W (hb:Below w.heap.size w W)=>rd_to k d (h.below hb) hw hd)
 have HL:=Zd (fun W (hb:Below w.heap.size w W)=>rd_lacks ⟨vo,p,v,h.below hb⟩ hs (Nat.le_trans hBw hb.size))
 rw [hl] at HL
 have HB:=Zd (fun o=>(Below.refl B w).alloc hBw o)
 have q:(d==(-1:Int))=false:=beq_eq_false_iff_ne.2 hn
 clear h hw hd hBw hl hn
 by_cases h60:k=60
 ·subst h60
  go_enter Tryz.func67,Tryz.ntmps67
  go_wp2_with (first
   | (go_at_call 103;refine (HT.out _ (below_alloc (Below.refl _ _) _)).mono ?_;rintro e w1 ⟨rfl,rfl⟩)
   | (go_at_call 104;refine (HL.out _ (below_alloc (Below.refl _ _) _)).mono ?_;rintro e w2 ⟨rfl,_,hb2,_⟩))
  go_ret
  exact⟨rfl,Below.trans (HB.out _) hb2⟩
 ·have q6:(k==(60:Int))=false:=beq_eq_false_iff_ne.2 h60
  clear h60
  go_enter Tryz.func67,Tryz.ntmps67
  go_wp2_with (first
   | (go_at_call 103;refine (HT.out _ (below_alloc (Below.refl _ _) _)).mono ?_;rintro e w1 ⟨rfl,rfl⟩)
   | (go_at_call 104;refine (HL.out _ (below_alloc (Below.refl _ _) _)).mono ?_;rintro e w2 ⟨rfl,_,hb2,_⟩))
  go_ret
  exact⟨rfl,Below.trans (HB.out _) hb2⟩
set_option maxHeartbeats 16000000 in
set_option maxRecDepth 100000 in
theorem rd_ok_0_60 {B b : Nat} {out : List S60} {now : S60} {buf : List UInt8} {w : World} (fl : Bool) (lb : ByteArray) (h : Rd B b ⟨out,now,0,buf⟩ w) (hf : ¬ (fl=true∧lacksP buf=false)) (hn : buf.length≤4000000000) (hout : out.length≤100000000000) (hBw : B≤w.heap.size) :
  Calls Tryz.prog 67 #[.pointer (some ⟨b,0,none⟩),.agg #[.int .u8 60,.bool fl,.string lb]] w fun e w'=>e = .returned (.int .i64 0)∧Rd B b ⟨out++[textP (sideP fl buf)],openP lb,1,[]⟩ w'∧Below B w w'∧KeepU b w w':=by
 obtain⟨vo0,p0,v0,h⟩:=h
 have hlen:(out.map to106).length=out.length:=List.length_map ..
 have HH:=Zd h
 have hlo:Aside0 (B≤b):=⟨h.bld.lo⟩
 have HSd:=Zd (fun W (hr:Rd B b ⟨out,now,0,buf⟩ W) hBW=>rd_side (w:=W) fl hr hn hBW)
 have HLk:Aside0 (∀ W,Rd B b ⟨out,now,0,buf⟩ W→B≤W.heap.size→fl=true→Calls Tryz.prog 104 #[.pointer (some ⟨b,0,none⟩)] W fun e w'=>e = .returned (.bool true)∧Rd B b ⟨out,now,0,buf⟩ w'∧Below B W w'∧KeepT b W w'):=⟨fun W hr hBW he=>by
  have:=rd_lacks hr hn hBW
  have hl:lacksP buf=true:=by
   cases hq:lacksP buf with
   | true=>rfl
   | false=>exact absurd ⟨he,hq⟩ hf
  rw [show lacksP (⟨out,now,0,buf⟩:PSt).buf=true from hl] at this
  exact this⟩
 generalize hs:sideP fl buf=s
 rw [show sideP fl (⟨out,now,0,buf⟩:PSt).buf=s from hs] at HSd
 have HBl:Aside0 (∀ o,Below B w (w.alloc o)):=⟨fun o=>(Below.refl B w).alloc hBw o⟩
 have HBZ:Aside0 (∀ o,B≤(w.alloc o).heap.size):=⟨fun o=>Nat.le_trans hBw (below_alloc (Below.refl w.heap.size w) o).size⟩
 clear h hf hn hs
 go_enter Tryz.func67,Tryz.ntmps67
 go_wp2_with fail
 have HM:=Zd (World.alloc_heap_new w (.cells #[.int .u8 60,.bool fl,.string lb] 134))
 have HR:=Zd (HH.out.below (below_alloc (Below.refl w.heap.size w) (.cells #[.int .u8 60,.bool fl,.string lb] 134)))
 have HB:=Zd (HBl.out (.cells #[.int .u8 60,.bool fl,.string lb] 134))
 have HBW:=Zd (HBZ.out (.cells #[.int .u8 60,.bool fl,.string lb] 134))
 have hne:w.heap.size≠b:=by have:=HH.out.bld.lt;omega
 have HK:=Zd (KeepT.below (b:=b) (below_alloc (Below.refl w.heap.size w) (.cells #[.int .u8 60,.bool fl,.string lb] 134)))
 clear HBl HBZ HH hBw
 generalize w.alloc (.cells #[.int .u8 60,.bool fl,.string lb] 134)=W at *
 generalize w.heap.size=nb at *
 have m0:=(blk_cell HM.out 0).trans (rfl:_=some (Value.int .u8 60))
 have m1:=(blk_cell HM.out 1).trans (rfl:_=some (Value.bool fl))
 have m2:=(blk_cell HM.out 2).trans (rfl:_=some (Value.string lb))
 cases fl
 all_goals refine (rd_to 60 1 HR.out (by show (0:Int)≤0∧(0:Int)≤3;omega) rfl).mono ?_
 all_goals rintro e w1 ⟨rfl,rfl⟩
 all_goals go_wp2_with (first
  | (go_at_call 104;(refine (HLk.out _ ⟨_,_,_,HR.out⟩ HBW.out (by first|trivial|rfl)).mono ?_;rintro e w2 ⟨rfl,⟨vo2,p2,v2,h2⟩,hb2,hk2⟩;have n1_:=Zd h2;have n2_:=Zd (KeepT.trans HK.out hk2);have n3_:=Zd (Below.trans HB.out hb2);have n4_:=Zd (Nat.le_trans HBW.out hb2.size);have n5_:=Zd (hk2.cell HM.out (by decide) hne);clear HR HK HB HBW HM h2 hb2 hk2;have HR:=n1_;have HK:=n2_;have HB:=n3_;have HBW:=n4_;have HM:=n5_;clear n1_ n2_ n3_ n4_ n5_;have m21:=(blk_cell HM.out 1).trans (rfl:_=some (Value.bool true)))))
 all_goals (refine (HSd.out _ ⟨_,_,_,HR.out⟩ HBW.out).mono ?_;rintro e w3 ⟨rfl,⟨vo,h3⟩,hb3,hk3⟩;have HR3:=Zd h3;have HK3:=Zd (KeepU.of (KeepT.trans HK.out hk3));have HB3:=Zd (Below.trans HB.out hb3);have HBW3:=Zd (Nat.le_trans HBW.out hb3.size);have HM3:=Zd (hk3.cell HM.out (by decide) hne);obtain⟨Av,cv,hvo⟩:=Kd.R_slice HR3.out.row;rw [List.length_map] at hvo;subst hvo;have n2:=(blk_cell HM3.out 2).trans (rfl:_=some (Value.string lb));have c0:=(blk_cell HR3.out.bld.blk 0).trans (rfl:_=some (Value.slice Av out.length cv));have cz0:=Lib.frozen_of_heap HR3.out.bld.blk 0;have c10:=(blk_cell HR3.out.bld.blk 10).trans (rfl:_=some (Value.int .i64 0));have cz10:=Lib.frozen_of_heap HR3.out.bld.blk 10;have hne2:=hne;have HFr:Aside0 (∀ j,w3.heap.size≤j→j≠b):=⟨fun j hj e=>by have:=HR3.out.bld.lt;omega⟩;clear h3 hb3 hk3)
 all_goals go_wp2_with (first
  | (at_builtin;(refine Kd.R_append k124 (w0:=w) B rfl (.tmp 44) (.tmp 47) 33 124 (.agg #[.string ⟨#[]⟩,.string ⟨#[]⟩,.string ⟨#[]⟩,.bool false,.string ⟨#[]⟩,.string ⟨#[]⟩,.string ⟨#[]⟩,.string ⟨#[]⟩,.bool false]) 128 rfl Tryz.underlying33 part_inf rfl (by decide) (by omega) (.slice Av out.length cv) (out.map to106) (to106 (textP s)) [.string ⟨#[]⟩,.string ⟨#[]⟩,.string ⟨#[]⟩,.bool false,.string s,.string ⟨#[]⟩,.string ⟨#[]⟩,.string ⟨#[]⟩,.bool false] (fun j=>j≠b) (fun _=>False) rfl rfl (k124_mkM _ _ _ _) (fun _ hk=>hk.elim) HFr.out HR3.out.row HB3.out HBW3.out (by omega) ?_;intro v1 w4 ho4 hb4 hg4 hat4;obtain⟨Aw,cw,hv1⟩:=Kd.R_slice ho4;rw [List.length_append,List.length_map,List.length_singleton] at hv1;subst hv1;have HF4:=Zd ((hg4.block b HR3.out.bld.lt (fun e=>HR3.out.row.1 b e.symm rfl)).trans HR3.out.bld.blk);have HM4:=Zd ((hg4.block nb (Array.getElem?_eq_some_iff.1 HM3.out).1 (Kd.R_ne HR3.out.row HM3.out (by decide))).trans HM3.out);have HR4:=Zd ho4;have HK4:=Zd (HK3.out.grown hg4 (Kd.R_typed HR3.out.row));have HB4:=Zd hb4;have p2:=(blk_cell HM4.out 2).trans (rfl:_=some (Value.string lb));have d0:=(blk_cell HF4.out 0).trans (rfl:_=some (Value.slice Av out.length cv));have dz0:=Lib.frozen_of_heap HF4.out 0;have d1:=(blk_cell HF4.out 1).trans (rfl:_=some (Value.string now.f0));have dz1:=Lib.frozen_of_heap HF4.out 1;have d2:=(blk_cell HF4.out 2).trans (rfl:_=some (Value.string now.f1));have dz2:=Lib.frozen_of_heap HF4.out 2;have d3:=(blk_cell HF4.out 3).trans (rfl:_=some (Value.string now.f2));have dz3:=Lib.frozen_of_heap HF4.out 3;have d4:=(blk_cell HF4.out 4).trans (rfl:_=some (Value.bool now.f3));have dz4:=Lib.frozen_of_heap HF4.out 4;have d5:=(blk_cell HF4.out 5).trans (rfl:_=some (Value.string now.f4));have dz5:=Lib.frozen_of_heap HF4.out 5;have d6:=(blk_cell HF4.out 6).trans (rfl:_=some (Value.string now.f5));have dz6:=Lib.frozen_of_heap HF4.out 6;have d7:=(blk_cell HF4.out 7).trans (rfl:_=some (Value.string now.f6));have dz7:=Lib.frozen_of_heap HF4.out 7;have d8:=(blk_cell HF4.out 8).trans (rfl:_=some (Value.string now.f7));have dz8:=Lib.frozen_of_heap HF4.out 8;have d9:=(blk_cell HF4.out 9).trans (rfl:_=some (Value.bool now.f8));have dz9:=Lib.frozen_of_heap HF4.out 9;have d10:=(blk_cell HF4.out 10).trans (rfl:_=some (Value.int .i64 0));have dz10:=Lib.frozen_of_heap HF4.out 10;clear ho4 hb4 hg4 hat4)))
 all_goals go_ret
 all_goals refine⟨rfl,rd_new (w:=w4) hlo.out ?_ (by rw [List.map_append];exact HR4.out) (fun k hk=>by simp [World.setCell,Array.getElem?_modify,Ne.symm hk]),?_,?_⟩
 all_goals first
  | (simp [World.setCell,Array.getElem?_modify,HF4.out,openP];done)
  | ((with_reducible refine KeepU.set ?_ _ _);(repeat (first|(with_reducible exact HK4.out)|(with_reducible refine KeepU.set ?_ _ _)));done)
  | (repeat (first|(with_reducible exact HB4.out)|(with_reducible refine Below.setCell (p:=⟨b,_,none⟩) ?_ hlo.out _)))
set_option maxHeartbeats 16000000 in
set_option maxRecDepth 100000 in
theorem rd_ok_1_124 {B b : Nat} {out : List S60} {now : S60} {buf : List UInt8} {w : World} (fl : Bool) (lb : ByteArray) (h : Rd B b ⟨out,now,1,buf⟩ w) (hf : ¬ (fl=true∧lacksP buf=false)) (hn : buf.length≤4000000000) (hout : out.length≤100000000000) (hBw : B≤w.heap.size) :
  Calls Tryz.prog 67 #[.pointer (some ⟨b,0,none⟩),.agg #[.int .u8 124,.bool fl,.string lb]] w fun e w'=>e = .returned (.int .i64 0)∧Rd B b ⟨out,hasP (leftP now (sideP fl buf)) lb,2,[]⟩ w'∧Below B w w'∧KeepU b w w':=by
 obtain⟨vo0,p0,v0,h⟩:=h
 have hlen:(out.map to106).length=out.length:=List.length_map ..
 have HH:=Zd h
 have hlo:Aside0 (B≤b):=⟨h.bld.lo⟩
 have HSd:=Zd (fun W (hr:Rd B b ⟨out,now,1,buf⟩ W) hBW=>rd_side (w:=W) fl hr hn hBW)
 have HLk:Aside0 (∀ W,Rd B b ⟨out,now,1,buf⟩ W→B≤W.heap.size→fl=true→Calls Tryz.prog 104 #[.pointer (some ⟨b,0,none⟩)] W fun e w'=>e = .returned (.bool true)∧Rd B b ⟨out,now,1,buf⟩ w'∧Below B W w'∧KeepT b W w'):=⟨fun W hr hBW he=>by
  have:=rd_lacks hr hn hBW
  have hl:lacksP buf=true:=by
   cases hq:lacksP buf with
   | true=>rfl
   | false=>exact absurd ⟨he,hq⟩ hf
  rw [show lacksP (⟨out,now,1,buf⟩:PSt).buf=true from hl] at this
  exact this⟩
 generalize hs:sideP fl buf=s
 rw [show sideP fl (⟨out,now,1,buf⟩:PSt).buf=s from hs] at HSd
 have HBl:Aside0 (∀ o,Below B w (w.alloc o)):=⟨fun o=>(Below.refl B w).alloc hBw o⟩
 have HBZ:Aside0 (∀ o,B≤(w.alloc o).heap.size):=⟨fun o=>Nat.le_trans hBw (below_alloc (Below.refl w.heap.size w) o).size⟩
 clear h hf hn hs
 go_enter Tryz.func67,Tryz.ntmps67
 go_wp2_with fail
 have HM:=Zd (World.alloc_heap_new w (.cells #[.int .u8 124,.bool fl,.string lb] 134))
 have HR:=Zd (HH.out.below (below_alloc (Below.refl w.heap.size w) (.cells #[.int .u8 124,.bool fl,.string lb] 134)))
 have HB:=Zd (HBl.out (.cells #[.int .u8 124,.bool fl,.string lb] 134))
 have HBW:=Zd (HBZ.out (.cells #[.int .u8 124,.bool fl,.string lb] 134))
 have hne:w.heap.size≠b:=by have:=HH.out.bld.lt;omega
 have HK:=Zd (KeepT.below (b:=b) (below_alloc (Below.refl w.heap.size w) (.cells #[.int .u8 124,.bool fl,.string lb] 134)))
 clear HBl HBZ HH hBw
 generalize w.alloc (.cells #[.int .u8 124,.bool fl,.string lb] 134)=W at *
 generalize w.heap.size=nb at *
 have m0:=(blk_cell HM.out 0).trans (rfl:_=some (Value.int .u8 124))
 have m1:=(blk_cell HM.out 1).trans (rfl:_=some (Value.bool fl))
 have m2:=(blk_cell HM.out 2).trans (rfl:_=some (Value.string lb))
 cases fl
 all_goals refine (rd_to 124 2 HR.out (by show (0:Int)≤1∧(1:Int)≤3;omega) rfl).mono ?_
 all_goals rintro e w1 ⟨rfl,rfl⟩
 all_goals go_wp2_with (first
  | (go_at_call 104;(refine (HLk.out _ ⟨_,_,_,HR.out⟩ HBW.out (by first|trivial|rfl)).mono ?_;rintro e w2 ⟨rfl,⟨vo2,p2,v2,h2⟩,hb2,hk2⟩;have n1_:=Zd h2;have n2_:=Zd (KeepT.trans HK.out hk2);have n3_:=Zd (Below.trans HB.out hb2);have n4_:=Zd (Nat.le_trans HBW.out hb2.size);have n5_:=Zd (hk2.cell HM.out (by decide) hne);clear HR HK HB HBW HM h2 hb2 hk2;have HR:=n1_;have HK:=n2_;have HB:=n3_;have HBW:=n4_;have HM:=n5_;clear n1_ n2_ n3_ n4_ n5_;have m21:=(blk_cell HM.out 1).trans (rfl:_=some (Value.bool true)))))
 all_goals (refine (HSd.out _ ⟨_,_,_,HR.out⟩ HBW.out).mono ?_;rintro e w3 ⟨rfl,⟨vo,h3⟩,hb3,hk3⟩;have HR3:=Zd h3;have HK3:=Zd (KeepU.of (KeepT.trans HK.out hk3));have HB3:=Zd (Below.trans HB.out hb3);have HBW3:=Zd (Nat.le_trans HBW.out hb3.size);have HM3:=Zd (hk3.cell HM.out (by decide) hne);obtain⟨Av,cv,hvo⟩:=Kd.R_slice HR3.out.row;rw [List.length_map] at hvo;subst hvo;have n2:=(blk_cell HM3.out 2).trans (rfl:_=some (Value.string lb));have c6:=(blk_cell HR3.out.bld.blk 6).trans (rfl:_=some (Value.string now.f5));have cz6:=Lib.frozen_of_heap HR3.out.bld.blk 6;have c10:=(blk_cell HR3.out.bld.blk 10).trans (rfl:_=some (Value.int .i64 1));have cz10:=Lib.frozen_of_heap HR3.out.bld.blk 10;have hne2:=hne;have HFr:Aside0 (∀ j,w3.heap.size≤j→j≠b):=⟨fun j hj e=>by have:=HR3.out.bld.lt;omega⟩;clear h3 hb3 hk3)
 all_goals go_wp2
 all_goals have HF5:Aside0 ((w3.setCell ⟨b,6,none⟩ (.string s)).heap[b]? = some (.cells (rdC (.slice Av out.length cv) (leftP now s) 1 (.pointer none) (.slice none 0 0)) 133 (0,0))):=⟨by simp [World.setCell,Array.getElem?_modify,HR3.out.bld.blk,leftP]⟩
 all_goals have HK5:Aside0 (∀ k,k≠b→(w3.setCell ⟨b,6,none⟩ (.string s)).heap[k]? = w3.heap[k]?):=⟨fun k hk=>Below.heap_setCell _ _ _ _ hk⟩
 all_goals have HB5:=Zd (Below.setCell (p:=⟨b,6,none⟩) HB3.out hlo.out (.string s))
 all_goals have HM5:=Zd ((HK5.out nb hne).trans HM3.out)
 all_goals have HU5:=Zd (HK3.out.set 6 (.string s))
 all_goals generalize w3.setCell ⟨b,6,none⟩ (.string s)=w5 at *
 all_goals have e2:=(blk_cell HM5.out 2).trans (rfl:_=some (Value.string lb))
 all_goals (have d2:=(blk_cell HF5.out 2).trans (rfl:_=some (Value.string now.f1));have dz2:=Lib.frozen_of_heap HF5.out 2;have d9:=(blk_cell HF5.out 9).trans (rfl:_=some (Value.bool now.f8));have dz9:=Lib.frozen_of_heap HF5.out 9;have d10:=(blk_cell HF5.out 10).trans (rfl:_=some (Value.int .i64 1));have dz10:=Lib.frozen_of_heap HF5.out 10)
 all_goals have hmx:Tryz.prog.follows Departure.mixedOrders=true:=by kernel_rfl
 all_goals have hne':b≠nb:=fun e=>hne e.symm
 all_goals go_region_o
 all_goals go_wp2
 all_goals go_ret
 all_goals refine⟨rfl,rd_new (w:=w3) hlo.out ?_ HR3.out.row (fun k hk=>?_),?_,?_⟩
 all_goals first
  | (simp [World.setCell,World.drew,Array.getElem?_modify,HF5.out,leftP,hasP];done)
  | (simp [World.setCell,World.drew,Array.getElem?_modify,Ne.symm hk,HK5.out k hk];done)
  | ((with_reducible refine KeepU.drew ?_);(repeat (first|(with_reducible exact HU5.out)|(with_reducible refine KeepU.set ?_ _ _)));done)
  | (refine below_drew1 ?_;repeat (first|(with_reducible exact HB5.out)|(with_reducible refine Below.setCell (p:=⟨b,_,none⟩) ?_ hlo.out _)))
set_option maxHeartbeats 16000000 in
set_option maxRecDepth 100000 in
theorem rd_ok_1_61 {B b : Nat} {out : List S60} {now : S60} {buf : List UInt8} {w : World} (fl : Bool) (lb : ByteArray) (h : Rd B b ⟨out,now,1,buf⟩ w) (hf : ¬ (fl=true∧lacksP buf=false)) (hn : buf.length≤4000000000) (hout : out.length≤100000000000) (hBw : B≤w.heap.size) :
  Calls Tryz.prog 67 #[.pointer (some ⟨b,0,none⟩),.agg #[.int .u8 61,.bool fl,.string lb]] w fun e w'=>e = .returned (.int .i64 0)∧Rd B b ⟨out,leftP now (sideP fl buf),3,[]⟩ w'∧Below B w w'∧KeepU b w w':=by
 obtain⟨vo0,p0,v0,h⟩:=h
 have hlen:(out.map to106).length=out.length:=List.length_map ..
 have HH:=Zd h
 have hlo:Aside0 (B≤b):=⟨h.bld.lo⟩
 have HSd:=Zd (fun W (hr:Rd B b ⟨out,now,1,buf⟩ W) hBW=>rd_side (w:=W) fl hr hn hBW)
 have HLk:Aside0 (∀ W,Rd B b ⟨out,now,1,buf⟩ W→B≤W.heap.size→fl=true→Calls Tryz.prog 104 #[.pointer (some ⟨b,0,none⟩)] W fun e w'=>e = .returned (.bool true)∧Rd B b ⟨out,now,1,buf⟩ w'∧Below B W w'∧KeepT b W w'):=⟨fun W hr hBW he=>by
  have:=rd_lacks hr hn hBW
  have hl:lacksP buf=true:=by
   cases hq:lacksP buf with
   | true=>rfl
   | false=>exact absurd ⟨he,hq⟩ hf
  rw [show lacksP (⟨out,now,1,buf⟩:PSt).buf=true from hl] at this
  exact this⟩
 generalize hs:sideP fl buf=s
 rw [show sideP fl (⟨out,now,1,buf⟩:PSt).buf=s from hs] at HSd
 have HBl:Aside0 (∀ o,Below B w (w.alloc o)):=⟨fun o=>(Below.refl B w).alloc hBw o⟩
 have HBZ:Aside0 (∀ o,B≤(w.alloc o).heap.size):=⟨fun o=>Nat.le_trans hBw (below_alloc (Below.refl w.heap.size w) o).size⟩
 clear h hf hn hs
 go_enter Tryz.func67,Tryz.ntmps67
 go_wp2_with fail
 have HM:=Zd (World.alloc_heap_new w (.cells #[.int .u8 61,.bool fl,.string lb] 134))
 have HR:=Zd (HH.out.below (below_alloc (Below.refl w.heap.size w) (.cells #[.int .u8 61,.bool fl,.string lb] 134)))
 have HB:=Zd (HBl.out (.cells #[.int .u8 61,.bool fl,.string lb] 134))
 have HBW:=Zd (HBZ.out (.cells #[.int .u8 61,.bool fl,.string lb] 134))
 have hne:w.heap.size≠b:=by have:=HH.out.bld.lt;omega
 have HK:=Zd (KeepT.below (b:=b) (below_alloc (Below.refl w.heap.size w) (.cells #[.int .u8 61,.bool fl,.string lb] 134)))
 clear HBl HBZ HH hBw
 generalize w.alloc (.cells #[.int .u8 61,.bool fl,.string lb] 134)=W at *
 generalize w.heap.size=nb at *
 have m0:=(blk_cell HM.out 0).trans (rfl:_=some (Value.int .u8 61))
 have m1:=(blk_cell HM.out 1).trans (rfl:_=some (Value.bool fl))
 have m2:=(blk_cell HM.out 2).trans (rfl:_=some (Value.string lb))
 cases fl
 all_goals refine (rd_to 61 3 HR.out (by show (0:Int)≤1∧(1:Int)≤3;omega) rfl).mono ?_
 all_goals rintro e w1 ⟨rfl,rfl⟩
 all_goals go_wp2_with (first
  | (go_at_call 104;(refine (HLk.out _ ⟨_,_,_,HR.out⟩ HBW.out (by first|trivial|rfl)).mono ?_;rintro e w2 ⟨rfl,⟨vo2,p2,v2,h2⟩,hb2,hk2⟩;have n1_:=Zd h2;have n2_:=Zd (KeepT.trans HK.out hk2);have n3_:=Zd (Below.trans HB.out hb2);have n4_:=Zd (Nat.le_trans HBW.out hb2.size);have n5_:=Zd (hk2.cell HM.out (by decide) hne);clear HR HK HB HBW HM h2 hb2 hk2;have HR:=n1_;have HK:=n2_;have HB:=n3_;have HBW:=n4_;have HM:=n5_;clear n1_ n2_ n3_ n4_ n5_;have m21:=(blk_cell HM.out 1).trans (rfl:_=some (Value.bool true)))))
 all_goals (refine (HSd.out _ ⟨_,_,_,HR.out⟩ HBW.out).mono ?_;rintro e w3 ⟨rfl,⟨vo,h3⟩,hb3,hk3⟩;have HR3:=Zd h3;have HK3:=Zd (KeepU.of (KeepT.trans HK.out hk3));have HB3:=Zd (Below.trans HB.out hb3);have HBW3:=Zd (Nat.le_trans HBW.out hb3.size);have HM3:=Zd (hk3.cell HM.out (by decide) hne);obtain⟨Av,cv,hvo⟩:=Kd.R_slice HR3.out.row;rw [List.length_map] at hvo;subst hvo;have n2:=(blk_cell HM3.out 2).trans (rfl:_=some (Value.string lb));have c6:=(blk_cell HR3.out.bld.blk 6).trans (rfl:_=some (Value.string now.f5));have cz6:=Lib.frozen_of_heap HR3.out.bld.blk 6;have c10:=(blk_cell HR3.out.bld.blk 10).trans (rfl:_=some (Value.int .i64 1));have cz10:=Lib.frozen_of_heap HR3.out.bld.blk 10;have hne2:=hne;have HFr:Aside0 (∀ j,w3.heap.size≤j→j≠b):=⟨fun j hj e=>by have:=HR3.out.bld.lt;omega⟩;clear h3 hb3 hk3)
 all_goals go_wp2
 all_goals go_ret
 all_goals refine⟨rfl,rd_new (w:=w3) hlo.out ?_ HR3.out.row (fun k hk=>by simp [World.setCell,Array.getElem?_modify,Ne.symm hk]),?_,?_⟩
 all_goals first
  | (simp [World.setCell,Array.getElem?_modify,HR3.out.bld.blk,leftP,baseP];done)
  | ((with_reducible refine KeepU.set ?_ _ _);(repeat (first|(with_reducible exact HK3.out)|(with_reducible refine KeepU.set ?_ _ _)));done)
  | (repeat (first|(with_reducible exact HB3.out)|(with_reducible refine Below.setCell (p:=⟨b,_,none⟩) ?_ hlo.out _)))
set_option maxHeartbeats 16000000 in
set_option maxRecDepth 100000 in
theorem rd_ok_2_61 {B b : Nat} {out : List S60} {now : S60} {buf : List UInt8} {w : World} (fl : Bool) (lb : ByteArray) (h : Rd B b ⟨out,now,2,buf⟩ w) (hf : ¬ (fl=true∧lacksP buf=false)) (hn : buf.length≤4000000000) (hout : out.length≤100000000000) (hBw : B≤w.heap.size) :
  Calls Tryz.prog 67 #[.pointer (some ⟨b,0,none⟩),.agg #[.int .u8 61,.bool fl,.string lb]] w fun e w'=>e = .returned (.int .i64 0)∧Rd B b ⟨out,baseP now (sideP fl buf),3,[]⟩ w'∧Below B w w'∧KeepU b w w':=by
 obtain⟨vo0,p0,v0,h⟩:=h
 have hlen:(out.map to106).length=out.length:=List.length_map ..
 have HH:=Zd h
 have hlo:Aside0 (B≤b):=⟨h.bld.lo⟩
 have HSd:=Zd (fun W (hr:Rd B b ⟨out,now,2,buf⟩ W) hBW=>rd_side (w:=W) fl hr hn hBW)
 have HLk:Aside0 (∀ W,Rd B b ⟨out,now,2,buf⟩ W→B≤W.heap.size→fl=true→Calls Tryz.prog 104 #[.pointer (some ⟨b,0,none⟩)] W fun e w'=>e = .returned (.bool true)∧Rd B b ⟨out,now,2,buf⟩ w'∧Below B W w'∧KeepT b W w'):=⟨fun W hr hBW he=>by
  have:=rd_lacks hr hn hBW
  have hl:lacksP buf=true:=by
   cases hq:lacksP buf with
   | true=>rfl
   | false=>exact absurd ⟨he,hq⟩ hf
  rw [show lacksP (⟨out,now,2,buf⟩:PSt).buf=true from hl] at this
  exact this⟩
 generalize hs:sideP fl buf=s
 rw [show sideP fl (⟨out,now,2,buf⟩:PSt).buf=s from hs] at HSd
 have HBl:Aside0 (∀ o,Below B w (w.alloc o)):=⟨fun o=>(Below.refl B w).alloc hBw o⟩
 have HBZ:Aside0 (∀ o,B≤(w.alloc o).heap.size):=⟨fun o=>Nat.le_trans hBw (below_alloc (Below.refl w.heap.size w) o).size⟩
 clear h hf hn hs
 go_enter Tryz.func67,Tryz.ntmps67
 go_wp2_with fail
 have HM:=Zd (World.alloc_heap_new w (.cells #[.int .u8 61,.bool fl,.string lb] 134))
 have HR:=Zd (HH.out.below (below_alloc (Below.refl w.heap.size w) (.cells #[.int .u8 61,.bool fl,.string lb] 134)))
 have HB:=Zd (HBl.out (.cells #[.int .u8 61,.bool fl,.string lb] 134))
 have HBW:=Zd (HBZ.out (.cells #[.int .u8 61,.bool fl,.string lb] 134))
 have hne:w.heap.size≠b:=by have:=HH.out.bld.lt;omega
 have HK:=Zd (KeepT.below (b:=b) (below_alloc (Below.refl w.heap.size w) (.cells #[.int .u8 61,.bool fl,.string lb] 134)))
 clear HBl HBZ HH hBw
 generalize w.alloc (.cells #[.int .u8 61,.bool fl,.string lb] 134)=W at *
 generalize w.heap.size=nb at *
 have m0:=(blk_cell HM.out 0).trans (rfl:_=some (Value.int .u8 61))
 have m1:=(blk_cell HM.out 1).trans (rfl:_=some (Value.bool fl))
 have m2:=(blk_cell HM.out 2).trans (rfl:_=some (Value.string lb))
 cases fl
 all_goals refine (rd_to 61 3 HR.out (by show (0:Int)≤2∧(2:Int)≤3;omega) rfl).mono ?_
 all_goals rintro e w1 ⟨rfl,rfl⟩
 all_goals go_wp2_with (first
  | (go_at_call 104;(refine (HLk.out _ ⟨_,_,_,HR.out⟩ HBW.out (by first|trivial|rfl)).mono ?_;rintro e w2 ⟨rfl,⟨vo2,p2,v2,h2⟩,hb2,hk2⟩;have n1_:=Zd h2;have n2_:=Zd (KeepT.trans HK.out hk2);have n3_:=Zd (Below.trans HB.out hb2);have n4_:=Zd (Nat.le_trans HBW.out hb2.size);have n5_:=Zd (hk2.cell HM.out (by decide) hne);clear HR HK HB HBW HM h2 hb2 hk2;have HR:=n1_;have HK:=n2_;have HB:=n3_;have HBW:=n4_;have HM:=n5_;clear n1_ n2_ n3_ n4_ n5_;have m21:=(blk_cell HM.out 1).trans (rfl:_=some (Value.bool true)))))
 all_goals (refine (HSd.out _ ⟨_,_,_,HR.out⟩ HBW.out).mono ?_;rintro e w3 ⟨rfl,⟨vo,h3⟩,hb3,hk3⟩;have HR3:=Zd h3;have HK3:=Zd (KeepU.of (KeepT.trans HK.out hk3));have HB3:=Zd (Below.trans HB.out hb3);have HBW3:=Zd (Nat.le_trans HBW.out hb3.size);have HM3:=Zd (hk3.cell HM.out (by decide) hne);obtain⟨Av,cv,hvo⟩:=Kd.R_slice HR3.out.row;rw [List.length_map] at hvo;subst hvo;have n2:=(blk_cell HM3.out 2).trans (rfl:_=some (Value.string lb));have c7:=(blk_cell HR3.out.bld.blk 7).trans (rfl:_=some (Value.string now.f6));have cz7:=Lib.frozen_of_heap HR3.out.bld.blk 7;have c10:=(blk_cell HR3.out.bld.blk 10).trans (rfl:_=some (Value.int .i64 2));have cz10:=Lib.frozen_of_heap HR3.out.bld.blk 10;have hne2:=hne;have HFr:Aside0 (∀ j,w3.heap.size≤j→j≠b):=⟨fun j hj e=>by have:=HR3.out.bld.lt;omega⟩;clear h3 hb3 hk3)
 all_goals go_wp2
 all_goals go_ret
 all_goals refine⟨rfl,rd_new (w:=w3) hlo.out ?_ HR3.out.row (fun k hk=>by simp [World.setCell,Array.getElem?_modify,Ne.symm hk]),?_,?_⟩
 all_goals first
  | (simp [World.setCell,Array.getElem?_modify,HR3.out.bld.blk,leftP,baseP];done)
  | ((with_reducible refine KeepU.set ?_ _ _);(repeat (first|(with_reducible exact HK3.out)|(with_reducible refine KeepU.set ?_ _ _)));done)
  | (repeat (first|(with_reducible exact HB3.out)|(with_reducible refine Below.setCell (p:=⟨b,_,none⟩) ?_ hlo.out _)))
set_option maxHeartbeats 16000000 in
set_option maxRecDepth 100000 in
theorem rd_ok_3_62 {B b : Nat} {out : List S60} {now : S60} {buf : List UInt8} {w : World} (fl : Bool) (lb : ByteArray) (h : Rd B b ⟨out,now,3,buf⟩ w) (hf : ¬ (fl=true∧lacksP buf=false)) (hn : buf.length≤4000000000) (hout : out.length≤100000000000) (hBw : B≤w.heap.size) :
  Calls Tryz.prog 67 #[.pointer (some ⟨b,0,none⟩),.agg #[.int .u8 62,.bool fl,.string lb]] w fun e w'=>e = .returned (.int .i64 0)∧Rd B b ⟨out++[closeP now (sideP fl buf) lb],closeP now (sideP fl buf) lb,0,[]⟩ w'∧Below B w w'∧KeepU b w w':=by
 obtain⟨vo0,p0,v0,h⟩:=h
 have hlen:(out.map to106).length=out.length:=List.length_map ..
 have HH:=Zd h
 have hlo:Aside0 (B≤b):=⟨h.bld.lo⟩
 have HSd:=Zd (fun W (hr:Rd B b ⟨out,now,3,buf⟩ W) hBW=>rd_side (w:=W) fl hr hn hBW)
 have HLk:Aside0 (∀ W,Rd B b ⟨out,now,3,buf⟩ W→B≤W.heap.size→fl=true→Calls Tryz.prog 104 #[.pointer (some ⟨b,0,none⟩)] W fun e w'=>e = .returned (.bool true)∧Rd B b ⟨out,now,3,buf⟩ w'∧Below B W w'∧KeepT b W w'):=⟨fun W hr hBW he=>by
  have:=rd_lacks hr hn hBW
  have hl:lacksP buf=true:=by
   cases hq:lacksP buf with
   | true=>rfl
   | false=>exact absurd ⟨he,hq⟩ hf
  rw [show lacksP (⟨out,now,3,buf⟩:PSt).buf=true from hl] at this
  exact this⟩
 generalize hs:sideP fl buf=s
 rw [show sideP fl (⟨out,now,3,buf⟩:PSt).buf=s from hs] at HSd
 have HBl:Aside0 (∀ o,Below B w (w.alloc o)):=⟨fun o=>(Below.refl B w).alloc hBw o⟩
 have HBZ:Aside0 (∀ o,B≤(w.alloc o).heap.size):=⟨fun o=>Nat.le_trans hBw (below_alloc (Below.refl w.heap.size w) o).size⟩
 clear h hf hn hs
 go_enter Tryz.func67,Tryz.ntmps67
 go_wp2_with fail
 have HM:=Zd (World.alloc_heap_new w (.cells #[.int .u8 62,.bool fl,.string lb] 134))
 have HR:=Zd (HH.out.below (below_alloc (Below.refl w.heap.size w) (.cells #[.int .u8 62,.bool fl,.string lb] 134)))
 have HB:=Zd (HBl.out (.cells #[.int .u8 62,.bool fl,.string lb] 134))
 have HBW:=Zd (HBZ.out (.cells #[.int .u8 62,.bool fl,.string lb] 134))
 have hne:w.heap.size≠b:=by have:=HH.out.bld.lt;omega
 have HK:=Zd (KeepT.below (b:=b) (below_alloc (Below.refl w.heap.size w) (.cells #[.int .u8 62,.bool fl,.string lb] 134)))
 clear HBl HBZ HH hBw
 generalize w.alloc (.cells #[.int .u8 62,.bool fl,.string lb] 134)=W at *
 generalize w.heap.size=nb at *
 have m0:=(blk_cell HM.out 0).trans (rfl:_=some (Value.int .u8 62))
 have m1:=(blk_cell HM.out 1).trans (rfl:_=some (Value.bool fl))
 have m2:=(blk_cell HM.out 2).trans (rfl:_=some (Value.string lb))
 cases fl
 all_goals refine (rd_to 62 0 HR.out (by show (0:Int)≤3∧(3:Int)≤3;omega) rfl).mono ?_
 all_goals rintro e w1 ⟨rfl,rfl⟩
 all_goals go_wp2_with (first
  | (go_at_call 104;(refine (HLk.out _ ⟨_,_,_,HR.out⟩ HBW.out (by first|trivial|rfl)).mono ?_;rintro e w2 ⟨rfl,⟨vo2,p2,v2,h2⟩,hb2,hk2⟩;have n1_:=Zd h2;have n2_:=Zd (KeepT.trans HK.out hk2);have n3_:=Zd (Below.trans HB.out hb2);have n4_:=Zd (Nat.le_trans HBW.out hb2.size);have n5_:=Zd (hk2.cell HM.out (by decide) hne);clear HR HK HB HBW HM h2 hb2 hk2;have HR:=n1_;have HK:=n2_;have HB:=n3_;have HBW:=n4_;have HM:=n5_;clear n1_ n2_ n3_ n4_ n5_;have m21:=(blk_cell HM.out 1).trans (rfl:_=some (Value.bool true)))))
 all_goals (refine (HSd.out _ ⟨_,_,_,HR.out⟩ HBW.out).mono ?_;rintro e w3 ⟨rfl,⟨vo,h3⟩,hb3,hk3⟩;have HR3:=Zd h3;have HK3:=Zd (KeepU.of (KeepT.trans HK.out hk3));have HB3:=Zd (Below.trans HB.out hb3);have HBW3:=Zd (Nat.le_trans HBW.out hb3.size);have HM3:=Zd (hk3.cell HM.out (by decide) hne);obtain⟨Av,cv,hvo⟩:=Kd.R_slice HR3.out.row;rw [List.length_map] at hvo;subst hvo;have n2:=(blk_cell HM3.out 2).trans (rfl:_=some (Value.string lb));have c3:=(blk_cell HR3.out.bld.blk 3).trans (rfl:_=some (Value.string now.f2));have cz3:=Lib.frozen_of_heap HR3.out.bld.blk 3;have c8:=(blk_cell HR3.out.bld.blk 8).trans (rfl:_=some (Value.string now.f7));have cz8:=Lib.frozen_of_heap HR3.out.bld.blk 8;have c10:=(blk_cell HR3.out.bld.blk 10).trans (rfl:_=some (Value.int .i64 3));have cz10:=Lib.frozen_of_heap HR3.out.bld.blk 10;have hne2:=hne;have HFr:Aside0 (∀ j,w3.heap.size≤j→j≠b):=⟨fun j hj e=>by have:=HR3.out.bld.lt;omega⟩;clear h3 hb3 hk3)
 all_goals go_wp2
 all_goals have hmx:Tryz.prog.follows Departure.mixedOrders=true:=by kernel_rfl
 all_goals have hne':b≠nb:=fun e=>hne e.symm
 all_goals go_region_o
 all_goals have HF5:Aside0 ((((w3.setCell ⟨b,8,none⟩ (.string s)).setCell ⟨b,3,none⟩ (.string lb)).drew).heap[b]? = some (.cells (rdC (.slice Av out.length cv) (closeP now s lb) 3 (.pointer none) (.slice none 0 0)) 133 (0,0))):=⟨by simp [World.setCell,World.drew,Array.getElem?_modify,HR3.out.bld.blk,closeP]⟩
 all_goals have HK5:Aside0 (∀ k,k≠b→(((w3.setCell ⟨b,8,none⟩ (.string s)).setCell ⟨b,3,none⟩ (.string lb)).drew).heap[k]? = w3.heap[k]?):=⟨fun k hk=>by simp [World.setCell,World.drew,Array.getElem?_modify,Ne.symm hk]⟩
 all_goals have HB5:Aside0 (Below B w (((w3.setCell ⟨b,8,none⟩ (.string s)).setCell ⟨b,3,none⟩ (.string lb)).drew)):=⟨below_drew1 (Below.setCell (p:=⟨b,3,none⟩) (Below.setCell (p:=⟨b,8,none⟩) HB3.out hlo.out _) hlo.out _)⟩
 all_goals have HU5:Aside0 (KeepU b w (((w3.setCell ⟨b,8,none⟩ (.string s)).setCell ⟨b,3,none⟩ (.string lb)).drew)):=⟨((HK3.out.set 8 _).set 3 _).drew⟩
 all_goals have HS5:Aside0 ((((w3.setCell ⟨b,8,none⟩ (.string s)).setCell ⟨b,3,none⟩ (.string lb)).drew).heap.size=w3.heap.size):=⟨by simp [World.setCell,World.drew]⟩
 all_goals generalize ((w3.setCell ⟨b,8,none⟩ (.string s)).setCell ⟨b,3,none⟩ (.string lb)).drew=w5 at *
 all_goals have HR5:=Zd (Kd.R_drew (Kd.R_move HR3.out.row HK5.out))
 all_goals have HL5:Aside0 (B≤w5.drew.heap.size):=⟨by show B≤w5.heap.size;rw [HS5.out];exact HBW3.out⟩
 all_goals have HFr5:Aside0 (∀ j,w5.drew.heap.size≤j→j≠b):=⟨fun j hj e=>by have h5:w5.heap.size≤j:=hj;have:=(Array.getElem?_eq_some_iff.1 HF5.out).1;omega⟩
 all_goals (have d0:=(blk_cell HF5.out 0).trans (rfl:_=some (Value.slice Av out.length cv));have dz0:=Lib.frozen_of_heap HF5.out 0;have d1:=(blk_cell HF5.out 1).trans (rfl:_=some (Value.string now.f0));have dz1:=Lib.frozen_of_heap HF5.out 1;have d2:=(blk_cell HF5.out 2).trans (rfl:_=some (Value.string now.f1));have dz2:=Lib.frozen_of_heap HF5.out 2;have d3:=(blk_cell HF5.out 3).trans (rfl:_=some (Value.string lb));have dz3:=Lib.frozen_of_heap HF5.out 3;have d4:=(blk_cell HF5.out 4).trans (rfl:_=some (Value.bool now.f3));have dz4:=Lib.frozen_of_heap HF5.out 4;have d5:=(blk_cell HF5.out 5).trans (rfl:_=some (Value.string now.f4));have dz5:=Lib.frozen_of_heap HF5.out 5;have d6:=(blk_cell HF5.out 6).trans (rfl:_=some (Value.string now.f5));have dz6:=Lib.frozen_of_heap HF5.out 6;have d7:=(blk_cell HF5.out 7).trans (rfl:_=some (Value.string now.f6));have dz7:=Lib.frozen_of_heap HF5.out 7;have d8:=(blk_cell HF5.out 8).trans (rfl:_=some (Value.string s));have dz8:=Lib.frozen_of_heap HF5.out 8;have d9:=(blk_cell HF5.out 9).trans (rfl:_=some (Value.bool now.f8));have dz9:=Lib.frozen_of_heap HF5.out 9;have d10:=(blk_cell HF5.out 10).trans (rfl:_=some (Value.int .i64 3));have dz10:=Lib.frozen_of_heap HF5.out 10)
 all_goals have d0o:∀ o,(w5.alloc o).cell? ⟨b,0,none⟩=some (Value.slice Av out.length cv):=fun o=>tr1o o d0
 all_goals clear HR3 HB3 HBW3 HM3 HFr HK5 HS5 HK3 n2 c3 c8 c10 cz3 cz8 cz10
 all_goals go_wp2
 all_goals go_region_law ((refine Kd.R_append_step k124 (w0:=w) (W:=w5.drew) B (by rfl) (.tmp 90) (.tmp 95) 33 124 (.agg #[.string ⟨#[]⟩,.string ⟨#[]⟩,.string ⟨#[]⟩,.bool false,.string ⟨#[]⟩,.string ⟨#[]⟩,.string ⟨#[]⟩,.string ⟨#[]⟩,.bool false]) 128 (by rfl) Tryz.underlying33 part_inf rfl (by decide) (by omega) (.slice Av out.length cv) (out.map to106) (to106 (closeP now s lb)) [.string now.f0,.string now.f1,.string lb,.bool now.f3,.string now.f4,.string now.f5,.string now.f6,.string s,.bool now.f8] (fun j=>j≠b) (fun _=>False) (by rfl) (by rfl) (k124_mkM _ _ _ _) (fun _ hk=>hk.elim) HFr5.out HR5.out (below_drew1 HB5.out) HL5.out (by omega) ?_;intro v1 w6 ho6 hb6 hg6 hat6;obtain⟨Aw,cw,hv1⟩:=Kd.R_slice ho6;rw [List.length_append,List.length_map,List.length_singleton] at hv1;subst hv1;have HF6:=Zd ((hg6.block b (Array.getElem?_eq_some_iff.1 (show w5.drew.heap[b]? = _ from HF5.out)).1 (fun e=>HR5.out.1 b e.symm rfl)).trans (show w5.drew.heap[b]? = _ from HF5.out));have HR6:=Zd ho6;have HU6:=Zd (KeepU.grown (KeepU.drew HU5.out) hg6 (Kd.R_typed HR5.out));have HB6:=Zd hb6;have g0:=(blk_cell HF6.out 0).trans (rfl:_=some (Value.slice Av out.length cv));have gz0:=Lib.frozen_of_heap HF6.out 0;have g10:=(blk_cell HF6.out 10).trans (rfl:_=some (Value.int .i64 3));have gz10:=Lib.frozen_of_heap HF6.out 10;clear ho6 hb6 hg6 hat6))
 all_goals go_wp2
 all_goals go_ret
 all_goals refine⟨rfl,rd_new (w:=w6) hlo.out ?_ (by rw [List.map_append];exact HR6.out) (fun k hk=>?_),?_,?_⟩
 all_goals first
  | (simp [World.setCell,World.drew,Array.getElem?_modify,HF6.out,closeP];done)
  | (simp [World.setCell,World.drew,Array.getElem?_modify,Ne.symm hk];done)
  | ((with_reducible refine KeepU.set ?_ _ _);(repeat (first|(with_reducible exact HU6.out)|(with_reducible refine KeepU.set ?_ _ _)|(with_reducible refine KeepU.drew ?_)));done)
  | (repeat (first|(with_reducible exact HB6.out)|(with_reducible refine Below.setCell (p:=⟨b,_,none⟩) ?_ hlo.out _)))
theorem toP_cases {k wh : Int} (h : toP k wh ≠ -1) : (k=60∧wh=0)∨(k=124∧wh=1)∨(k=61∧(wh=1∨wh=2))∨(k=62∧wh=3) := by
 unfold toP at h
 split at h
 ·rename_i q;exact .inl q
 ·split at h
  ·rename_i q;exact .inr (.inl q)
  ·split at h
   ·rename_i q;exact .inr (.inr (.inl q))
   ·split at h
    ·rename_i q;exact .inr (.inr (.inr q))
    ·exact absurd rfl h
theorem rd_marker {B b : Nat} {st q : PSt} {w : World} (k er : Int) (fl : Bool) (lb : ByteArray) (h : Rd B b st w) (hw : 0≤st.wh∧st.wh≤3) (hn : st.buf.length≤4000000000) (hout : st.out.length≤100000000000) (hBw : B≤w.heap.size) (hm : markP st k fl lb=(q,er)) :
  Calls Tryz.prog 67 #[.pointer (some ⟨b,0,none⟩),.agg #[.int .u8 k,.bool fl,.string lb]] w fun e w'=>e = .returned (.int .i64 er)∧(er=0→Rd B b q w'∧KeepU b w w')∧Below B w w':=by
 by_cases hd:toP k st.wh = -1
 ·unfold markP at hm
  rw [if_pos hd] at hm
  injection hm with h1 h2
  subst h2
  refine (rd_stray k fl lb h hw hd hBw).mono ?_
  rintro e w' ⟨rfl,hb⟩
  exact⟨rfl,fun e=>(by split at e<;>cases e),hb⟩
 by_cases hf:fl=true∧lacksP st.buf=false
 ·unfold markP at hm
  rw [if_neg hd,if_pos hf] at hm
  injection hm with h1 h2
  subst h2
  obtain⟨rfl,hl⟩:=hf
  refine (rd_flag k _ lb h hw rfl hd hl hn hBw).mono ?_
  rintro e w' ⟨rfl,hb⟩
  exact⟨rfl,fun e=>(by cases e),hb⟩
 rw [markP_ok rfl hd hf] at hm
 injection hm with h1 h2
 subst h1 h2
 have fin:∀ {e:Ending} {w':World} {s:PSt},(e = .returned (.int .i64 0)∧Rd B b s w'∧Below B w w'∧KeepU b w w')→(e = .returned (.int .i64 0)∧((0:Int)=0→Rd B b s w'∧KeepU b w w')∧Below B w w'):=fun h=>⟨h.1,fun _=>⟨h.2.1,h.2.2.2⟩,h.2.2.1⟩
 obtain⟨out,now,wh,buf⟩:=st
 rcases toP_cases hd with ⟨rfl,e⟩|⟨rfl,e⟩|⟨rfl,e⟩|⟨rfl,e⟩
 ·simp only at e;subst e
  exact (rd_ok_0_60 fl lb h hf hn hout hBw).mono (fun e w' h=>fin h)
 ·simp only at e;subst e
  exact (rd_ok_1_124 fl lb h hf hn hout hBw).mono (fun e w' h=>fin h)
 ·simp only at e
  rcases e with rfl|rfl
  ·exact (rd_ok_1_61 fl lb h hf hn hout hBw).mono (fun e w' h=>fin h)
  ·exact (rd_ok_2_61 fl lb h hf hn hout hBw).mono (fun e w' h=>fin h)
 ·simp only at e;subst e
  exact (rd_ok_3_62 fl lb h hf hn hout hBw).mono (fun e w' h=>fin h)
theorem markP_next {st q : PSt} {k : Int} {fl : Bool} {lb : ByteArray} (hm : markP st k fl lb=(q,0)) : (0≤q.wh∧q.wh≤3)∧q.buf=[]∧q.out.length≤st.out.length+1 := by
 unfold markP at hm
 split at hm
 ·injection hm with _ h2;split at h2<;>cases h2
 ·rename_i hd
  split at hm
  ·injection hm with _ h2;cases h2
  ·injection hm with h1 h2
   subst h1
   refine⟨?_,rfl,?_⟩
   ·show 0≤toP k st.wh∧toP k st.wh≤3
    unfold toP at hd ⊢
    repeat' split
    all_goals first|omega|simp_all
   ·show (putP st _ lb).1.length≤_
    unfold putP
    repeat' split
    all_goals simp
end Go.Proofs.YtfiamddinkokbaaGreat.F
end
