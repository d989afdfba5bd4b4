/- Texts joined into one file (wip/tools/pack.py): Number, F0 -/
import Derived.Test.YtfiamddinkokbaaTA2
import Derived.Maps.Own
import Derived.Maps.OwnOps
import Derived.Maps.OwnSet
import Derived.Test.YtfiamddinkokbaaProg
import Derived.Below
import Derived.Deep.Draws
import Derived.Deep.AppendLies
import Derived.Maps.AppendAt
import Derived.OwnWalk
import Derived.Laws.BytesArg
import Derived.Laws.MakeOwn
import Derived.Laws.OwnMore
import Derived.Deep.OwnRows
import Derived.Tactics
import Derived.Lib.ConvBytes
import Derived.Laws.Slices
import Derived.WalkKit
import Derived.KernelRfl
import Derived.RowKit3
import Derived.Deep.LoopGhost
import Derived.Deep.QuietTactic
import Derived.BigQuiet
import Derived.WideLaws
import Derived.Deep.DeepCutAuto
import Derived.Deep.CutBlock
import Derived.Deep.RegionHeld3
import Derived.Laws.Rows
import Derived.Lib.AppendStr
import Derived.ArgAppend
import Derived.Laws.IdiomCopy
import Derived.OrdersHeld
import Derived.Laws.BitsLemmas
import Derived.RowKit
import Derived.Test.YtfiamddinkokbaaTAWords1
import Derived.Test.YtfiamddinkokbaaTAWords2
import Derived.Test.YtfiamddinkokbaaTAWords3
import Derived.Test.YtfiamddinkokbaaTAWords4
set_option linter.unusedVariables false
set_option linter.unusedSimpArgs false
section
namespace Go.Proofs.Ytfiamddinkokbaa
open Go.RowKit Go.Shelf Go.Maps Go.Proofs.YtfiamddinkokbaaW.PrintWords
def numStep (kn : List (List UInt8)) (s : ByteArray) : List (List UInt8) := if s.data.toList∈kn then kn else kn++[s.data.toList]
def numOf (kn : List (List UInt8)) (s : ByteArray) : Int := (kn.idxOf s.data.toList : Nat)
def numRow : List (List UInt8)→List ByteArray→List Int
 | _,[]=>[]
 | kn,s::t=>numOf kn s::numRow (numStep kn s) t
def knRow (kn : List (List UInt8)) (l : List ByteArray) : List (List UInt8) := l.foldl numStep kn
def numAll : List (List UInt8)→List (List ByteArray)→List (List Int)
 | _,[]=>[]
 | kn,f::t=>numRow kn f::numAll (knRow kn f) t
def knAll (kn : List (List UInt8)) (fs : List (List ByteArray)) : List (List UInt8) := fs.foldl knRow kn
def numberB (fs : List (List ByteArray)) : List (List Int) := numAll [] fs
theorem numRow_snoc (kn : List (List UInt8)) (l : List ByteArray) (s : ByteArray) : numRow kn (l++[s])=numRow kn l++[numOf (knRow kn l) s] := by
 induction l generalizing kn with
 | nil=>rfl
 | cons a t ih=>simp only [List.cons_append,numRow,knRow,List.foldl_cons];rw [ih];rfl
theorem knRow_snoc (kn : List (List UInt8)) (l : List ByteArray) (s : ByteArray) : knRow kn (l++[s])=numStep (knRow kn l) s := by simp [knRow]
theorem numAll_snoc (kn : List (List UInt8)) (fs : List (List ByteArray)) (f : List ByteArray) : numAll kn (fs++[f])=numAll kn fs++[numRow (knAll kn fs) f] := by
 induction fs generalizing kn with
 | nil=>rfl
 | cons a t ih=>simp only [List.cons_append,numAll,knAll,List.foldl_cons];rw [ih];rfl
theorem knAll_snoc (kn : List (List UInt8)) (fs : List (List ByteArray)) (f : List ByteArray) : knAll kn (fs++[f])=knRow (knAll kn fs) f := by simp [knAll]
theorem numRow_length (kn : List (List UInt8)) (l : List ByteArray) : (numRow kn l).length=l.length := by
 induction l generalizing kn with
 | nil=>rfl
 | cons a t ih=>simp [numRow,ih]
theorem numAll_length (kn : List (List UInt8)) (fs : List (List ByteArray)) : (numAll kn fs).length=fs.length := by
 induction fs generalizing kn with
 | nil=>rfl
 | cons a t ih=>simp [numAll,ih]
def Knows (D : DataW Unit) (kn : List (List UInt8)) : Prop :=
 Maps.Tidy D∧Maps.size D=kn.length∧∀ s:List UInt8,Maps.has D (.string s)=decide (s∈kn)∧(s∈kn→D.atKey (.string s) (.lit (.int .i64 0)) = .lit (.int .i64 (kn.idxOf s:Nat)))
theorem knows_nil : Knows (.map []) [] := ⟨Maps.tidy_empty,rfl,fun s=>⟨by simp [Maps.has],fun h=>by simp at h⟩⟩
theorem knows_put {D : DataW Unit} {kn : List (List UInt8)} (h : Knows D kn) (s : List UInt8) (hs : s∉kn) : Knows (D.put (.string s) (.lit (.int .i64 (kn.length : Nat)))) (kn++[s]) := by
 obtain⟨h1,h2,h3⟩:=h
 have hh:=(h3 s).1
 rw [decide_eq_false hs] at hh
 have hk:WideAt.IsKeyLit (.string s):=trivial
 refine⟨h1.put hk _,?_,fun t=>?_⟩
 ·rw [Maps.size_put h1,hh,h2];simp
 ·by_cases ht:t=s
  ·subst ht
   refine⟨?_,fun _=>?_⟩
   ·rw [Maps.has_put_same h1.isMap hk];simp
   ·rw [Maps.atKey_put_same h1.isMap hk]
    rw [List.idxOf_append,if_neg hs];simp
  ·have hne:(Lit.string t) ≠ .string s:=fun e=>ht (by injection e)
   refine⟨?_,fun hm=>?_⟩
   ·rw [Maps.has_put_other hne,(h3 t).1];simp [ht]
   ·rw [Maps.atKey_put_other hne]
    have hm':t∈kn:=by simpa [ht] using hm
    rw [(h3 t).2 hm',List.idxOf_append,if_pos hm']
theorem num_keyed : Maps.Keyed Try.prog 9 := Maps.string_keyed Try.underlying9
theorem num_zero (w : World) : (zeroValue 3).run Try.prog w = .ok (.int .i64 0) w := by kernel_rfl
theorem num_info3 : (Try.prog.info? 3).map (fun i=>(i.zero,i.size,i.bytes))=some (some (.int .i64 0),1,8) := by kernel_rfl
theorem num_info50 : (Try.prog.info? 50).map (fun i=>(i.zero,i.size,i.bytes))=some (some (.slice none 0 0),1,24) := by kernel_rfl
def total (fs : List (List ByteArray)) : Nat := (fs.map List.length).sum
set_option maxRecDepth 100000 in
set_option maxHeartbeats 4000000 in
theorem number_calls (A0 : Option Addr) (c0 : Nat) (l0 : List (List ByteArray)) (w : World) (hr0 : Kd.C (Kd.slice 9 Kd.string) w A0 l0.length l0) (hc0 : l0.length≤c0) (hsz : ∀ f∈l0,∀ s∈f,s.size≤4000000000) (ht : total l0≤4000000000) (hl0 : l0.length≤4000000000) :
  Calls Try.prog 38 #[.slice A0 l0.length c0] w fun e w'=>∃ v0_:Value,e = .returned (v0_)∧Kd.S (Kd.slice 3 (Kd.int .i64)) 50 w' w.heap.size (fun _=>True) v0_ (numberB l0)∧Below w.heap.size w w':=by
 have hmm:=@run_makeMap Try.prog
 go_enter Try.func38,Try.ntmps38
 go_wp2
 go_loopw [4,15] (fun v4 v15 wr=>∃ i:Nat,i≤l0.length∧v15 = .int .i64 i∧Aside0 (Kd.S (Kd.slice 3 (Kd.int .i64)) 50 wr w.heap.size (fun k=>k≠w.heap.size) v4 (numAll [] (l0.take i)))∧Aside0 (∃ D:DataW Unit,wr.ownsMap Try.prog 9 (plainElem Try.prog 3) w.heap.size (total (l0.take i)) D∧Knows D (knAll [] (l0.take i)))∧Aside0 (Below w.heap.size w wr))
  (fun _ v15 _=>l0.length-(intOf v15).toNat)
 case atStart =>
  exact⟨0,Nat.zero_le _,rfl,⟨Kd.S_nil _ _ _ _ _⟩,⟨.map [],World.ownsMap_made _ _ _ _,knows_nil⟩,⟨(Below.refl _ _).alloc (Nat.le_refl _) _⟩⟩
 case round =>
  obtain⟨i,hi,rfl,HS,HM,HB⟩:=hrel
  by_cases hlt:i<l0.length
  ·obtain⟨f,hf⟩:∃ f,l0[i]? = some f:=⟨_,List.getElem?_eq_getElem hlt⟩
   obtain⟨ad,rfl,hc⟩:=hr0.2.2 (by omega)
   obtain⟨c,hcl,hck,hcell⟩:=hc i f hf
   obtain⟨Ai,ci,rfl,hfc,hfr⟩:=hck
   have hcw:w.cell? (ad.add i)=some (.slice Ai f.length ci):=by
    have:=hcell 0 _ rfl
    simpa [show (Kd.slice 9 Kd.string).sz=1 from rfl] using this
   have hcr:wr.cell? (ad.add i)=some (.slice Ai f.length ci):=(HB.out.cell (World.block_lt_of_cell? w _ hcw)).trans hcw
   have htk:l0.take (i+1)=l0.take i++[f]:=by rw [List.take_add_one,hf];rfl
   have hft:total (l0.take i)+f.length≤total l0:=by
    have h1:total (l0.take (i+1))=total (l0.take i)+f.length:=by rw [htk];simp [total]
    have h2:total (l0.take (i+1))+total (l0.drop (i+1))=total l0:=by
     unfold total;rw [←List.sum_append,←List.map_append,List.take_append_drop]
    omega
   have HTK:=Lib.hid htk
   have HC:=Lib.hid hc
   have HF:=Lib.hid hf
   have HCELL:=Lib.hid hcell
   have HFR:=Aside0.mk hfr
   have HW:=Aside0.mk hcw
   have hl1:((l0.take i).map List.length).sum=total (l0.take i):=rfl
   clear htk hc hf hcell hfr hcw hl1
   go_wp2
   obtain⟨wo,rfl⟩:∃ wo:World,wo=wr:=⟨_,rfl⟩
   go_loopw [7,21] (fun v7 v21 wr=>∃ j:Nat,j≤f.length∧v21 = .int .i64 j∧Aside0 (Kd.R (Kd.int .i64) 3 wr w.heap.size (fun k=>k≠w.heap.size) v7 (numRow (knAll [] (l0.take i)) (f.take j))) ∧
     Aside0 (Kd.S (Kd.slice 3 (Kd.int .i64)) 50 wr w.heap.size (fun k=>k≠w.heap.size∧some k≠v7.ownBlock) u4 (numAll [] (l0.take i))) ∧
     Aside0 (∃ D:DataW Unit,wr.ownsMap Try.prog 9 (plainElem Try.prog 3) w.heap.size (total (l0.take i)+j) D∧Knows D (knRow (knAll [] (l0.take i)) (f.take j)))∧Aside0 (Below w.heap.size w wr))
    (fun _ v21 _=>f.length-(intOf v21).toNat)
   case atStart =>
    exact⟨0,Nat.zero_le _,rfl,⟨Kd.R_nil _ _ _ _ _⟩,⟨Kd.S_mono HS.out (fun k hk=>⟨hk,by simp [Value.ownBlock]⟩)⟩,HM,HB⟩
   case round =>
    obtain⟨j,hj,rfl,HR,HS2,HM2,HB2⟩:=hrel
    by_cases hjt:j<f.length
    ·obtain⟨s,hs⟩:∃ s,f[j]? = some s:=⟨_,List.getElem?_eq_getElem hjt⟩
     have hss:s.size≤4000000000:=hsz f (List.mem_of_getElem? HF.out) s (List.mem_of_getElem? hs)
     obtain⟨adi,rfl,hci⟩:=HFR.out.2.2 (by omega)
     obtain⟨ci2,_,hck2,hcell2⟩:=hci j s hs
     have hck3:ci2=[Value.string s]:=hck2
     subst hck3
     have hsw:w.cell? (adi.add j)=some (.string s):=by
      have:=hcell2 0 _ rfl
      simpa [show (Kd.string).sz=1 from rfl] using this
     have hsr:wr.cell? (adi.add j)=some (.string s):=(HB2.out.cell (World.block_lt_of_cell? w _ hsw)).trans hsw
     have hcr2:wr.cell? (ad.add i)=some (.slice (some adi) f.length ci):=(HB2.out.cell (World.block_lt_of_cell? w _ HW.out)).trans HW.out
     have htj:f.take (j+1)=f.take j++[s]:=by rw [List.take_add_one,hs];rfl
     have HTJ:=Lib.hid htj
     have HSS:=Lib.hid hs
     obtain⟨D,hown,hkn⟩:=HM2.out
     have HKN:=Aside0.mk hkn
     have hkey:=WideMaps.keyOf_string_mk (P:=Try.prog) Try.underlying9 (s:=s) (by unfold maxLen;omega)
     have hnew:w.heap.size<wr.heap.size:=hown.lt
     by_cases hm:s.data.toList∈knRow (knAll [] (l0.take i)) (f.take j)
     ·have hhas:Maps.has D (.string s.data.toList)=true:=by rw [(hkn.2.2 _).1];exact decide_eq_true hm
      have HAT:=Lib.hid ((hkn.2.2 _).2 hm)
      have HMEM:=Lib.hid hm
      clear htj hs hsw hci hcell2 hck2 hkn hm
      have hne:some w.heap.size≠u7.ownBlock:=fun e=>HR.out.1 _ e.symm rfl
      have hrl:(numRow (knAll [] (l0.take i)) (f.take j)).length≤4000000000:=by rw [numRow_length,List.length_take];omega
      go_wp2_with (first|(at_lookup;refine wpList_lookup_own_ok_int _ rfl _ _ 119 rfl 9 3 .i64 num_keyed Try.underlying119 Try.underlying3 (num_zero _) w.heap.size _ D rfl hown _ _ rfl hkey ?_;intro c hat hwc;rw [HAT.out] at hat;injection hat with hat;injection hat with _ hat;have HCC:=Lib.hid hat;clear hat hwc)|(at_builtin;refine Kd.R_append (Kd.int .i64) (w0:=w) w.heap.size rfl (.tmp 38) (.tmp 40) 50 3 (.int .i64 0) 8 rfl Try.underlying50 num_info3 rfl (by decide) (by omega) u7 (numRow (knAll [] (l0.take i)) (f.take j)) c [.int .i64 c] (fun k=>k≠w.heap.size) (fun _=>False) rfl rfl rfl (fun _ hk=>hk.elim) (fun k hk=>by omega) HR.out HB2.out HB2.out.size (by omega) ?_;intro v1 w1 ho hb hg hat;have HO:=Aside0.mk ho;have HB3:=Aside0.mk hb;have HS3:=Aside0.mk (Kd.S_after HS2.out hg hat);have HM3:=Aside0.mk (hown.kept hg hne);clear ho hb hg hat))
      go_roundw
      case rel =>
       refine⟨j+1,by omega,by go_num,⟨?_⟩,HS3,⟨D,?_,?_⟩,HB3⟩
       ·rw [HTJ.out,numRow_snoc,numOf,HCC.out];exact HO.out
       ·exact HM3.out.mono (by omega)
       ·rw [HTJ.out,knRow_snoc,numStep,if_pos HMEM.out];exact HKN.out
      case measure=>simp [intOf];omega
     ·have hhas:Maps.has D (.string s.data.toList)=false:=by rw [(hkn.2.2 _).1];exact decide_eq_false hm
      have hsize:=hkn.2.1
      have hput:=Aside0.mk (knows_put hkn _ hm)
      have HMEM:=Lib.hid hm
      have hknl:(knRow (knAll [] (l0.take i)) (f.take j)).length≤total (l0.take i)+j:=by
       rw [←hsize];exact hown.size_le
      have hszb:Maps.size D≤4000000000:=by omega
      have HSZ:=Lib.hid hsize
      have hwf:(Lit.int .i64 (Maps.size D:Int)).wf=true:=WalkArith.wf_i64 (by omega)
      clear htj hs hsw hci hcell2 hck2 hkn hm hsize
      have hne:some w.heap.size≠u7.ownBlock:=fun e=>HR.out.1 _ e.symm rfl
      have hrl:(numRow (knAll [] (l0.take i)) (f.take j)).length≤4000000000:=by rw [numRow_length,List.length_take];omega
      go_wp2_with (first|(at_lookup;refine wpList_lookup_own_ok_int _ rfl _ _ 119 rfl 9 3 .i64 num_keyed Try.underlying119 Try.underlying3 (num_zero _) w.heap.size _ D rfl hown _ _ rfl hkey ?_;intro c hat hwc;clear hat hwc)|(at_len;refine wpList_len_own _ rfl _ 119 rfl 9 3 Try.underlying119 (plainElem Try.prog 3) w.heap.size _ D rfl hown ?_)|(at_mapUpdate;refine wpList_mapUpdate_own _ rfl _ _ _ 119 rfl 9 3 num_keyed Try.underlying119 (plainElem Try.prog 3) w.heap.size _ D rfl hown (by unfold maxLen;omega) _ _ _ rfl rfl hkey _ [] (plainElem_int Try.underlying3 hwf) ?_;intro w5 hown5 hgrow5;have HM5:=Aside0.mk hown5;have HR5:=Aside0.mk (Kd.R_grown HR.out hgrow5 (fun k hk e=>hk (Option.some.inj e)));have HS5:=Aside0.mk (Kd.S_grown HS2.out hgrow5 (fun k hk e=>hk.1 (Option.some.inj e)));have HB5:=Aside0.mk (HB2.out.grown hgrow5 HB2.out.size (fun k e=>by cases e;exact Nat.le_refl _));have hnew5:=hown5.lt;clear hown5 hgrow5)|(at_builtin;refine Kd.R_append (Kd.int .i64) (w0:=w) w.heap.size rfl (.tmp 38) (.tmp 40) 50 3 (.int .i64 0) 8 rfl Try.underlying50 num_info3 rfl (by decide) (by omega) u7 (numRow (knAll [] (l0.take i)) (f.take j)) (Maps.size D:Int) [.int .i64 (Maps.size D:Int)] (fun k=>k≠w.heap.size) (fun _=>False) rfl rfl rfl (fun _ hk=>hk.elim) (fun k hk=>by omega) HR5.out HB5.out HB5.out.size (by omega) ?_;intro v1 w1 ho hb hg hat;have HO:=Aside0.mk ho;have HB3:=Aside0.mk hb;have HS3:=Aside0.mk (Kd.S_after HS5.out hg hat);have HM3:=Aside0.mk (HM5.out.kept hg hne);clear ho hb hg hat))
      go_roundw
      case rel =>
       refine⟨j+1,by omega,by go_num,⟨?_⟩,HS3,⟨_,HM3.out,?_⟩,HB3⟩
       ·rw [HTJ.out,numRow_snoc,numOf,List.idxOf_eq_length HMEM.out,←HSZ.out];exact HO.out
       ·rw [HTJ.out,knRow_snoc,numStep,if_neg HMEM.out,HSZ.out];exact hput.out
      case measure=>simp [intOf];omega
    ·have hjf:j=f.length:=by omega
     subst hjf
     rw [List.take_length] at HR HM2
     obtain⟨Ao,co,eo⟩:=Kd.R_slice HR.out
     subst eo
     obtain⟨D,hown,hkn⟩:=HM2.out
     have HKN:=Aside0.mk hkn
     have hne:some w.heap.size≠u4.ownBlock:=fun e=>((Kd.S_R HS2.out).1 _ e.symm).1 rfl
     have hol:(numAll [] (l0.take i)).length≤4000000000:=by rw [numAll_length,List.length_take];omega
     have HP:=Aside0.mk (show (Kd.slice 3 (Kd.int .i64)).M wr w.heap.size (fun k=>some k=(Value.slice Ao (numRow (knAll [] (l0.take i)) f).length co).ownBlock) (numRow (knAll [] (l0.take i)) f) [.slice Ao (numRow (knAll [] (l0.take i)) f).length co] from ⟨_,rfl,fun k hk=>hk.symm,HR.out.2⟩)
     have HK:=Aside0.mk (show ∀ k,some k=(Value.slice Ao (numRow (knAll [] (l0.take i)) f).length co).ownBlock→k≠w.heap.size∧some k≠u4.ownBlock from fun k hk=>⟨HR.out.1 k hk.symm,fun e=>((Kd.S_R HS2.out).1 k e.symm).2 hk⟩)
     have HO5:=Aside0.mk (Kd.S_mono HS2.out (ok':=fun k=>k≠w.heap.size∧¬ (some k=(Value.slice Ao (numRow (knAll [] (l0.take i)) f).length co).ownBlock)) (fun k hk=>⟨hk.1,fun e=>hk.2 e⟩))
     have hnew:w.heap.size<wr.heap.size:=hown.lt
     clear hkn
     go_wp2_with (at_builtin;refine Kd.S_append (Kd.slice 3 (Kd.int .i64)) (w0:=w) w.heap.size rfl (.tmp 43) (.tmp 45) 43 50 (.slice none 0 0) 24 rfl Try.underlying43 num_info50 rfl (by decide) (by omega) u4 (numAll [] (l0.take i)) (numRow (knAll [] (l0.take i)) f) [.slice Ao (numRow (knAll [] (l0.take i)) f).length co] (fun k=>k≠w.heap.size) (fun k=>some k=(Value.slice Ao (numRow (knAll [] (l0.take i)) f).length co).ownBlock) rfl rfl HP.out HK.out (fun k hk=>by omega) HO5.out HB2.out HB2.out.size (by omega) ?_;intro v1 w1 ho hb hg hat;have HO:=Aside0.mk ho;have HB3:=Aside0.mk hb;have HM3:=Aside0.mk (hown.kept hg hne);clear ho hb hg hat)
     go_roundw
     case rel =>
      refine⟨i+1,by omega,by go_num,⟨?_⟩,⟨D,?_,?_⟩,HB3⟩
      ·rw [HTK.out,numAll_snoc];exact HO.out
      ·rw [HTK.out];simpa [total] using HM3.out
      ·rw [HTK.out,knAll_snoc];exact HKN.out
     case measure=>simp [intOf];omega
  ·have hil:i=l0.length:=by omega
   subst hil
   rw [List.take_length] at HS HM
   go_wp2
   go_ret
   exact⟨_,rfl,Kd.S_mono HS.out (fun _ _=>trivial),HB.out⟩
#print axioms number_calls
theorem ext_number (A0 : Option Addr) (c0 : Nat) (l0 : List (List ByteArray)) (r : List (List Int)) (w : World) (hr0 : Kd.C (Kd.slice 9 Kd.string) w A0 l0.length l0) (hc0 : l0.length≤c0)
  (h:(if (∀ f∈l0,∀ s∈f,s.size≤4000000000)∧total l0≤4000000000∧l0.length≤4000000000 then some (numberB l0) else none)=some r) :
  Calls Try.prog 38 #[.slice A0 l0.length c0] w fun e w'=>∃ v0_:Value,e = .returned (v0_)∧Kd.S (Kd.slice 3 (Kd.int .i64)) 50 w' w.heap.size (fun _=>True) v0_ r∧Below w.heap.size w w':=by
 split at h
 ·rename_i hs
  obtain rfl:=Option.some.inj h
  exact number_calls A0 c0 l0 w hr0 hc0 hs.1 hs.2.1 hs.2.2
 ·cases h
end Go.Proofs.Ytfiamddinkokbaa
end

section
namespace Go.Proofs.Ytfiamddinkokbaa.F
open Go.RowKit Go.Proofs.YtfiamddinkokbaaW.PrintWords Go.Proofs.YtfiamddinkokbaaW.PrintLast Go.Proofs.YtfiamddinkokbaaW.PrintMore
attribute [local go_sem] max2_int min2_int max_two min_two max_three min_three max_four min_four
def errW : Option Int→Value
 | none => .nilIface
 | some c => .iface 0 (.int .i64 c)
theorem errW_none : errW none = .nilIface := rfl
theorem errW_some (c : Int) : errW (some c) = .iface 0 (.int .i64 c) := rfl
theorem info9 : (Try.prog.info? 9).map (fun i=>(i.zero,i.size,i.bytes))=some (some (.string ⟨#[]⟩),1,16) := by kernel_rfl
theorem info106 : (Try.prog.info? 106).map (fun i=>(i.zero,i.size,i.bytes))=some (some (.agg #[(.string ⟨#[]⟩),(.string ⟨#[]⟩),(.string ⟨#[]⟩),(.bool false),(.string ⟨#[]⟩),(.string ⟨#[]⟩),(.string ⟨#[]⟩),(.string ⟨#[]⟩),(.bool false)]),9,128) := by kernel_rfl
def rd_L1 (xs : List (List ByteArray)) (i : Int) : (List ByteArray) := xs.getD i.toNat ([] : List ByteArray)
theorem at_L1 {w : World} {A : Option Addr} {n : Nat} {xs : List (List ByteArray)} (h : Kd.C (Kd.slice 9 Kd.string) w A n xs) (i : Int) (h0 : 0≤i) (h1 : i<n) : ∃ ad A0 c0,A=some ad∧w.cell? (ad.add i.toNat)=some (.slice A0 (rd_L1 xs i).length c0)∧(rd_L1 xs i).length≤c0∧Kd.string.C w A0 (rd_L1 xs i).length (rd_L1 xs i) := by
 obtain⟨ad,c,e,_,hK,hc0⟩:=Kd.C_get h ([]:List ByteArray) i h0 h1
 have hc:∀ j u,c[j]? = some u→w.cell? (ad.add (i.toNat*1+j))=some u:=hc0
 obtain⟨A0,c0,rfl,l0,g0⟩:=hK
 exact⟨ad,A0,c0,e,by have hq:=hc 0 _ rfl;rwa [Nat.mul_one,Nat.add_zero] at hq,l0,g0⟩
structure S84 where
 f0:ByteArray
 f1:ByteArray
 f2:ByteArray
def z84 : S84 := ⟨(⟨#[]⟩ : ByteArray),(⟨#[]⟩ : ByteArray),(⟨#[]⟩ : ByteArray)⟩
def k84 : Kd S84 := Kd.iso (Kd.pair Kd.string (Kd.pair Kd.string Kd.string)) (fun x : S84=>(x.f0,x.f1,x.f2))
theorem k84_open {w : World} {x : S84} {cs : List Value} (h : k84.K w x cs) : cs=[.string x.f0,.string x.f1,.string x.f2] := by
 obtain⟨_,_,rfl,rfl,⟨_,_,rfl,rfl,rfl⟩⟩:=h
 exact rfl
theorem k84_openM {w : World} {base : Nat} {ok : Nat→Prop} {x : S84} {cs : List Value} (h : k84.M w base ok x cs) : cs=[.string x.f0,.string x.f1,.string x.f2] := by
 obtain⟨_,_,rfl,rfl,⟨_,_,rfl,rfl,rfl⟩⟩:=h
 exact rfl
theorem k84_mkM (w : World) (base : Nat) (ok : Nat→Prop) (x : S84)  : k84.M w base ok x [.string x.f0,.string x.f1,.string x.f2] := ⟨[.string x.f0],[.string x.f1,.string x.f2],rfl,rfl,⟨[.string x.f1],[.string x.f2],rfl,rfl,rfl⟩⟩
structure S106 where
 f0:S84
 f1:Bool
 f2:ByteArray
 f3:ByteArray
 f4:ByteArray
 f5:ByteArray
 f6:Bool
def z106 : S106 := ⟨z84,false,(⟨#[]⟩ : ByteArray),(⟨#[]⟩ : ByteArray),(⟨#[]⟩ : ByteArray),(⟨#[]⟩ : ByteArray),false⟩
def k106 : Kd S106 := Kd.iso (Kd.pair k84 (Kd.pair Kd.bool (Kd.pair Kd.string (Kd.pair Kd.string (Kd.pair Kd.string (Kd.pair Kd.string Kd.bool)))))) (fun x : S106=>(x.f0,x.f1,x.f2,x.f3,x.f4,x.f5,x.f6))
theorem k106_open {w : World} {x : S106} {cs : List Value} (h : k106.K w x cs) : cs=[.string x.f0.f0,.string x.f0.f1,.string x.f0.f2,.bool x.f1,.string x.f2,.string x.f3,.string x.f4,.string x.f5,.bool x.f6] := by
 obtain⟨_,_,rfl,s0,⟨_,_,rfl,rfl,⟨_,_,rfl,rfl,⟨_,_,rfl,rfl,⟨_,_,rfl,rfl,⟨_,_,rfl,rfl,rfl⟩⟩⟩⟩⟩⟩:=h
 obtain rfl:=k84_open s0
 exact rfl
theorem k106_openM {w : World} {base : Nat} {ok : Nat→Prop} {x : S106} {cs : List Value} (h : k106.M w base ok x cs) : cs=[.string x.f0.f0,.string x.f0.f1,.string x.f0.f2,.bool x.f1,.string x.f2,.string x.f3,.string x.f4,.string x.f5,.bool x.f6] := by
 obtain⟨_,_,rfl,s0,⟨_,_,rfl,rfl,⟨_,_,rfl,rfl,⟨_,_,rfl,rfl,⟨_,_,rfl,rfl,⟨_,_,rfl,rfl,rfl⟩⟩⟩⟩⟩⟩:=h
 obtain rfl:=k84_openM s0
 exact rfl
theorem k106_mkM (w : World) (base : Nat) (ok : Nat→Prop) (x : S106)  : k106.M w base ok x [.string x.f0.f0,.string x.f0.f1,.string x.f0.f2,.bool x.f1,.string x.f2,.string x.f3,.string x.f4,.string x.f5,.bool x.f6] := ⟨[.string x.f0.f0,.string x.f0.f1,.string x.f0.f2],[.bool x.f1,.string x.f2,.string x.f3,.string x.f4,.string x.f5,.bool x.f6],rfl,(k84_mkM w base ok x.f0 ),⟨[.bool x.f1],[.string x.f2,.string x.f3,.string x.f4,.string x.f5,.bool x.f6],rfl,rfl,⟨[.string x.f2],[.string x.f3,.string x.f4,.string x.f5,.bool x.f6],rfl,rfl,⟨[.string x.f3],[.string x.f4,.string x.f5,.bool x.f6],rfl,rfl,⟨[.string x.f4],[.string x.f5,.bool x.f6],rfl,rfl,⟨[.string x.f5],[.bool x.f6],rfl,rfl,rfl⟩⟩⟩⟩⟩⟩
def rd_T106 (xs : List S106) (i : Int) : S106 := xs.getD i.toNat z106
theorem at_T106 {w : World} {A : Option Addr} {n : Nat} {xs : List S106} (h : Kd.C k106 w A n xs) (i : Int) (h0 : 0≤i) (h1 : i<n) : ∃ ad ,A=some ad∧w.cell? (ad.add (i.toNat*9))=some (.string (rd_T106 xs i).f0.f0)∧w.cell? ⟨(ad.add (i.toNat*9)).block,(ad.add (i.toNat*9)).off+1,none⟩=some (.string (rd_T106 xs i).f0.f1)∧w.cell? ⟨(ad.add (i.toNat*9)).block,(ad.add (i.toNat*9)).off+2,none⟩=some (.string (rd_T106 xs i).f0.f2)∧w.cell? ⟨(ad.add (i.toNat*9)).block,(ad.add (i.toNat*9)).off+3,none⟩=some (.bool (rd_T106 xs i).f1)∧w.cell? ⟨(ad.add (i.toNat*9)).block,(ad.add (i.toNat*9)).off+4,none⟩=some (.string (rd_T106 xs i).f2)∧w.cell? ⟨(ad.add (i.toNat*9)).block,(ad.add (i.toNat*9)).off+5,none⟩=some (.string (rd_T106 xs i).f3)∧w.cell? ⟨(ad.add (i.toNat*9)).block,(ad.add (i.toNat*9)).off+6,none⟩=some (.string (rd_T106 xs i).f4)∧w.cell? ⟨(ad.add (i.toNat*9)).block,(ad.add (i.toNat*9)).off+7,none⟩=some (.string (rd_T106 xs i).f5)∧w.cell? ⟨(ad.add (i.toNat*9)).block,(ad.add (i.toNat*9)).off+8,none⟩=some (.bool (rd_T106 xs i).f6) := by
 obtain⟨ad,c,e,_,hK,hc0⟩:=Kd.C_get h z106 i h0 h1
 have hc:∀ j u,c[j]? = some u→w.cell? (ad.add (i.toNat*9+j))=some u:=hc0
 obtain rfl:=k106_open hK
 exact⟨ad,e,hc 0 _ rfl,by rw [←add_field _ _ 1 (by omega)];exact hc 1 _ rfl,by rw [←add_field _ _ 2 (by omega)];exact hc 2 _ rfl,by rw [←add_field _ _ 3 (by omega)];exact hc 3 _ rfl,by rw [←add_field _ _ 4 (by omega)];exact hc 4 _ rfl,by rw [←add_field _ _ 5 (by omega)];exact hc 5 _ rfl,by rw [←add_field _ _ 6 (by omega)];exact hc 6 _ rfl,by rw [←add_field _ _ 7 (by omega)];exact hc 7 _ rfl,by rw [←add_field _ _ 8 (by omega)];exact hc 8 _ rfl⟩
structure S109 where
 f0:ByteArray
 f1:ByteArray
 f2:ByteArray
 f3:Bool
 f4:ByteArray
 f5:ByteArray
 f6:ByteArray
 f7:ByteArray
 f8:Bool
def z109 : S109 := ⟨(⟨#[]⟩ : ByteArray),(⟨#[]⟩ : ByteArray),(⟨#[]⟩ : ByteArray),false,(⟨#[]⟩ : ByteArray),(⟨#[]⟩ : ByteArray),(⟨#[]⟩ : ByteArray),(⟨#[]⟩ : ByteArray),false⟩
def rd_L7 (xs : List (List Int)) (i : Int) : (List Int) := xs.getD i.toNat ([] : List Int)
theorem at_L7 {w : World} {A : Option Addr} {n : Nat} {xs : List (List Int)} (h : Kd.C (Kd.slice 3 (Kd.int .i64)) w A n xs) (i : Int) (h0 : 0≤i) (h1 : i<n) : ∃ ad A0 c0,A=some ad∧w.cell? (ad.add i.toNat)=some (.slice A0 (rd_L7 xs i).length c0)∧(rd_L7 xs i).length≤c0∧(Kd.int .i64).C w A0 (rd_L7 xs i).length (rd_L7 xs i) := by
 obtain⟨ad,c,e,_,hK,hc0⟩:=Kd.C_get h ([]:List Int) i h0 h1
 have hc:∀ j u,c[j]? = some u→w.cell? (ad.add (i.toNat*1+j))=some u:=hc0
 obtain⟨A0,c0,rfl,l0,g0⟩:=hK
 exact⟨ad,A0,c0,e,by have hq:=hc 0 _ rfl;rwa [Nat.mul_one,Nat.add_zero] at hq,l0,g0⟩
structure S89 where
 f0:Int
 f1:Int
def z89 : S89 := ⟨(0 : Int),(0 : Int)⟩
def k89 : Kd S89 := Kd.iso (Kd.pair (Kd.int .i64) (Kd.int .i64)) (fun x : S89=>(x.f0,x.f1))
theorem k89_open {w : World} {x : S89} {cs : List Value} (h : k89.K w x cs) : cs=[.int .i64 x.f0,.int .i64 x.f1] := by
 obtain⟨_,_,rfl,rfl,rfl⟩:=h
 exact rfl
theorem k89_mkM (w : World) (base : Nat) (ok : Nat→Prop) (x : S89)  : k89.M w base ok x [.int .i64 x.f0,.int .i64 x.f1] := ⟨[.int .i64 x.f0],[.int .i64 x.f1],rfl,rfl,rfl⟩
structure S91 where
 f0:Bool
 f1:S89
 f2:S89
 f3:S89
def z91 : S91 := ⟨false,z89,z89,z89⟩
def k91 : Kd S91 := Kd.iso (Kd.pair Kd.bool (Kd.pair k89 (Kd.pair k89 k89))) (fun x : S91=>(x.f0,x.f1,x.f2,x.f3))
theorem k91_open {w : World} {x : S91} {cs : List Value} (h : k91.K w x cs) : cs=[.bool x.f0,.int .i64 x.f1.f0,.int .i64 x.f1.f1,.int .i64 x.f2.f0,.int .i64 x.f2.f1,.int .i64 x.f3.f0,.int .i64 x.f3.f1] := by
 obtain⟨_,_,rfl,rfl,⟨_,_,rfl,s1,⟨_,_,rfl,s3,s5⟩⟩⟩:=h
 obtain rfl:=k89_open s1
 obtain rfl:=k89_open s3
 obtain rfl:=k89_open s5
 exact rfl
theorem k91_mkM (w : World) (base : Nat) (ok : Nat→Prop) (x : S91)  : k91.M w base ok x [.bool x.f0,.int .i64 x.f1.f0,.int .i64 x.f1.f1,.int .i64 x.f2.f0,.int .i64 x.f2.f1,.int .i64 x.f3.f0,.int .i64 x.f3.f1] := ⟨[.bool x.f0],[.int .i64 x.f1.f0,.int .i64 x.f1.f1,.int .i64 x.f2.f0,.int .i64 x.f2.f1,.int .i64 x.f3.f0,.int .i64 x.f3.f1],rfl,rfl,⟨[.int .i64 x.f1.f0,.int .i64 x.f1.f1],[.int .i64 x.f2.f0,.int .i64 x.f2.f1,.int .i64 x.f3.f0,.int .i64 x.f3.f1],rfl,(k89_mkM w base ok x.f1 ),⟨[.int .i64 x.f2.f0,.int .i64 x.f2.f1],[.int .i64 x.f3.f0,.int .i64 x.f3.f1],rfl,(k89_mkM w base ok x.f2 ),(k89_mkM w base ok x.f3 )⟩⟩⟩
def rd_T91 (xs : List S91) (i : Int) : S91 := xs.getD i.toNat z91
theorem at_T91 {w : World} {A : Option Addr} {n : Nat} {xs : List S91} (h : Kd.C k91 w A n xs) (i : Int) (h0 : 0≤i) (h1 : i<n) : ∃ ad ,A=some ad∧w.cell? (ad.add (i.toNat*7))=some (.bool (rd_T91 xs i).f0)∧w.cell? ⟨(ad.add (i.toNat*7)).block,(ad.add (i.toNat*7)).off+1,none⟩=some (.int .i64 (rd_T91 xs i).f1.f0)∧w.cell? ⟨(ad.add (i.toNat*7)).block,(ad.add (i.toNat*7)).off+2,none⟩=some (.int .i64 (rd_T91 xs i).f1.f1)∧w.cell? ⟨(ad.add (i.toNat*7)).block,(ad.add (i.toNat*7)).off+3,none⟩=some (.int .i64 (rd_T91 xs i).f2.f0)∧w.cell? ⟨(ad.add (i.toNat*7)).block,(ad.add (i.toNat*7)).off+4,none⟩=some (.int .i64 (rd_T91 xs i).f2.f1)∧w.cell? ⟨(ad.add (i.toNat*7)).block,(ad.add (i.toNat*7)).off+5,none⟩=some (.int .i64 (rd_T91 xs i).f3.f0)∧w.cell? ⟨(ad.add (i.toNat*7)).block,(ad.add (i.toNat*7)).off+6,none⟩=some (.int .i64 (rd_T91 xs i).f3.f1) := by
 obtain⟨ad,c,e,_,hK,hc0⟩:=Kd.C_get h z91 i h0 h1
 have hc:∀ j u,c[j]? = some u→w.cell? (ad.add (i.toNat*7+j))=some u:=hc0
 obtain rfl:=k91_open hK
 exact⟨ad,e,hc 0 _ rfl,by rw [←add_field _ _ 1 (by omega)];exact hc 1 _ rfl,by rw [←add_field _ _ 2 (by omega)];exact hc 2 _ rfl,by rw [←add_field _ _ 3 (by omega)];exact hc 3 _ rfl,by rw [←add_field _ _ 4 (by omega)];exact hc 4 _ rfl,by rw [←add_field _ _ 5 (by omega)];exact hc 5 _ rfl,by rw [←add_field _ _ 6 (by omega)];exact hc 6 _ rfl⟩
structure S196 where
 f0:Int
 f1:Int
def z196 : S196 := ⟨(0 : Int),(0 : Int)⟩
def k196 : Kd S196 := Kd.iso (Kd.pair (Kd.int .i64) (Kd.int .i64)) (fun x : S196=>(x.f0,x.f1))
theorem k196_open {w : World} {x : S196} {cs : List Value} (h : k196.K w x cs) : cs=[.int .i64 x.f0,.int .i64 x.f1] := by
 obtain⟨_,_,rfl,rfl,rfl⟩:=h
 exact rfl
theorem k196_mkM (w : World) (base : Nat) (ok : Nat→Prop) (x : S196)  : k196.M w base ok x [.int .i64 x.f0,.int .i64 x.f1] := ⟨[.int .i64 x.f0],[.int .i64 x.f1],rfl,rfl,rfl⟩
def rd_T196 (xs : List S196) (i : Int) : S196 := xs.getD i.toNat z196
theorem at_T196 {w : World} {A : Option Addr} {n : Nat} {xs : List S196} (h : Kd.C k196 w A n xs) (i : Int) (h0 : 0≤i) (h1 : i<n) : ∃ ad ,A=some ad∧w.cell? (ad.add (i.toNat*2))=some (.int .i64 (rd_T196 xs i).f0)∧w.cell? ⟨(ad.add (i.toNat*2)).block,(ad.add (i.toNat*2)).off+1,none⟩=some (.int .i64 (rd_T196 xs i).f1) := by
 obtain⟨ad,c,e,_,hK,hc0⟩:=Kd.C_get h z196 i h0 h1
 have hc:∀ j u,c[j]? = some u→w.cell? (ad.add (i.toNat*2+j))=some u:=hc0
 obtain rfl:=k196_open hK
 exact⟨ad,e,hc 0 _ rfl,by rw [←add_field _ _ 1 (by omega)];exact hc 1 _ rfl⟩
end Go.Proofs.Ytfiamddinkokbaa.F
end
