/- TripartiteApart: of a text of unlike lines, of which the one side changes some, and the other one others, between which a line stays: it is no conflict, and both have what they changed. -/
import Derived.Test.YtfiamddinkokbaaRows
import Derived.Test.YtfiamddinkokbaaTA37
import Derived.Test.YtfiamddinkokbaaTA44
import Derived.WalkKit
import Derived.ProofKit
import Derived.OpenShut
import Derived.ShutString
import Derived.ChangeOld
import Derived.Below
import Derived.SizedLaws
set_option linter.unusedVariables false
set_option linter.unusedSimpArgs false
namespace Go.Proofs.Ytfiamddinkokbaa.tripartiteApart
open Go.ChangeShapes Go.WideShapes Go.ChangeAt Go.RowKit Go.Proofs.YtfiamddinkokbaaW.PrintWords Go.Proofs.Ytfiamddinkokbaa.F
open Go.ChangeMaps (open_string shut_string)
theorem own : ownKnob Try.prog.godebug=none := by kernel_rfl
theorem laidOut : laidOutB Try.prog=true := by kernel_rfl
set_option maxHeartbeats 4000000 in
set_option maxRecDepth 100000 in
theorem lifted (os : Os) (started : os.Started) (H : Type) (enc : TypeId×Value→H) :
  ReturnsInHanded {} Try.checked os 14 .any (Rows.tripartiteApartSpec.pre6 enc Try.prog Try.f14 Rows.tripartiteApartRow.domain false) (Rows.tripartiteApartSpec.post enc Try.prog Try.f14 false true false false):=by
 refine returnsInHanded_of_change_sized (C:=Try.checked) own started (by kernel_rfl) Try.func14
  (ChangeSpec.witness6 (enc:=enc) (C:=Try.checked) false ⟨#[],#[.slice none 0 0,.agg #[.int .i64 0,.int .i64 0,.int .i64 0,.string ByteArray.empty,.string ByteArray.empty,.string ByteArray.empty]],[]⟩ 8 (by kernel_rfl) (by kernel_rfl) (by kernel_rfl) (by kernel_rfl)) ?_
 intro W base args ds gs before hval0 hW hcnd hsz0 _
 have hsz:(DataW.weightsEach Try.prog (Try.f14.params.toList++Rows.tripartiteApartSpec.plain.varTypes Try.prog) (ds++gs)).all (· ≤ reachBytes)=true:=hsz0
 have hval:∀ (j:Nat) t v,Try.f14.params[j]? = some t→args[j]? = some v→Value.okWide Try.prog W .any base t v:=hval0
 have hW':=hW
 obtain⟨p,q,hA0,hV,rfl,hfz,hnd⟩:=hW
 have hA:DataW.TrodAll enc Try.prog W 0 (fun _=>true) true Try.f14.params.toList args.toList ds p:=hA0
 rw [Try.params14] at hA hval hsz
 obtain⟨v0,vs0,d0,ds0,p0,q0,hargs,rfl,rfl,h0,r0⟩:=trodAll_cons hA
 obtain⟨v1,vs1,d1,ds1,p1,q1,rfl,rfl,rfl,h1,r1⟩:=trodAll_cons r0
 obtain⟨rfl,rfl,rfl⟩:=trodAll_nil r1
 obtain rfl:args = #[v0,v1]:=by cases args;simp_all
 obtain⟨rfl,rfl⟩:=trodVars_none hV
 obtain⟨a0,len0,cap0,rfl⟩:=okWide_slice Try.underlying50 (hval 0 50 v0 rfl rfl)
 have k0:=h0
 have lt0:∀ x∈p0,x.block<W.heap.size:=by obtain⟨m,hm⟩:=k0;exact DataW.trod_lt m _ _ _ hm
 obtain⟨l0,e0,hr0,hc0⟩:=F.open_intsK Try.underlying50 Try.underlying3 (by kernel_rfl) h0
 subst e0
 obtain⟨st1,wd1,fv1,ga1,gb1,gc1,rfl,rfl,rfl,⟨wa1,wb1,wc1⟩,za1,zb1,zc1⟩:=F.open_how hsz (j:=1) rfl rfl (hval 1 74 v1 rfl rfl) h1
 clear hA0 hval0 hsz0 hsz
 refine (F.tripartiteApart_walk a0 cap0 l0 st1 wd1 fv1 ga1 gb1 gc1 za1 zb1 zc1 W hr0 hc0).mono fun e W' ⟨he,bel⟩=>?_
 subst he
 exact⟨_,rfl,_,_,_,[],_,[],hW',trodAll_mk1 (shut_bool Try.underlying4 _),(trodAll_cons_mk (Below.trod laidOut (by kernel_rfl) (of_decide_eq_true (by kernel_rfl)) k0 bel lt0) (trodAll_cons_mk (F.back_how _ _ _ _ st1 wd1 fv1 ga1 gb1 gc1 wa1 wb1 wc1 (Nat.le_trans za1 (of_decide_eq_true rfl)) (Nat.le_trans zb1 (of_decide_eq_true rfl)) (Nat.le_trans zc1 (of_decide_eq_true rfl))) trodAll_mk0)),rfl,bel.frame _,fun h=>by cases h⟩
theorem closed_and {a b : Bool} (h : a=true) (k : b=true) : (a&&b)=true := by rw [h,k];rfl
theorem closed0 : (Rows.tripartiteApartRow.wf (OpenSpec.ofChange Rows.tripartiteApartSpec))=true := by kernel_rfl
theorem closed1 : (laidOutB Try.prog)=true := by kernel_rfl
theorem closed2 : (mapsRowed Try.prog)=true := by kernel_rfl
theorem closed3 : (Try.f14.params.all (Try.prog.readableRec ·))=true := by kernel_rfl
theorem closed4 : (namedTie Try.prog Rows.tripartiteApartRow.named Rows.tripartiteApartSpec.vars)=true := by kernel_rfl
theorem closed5 : ((Rows.tripartiteApartRow.stops==[]))=true := by kernel_rfl
theorem closed6 : ((Try.prog.stops==[]))=true := by kernel_rfl
theorem closed7 : ((Rows.tripartiteApartRow.knobs==[]))=true := by kernel_rfl
theorem closed8 : ((Try.prog.stopKnobs==[]))=true := by kernel_rfl
theorem closed9 : ((Rows.tripartiteApartRow.inPlace==Try.prog.inPlace 14))=true := by kernel_rfl
theorem closed10 : ((Rows.tripartiteApartRow.unfollowed==Try.prog.unfollowed 14))=true := by kernel_rfl
theorem closed11 : ((Rows.tripartiteApartRow.recurses==Try.prog.recurses 14))=true := by kernel_rfl
theorem closed12 : ((Rows.tripartiteApartRow.named==Try.prog.varsNamed 14))=true := by kernel_rfl
theorem closed13 : ((Rows.tripartiteApartRow.maps==(Try.f14.params.toList++Rows.tripartiteApartSpec.plain.varTypes Try.prog).any (Try.prog.mapsRec ·)))=true := by kernel_rfl
theorem closed14 : ((Rows.tripartiteApartRow.ifaces==(Try.f14.params.toList++Rows.tripartiteApartSpec.plain.varTypes Try.prog).any (Try.prog.ifacesRec ·)))=true := by kernel_rfl
theorem closed15 : ((Rows.tripartiteApartRow.mapsOut==Try.prog.mapsAmong Try.f14.resultTypes.toList))=true := by kernel_rfl
theorem closed16 : ((Rows.tripartiteApartRow.loops==(Try.f14.params.toList++Rows.tripartiteApartSpec.plain.varTypes Try.prog).any (Try.prog.loopsFrom ·)))=true := by kernel_rfl
theorem closed17 : ((Rows.tripartiteApartRow.wideKeys==(Try.f14.params.toList++Rows.tripartiteApartSpec.plain.varTypes Try.prog++Try.f14.resultTypes.toList).any (Try.prog.wideKeysFrom ·)))=true := by kernel_rfl
theorem closed18 : (Rows.tripartiteApartSpec.vars.all (Try.prog.varReadable ·))=true := by kernel_rfl
theorem closed19 : (Try.f14.resultTypes.all (fun t=>Try.prog.readableRec t&&decide (t<Try.prog.types.size)))=true := by kernel_rfl
theorem closed20 : ((Rows.tripartiteApartRow.ifacesOut==Try.f14.resultTypes.toList.any (Try.prog.ifacesRec ·)))=true := by kernel_rfl
theorem closed21 : ((Rows.tripartiteApartRow.loopsOut==Try.f14.resultTypes.toList.any (Try.prog.loopsFrom ·)))=true := by kernel_rfl
theorem closed22 : ((Rows.tripartiteApartRow.plainKeys==Try.prog.plainKeys))=true := by kernel_rfl
theorem closed23 : (Rows.tripartiteApartRow.shortTexts.isNone)=true := by kernel_rfl
theorem closed24 : (Try.prog.stopsHeard)=true := by kernel_rfl
theorem closed25 : (Try.prog.mayEnter)=true := by kernel_rfl
theorem closed26 : ((Rows.tripartiteApartRow.lifted==Try.prog.liftsFinal))=true := by kernel_rfl
theorem closed27 : ((Try.prog.make==some Rows.tripartiteApartRow.make))=true := by kernel_rfl
theorem closed29 : ((Rows.tripartiteApartRow.pinned==Rows.tripartiteApartRow.pinnedBy))=true := by kernel_rfl
theorem closed30 : ((Rows.tripartiteApartRow.veiled==(Try.f14.params.toList++Rows.tripartiteApartSpec.plain.varTypes Try.prog++Try.f14.resultTypes.toList).any (Try.prog.veiledRec ·)))=true := by kernel_rfl
theorem closed31 : (Rows.tripartiteApartRow.veiledFits Try.prog Try.f14.params.toList (Try.f14.params.toList++Rows.tripartiteApartSpec.plain.varTypes Try.prog++Try.f14.resultTypes.toList))=true := by kernel_rfl
set_option maxRecDepth 100000 in
theorem closed : joinedFacts Try.prog 14 Try.f14 Rows.tripartiteApartSpec Rows.tripartiteApartRow=true := by
 unfold joinedFacts
 exact (closed_and (closed_and (closed_and (closed_and (closed_and (closed_and (closed_and (closed_and (closed_and (closed_and (closed_and (closed_and (closed_and (closed_and (closed_and (closed_and (closed_and (closed_and (closed_and (closed_and (closed_and (closed_and (closed_and (closed_and (closed_and (closed_and (closed_and (closed_and (closed_and (closed_and (closed_and closed0 closed1) closed2) closed3) closed4) closed5) closed6) closed7) closed8) closed9) closed10) closed11) closed12) closed13) closed14) closed15) closed16) closed17) closed18) closed19) closed20) closed21) closed22) closed23) closed24) closed25) closed26) closed27) (by kernel_rfl)) closed29) closed30) closed31)
theorem over : Rows.tripartiteApartRow.holds Try.pinned (OpenSpec.ofChange Rows.tripartiteApartSpec) :=
 OpenClaim.holds_of_wide 14 Try.f14 rfl rfl rfl rfl rfl rfl rfl ⟨rfl,rfl,rfl,rfl,rfl⟩ rfl rfl rfl rfl rfl (by kernel_rfl) Try.func14 closed
  (of_decide_eq_true (by kernel_rfl)) (by unfold Func.isWrapper;first|(rw [if_pos (by decide +kernel)];kernel_rfl)|(rw [if_neg (by decide +kernel)];exact⟨rfl,rfl⟩))
  (fun os started H enc _=>lifted os started H enc)
theorem proved : Rows.TripartiteApartSaid := over
#print axioms proved
end Go.Proofs.Ytfiamddinkokbaa.tripartiteApart
namespace Go.Proofs.Ytfiamddinkokbaa
theorem tripartiteApart_holds : Rows.TripartiteApartSaid := tripartiteApart.proved
end Go.Proofs.Ytfiamddinkokbaa
