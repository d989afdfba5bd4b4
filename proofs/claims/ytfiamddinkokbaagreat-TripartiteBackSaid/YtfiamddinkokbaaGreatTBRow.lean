/- Proved: of any three texts, whatever stands in them, markers too, the merged text is parsed to just the Doc by the width that is told, and printed it is the text again. Conditions: none beyond the statement's own. -/
import Derived.Test.YtfiamddinkokbaaGreatRows
import Derived.Test.YtfiamddinkokbaaGreatTB18
import Derived.Test.YtfiamddinkokbaaGreatTB20
import Derived.WalkKit
import Derived.ProofKit
import Derived.OpenShut
import Derived.ShutString
import Derived.ChangeOld
import Derived.Below
import Derived.SizedLaws
set_option linter.unusedVariables false
set_option linter.unusedSimpArgs false
namespace Go.Proofs.YtfiamddinkokbaaGreat.tripartiteBack
open Go.ChangeShapes Go.WideShapes Go.ChangeAt Go.RowKit Go.Proofs.YtfiamddinkokbaaGreatW.PrintWords Go.Proofs.YtfiamddinkokbaaGreat.F
open Go.ChangeMaps (open_string shut_string)
theorem own : ownKnob Tryz.prog.godebug=none := by kernel_rfl
set_option maxHeartbeats 4000000 in
set_option maxRecDepth 100000 in
theorem lifted (os : Os) (started : os.Started) (H : Type) (enc : TypeId×Value→H) :
  ReturnsInHanded {} Tryz.checked os 6 .any (Rows.tripartiteBackSpec.pre6 enc Tryz.prog Tryz.f6 Rows.tripartiteBackRow.domain false) (Rows.tripartiteBackSpec.post enc Tryz.prog Tryz.f6 false true false false):=by
 refine returnsInHanded_of_change_sized (C:=Tryz.checked) own started (by kernel_rfl) Tryz.func6
  (ChangeSpec.witness6 (enc:=enc) (C:=Tryz.checked) false ⟨#[],#[.agg #[.string ByteArray.empty,.string ByteArray.empty,.string ByteArray.empty],.agg #[.int .i64 0,.int .i64 0,.int .i64 0,.string ByteArray.empty,.string ByteArray.empty,.string ByteArray.empty]],[]⟩ 8 (by kernel_rfl) (by kernel_rfl) (by kernel_rfl) (by kernel_rfl)) ?_
 intro W base args ds gs before hval0 hW hcnd hsz0 _
 have hsz:(DataW.weightsEach Tryz.prog (Tryz.f6.params.toList++Rows.tripartiteBackSpec.plain.varTypes Tryz.prog) (ds++gs)).all (· ≤ reachBytes)=true:=hsz0
 have hval:∀ (j:Nat) t v,Tryz.f6.params[j]? = some t→args[j]? = some v→Value.okWide Tryz.prog W .any base t v:=hval0
 have hW':=hW
 obtain⟨p,q,hA0,hV,rfl,hfz,hnd⟩:=hW
 have hA:DataW.TrodAll enc Tryz.prog W 0 (fun _=>true) true Tryz.f6.params.toList args.toList ds p:=hA0
 rw [Tryz.params6] at hA hval hsz
 obtain⟨v0,vs0,d0,ds0,p0,q0,hargs,rfl,rfl,h0,r0⟩:=trodAll_cons hA
 obtain⟨v1,vs1,d1,ds1,p1,q1,rfl,rfl,rfl,h1,r1⟩:=trodAll_cons r0
 obtain⟨rfl,rfl,rfl⟩:=trodAll_nil r1
 obtain rfl:args = #[v0,v1]:=by cases args;simp_all
 obtain⟨rfl,rfl⟩:=trodVars_none hV
 obtain⟨ta0,tb0,tc0,rfl,rfl,rfl,ya0,yb0,yc0⟩:=F.open_three hsz (j:=0) rfl rfl (hval 0 22 v0 rfl rfl) h0
 obtain⟨st1,wd1,fv1,ga1,gb1,gc1,rfl,rfl,rfl,⟨wa1,wb1,wc1⟩,za1,zb1,zc1⟩:=F.open_how hsz (j:=1) rfl rfl (hval 1 24 v1 rfl rfl) h1
 clear hA0 hval0 hsz0 hsz
 refine (F.tripartiteBack_walk ta0 tb0 tc0 st1 wd1 fv1 ga1 gb1 gc1 za1 zb1 zc1 W).mono fun e W' ⟨he,bel⟩=>?_
 subst he
 exact⟨_,rfl,_,_,_,[],_,[],hW',trodAll_mk1 (shut_bool Tryz.underlying4 _),(trodAll_cons_mk (F.back_three _ _ _ _ ta0 tb0 tc0 (Nat.le_trans ya0 (of_decide_eq_true rfl)) (Nat.le_trans yb0 (of_decide_eq_true rfl)) (Nat.le_trans yc0 (of_decide_eq_true rfl))) (trodAll_cons_mk (F.back_how _ _ _ _ st1 wd1 fv1 ga1 gb1 gc1 wa1 wb1 wc1 (Nat.le_trans za1 (of_decide_eq_true rfl)) (Nat.le_trans zb1 (of_decide_eq_true rfl)) (Nat.le_trans zc1 (of_decide_eq_true rfl))) trodAll_mk0)),rfl,bel.frame _,fun h=>by cases h⟩
theorem closed_and {a b : Bool} (h : a=true) (k : b=true) : (a&&b)=true := by rw [h,k];rfl
theorem closed0 : (Rows.tripartiteBackRow.wf (OpenSpec.ofChange Rows.tripartiteBackSpec))=true := by kernel_rfl
theorem closed1 : (laidOutB Tryz.prog)=true := by kernel_rfl
theorem closed2 : (mapsRowed Tryz.prog)=true := by kernel_rfl
theorem closed3 : (Tryz.f6.params.all (Tryz.prog.readableRec ·))=true := by kernel_rfl
theorem closed4 : (namedTie Tryz.prog Rows.tripartiteBackRow.named Rows.tripartiteBackSpec.vars)=true := by kernel_rfl
theorem closed5 : ((Rows.tripartiteBackRow.stops==[]))=true := by kernel_rfl
theorem closed6 : ((Tryz.prog.stops==[]))=true := by kernel_rfl
theorem closed7 : ((Rows.tripartiteBackRow.knobs==[]))=true := by kernel_rfl
theorem closed8 : ((Tryz.prog.stopKnobs==[]))=true := by kernel_rfl
theorem closed9 : ((Rows.tripartiteBackRow.inPlace==Tryz.prog.inPlace 6))=true := by kernel_rfl
theorem closed10 : ((Rows.tripartiteBackRow.unfollowed==Tryz.prog.unfollowed 6))=true := by kernel_rfl
theorem closed11 : ((Rows.tripartiteBackRow.recurses==Tryz.prog.recurses 6))=true := by kernel_rfl
theorem closed12 : ((Rows.tripartiteBackRow.named==Tryz.prog.varsNamed 6))=true := by kernel_rfl
theorem closed13 : ((Rows.tripartiteBackRow.maps==(Tryz.f6.params.toList++Rows.tripartiteBackSpec.plain.varTypes Tryz.prog).any (Tryz.prog.mapsRec ·)))=true := by kernel_rfl
theorem closed14 : ((Rows.tripartiteBackRow.ifaces==(Tryz.f6.params.toList++Rows.tripartiteBackSpec.plain.varTypes Tryz.prog).any (Tryz.prog.ifacesRec ·)))=true := by kernel_rfl
theorem closed15 : ((Rows.tripartiteBackRow.mapsOut==Tryz.prog.mapsAmong Tryz.f6.resultTypes.toList))=true := by kernel_rfl
theorem closed16 : ((Rows.tripartiteBackRow.loops==(Tryz.f6.params.toList++Rows.tripartiteBackSpec.plain.varTypes Tryz.prog).any (Tryz.prog.loopsFrom ·)))=true := by kernel_rfl
theorem closed17 : ((Rows.tripartiteBackRow.wideKeys==(Tryz.f6.params.toList++Rows.tripartiteBackSpec.plain.varTypes Tryz.prog++Tryz.f6.resultTypes.toList).any (Tryz.prog.wideKeysFrom ·)))=true := by kernel_rfl
theorem closed18 : (Rows.tripartiteBackSpec.vars.all (Tryz.prog.varReadable ·))=true := by kernel_rfl
theorem closed19 : (Tryz.f6.resultTypes.all (fun t=>Tryz.prog.readableRec t&&decide (t<Tryz.prog.types.size)))=true := by kernel_rfl
theorem closed20 : ((Rows.tripartiteBackRow.ifacesOut==Tryz.f6.resultTypes.toList.any (Tryz.prog.ifacesRec ·)))=true := by kernel_rfl
theorem closed21 : ((Rows.tripartiteBackRow.loopsOut==Tryz.f6.resultTypes.toList.any (Tryz.prog.loopsFrom ·)))=true := by kernel_rfl
theorem closed22 : ((Rows.tripartiteBackRow.plainKeys==Tryz.prog.plainKeys))=true := by kernel_rfl
theorem closed23 : (Rows.tripartiteBackRow.shortTexts.isNone)=true := by kernel_rfl
theorem closed24 : (Tryz.prog.stopsHeard)=true := by kernel_rfl
theorem closed25 : (Tryz.prog.mayEnter)=true := by kernel_rfl
theorem closed26 : ((Rows.tripartiteBackRow.lifted==Tryz.prog.liftsFinal))=true := by kernel_rfl
theorem closed27 : ((Tryz.prog.make==some Rows.tripartiteBackRow.make))=true := by kernel_rfl
theorem closed29 : ((Rows.tripartiteBackRow.pinned==Rows.tripartiteBackRow.pinnedBy))=true := by kernel_rfl
theorem closed30 : ((Rows.tripartiteBackRow.veiled==(Tryz.f6.params.toList++Rows.tripartiteBackSpec.plain.varTypes Tryz.prog++Tryz.f6.resultTypes.toList).any (Tryz.prog.veiledRec ·)))=true := by kernel_rfl
theorem closed31 : (Rows.tripartiteBackRow.veiledFits Tryz.prog Tryz.f6.params.toList (Tryz.f6.params.toList++Rows.tripartiteBackSpec.plain.varTypes Tryz.prog++Tryz.f6.resultTypes.toList))=true := by kernel_rfl
set_option maxRecDepth 100000 in
theorem closed : joinedFacts Tryz.prog 6 Tryz.f6 Rows.tripartiteBackSpec Rows.tripartiteBackRow=true := by
 unfold joinedFacts
 exact (closed_and (closed_and (closed_and (closed_and (closed_and (closed_and (closed_and (closed_and (closed_and (closed_and (closed_and (closed_and (closed_and (closed_and (closed_and (closed_and (closed_and (closed_and (closed_and (closed_and (closed_and (closed_and (closed_and (closed_and (closed_and (closed_and (closed_and (closed_and (closed_and (closed_and (closed_and closed0 closed1) closed2) closed3) closed4) closed5) closed6) closed7) closed8) closed9) closed10) closed11) closed12) closed13) closed14) closed15) closed16) closed17) closed18) closed19) closed20) closed21) closed22) closed23) closed24) closed25) closed26) closed27) (by kernel_rfl)) closed29) closed30) closed31)
theorem over : Rows.tripartiteBackRow.holds Tryz.pinned (OpenSpec.ofChange Rows.tripartiteBackSpec) :=
 OpenClaim.holds_of_wide 6 Tryz.f6 rfl rfl rfl rfl rfl rfl rfl ⟨rfl,rfl,rfl,rfl,rfl⟩ rfl rfl rfl rfl rfl (by kernel_rfl) Tryz.func6 closed
  (of_decide_eq_true (by kernel_rfl)) (by unfold Func.isWrapper;first|(rw [if_pos (by decide +kernel)];kernel_rfl)|(rw [if_neg (by decide +kernel)];exact⟨rfl,rfl⟩))
  (fun os started H enc _=>lifted os started H enc)
theorem proved : Rows.TripartiteBackSaid := over
#print axioms proved
end Go.Proofs.YtfiamddinkokbaaGreat.tripartiteBack
namespace Go.Proofs.YtfiamddinkokbaaGreat
theorem tripartiteBack_holds : Rows.TripartiteBackSaid := tripartiteBack.proved
end Go.Proofs.YtfiamddinkokbaaGreat
