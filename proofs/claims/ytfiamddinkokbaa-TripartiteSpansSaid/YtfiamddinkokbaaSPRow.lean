/- TripartiteSpans: the spans of the chunks of each text, one behind the other, are just that text; one side alone changed is taken. -/
import Derived.Test.YtfiamddinkokbaaRows
import Derived.Test.YtfiamddinkokbaaSP36
import Derived.Test.YtfiamddinkokbaaSP42
import Derived.WalkKit
import Derived.ProofKit
import Derived.OpenShut
import Derived.ShutString
import Derived.ChangeOld
import Derived.Below
import Derived.SizedLaws
set_option linter.unusedVariables false
set_option linter.unusedSimpArgs false
namespace Go.Proofs.Ytfiamddinkokbaa.tripartiteSpans
open Go.ChangeShapes Go.WideShapes Go.ChangeAt Go.RowKit Go.Proofs.YtfiamddinkokbaaW.PrintWords Go.Proofs.Ytfiamddinkokbaa.F
open Go.ChangeMaps (open_string shut_string)
theorem own : ownKnob Try.prog.godebug = none := by kernel_rfl
set_option maxHeartbeats 4000000 in
set_option maxRecDepth 100000 in
theorem lifted (os : Os) (started : os.Started) (H : Type) (enc : TypeId × Value → H) :
  ReturnsInHanded {} Try.checked os 11 .any (Rows.tripartiteSpansSpec.pre6 enc Try.prog Try.f11 Rows.tripartiteSpansRow.domain false) (Rows.tripartiteSpansSpec.post enc Try.prog Try.f11 false true false false) := by
 refine returnsInHanded_of_change_sized (C := Try.checked) own started (by kernel_rfl) Try.func11
  (ChangeSpec.witness6 (enc := enc) (C := Try.checked) false ⟨#[], #[.agg #[.string ByteArray.empty, .string ByteArray.empty, .string ByteArray.empty], .agg #[.int .i64 0, .int .i64 0, .int .i64 0, .string ByteArray.empty, .string ByteArray.empty, .string ByteArray.empty]], []⟩ 8 (by kernel_rfl) (by kernel_rfl) (by kernel_rfl) (by kernel_rfl)) ?_
 intro W base args ds gs before hval0 hW hcnd hsz0 _
 have hsz : (DataW.weightsEach Try.prog (Try.f11.params.toList ++ Rows.tripartiteSpansSpec.plain.varTypes Try.prog) (ds ++ gs)).all (· ≤ reachBytes) = true := hsz0
 have hval : ∀ (j : Nat) t v, Try.f11.params[j]? = some t → args[j]? = some v → Value.okWide Try.prog W .any base t v := hval0
 have hW' := hW
 obtain ⟨p, q, hA0, hV, rfl, hfz, hnd⟩ := hW
 have hA : DataW.TrodAll enc Try.prog W 0 (fun _ => true) true Try.f11.params.toList args.toList ds p := hA0
 rw [Try.params11] at hA hval hsz
 obtain ⟨v0, vs0, d0, ds0, p0, q0, hargs, rfl, rfl, h0, r0⟩ := trodAll_cons hA
 obtain ⟨v1, vs1, d1, ds1, p1, q1, rfl, rfl, rfl, h1, r1⟩ := trodAll_cons r0
 obtain ⟨rfl, rfl, rfl⟩ := trodAll_nil r1
 obtain rfl : args = #[v0, v1] := by cases args; simp_all
 obtain ⟨rfl, rfl⟩ := trodVars_none hV
 obtain ⟨ta0, tb0, tc0, rfl, rfl, rfl, ya0, yb0, yc0⟩ := F.open_three hsz (j := 0) rfl rfl (hval 0 72 v0 rfl rfl) h0
 obtain ⟨st1, wd1, fv1, ga1, gb1, gc1, rfl, rfl, rfl, ⟨wa1, wb1, wc1⟩, za1, zb1, zc1⟩ := F.open_how hsz (j := 1) rfl rfl (hval 1 74 v1 rfl rfl) h1
 clear hA0 hval0 hsz0 hsz
 refine (F.tripartiteSpans_walk ta0 tb0 tc0 st1 wd1 fv1 ga1 gb1 gc1 za1 zb1 zc1 W).mono fun e W' ⟨he, bel⟩ => ?_
 subst he
 exact ⟨_, rfl, _, _, _, [], _, [], hW', trodAll_mk1 (shut_bool Try.underlying4 _), (trodAll_cons_mk (F.back_three _ _ _ _ ta0 tb0 tc0 (Nat.le_trans ya0 (of_decide_eq_true rfl)) (Nat.le_trans yb0 (of_decide_eq_true rfl)) (Nat.le_trans yc0 (of_decide_eq_true rfl))) (trodAll_cons_mk (F.back_how _ _ _ _ st1 wd1 fv1 ga1 gb1 gc1 wa1 wb1 wc1 (Nat.le_trans za1 (of_decide_eq_true rfl)) (Nat.le_trans zb1 (of_decide_eq_true rfl)) (Nat.le_trans zc1 (of_decide_eq_true rfl))) trodAll_mk0)), rfl, bel.frame _, fun h => by cases h⟩
theorem closed_and {a b : Bool} (h : a = true) (k : b = true) : (a && b) = true := by rw [h, k]; rfl
theorem closed0 : (Rows.tripartiteSpansRow.wf (OpenSpec.ofChange Rows.tripartiteSpansSpec)) = true := by kernel_rfl
theorem closed1 : (laidOutB Try.prog) = true := by kernel_rfl
theorem closed2 : (mapsRowed Try.prog) = true := by kernel_rfl
theorem closed3 : (Try.f11.params.all (Try.prog.readableRec ·)) = true := by kernel_rfl
theorem closed4 : (namedTie Try.prog Rows.tripartiteSpansRow.named Rows.tripartiteSpansSpec.vars) = true := by kernel_rfl
theorem closed5 : ((Rows.tripartiteSpansRow.stops == [])) = true := by kernel_rfl
theorem closed6 : ((Try.prog.stops == [])) = true := by kernel_rfl
theorem closed7 : ((Rows.tripartiteSpansRow.knobs == [])) = true := by kernel_rfl
theorem closed8 : ((Try.prog.stopKnobs == [])) = true := by kernel_rfl
theorem closed9 : ((Rows.tripartiteSpansRow.inPlace == Try.prog.inPlace 11)) = true := by kernel_rfl
theorem closed10 : ((Rows.tripartiteSpansRow.unfollowed == Try.prog.unfollowed 11)) = true := by kernel_rfl
theorem closed11 : ((Rows.tripartiteSpansRow.recurses == Try.prog.recurses 11)) = true := by kernel_rfl
theorem closed12 : ((Rows.tripartiteSpansRow.named == Try.prog.varsNamed 11)) = true := by kernel_rfl
theorem closed13 : ((Rows.tripartiteSpansRow.maps == (Try.f11.params.toList ++ Rows.tripartiteSpansSpec.plain.varTypes Try.prog).any (Try.prog.mapsRec ·))) = true := by kernel_rfl
theorem closed14 : ((Rows.tripartiteSpansRow.ifaces == (Try.f11.params.toList ++ Rows.tripartiteSpansSpec.plain.varTypes Try.prog).any (Try.prog.ifacesRec ·))) = true := by kernel_rfl
theorem closed15 : ((Rows.tripartiteSpansRow.mapsOut == Try.prog.mapsAmong Try.f11.resultTypes.toList)) = true := by kernel_rfl
theorem closed16 : ((Rows.tripartiteSpansRow.loops == (Try.f11.params.toList ++ Rows.tripartiteSpansSpec.plain.varTypes Try.prog).any (Try.prog.loopsFrom ·))) = true := by kernel_rfl
theorem closed17 : ((Rows.tripartiteSpansRow.wideKeys == (Try.f11.params.toList ++ Rows.tripartiteSpansSpec.plain.varTypes Try.prog ++ Try.f11.resultTypes.toList).any (Try.prog.wideKeysFrom ·))) = true := by kernel_rfl
theorem closed18 : (Rows.tripartiteSpansSpec.vars.all (Try.prog.varReadable ·)) = true := by kernel_rfl
theorem closed19 : (Try.f11.resultTypes.all (fun t => Try.prog.readableRec t && decide (t < Try.prog.types.size))) = true := by kernel_rfl
theorem closed20 : ((Rows.tripartiteSpansRow.ifacesOut == Try.f11.resultTypes.toList.any (Try.prog.ifacesRec ·))) = true := by kernel_rfl
theorem closed21 : ((Rows.tripartiteSpansRow.loopsOut == Try.f11.resultTypes.toList.any (Try.prog.loopsFrom ·))) = true := by kernel_rfl
theorem closed22 : ((Rows.tripartiteSpansRow.plainKeys == Try.prog.plainKeys)) = true := by kernel_rfl
theorem closed23 : (Rows.tripartiteSpansRow.shortTexts.isNone) = true := by kernel_rfl
theorem closed24 : (Try.prog.stopsHeard) = true := by kernel_rfl
theorem closed25 : (Try.prog.mayEnter) = true := by kernel_rfl
theorem closed26 : ((Rows.tripartiteSpansRow.lifted == Try.prog.liftsFinal)) = true := by kernel_rfl
theorem closed27 : ((Try.prog.make == some Rows.tripartiteSpansRow.make)) = true := by kernel_rfl
theorem closed29 : ((Rows.tripartiteSpansRow.pinned == Rows.tripartiteSpansRow.pinnedBy)) = true := by kernel_rfl
theorem closed30 : ((Rows.tripartiteSpansRow.veiled == (Try.f11.params.toList ++ Rows.tripartiteSpansSpec.plain.varTypes Try.prog ++ Try.f11.resultTypes.toList).any (Try.prog.veiledRec ·))) = true := by kernel_rfl
theorem closed31 : (Rows.tripartiteSpansRow.veiledFits Try.prog Try.f11.params.toList (Try.f11.params.toList ++ Rows.tripartiteSpansSpec.plain.varTypes Try.prog ++ Try.f11.resultTypes.toList)) = true := by kernel_rfl
set_option maxRecDepth 100000 in
theorem closed : joinedFacts Try.prog 11 Try.f11 Rows.tripartiteSpansSpec Rows.tripartiteSpansRow = true := by
 unfold joinedFacts
 exact (closed_and (closed_and (closed_and (closed_and (closed_and (closed_and (closed_and (closed_and (closed_and (closed_and (closed_and (closed_and (closed_and (closed_and (closed_and (closed_and (closed_and (closed_and (closed_and (closed_and (closed_and (closed_and (closed_and (closed_and (closed_and (closed_and (closed_and (closed_and (closed_and (closed_and (closed_and closed0 closed1) closed2) closed3) closed4) closed5) closed6) closed7) closed8) closed9) closed10) closed11) closed12) closed13) closed14) closed15) closed16) closed17) closed18) closed19) closed20) closed21) closed22) closed23) closed24) closed25) closed26) closed27) (by kernel_rfl)) closed29) closed30) closed31)
theorem over : Rows.tripartiteSpansRow.holds Try.pinned (OpenSpec.ofChange Rows.tripartiteSpansSpec) :=
 OpenClaim.holds_of_wide 11 Try.f11 rfl rfl rfl rfl rfl rfl rfl ⟨rfl, rfl, rfl, rfl, rfl⟩ rfl rfl rfl rfl rfl (by kernel_rfl) Try.func11 closed
  (of_decide_eq_true (by kernel_rfl)) (by unfold Func.isWrapper; first | (rw [if_pos (by decide +kernel)]; kernel_rfl) | (rw [if_neg (by decide +kernel)]; exact ⟨rfl, rfl⟩))
  (fun os started H enc _ => lifted os started H enc)
theorem proved : Rows.TripartiteSpansSaid := over
#print axioms proved
end Go.Proofs.Ytfiamddinkokbaa.tripartiteSpans
namespace Go.Proofs.Ytfiamddinkokbaa
theorem tripartiteSpans_holds : Rows.TripartiteSpansSaid := tripartiteSpans.proved
end Go.Proofs.Ytfiamddinkokbaa
