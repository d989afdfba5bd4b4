/- TripartiteSides: a side that is the base, and the other way round, over the walks of merge.Texts. -/
import Derived.Test.YtfiamddinkokbaaRows
import Derived.Test.YtfiamddinkokbaaTS37
import Derived.Test.YtfiamddinkokbaaTS44
import Derived.WalkKit
import Derived.ProofKit
import Derived.OpenShut
import Derived.ShutString
import Derived.ChangeOld
import Derived.Below
import Derived.SizedLaws
set_option linter.unusedVariables false
set_option linter.unusedSimpArgs false
namespace Go.Proofs.Ytfiamddinkokbaa.tripartiteSides
open Go.ChangeShapes Go.WideShapes Go.ChangeAt Go.RowKit Go.Proofs.YtfiamddinkokbaaW.PrintWords Go.Proofs.Ytfiamddinkokbaa.F
open Go.ChangeMaps (open_string shut_string)
theorem own : ownKnob Try.prog.godebug = none := by kernel_rfl
set_option maxRecDepth 100000 in
theorem lifted (os : Os) (started : os.Started) (H : Type) (enc : TypeId × Value → H) :
  ReturnsInHanded {} Try.checked os 18 .any (Rows.tripartiteSidesSpec.pre6 enc Try.prog Try.f18 Rows.tripartiteSidesRow.domain false) (Rows.tripartiteSidesSpec.post enc Try.prog Try.f18 false true false false) := by
 refine returnsInHanded_of_change_sized (C := Try.checked) own started (by kernel_rfl) Try.func18
  (ChangeSpec.witness6 (enc := enc) (C := Try.checked) false ⟨#[], #[.string ByteArray.empty, .string ByteArray.empty, .agg #[.int .i64 0, .int .i64 0, .int .i64 0, .string ByteArray.empty, .string ByteArray.empty, .string ByteArray.empty]], []⟩ 8 (by kernel_rfl) (by kernel_rfl) (by kernel_rfl) (by kernel_rfl)) ?_
 intro W base args ds gs before hval0 hW hcnd hsz0 _
 have hsz : (DataW.weightsEach Try.prog (Try.f18.params.toList ++ Rows.tripartiteSidesSpec.plain.varTypes Try.prog) (ds ++ gs)).all (· ≤ reachBytes) = true := hsz0
 have hval : ∀ (j : Nat) t v, Try.f18.params[j]? = some t → args[j]? = some v → Value.okWide Try.prog W .any base t v := hval0
 have hW' := hW
 obtain ⟨p, q, hA0, hV, rfl, hfz, hnd⟩ := hW
 have hA : DataW.TrodAll enc Try.prog W 0 (fun _ => true) true Try.f18.params.toList args.toList ds p := hA0
 rw [Try.params18] at hA hval hsz
 obtain ⟨v0, vs0, d0, ds0, p0, q0, hargs, rfl, rfl, h0, r0⟩ := trodAll_cons hA
 obtain ⟨v1, vs1, d1, ds1, p1, q1, rfl, rfl, rfl, h1, r1⟩ := trodAll_cons r0
 obtain ⟨v2, vs2, d2, ds2, p2, q2, rfl, rfl, rfl, h2, r2⟩ := trodAll_cons r1
 obtain ⟨rfl, rfl, rfl⟩ := trodAll_nil r2
 obtain rfl : args = #[v0, v1, v2] := by cases args; simp_all
 obtain ⟨rfl, rfl⟩ := trodVars_none hV
 obtain ⟨a0, rfl, rfl, rfl, y0⟩ := open_string Try.underlying9 (hval 0 9 v0 rfl rfl) h0
 have w0 : a0.size ≤ 140737488351232 := by
  have z := sized_string hsz (j := 0) (t := 9) rfl rfl
  rw [Array.length_toList] at z
  exact z
 obtain ⟨a1, rfl, rfl, rfl, y1⟩ := open_string Try.underlying9 (hval 1 9 v1 rfl rfl) h1
 have w1 : a1.size ≤ 140737488351232 := by
  have z := sized_string hsz (j := 1) (t := 9) rfl rfl
  rw [Array.length_toList] at z
  exact z
 obtain ⟨st2, wd2, fv2, ga2, gb2, gc2, rfl, rfl, rfl, ⟨wa2, wb2, wc2⟩, za2, zb2, zc2⟩ := F.open_how hsz (j := 2) rfl rfl (hval 2 74 v2 rfl rfl) h2
 clear hA0 hval0 hsz0 hsz
 refine (F.tripartiteSides_walk a0 a1 st2 wd2 fv2 ga2 gb2 gc2 za2 zb2 zc2 W).mono fun e W' ⟨he, bel⟩ => ?_
 subst he
 exact ⟨_, rfl, _, _, _, [], _, [], hW', trodAll_mk1 (shut_bool Try.underlying4 _), (trodAll_cons_mk (shut_string Try.underlying9 y0) (trodAll_cons_mk (shut_string Try.underlying9 y1) (trodAll_cons_mk (F.back_how _ _ _ _ st2 wd2 fv2 ga2 gb2 gc2 wa2 wb2 wc2 (Nat.le_trans za2 (of_decide_eq_true rfl)) (Nat.le_trans zb2 (of_decide_eq_true rfl)) (Nat.le_trans zc2 (of_decide_eq_true rfl))) trodAll_mk0))), rfl, bel.frame _, fun h => by cases h⟩
theorem closed_and {a b : Bool} (h : a = true) (k : b = true) : (a && b) = true := by rw [h, k]; rfl
theorem closed0 : (Rows.tripartiteSidesRow.wf (OpenSpec.ofChange Rows.tripartiteSidesSpec)) = true := by kernel_rfl
theorem closed1 : (laidOutB Try.prog) = true := by kernel_rfl
theorem closed2 : (mapsRowed Try.prog) = true := by kernel_rfl
theorem closed3 : (Try.f18.params.all (Try.prog.readableRec ·)) = true := by kernel_rfl
theorem closed4 : (namedTie Try.prog Rows.tripartiteSidesRow.named Rows.tripartiteSidesSpec.vars) = true := by kernel_rfl
theorem closed5 : ((Rows.tripartiteSidesRow.stops == [])) = true := by kernel_rfl
theorem closed6 : ((Try.prog.stops == [])) = true := by kernel_rfl
theorem closed7 : ((Rows.tripartiteSidesRow.knobs == [])) = true := by kernel_rfl
theorem closed8 : ((Try.prog.stopKnobs == [])) = true := by kernel_rfl
theorem closed9 : ((Rows.tripartiteSidesRow.inPlace == Try.prog.inPlace 18)) = true := by kernel_rfl
theorem closed10 : ((Rows.tripartiteSidesRow.unfollowed == Try.prog.unfollowed 18)) = true := by kernel_rfl
theorem closed11 : ((Rows.tripartiteSidesRow.recurses == Try.prog.recurses 18)) = true := by kernel_rfl
theorem closed12 : ((Rows.tripartiteSidesRow.named == Try.prog.varsNamed 18)) = true := by kernel_rfl
theorem closed13 : ((Rows.tripartiteSidesRow.maps == (Try.f18.params.toList ++ Rows.tripartiteSidesSpec.plain.varTypes Try.prog).any (Try.prog.mapsRec ·))) = true := by kernel_rfl
theorem closed14 : ((Rows.tripartiteSidesRow.ifaces == (Try.f18.params.toList ++ Rows.tripartiteSidesSpec.plain.varTypes Try.prog).any (Try.prog.ifacesRec ·))) = true := by kernel_rfl
theorem closed15 : ((Rows.tripartiteSidesRow.mapsOut == Try.prog.mapsAmong Try.f18.resultTypes.toList)) = true := by kernel_rfl
theorem closed16 : ((Rows.tripartiteSidesRow.loops == (Try.f18.params.toList ++ Rows.tripartiteSidesSpec.plain.varTypes Try.prog).any (Try.prog.loopsFrom ·))) = true := by kernel_rfl
theorem closed17 : ((Rows.tripartiteSidesRow.wideKeys == (Try.f18.params.toList ++ Rows.tripartiteSidesSpec.plain.varTypes Try.prog ++ Try.f18.resultTypes.toList).any (Try.prog.wideKeysFrom ·))) = true := by kernel_rfl
theorem closed18 : (Rows.tripartiteSidesSpec.vars.all (Try.prog.varReadable ·)) = true := by kernel_rfl
theorem closed19 : (Try.f18.resultTypes.all (fun t => Try.prog.readableRec t && decide (t < Try.prog.types.size))) = true := by kernel_rfl
theorem closed20 : ((Rows.tripartiteSidesRow.ifacesOut == Try.f18.resultTypes.toList.any (Try.prog.ifacesRec ·))) = true := by kernel_rfl
theorem closed21 : ((Rows.tripartiteSidesRow.loopsOut == Try.f18.resultTypes.toList.any (Try.prog.loopsFrom ·))) = true := by kernel_rfl
theorem closed22 : ((Rows.tripartiteSidesRow.plainKeys == Try.prog.plainKeys)) = true := by kernel_rfl
theorem closed23 : (Rows.tripartiteSidesRow.shortTexts.isNone) = true := by kernel_rfl
theorem closed24 : (Try.prog.stopsHeard) = true := by kernel_rfl
theorem closed25 : (Try.prog.mayEnter) = true := by kernel_rfl
theorem closed26 : ((Rows.tripartiteSidesRow.lifted == Try.prog.liftsFinal)) = true := by kernel_rfl
theorem closed27 : ((Try.prog.make == some Rows.tripartiteSidesRow.make)) = true := by kernel_rfl
theorem closed29 : ((Rows.tripartiteSidesRow.pinned == Rows.tripartiteSidesRow.pinnedBy)) = true := by kernel_rfl
theorem closed30 : ((Rows.tripartiteSidesRow.veiled == (Try.f18.params.toList ++ Rows.tripartiteSidesSpec.plain.varTypes Try.prog ++ Try.f18.resultTypes.toList).any (Try.prog.veiledRec ·))) = true := by kernel_rfl
theorem closed31 : (Rows.tripartiteSidesRow.veiledFits Try.prog Try.f18.params.toList (Try.f18.params.toList ++ Rows.tripartiteSidesSpec.plain.varTypes Try.prog ++ Try.f18.resultTypes.toList)) = true := by kernel_rfl
set_option maxRecDepth 100000 in
theorem closed : joinedFacts Try.prog 18 Try.f18 Rows.tripartiteSidesSpec Rows.tripartiteSidesRow = true := by
 unfold joinedFacts
 exact (closed_and (closed_and (closed_and (closed_and (closed_and (closed_and (closed_and (closed_and (closed_and (closed_and (closed_and (closed_and (closed_and (closed_and (closed_and (closed_and (closed_and (closed_and (closed_and (closed_and (closed_and (closed_and (closed_and (closed_and (closed_and (closed_and (closed_and (closed_and (closed_and (closed_and (closed_and closed0 closed1) closed2) closed3) closed4) closed5) closed6) closed7) closed8) closed9) closed10) closed11) closed12) closed13) closed14) closed15) closed16) closed17) closed18) closed19) closed20) closed21) closed22) closed23) closed24) closed25) closed26) closed27) (by kernel_rfl)) closed29) closed30) closed31)
theorem over : Rows.tripartiteSidesRow.holds Try.pinned (OpenSpec.ofChange Rows.tripartiteSidesSpec) :=
 OpenClaim.holds_of_wide 18 Try.f18 rfl rfl rfl rfl rfl rfl rfl ⟨rfl, rfl, rfl, rfl, rfl⟩ rfl rfl rfl rfl rfl (by kernel_rfl) Try.func18 closed
  (of_decide_eq_true (by kernel_rfl)) (by unfold Func.isWrapper; first | (rw [if_pos (by decide +kernel)]; kernel_rfl) | (rw [if_neg (by decide +kernel)]; exact ⟨rfl, rfl⟩))
  (fun os started H enc _ => lifted os started H enc)
theorem proved : Rows.TripartiteSidesSaid := over
#print axioms proved
end Go.Proofs.Ytfiamddinkokbaa.tripartiteSides
namespace Go.Proofs.Ytfiamddinkokbaa
theorem tripartiteSides_holds : Rows.TripartiteSidesSaid := tripartiteSides.proved
end Go.Proofs.Ytfiamddinkokbaa
