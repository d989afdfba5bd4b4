/- It is proved that LinesSplits returns true, does not panic and changes nothing of its arguments, for every text. There are no conditions. -/
import Derived.Test.YtfiamddinkokbaaRows
import Derived.Test.YtfiamddinkokbaaLS1
import Derived.Test.YtfiamddinkokbaaLS2
import Derived.WalkKit
import Derived.ProofKit
import Derived.OpenShut
import Derived.ShutString
import Derived.ChangeOld
import Derived.Below
import Derived.SizedLaws
set_option linter.unusedVariables false
set_option linter.unusedSimpArgs false
namespace Go.Proofs.Ytfiamddinkokbaa.linesSplits
open Go.ChangeShapes Go.WideShapes Go.ChangeAt Go.RowKit
open Go.ChangeMaps (open_string shut_string)
set_option linter.unusedVariables false
theorem own : ownKnob Try.prog.godebug = none := by kernel_rfl
set_option maxRecDepth 100000 in
theorem lifted (os : Os) (started : os.Started) (H : Type) (enc : TypeId × Value → H) :
    ReturnsInHanded {} Try.checked os 5 .any (Rows.linesSplitsSpec.pre6 enc Try.prog Try.f5 Rows.linesSplitsRow.domain false) (Rows.linesSplitsSpec.post enc Try.prog Try.f5 false true false false) := by
  refine returnsInHanded_of_change_sized (C := Try.checked) own started (by kernel_rfl) Try.func5
    (ChangeSpec.witness6 (enc := enc) (C := Try.checked) false ⟨#[], #[.string ByteArray.empty], []⟩ 8 (by kernel_rfl) (by kernel_rfl) (by kernel_rfl) (by kernel_rfl)) ?_
  intro W base args ds gs before hval0 hW hcnd hsz0 _
  have hsz : (DataW.weightsEach Try.prog (Try.f5.params.toList ++ Rows.linesSplitsSpec.plain.varTypes Try.prog) (ds ++ gs)).all (· ≤ reachBytes) = true := hsz0
  have hval : ∀ (j : Nat) t v, Try.f5.params[j]? = some t → args[j]? = some v → Value.okWide Try.prog W .any base t v := hval0
  have hW' := hW
  obtain ⟨p, q, hA0, hV, rfl, hfz, hnd⟩ := hW
  have hA : DataW.TrodAll enc Try.prog W 0 (fun _ => true) true Try.f5.params.toList args.toList ds p := hA0
  rw [Try.params5] at hA hval hsz
  obtain ⟨v0, vs0, d0, ds0, p0, q0, hargs, rfl, rfl, h0, r0⟩ := trodAll_cons hA
  obtain ⟨rfl, rfl, rfl⟩ := trodAll_nil r0
  obtain rfl : args = #[v0] := by cases args; simp_all
  obtain ⟨rfl, rfl⟩ := trodVars_none hV
  obtain ⟨a0, rfl, rfl, rfl, y0⟩ := open_string Try.underlying9 (hval 0 9 v0 rfl rfl) h0
  have w0 : a0.size ≤ 140737488351232 := by
    have z := sized_string hsz (j := 0) (t := 9) rfl rfl
    rw [Array.length_toList] at z
    exact z
  clear hA0 hval0 hsz0 hsz
  refine (F.tripartitelaw01_LinesSplits.walk Pure.LinesSplits a0 W w0).mono fun e W' ⟨he, bel⟩ => ?_
  subst he
  exact ⟨_, rfl, _, _, _, [], _, [], hW', trodAll_mk1 (shut_bool Try.underlying4 _), (trodAll_cons_mk (shut_string Try.underlying9 y0) trodAll_mk0), rfl, bel.frame _, fun h => by cases h⟩
theorem closed_and {a b : Bool} (h : a = true) (k : b = true) : (a && b) = true := by rw [h, k]; rfl
theorem closed0 : (Rows.linesSplitsRow.wf (OpenSpec.ofChange Rows.linesSplitsSpec)) = true := by kernel_rfl
theorem closed1 : (laidOutB Try.prog) = true := by kernel_rfl
theorem closed2 : (mapsRowed Try.prog) = true := by kernel_rfl
theorem closed3 : (Try.f5.params.all (Try.prog.readableRec ·)) = true := by kernel_rfl
theorem closed4 : (namedTie Try.prog Rows.linesSplitsRow.named Rows.linesSplitsSpec.vars) = true := by kernel_rfl
theorem closed5 : ((Rows.linesSplitsRow.stops == [])) = true := by kernel_rfl
theorem closed6 : ((Try.prog.stops == [])) = true := by kernel_rfl
theorem closed7 : ((Rows.linesSplitsRow.knobs == [])) = true := by kernel_rfl
theorem closed8 : ((Try.prog.stopKnobs == [])) = true := by kernel_rfl
theorem closed9 : ((Rows.linesSplitsRow.inPlace == Try.prog.inPlace 5)) = true := by kernel_rfl
theorem closed10 : ((Rows.linesSplitsRow.unfollowed == Try.prog.unfollowed 5)) = true := by kernel_rfl
theorem closed11 : ((Rows.linesSplitsRow.recurses == Try.prog.recurses 5)) = true := by kernel_rfl
theorem closed12 : ((Rows.linesSplitsRow.named == Try.prog.varsNamed 5)) = true := by kernel_rfl
theorem closed13 : ((Rows.linesSplitsRow.maps == (Try.f5.params.toList ++ Rows.linesSplitsSpec.plain.varTypes Try.prog).any (Try.prog.mapsRec ·))) = true := by kernel_rfl
theorem closed14 : ((Rows.linesSplitsRow.ifaces == (Try.f5.params.toList ++ Rows.linesSplitsSpec.plain.varTypes Try.prog).any (Try.prog.ifacesRec ·))) = true := by kernel_rfl
theorem closed15 : ((Rows.linesSplitsRow.mapsOut == Try.prog.mapsAmong Try.f5.resultTypes.toList)) = true := by kernel_rfl
theorem closed16 : ((Rows.linesSplitsRow.loops == (Try.f5.params.toList ++ Rows.linesSplitsSpec.plain.varTypes Try.prog).any (Try.prog.loopsFrom ·))) = true := by kernel_rfl
theorem closed17 : ((Rows.linesSplitsRow.wideKeys == (Try.f5.params.toList ++ Rows.linesSplitsSpec.plain.varTypes Try.prog ++ Try.f5.resultTypes.toList).any (Try.prog.wideKeysFrom ·))) = true := by kernel_rfl
theorem closed18 : (Rows.linesSplitsSpec.vars.all (Try.prog.varReadable ·)) = true := by kernel_rfl
theorem closed19 : (Try.f5.resultTypes.all (fun t => Try.prog.readableRec t && decide (t < Try.prog.types.size))) = true := by kernel_rfl
theorem closed20 : ((Rows.linesSplitsRow.ifacesOut == Try.f5.resultTypes.toList.any (Try.prog.ifacesRec ·))) = true := by kernel_rfl
theorem closed21 : ((Rows.linesSplitsRow.loopsOut == Try.f5.resultTypes.toList.any (Try.prog.loopsFrom ·))) = true := by kernel_rfl
theorem closed22 : ((Rows.linesSplitsRow.plainKeys == Try.prog.plainKeys)) = true := by kernel_rfl
theorem closed23 : (Rows.linesSplitsRow.shortTexts.isNone) = true := by kernel_rfl
theorem closed24 : (Try.prog.stopsHeard) = true := by kernel_rfl
theorem closed25 : (Try.prog.mayEnter) = true := by kernel_rfl
theorem closed26 : ((Rows.linesSplitsRow.lifted == Try.prog.liftsFinal)) = true := by kernel_rfl
theorem closed27 : ((Try.prog.make == some Rows.linesSplitsRow.make)) = true := by kernel_rfl
theorem closed29 : ((Rows.linesSplitsRow.pinned == Rows.linesSplitsRow.pinnedBy)) = true := by kernel_rfl
theorem closed30 : ((Rows.linesSplitsRow.veiled == (Try.f5.params.toList ++ Rows.linesSplitsSpec.plain.varTypes Try.prog ++ Try.f5.resultTypes.toList).any (Try.prog.veiledRec ·))) = true := by kernel_rfl
theorem closed31 : (Rows.linesSplitsRow.veiledFits Try.prog Try.f5.params.toList (Try.f5.params.toList ++ Rows.linesSplitsSpec.plain.varTypes Try.prog ++ Try.f5.resultTypes.toList)) = true := by kernel_rfl
set_option maxRecDepth 100000 in
theorem closed : joinedFacts Try.prog 5 Try.f5 Rows.linesSplitsSpec Rows.linesSplitsRow = true := by
  unfold joinedFacts
  exact (closed_and (closed_and (closed_and (closed_and (closed_and (closed_and (closed_and (closed_and (closed_and (closed_and (closed_and (closed_and (closed_and (closed_and (closed_and (closed_and (closed_and (closed_and (closed_and (closed_and (closed_and (closed_and (closed_and (closed_and (closed_and (closed_and (closed_and (closed_and (closed_and (closed_and (closed_and closed0 closed1) closed2) closed3) closed4) closed5) closed6) closed7) closed8) closed9) closed10) closed11) closed12) closed13) closed14) closed15) closed16) closed17) closed18) closed19) closed20) closed21) closed22) closed23) closed24) closed25) closed26) closed27) (by kernel_rfl)) closed29) closed30) closed31)
theorem over : Rows.linesSplitsRow.holds Try.pinned (OpenSpec.ofChange Rows.linesSplitsSpec) :=
  OpenClaim.holds_of_wide 5 Try.f5 rfl rfl rfl rfl rfl rfl rfl ⟨rfl, rfl, rfl, rfl, rfl⟩ rfl rfl rfl rfl rfl (by kernel_rfl) Try.func5 closed
    (of_decide_eq_true (by kernel_rfl)) (by unfold Func.isWrapper; first | (rw [if_pos (by decide +kernel)]; kernel_rfl) | (rw [if_neg (by decide +kernel)]; exact ⟨rfl, rfl⟩))
    (fun os started H enc _ => lifted os started H enc)
theorem proved : Rows.LinesSplitsSaid := over
#print axioms proved
end Go.Proofs.Ytfiamddinkokbaa.linesSplits
namespace Go.Proofs.Ytfiamddinkokbaa
theorem linesSplits_holds : Rows.LinesSplitsSaid := linesSplits.proved
end Go.Proofs.Ytfiamddinkokbaa
