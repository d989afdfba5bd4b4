/- It is proved that LinesJoins returns true, does not panic and changes nothing of its arguments, for every list of texts. There are no conditions. -/
import Derived.Test.YtfiamddinkokbaaRows
import Derived.Test.YtfiamddinkokbaaLJ1
import Derived.Test.YtfiamddinkokbaaLJ2
import Derived.WalkKit
import Derived.ProofKit
import Derived.OpenShut
import Derived.ShutString
import Derived.ChangeOld
import Derived.Below
import Derived.SizedLaws
set_option linter.unusedVariables false
set_option linter.unusedSimpArgs false
namespace Go.Proofs.Ytfiamddinkokbaa.linesJoins
open Go.ChangeShapes Go.WideShapes Go.ChangeAt Go.RowKit Go.Proofs.YtfiamddinkokbaaW.PrintWords Go.Proofs.Ytfiamddinkokbaa.F
open Go.ChangeMaps (open_string shut_string)
set_option linter.unusedVariables false
theorem own : ownKnob Try.prog.godebug = none := by kernel_rfl
theorem laidOut : laidOutB Try.prog = true := by kernel_rfl
set_option maxRecDepth 100000 in
theorem lifted (os : Os) (started : os.Started) (H : Type) (enc : TypeId × Value → H) :
    ReturnsInHanded {} Try.checked os 6 .any (Rows.linesJoinsSpec.pre6 enc Try.prog Try.f6 Rows.linesJoinsRow.domain false) (Rows.linesJoinsSpec.post enc Try.prog Try.f6 false true false false) := by
  refine returnsInHanded_of_change_sized (C := Try.checked) own started (by kernel_rfl) Try.func6
    (ChangeSpec.witness6 (enc := enc) (C := Try.checked) false ⟨#[], #[.slice none 0 0], []⟩ 8 (by kernel_rfl) (by kernel_rfl) (by kernel_rfl) (by kernel_rfl)) ?_
  intro W base args ds gs before hval0 hW hcnd hsz0 _
  have hsz : (DataW.weightsEach Try.prog (Try.f6.params.toList ++ Rows.linesJoinsSpec.plain.varTypes Try.prog) (ds ++ gs)).all (· ≤ reachBytes) = true := hsz0
  have hval : ∀ (j : Nat) t v, Try.f6.params[j]? = some t → args[j]? = some v → Value.okWide Try.prog W .any base t v := hval0
  have hW' := hW
  obtain ⟨p, q, hA0, hV, rfl, hfz, hnd⟩ := hW
  have hA : DataW.TrodAll enc Try.prog W 0 (fun _ => true) true Try.f6.params.toList args.toList ds p := hA0
  rw [Try.params6] at hA hval hsz
  obtain ⟨v0, vs0, d0, ds0, p0, q0, hargs, rfl, rfl, h0, r0⟩ := trodAll_cons hA
  obtain ⟨rfl, rfl, rfl⟩ := trodAll_nil r0
  obtain rfl : args = #[v0] := by cases args; simp_all
  obtain ⟨rfl, rfl⟩ := trodVars_none hV
  obtain ⟨a0, len0, cap0, rfl⟩ := okWide_slice Try.underlying36 (hval 0 36 v0 rfl rfl)
  have k0 := h0
  have lt0 : ∀ x ∈ p0, x.block < W.heap.size := by obtain ⟨m, hm⟩ := k0; exact DataW.trod_lt m _ _ _ hm
  obtain ⟨l0, e0, hr0, hc0, y0, w0⟩ := F.open_strs hsz (j := 0) (t := 36) rfl rfl Try.underlying36 Try.underlying9 (by kernel_rfl) (by kernel_rfl) h0
  subst e0
  clear hA0 hval0 hsz0 hsz
  obtain ⟨k, hk⟩ := Pure.LinesJoins l0 w0 y0
  refine (F.tripartitelaw01_LinesJoins.calls k a0 cap0 l0 true W hr0 hc0 hk).mono fun e W' ⟨he, bel⟩ => ?_
  subst he
  exact ⟨_, rfl, _, _, _, [], _, [], hW', trodAll_mk1 (shut_bool Try.underlying4 _), (trodAll_cons_mk (Below.trod laidOut (by kernel_rfl) (of_decide_eq_true (by kernel_rfl)) k0 bel lt0) trodAll_mk0), rfl, bel.frame _, fun h => by cases h⟩
theorem closed_and {a b : Bool} (h : a = true) (k : b = true) : (a && b) = true := by rw [h, k]; rfl
theorem closed0 : (Rows.linesJoinsRow.wf (OpenSpec.ofChange Rows.linesJoinsSpec)) = true := by kernel_rfl
theorem closed1 : (laidOutB Try.prog) = true := by kernel_rfl
theorem closed2 : (mapsRowed Try.prog) = true := by kernel_rfl
theorem closed3 : (Try.f6.params.all (Try.prog.readableRec ·)) = true := by kernel_rfl
theorem closed4 : (namedTie Try.prog Rows.linesJoinsRow.named Rows.linesJoinsSpec.vars) = true := by kernel_rfl
theorem closed5 : ((Rows.linesJoinsRow.stops == [])) = true := by kernel_rfl
theorem closed6 : ((Try.prog.stops == [])) = true := by kernel_rfl
theorem closed7 : ((Rows.linesJoinsRow.knobs == [])) = true := by kernel_rfl
theorem closed8 : ((Try.prog.stopKnobs == [])) = true := by kernel_rfl
theorem closed9 : ((Rows.linesJoinsRow.inPlace == Try.prog.inPlace 6)) = true := by kernel_rfl
theorem closed10 : ((Rows.linesJoinsRow.unfollowed == Try.prog.unfollowed 6)) = true := by kernel_rfl
theorem closed11 : ((Rows.linesJoinsRow.recurses == Try.prog.recurses 6)) = true := by kernel_rfl
theorem closed12 : ((Rows.linesJoinsRow.named == Try.prog.varsNamed 6)) = true := by kernel_rfl
theorem closed13 : ((Rows.linesJoinsRow.maps == (Try.f6.params.toList ++ Rows.linesJoinsSpec.plain.varTypes Try.prog).any (Try.prog.mapsRec ·))) = true := by kernel_rfl
theorem closed14 : ((Rows.linesJoinsRow.ifaces == (Try.f6.params.toList ++ Rows.linesJoinsSpec.plain.varTypes Try.prog).any (Try.prog.ifacesRec ·))) = true := by kernel_rfl
theorem closed15 : ((Rows.linesJoinsRow.mapsOut == Try.prog.mapsAmong Try.f6.resultTypes.toList)) = true := by kernel_rfl
theorem closed16 : ((Rows.linesJoinsRow.loops == (Try.f6.params.toList ++ Rows.linesJoinsSpec.plain.varTypes Try.prog).any (Try.prog.loopsFrom ·))) = true := by kernel_rfl
theorem closed17 : ((Rows.linesJoinsRow.wideKeys == (Try.f6.params.toList ++ Rows.linesJoinsSpec.plain.varTypes Try.prog ++ Try.f6.resultTypes.toList).any (Try.prog.wideKeysFrom ·))) = true := by kernel_rfl
theorem closed18 : (Rows.linesJoinsSpec.vars.all (Try.prog.varReadable ·)) = true := by kernel_rfl
theorem closed19 : (Try.f6.resultTypes.all (fun t => Try.prog.readableRec t && decide (t < Try.prog.types.size))) = true := by kernel_rfl
theorem closed20 : ((Rows.linesJoinsRow.ifacesOut == Try.f6.resultTypes.toList.any (Try.prog.ifacesRec ·))) = true := by kernel_rfl
theorem closed21 : ((Rows.linesJoinsRow.loopsOut == Try.f6.resultTypes.toList.any (Try.prog.loopsFrom ·))) = true := by kernel_rfl
theorem closed22 : ((Rows.linesJoinsRow.plainKeys == Try.prog.plainKeys)) = true := by kernel_rfl
theorem closed23 : (Rows.linesJoinsRow.shortTexts.isNone) = true := by kernel_rfl
theorem closed24 : (Try.prog.stopsHeard) = true := by kernel_rfl
theorem closed25 : (Try.prog.mayEnter) = true := by kernel_rfl
theorem closed26 : ((Rows.linesJoinsRow.lifted == Try.prog.liftsFinal)) = true := by kernel_rfl
theorem closed27 : ((Try.prog.make == some Rows.linesJoinsRow.make)) = true := by kernel_rfl
theorem closed29 : ((Rows.linesJoinsRow.pinned == Rows.linesJoinsRow.pinnedBy)) = true := by kernel_rfl
theorem closed30 : ((Rows.linesJoinsRow.veiled == (Try.f6.params.toList ++ Rows.linesJoinsSpec.plain.varTypes Try.prog ++ Try.f6.resultTypes.toList).any (Try.prog.veiledRec ·))) = true := by kernel_rfl
theorem closed31 : (Rows.linesJoinsRow.veiledFits Try.prog Try.f6.params.toList (Try.f6.params.toList ++ Rows.linesJoinsSpec.plain.varTypes Try.prog ++ Try.f6.resultTypes.toList)) = true := by kernel_rfl
set_option maxRecDepth 100000 in
theorem closed : joinedFacts Try.prog 6 Try.f6 Rows.linesJoinsSpec Rows.linesJoinsRow = true := by
  unfold joinedFacts
  exact (closed_and (closed_and (closed_and (closed_and (closed_and (closed_and (closed_and (closed_and (closed_and (closed_and (closed_and (closed_and (closed_and (closed_and (closed_and (closed_and (closed_and (closed_and (closed_and (closed_and (closed_and (closed_and (closed_and (closed_and (closed_and (closed_and (closed_and (closed_and (closed_and (closed_and (closed_and closed0 closed1) closed2) closed3) closed4) closed5) closed6) closed7) closed8) closed9) closed10) closed11) closed12) closed13) closed14) closed15) closed16) closed17) closed18) closed19) closed20) closed21) closed22) closed23) closed24) closed25) closed26) closed27) (by kernel_rfl)) closed29) closed30) closed31)
theorem over : Rows.linesJoinsRow.holds Try.pinned (OpenSpec.ofChange Rows.linesJoinsSpec) :=
  OpenClaim.holds_of_wide 6 Try.f6 rfl rfl rfl rfl rfl rfl rfl ⟨rfl, rfl, rfl, rfl, rfl⟩ rfl rfl rfl rfl rfl (by kernel_rfl) Try.func6 closed
    (of_decide_eq_true (by kernel_rfl)) (by unfold Func.isWrapper; first | (rw [if_pos (by decide +kernel)]; kernel_rfl) | (rw [if_neg (by decide +kernel)]; exact ⟨rfl, rfl⟩))
    (fun os started H enc _ => lifted os started H enc)
theorem proved : Rows.LinesJoinsSaid := over
#print axioms proved
end Go.Proofs.Ytfiamddinkokbaa.linesJoins
namespace Go.Proofs.Ytfiamddinkokbaa
theorem linesJoins_holds : Rows.LinesJoinsSaid := linesJoins.proved
end Go.Proofs.Ytfiamddinkokbaa
