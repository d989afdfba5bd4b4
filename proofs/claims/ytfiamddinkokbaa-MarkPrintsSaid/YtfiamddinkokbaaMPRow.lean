/- Of all Docs and widths mark.Print tells the text that the document tells, or that there is none, and the Doc goes to the document's form and back; for all Docs that the statement's guard lets in, without further conditions. -/
import Derived.Test.YtfiamddinkokbaaRows
import Derived.Test.YtfiamddinkokbaaMP5
import Derived.Test.YtfiamddinkokbaaMP6
import Derived.WalkKit
import Derived.ProofKit
import Derived.OpenShut
import Derived.ShutString
import Derived.ChangeOld
import Derived.Below
import Derived.SizedLaws
set_option linter.unusedVariables false
set_option linter.unusedSimpArgs false
namespace Go.Proofs.Ytfiamddinkokbaa.markPrints
open Go.ChangeShapes Go.WideShapes Go.ChangeAt Go.RowKit Go.Proofs.YtfiamddinkokbaaW.PrintWords Go.Proofs.Ytfiamddinkokbaa.F
open Go.ChangeMaps (open_string shut_string)
set_option linter.unusedVariables false
theorem own : ownKnob Try.prog.godebug = none := by kernel_rfl
theorem laidOut : laidOutB Try.prog = true := by kernel_rfl
set_option maxRecDepth 100000 in
theorem lifted (os : Os) (started : os.Started) (H : Type) (enc : TypeId × Value → H) :
    ReturnsInHanded {} Try.checked os 8 .any (Rows.markPrintsSpec.pre6 enc Try.prog Try.f8 Rows.markPrintsRow.domain false) (Rows.markPrintsSpec.post enc Try.prog Try.f8 false true false false) := by
  refine returnsInHanded_of_change_sized (C := Try.checked) own started (by kernel_rfl) Try.func8
    (ChangeSpec.witness6 (enc := enc) (C := Try.checked) false ⟨#[], #[.slice none 0 0, .int .i64 0], []⟩ 8 (by kernel_rfl) (by kernel_rfl) (by kernel_rfl) (by kernel_rfl)) ?_
  intro W base args ds gs before hval0 hW hcnd hsz0 _
  have hsz : (DataW.weightsEach Try.prog (Try.f8.params.toList ++ Rows.markPrintsSpec.plain.varTypes Try.prog) (ds ++ gs)).all (· ≤ reachBytes) = true := hsz0
  have hval : ∀ (j : Nat) t v, Try.f8.params[j]? = some t → args[j]? = some v → Value.okWide Try.prog W .any base t v := hval0
  have hW' := hW
  obtain ⟨p, q, hA0, hV, rfl, hfz, hnd⟩ := hW
  have hA : DataW.TrodAll enc Try.prog W 0 (fun _ => true) true Try.f8.params.toList args.toList ds p := hA0
  rw [Try.params8] at hA hval hsz
  obtain ⟨v0, vs0, d0, ds0, p0, q0, hargs, rfl, rfl, h0, r0⟩ := trodAll_cons hA
  obtain ⟨v1, vs1, d1, ds1, p1, q1, rfl, rfl, rfl, h1, r1⟩ := trodAll_cons r0
  obtain ⟨rfl, rfl, rfl⟩ := trodAll_nil r1
  obtain rfl : args = #[v0, v1] := by cases args; simp_all
  obtain ⟨rfl, rfl⟩ := trodVars_none hV
  obtain ⟨a0, len0, cap0, rfl⟩ := okWide_slice Try.underlying26 (hval 0 26 v0 rfl rfl)
  have k0 := h0
  have lt0 : ∀ x ∈ p0, x.block < W.heap.size := by obtain ⟨m, hm⟩ := k0; exact DataW.trod_lt m _ _ _ hm
  obtain ⟨l0, e0, hr0, hc0, y0, w0⟩ := F.open_parts hsz (j := 0) rfl rfl h0
  subst e0
  obtain ⟨a1, rfl, rfl, rfl, w1⟩ := open_int Try.underlying3 (hval 1 3 v1 rfl rfl) h1
  clear hA0 hval0 hsz0 hsz
  obtain ⟨k, hk⟩ := Pure.MarkPrints l0 a1 w0 y0 w1
  refine (F.tripartitelaw08_MarkPrints.calls k a0 cap0 l0 a1 true W hr0 hc0 hk).mono fun e W' ⟨he, bel⟩ => ?_
  subst he
  exact ⟨_, rfl, _, _, _, [], _, [], hW', trodAll_mk1 (shut_bool Try.underlying4 _), (trodAll_cons_mk (Below.trod laidOut (by kernel_rfl) (of_decide_eq_true (by kernel_rfl)) k0 bel lt0) (trodAll_cons_mk (shut_int Try.underlying3 w1) trodAll_mk0)), rfl, bel.frame _, fun h => by cases h⟩
theorem closed_and {a b : Bool} (h : a = true) (k : b = true) : (a && b) = true := by rw [h, k]; rfl
theorem closed0 : (Rows.markPrintsRow.wf (OpenSpec.ofChange Rows.markPrintsSpec)) = true := by kernel_rfl
theorem closed1 : (laidOutB Try.prog) = true := by kernel_rfl
theorem closed2 : (mapsRowed Try.prog) = true := by kernel_rfl
theorem closed3 : (Try.f8.params.all (Try.prog.readableRec ·)) = true := by kernel_rfl
theorem closed4 : (namedTie Try.prog Rows.markPrintsRow.named Rows.markPrintsSpec.vars) = true := by kernel_rfl
theorem closed5 : ((Rows.markPrintsRow.stops == [])) = true := by kernel_rfl
theorem closed6 : ((Try.prog.stops == [])) = true := by kernel_rfl
theorem closed7 : ((Rows.markPrintsRow.knobs == [])) = true := by kernel_rfl
theorem closed8 : ((Try.prog.stopKnobs == [])) = true := by kernel_rfl
theorem closed9 : ((Rows.markPrintsRow.inPlace == Try.prog.inPlace 8)) = true := by kernel_rfl
theorem closed10 : ((Rows.markPrintsRow.unfollowed == Try.prog.unfollowed 8)) = true := by kernel_rfl
theorem closed11 : ((Rows.markPrintsRow.recurses == Try.prog.recurses 8)) = true := by kernel_rfl
theorem closed12 : ((Rows.markPrintsRow.named == Try.prog.varsNamed 8)) = true := by kernel_rfl
theorem closed13 : ((Rows.markPrintsRow.maps == (Try.f8.params.toList ++ Rows.markPrintsSpec.plain.varTypes Try.prog).any (Try.prog.mapsRec ·))) = true := by kernel_rfl
theorem closed14 : ((Rows.markPrintsRow.ifaces == (Try.f8.params.toList ++ Rows.markPrintsSpec.plain.varTypes Try.prog).any (Try.prog.ifacesRec ·))) = true := by kernel_rfl
theorem closed15 : ((Rows.markPrintsRow.mapsOut == Try.prog.mapsAmong Try.f8.resultTypes.toList)) = true := by kernel_rfl
theorem closed16 : ((Rows.markPrintsRow.loops == (Try.f8.params.toList ++ Rows.markPrintsSpec.plain.varTypes Try.prog).any (Try.prog.loopsFrom ·))) = true := by kernel_rfl
theorem closed17 : ((Rows.markPrintsRow.wideKeys == (Try.f8.params.toList ++ Rows.markPrintsSpec.plain.varTypes Try.prog ++ Try.f8.resultTypes.toList).any (Try.prog.wideKeysFrom ·))) = true := by kernel_rfl
theorem closed18 : (Rows.markPrintsSpec.vars.all (Try.prog.varReadable ·)) = true := by kernel_rfl
theorem closed19 : (Try.f8.resultTypes.all (fun t => Try.prog.readableRec t && decide (t < Try.prog.types.size))) = true := by kernel_rfl
theorem closed20 : ((Rows.markPrintsRow.ifacesOut == Try.f8.resultTypes.toList.any (Try.prog.ifacesRec ·))) = true := by kernel_rfl
theorem closed21 : ((Rows.markPrintsRow.loopsOut == Try.f8.resultTypes.toList.any (Try.prog.loopsFrom ·))) = true := by kernel_rfl
theorem closed22 : ((Rows.markPrintsRow.plainKeys == Try.prog.plainKeys)) = true := by kernel_rfl
theorem closed23 : (Rows.markPrintsRow.shortTexts.isNone) = true := by kernel_rfl
theorem closed24 : (Try.prog.stopsHeard) = true := by kernel_rfl
theorem closed25 : (Try.prog.mayEnter) = true := by kernel_rfl
theorem closed26 : ((Rows.markPrintsRow.lifted == Try.prog.liftsFinal)) = true := by kernel_rfl
theorem closed27 : ((Try.prog.make == some Rows.markPrintsRow.make)) = true := by kernel_rfl
theorem closed29 : ((Rows.markPrintsRow.pinned == Rows.markPrintsRow.pinnedBy)) = true := by kernel_rfl
theorem closed30 : ((Rows.markPrintsRow.veiled == (Try.f8.params.toList ++ Rows.markPrintsSpec.plain.varTypes Try.prog ++ Try.f8.resultTypes.toList).any (Try.prog.veiledRec ·))) = true := by kernel_rfl
theorem closed31 : (Rows.markPrintsRow.veiledFits Try.prog Try.f8.params.toList (Try.f8.params.toList ++ Rows.markPrintsSpec.plain.varTypes Try.prog ++ Try.f8.resultTypes.toList)) = true := by kernel_rfl
set_option maxRecDepth 100000 in
theorem closed : joinedFacts Try.prog 8 Try.f8 Rows.markPrintsSpec Rows.markPrintsRow = true := by
  unfold joinedFacts
  exact (closed_and (closed_and (closed_and (closed_and (closed_and (closed_and (closed_and (closed_and (closed_and (closed_and (closed_and (closed_and (closed_and (closed_and (closed_and (closed_and (closed_and (closed_and (closed_and (closed_and (closed_and (closed_and (closed_and (closed_and (closed_and (closed_and (closed_and (closed_and (closed_and (closed_and (closed_and closed0 closed1) closed2) closed3) closed4) closed5) closed6) closed7) closed8) closed9) closed10) closed11) closed12) closed13) closed14) closed15) closed16) closed17) closed18) closed19) closed20) closed21) closed22) closed23) closed24) closed25) closed26) closed27) (by kernel_rfl)) closed29) closed30) closed31)
theorem over : Rows.markPrintsRow.holds Try.pinned (OpenSpec.ofChange Rows.markPrintsSpec) :=
  OpenClaim.holds_of_wide 8 Try.f8 rfl rfl rfl rfl rfl rfl rfl ⟨rfl, rfl, rfl, rfl, rfl⟩ rfl rfl rfl rfl rfl (by kernel_rfl) Try.func8 closed
    (of_decide_eq_true (by kernel_rfl)) (by unfold Func.isWrapper; first | (rw [if_pos (by decide +kernel)]; kernel_rfl) | (rw [if_neg (by decide +kernel)]; exact ⟨rfl, rfl⟩))
    (fun os started H enc _ => lifted os started H enc)
theorem proved : Rows.MarkPrintsSaid := over
#print axioms proved
end Go.Proofs.Ytfiamddinkokbaa.markPrints
namespace Go.Proofs.Ytfiamddinkokbaa
theorem markPrints_holds : Rows.MarkPrintsSaid := markPrints.proved
end Go.Proofs.Ytfiamddinkokbaa
