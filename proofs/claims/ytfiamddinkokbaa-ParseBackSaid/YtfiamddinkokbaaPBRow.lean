/- ParseBack: each Doc that may be, of lines that fit, is told by its Print; by a wider one it is text alone, or told to be wrong. -/
import Derived.Test.YtfiamddinkokbaaRows
import Derived.Test.YtfiamddinkokbaaPB37
import Derived.Test.YtfiamddinkokbaaPB39
import Derived.WalkKit
import Derived.ProofKit
import Derived.OpenShut
import Derived.ShutString
import Derived.ChangeOld
import Derived.Below
import Derived.SizedLaws
set_option linter.unusedVariables false
set_option linter.unusedSimpArgs false
namespace Go.Proofs.Ytfiamddinkokbaa.parseBack
open Go.ChangeShapes Go.WideShapes Go.ChangeAt Go.RowKit Go.Proofs.YtfiamddinkokbaaW.PrintWords Go.Proofs.Ytfiamddinkokbaa.F
open Go.ChangeMaps (open_string shut_string)
theorem own : ownKnob Try.prog.godebug = none := by kernel_rfl
theorem laidOut : laidOutB Try.prog = true := by kernel_rfl
set_option maxHeartbeats 4000000 in
set_option maxRecDepth 100000 in
theorem lifted (os : Os) (started : os.Started) (H : Type) (enc : TypeId × Value → H) :
  ReturnsInHanded {} Try.checked os 13 .any (Rows.parseBackSpec.pre6 enc Try.prog Try.f13 Rows.parseBackRow.domain false) (Rows.parseBackSpec.post enc Try.prog Try.f13 false true false false) := by
 refine returnsInHanded_of_change_sized (C := Try.checked) own started (by kernel_rfl) Try.func13
  (ChangeSpec.witness6 (enc := enc) (C := Try.checked) false ⟨#[], #[.slice none 0 0, .int .i64 0], []⟩ 8 (by kernel_rfl) (by kernel_rfl) (by kernel_rfl) (by kernel_rfl)) ?_
 intro W base args ds gs before hval0 hW hcnd hsz0 _
 have hsz : (DataW.weightsEach Try.prog (Try.f13.params.toList ++ Rows.parseBackSpec.plain.varTypes Try.prog) (ds ++ gs)).all (· ≤ reachBytes) = true := hsz0
 have hval : ∀ (j : Nat) t v, Try.f13.params[j]? = some t → args[j]? = some v → Value.okWide Try.prog W .any base t v := hval0
 have hW' := hW
 obtain ⟨p, q, hA0, hV, rfl, hfz, hnd⟩ := hW
 have hA : DataW.TrodAll enc Try.prog W 0 (fun _ => true) true Try.f13.params.toList args.toList ds p := hA0
 rw [Try.params13] at hA hval hsz
 obtain ⟨v0, vs0, d0, ds0, p0, q0, hargs, rfl, rfl, h0, r0⟩ := trodAll_cons hA
 obtain ⟨v1, vs1, d1, ds1, p1, q1, rfl, rfl, rfl, h1, r1⟩ := trodAll_cons r0
 obtain ⟨rfl, rfl, rfl⟩ := trodAll_nil r1
 obtain rfl : args = #[v0, v1] := by cases args; simp_all
 obtain ⟨rfl, rfl⟩ := trodVars_none hV
 obtain ⟨a0, len0, cap0, rfl⟩ := okWide_slice Try.underlying26 (hval 0 26 v0 rfl rfl)
 have k0 := h0
 have lt0 : ∀ x ∈ p0, x.block < W.heap.size := by obtain ⟨m, hm⟩ := k0; exact DataW.trod_lt m _ _ _ hm
 obtain ⟨l0, e0, hr0, hc0, y0, w0⟩ := F.open_parts hsz (j := 0) rfl rfl h0
 subst e0
 obtain ⟨a1, rfl, rfl, rfl, w1⟩ := open_int Try.underlying3 (hval 1 3 v1 rfl rfl) h1
 clear hA0 hval0 hsz0 hsz
 obtain ⟨k, hk⟩ := Pure.ParseBack l0 a1 w0 y0 w1
 refine (F.tripartitelaw09_ParseBack.calls k a0 cap0 l0 a1 true W hr0 hc0 hk).mono fun e W' ⟨he, bel⟩ => ?_
 subst he
 exact ⟨_, rfl, _, _, _, [], _, [], hW', trodAll_mk1 (shut_bool Try.underlying4 _), (trodAll_cons_mk (Below.trod laidOut (by kernel_rfl) (of_decide_eq_true (by kernel_rfl)) k0 bel lt0) (trodAll_cons_mk (shut_int Try.underlying3 w1) trodAll_mk0)), rfl, bel.frame _, fun h => by cases h⟩
theorem closed_and {a b : Bool} (h : a = true) (k : b = true) : (a && b) = true := by rw [h, k]; rfl
theorem closed0 : (Rows.parseBackRow.wf (OpenSpec.ofChange Rows.parseBackSpec)) = true := by kernel_rfl
theorem closed1 : (laidOutB Try.prog) = true := by kernel_rfl
theorem closed2 : (mapsRowed Try.prog) = true := by kernel_rfl
theorem closed3 : (Try.f13.params.all (Try.prog.readableRec ·)) = true := by kernel_rfl
theorem closed4 : (namedTie Try.prog Rows.parseBackRow.named Rows.parseBackSpec.vars) = true := by kernel_rfl
theorem closed5 : ((Rows.parseBackRow.stops == [])) = true := by kernel_rfl
theorem closed6 : ((Try.prog.stops == [])) = true := by kernel_rfl
theorem closed7 : ((Rows.parseBackRow.knobs == [])) = true := by kernel_rfl
theorem closed8 : ((Try.prog.stopKnobs == [])) = true := by kernel_rfl
theorem closed9 : ((Rows.parseBackRow.inPlace == Try.prog.inPlace 13)) = true := by kernel_rfl
theorem closed10 : ((Rows.parseBackRow.unfollowed == Try.prog.unfollowed 13)) = true := by kernel_rfl
theorem closed11 : ((Rows.parseBackRow.recurses == Try.prog.recurses 13)) = true := by kernel_rfl
theorem closed12 : ((Rows.parseBackRow.named == Try.prog.varsNamed 13)) = true := by kernel_rfl
theorem closed13 : ((Rows.parseBackRow.maps == (Try.f13.params.toList ++ Rows.parseBackSpec.plain.varTypes Try.prog).any (Try.prog.mapsRec ·))) = true := by kernel_rfl
theorem closed14 : ((Rows.parseBackRow.ifaces == (Try.f13.params.toList ++ Rows.parseBackSpec.plain.varTypes Try.prog).any (Try.prog.ifacesRec ·))) = true := by kernel_rfl
theorem closed15 : ((Rows.parseBackRow.mapsOut == Try.prog.mapsAmong Try.f13.resultTypes.toList)) = true := by kernel_rfl
theorem closed16 : ((Rows.parseBackRow.loops == (Try.f13.params.toList ++ Rows.parseBackSpec.plain.varTypes Try.prog).any (Try.prog.loopsFrom ·))) = true := by kernel_rfl
theorem closed17 : ((Rows.parseBackRow.wideKeys == (Try.f13.params.toList ++ Rows.parseBackSpec.plain.varTypes Try.prog ++ Try.f13.resultTypes.toList).any (Try.prog.wideKeysFrom ·))) = true := by kernel_rfl
theorem closed18 : (Rows.parseBackSpec.vars.all (Try.prog.varReadable ·)) = true := by kernel_rfl
theorem closed19 : (Try.f13.resultTypes.all (fun t => Try.prog.readableRec t && decide (t < Try.prog.types.size))) = true := by kernel_rfl
theorem closed20 : ((Rows.parseBackRow.ifacesOut == Try.f13.resultTypes.toList.any (Try.prog.ifacesRec ·))) = true := by kernel_rfl
theorem closed21 : ((Rows.parseBackRow.loopsOut == Try.f13.resultTypes.toList.any (Try.prog.loopsFrom ·))) = true := by kernel_rfl
theorem closed22 : ((Rows.parseBackRow.plainKeys == Try.prog.plainKeys)) = true := by kernel_rfl
theorem closed23 : (Rows.parseBackRow.shortTexts.isNone) = true := by kernel_rfl
theorem closed24 : (Try.prog.stopsHeard) = true := by kernel_rfl
theorem closed25 : (Try.prog.mayEnter) = true := by kernel_rfl
theorem closed26 : ((Rows.parseBackRow.lifted == Try.prog.liftsFinal)) = true := by kernel_rfl
theorem closed27 : ((Try.prog.make == some Rows.parseBackRow.make)) = true := by kernel_rfl
theorem closed29 : ((Rows.parseBackRow.pinned == Rows.parseBackRow.pinnedBy)) = true := by kernel_rfl
theorem closed30 : ((Rows.parseBackRow.veiled == (Try.f13.params.toList ++ Rows.parseBackSpec.plain.varTypes Try.prog ++ Try.f13.resultTypes.toList).any (Try.prog.veiledRec ·))) = true := by kernel_rfl
theorem closed31 : (Rows.parseBackRow.veiledFits Try.prog Try.f13.params.toList (Try.f13.params.toList ++ Rows.parseBackSpec.plain.varTypes Try.prog ++ Try.f13.resultTypes.toList)) = true := by kernel_rfl
set_option maxRecDepth 100000 in
theorem closed : joinedFacts Try.prog 13 Try.f13 Rows.parseBackSpec Rows.parseBackRow = true := by
 unfold joinedFacts
 exact (closed_and (closed_and (closed_and (closed_and (closed_and (closed_and (closed_and (closed_and (closed_and (closed_and (closed_and (closed_and (closed_and (closed_and (closed_and (closed_and (closed_and (closed_and (closed_and (closed_and (closed_and (closed_and (closed_and (closed_and (closed_and (closed_and (closed_and (closed_and (closed_and (closed_and (closed_and closed0 closed1) closed2) closed3) closed4) closed5) closed6) closed7) closed8) closed9) closed10) closed11) closed12) closed13) closed14) closed15) closed16) closed17) closed18) closed19) closed20) closed21) closed22) closed23) closed24) closed25) closed26) closed27) (by kernel_rfl)) closed29) closed30) closed31)
theorem over : Rows.parseBackRow.holds Try.pinned (OpenSpec.ofChange Rows.parseBackSpec) :=
 OpenClaim.holds_of_wide 13 Try.f13 rfl rfl rfl rfl rfl rfl rfl ⟨rfl, rfl, rfl, rfl, rfl⟩ rfl rfl rfl rfl rfl (by kernel_rfl) Try.func13 closed
  (of_decide_eq_true (by kernel_rfl)) (by unfold Func.isWrapper; first | (rw [if_pos (by decide +kernel)]; kernel_rfl) | (rw [if_neg (by decide +kernel)]; exact ⟨rfl, rfl⟩))
  (fun os started H enc _ => lifted os started H enc)
theorem proved : Rows.ParseBackSaid := over
#print axioms proved
end Go.Proofs.Ytfiamddinkokbaa.parseBack
namespace Go.Proofs.Ytfiamddinkokbaa
theorem parseBack_holds : Rows.ParseBackSaid := parseBack.proved
end Go.Proofs.Ytfiamddinkokbaa
