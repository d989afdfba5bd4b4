/- a Marker's Line is read as one by just its width: by a lesser one it is malformed, by a greater one none. -/
import Derived.Test.YtfiamddinkokbaaRows
import Derived.Test.YtfiamddinkokbaaMW4
import Derived.WalkKit
import Derived.ProofKit
import Derived.OpenShut
import Derived.ShutString
import Derived.ChangeOld
import Derived.Below
import Derived.SizedLaws
import Derived.HandedShaped
import Derived.Lib.SmallJoins
import Derived.Shelf.Vars
set_option linter.unusedVariables false
set_option linter.unusedSimpArgs false
namespace Go.Proofs.Ytfiamddinkokbaa.markWidths
open Go.ChangeShapes Go.WideShapes Go.ChangeAt Go.RowKit Go.Proofs.YtfiamddinkokbaaW.PrintWords Go.Proofs.Ytfiamddinkokbaa.F
open Go.ChangeMaps (open_string shut_string)
set_option linter.unusedVariables false
theorem own : ownKnob Try.prog.godebug = none := by kernel_rfl
theorem markerReads {H : Type} {enc : TypeId × Value → H} (W' : World) (b : Nat) (sp : Nat → Bool) (hd : Bool) (x : Int) (f : Bool) (a : ByteArray) (wx : (Lit.int .u8 x).wf = true) (wa : a.size ≤ maxLen) :
    DataW.Trod enc Try.prog W' b sp hd 60 (.agg #[.int .u8 x, .bool f, .string a]) (.agg [.lit (.int .u8 x), .lit (.bool f), .lit (.string a.data.toList)]) [] := by
  simpa using Go.Joins.shut_agg3 (enc := enc) (w := W') (base := b) (spare := sp) (held := hd) (y0 := (.lit (.int .u8 x), [])) (y1 := (.lit (.bool f), [])) (y2 := (.lit (.string a.data.toList), [])) Try.underlying60 (by kernel_rfl) (by kernel_rfl) ⟨1, by simp [DataW.trod, Try.underlying5, wx]⟩ ⟨1, by simp [DataW.trod, Try.underlying4]⟩ ⟨1, by simp [DataW.trod, Try.underlying9, wa]⟩
set_option maxRecDepth 100000 in
theorem lifted (os : Os) (started : os.Started) (H : Type) (enc : TypeId × Value → H) :
    ReturnsInHanded {} Try.checked os 12 .any (Rows.markWidthsSpec.pre6 enc Try.prog Try.f12 Rows.markWidthsRow.domain false) (Rows.markWidthsSpec.post enc Try.prog Try.f12 false true false false) := by
  refine returnsInHanded_of_change_shaped (C := Try.checked) own started (by kernel_rfl) Try.func12
    (ChangeSpec.witness6 (enc := enc) (C := Try.checked) false ⟨#[], #[.agg #[.int .u8 0, .bool false, .string ByteArray.empty], .int .i64 0, .int .i64 0], []⟩ 8 (by kernel_rfl) (by kernel_rfl) (by kernel_rfl) (by kernel_rfl)) ?_
  intro W base args ds gs before hval0 hW hcnd hsz0 hsh _
  have hsz : (DataW.weightsEach Try.prog (Try.f12.params.toList ++ Rows.markWidthsSpec.plain.varTypes Try.prog) (ds ++ gs)).all (· ≤ reachBytes) = true := hsz0
  have hval : ∀ (j : Nat) t v, Try.f12.params[j]? = some t → args[j]? = some v → Value.okWide Try.prog W .any base t v := hval0
  have hW' := hW
  obtain ⟨p, q, hA0, hV, rfl, hfz, hnd⟩ := hW
  have hA : DataW.TrodAll enc Try.prog W 0 (fun _ => true) true Try.f12.params.toList args.toList ds p := hA0
  rw [Try.params12] at hA hval hsz
  obtain ⟨v0, vs0, d0, ds0, p0, q0, hargs, rfl, rfl, h0, r0⟩ := trodAll_cons hA
  obtain ⟨v1, vs1, d1, ds1, p1, q1, rfl, rfl, rfl, h1, r1⟩ := trodAll_cons r0
  obtain ⟨v2, vs2, d2, ds2, p2, q2, rfl, rfl, rfl, h2, r2⟩ := trodAll_cons r1
  obtain ⟨rfl, rfl, rfl⟩ := trodAll_nil r2
  obtain rfl : args = #[v0, v1, v2] := by cases args; simp_all
  obtain ⟨rfl, rfl⟩ := trodVars_none hV
  obtain ⟨cx0, cy0, cz0, dx0, dy0, dz0, mm0, rfl, rfl, rfl, hx0, hy0, hz0⟩ := Go.Joins.open_agg3 Try.underlying60 (by kernel_rfl) (by kernel_rfl) (hval 0 60 v0 rfl rfl) h0
  obtain ⟨x0, e0a, rfl, wx0⟩ := DataW.trod_int Try.underlying5 hx0
  obtain ⟨f0, e0b, rfl⟩ := DataW.trod_bool Try.underlying4 hy0
  obtain ⟨a0, e0c, rfl, w0⟩ := DataW.trod_string Try.underlying9 hz0
  simp at e0a e0b e0c
  subst e0a e0b e0c
  have x0r : 0 ≤ x0 ∧ x0 < 256 := by have z := wx0; simp [Lit.wf] at z; have z0 : IntKind.u8.min = 0 := rfl; have z1 : IntKind.u8.max = 255 := rfl; omega
  obtain ⟨a1, rfl, rfl, rfl, w1⟩ := open_int Try.underlying3 (hval 1 3 v1 rfl rfl) h1
  obtain ⟨a2, rfl, rfl, rfl, w2⟩ := open_int Try.underlying3 (hval 2 3 v2 rfl rfl) h2
  obtain ⟨mx, hmx⟩ := Go.Proofs.cell_of_shapedOpen_int (P := Try.prog) (g := 0) (t := 3) (zero := #[.int .i64 0]) hsh (of_decide_eq_true (by kernel_rfl)) (by kernel_rfl) rfl (by kernel_rfl) (by kernel_rfl) Try.underlying3
  clear hsh
  clear hA0 hval0 hsz0 hsz
  refine (F.markWidths_walk x0 x0r.1 x0r.2 f0 a0 a1 a2 W mx hmx).mono fun e W' ⟨he, bel⟩ => ?_
  subst he
  exact ⟨_, rfl, _, _, _, [], _, [], hW', trodAll_mk1 (shut_bool Try.underlying4 _), (trodAll_cons_mk (markerReads _ _ _ _ x0 f0 a0 wx0 w0) (trodAll_cons_mk (shut_int Try.underlying3 w1) (trodAll_cons_mk (shut_int Try.underlying3 w2) trodAll_mk0))), rfl, bel.frame _, fun h => by cases h⟩
theorem closed_and {a b : Bool} (h : a = true) (k : b = true) : (a && b) = true := by rw [h, k]; rfl
theorem closed0 : (Rows.markWidthsRow.wf (OpenSpec.ofChange Rows.markWidthsSpec)) = true := by kernel_rfl
theorem closed1 : (laidOutB Try.prog) = true := by kernel_rfl
theorem closed2 : (mapsRowed Try.prog) = true := by kernel_rfl
theorem closed3 : (Try.f12.params.all (Try.prog.readableRec ·)) = true := by kernel_rfl
theorem closed4 : (namedTie Try.prog Rows.markWidthsRow.named Rows.markWidthsSpec.vars) = true := by kernel_rfl
theorem closed5 : ((Rows.markWidthsRow.stops == [])) = true := by kernel_rfl
theorem closed6 : ((Try.prog.stops == [])) = true := by kernel_rfl
theorem closed7 : ((Rows.markWidthsRow.knobs == [])) = true := by kernel_rfl
theorem closed8 : ((Try.prog.stopKnobs == [])) = true := by kernel_rfl
theorem closed9 : ((Rows.markWidthsRow.inPlace == Try.prog.inPlace 12)) = true := by kernel_rfl
theorem closed10 : ((Rows.markWidthsRow.unfollowed == Try.prog.unfollowed 12)) = true := by kernel_rfl
theorem closed11 : ((Rows.markWidthsRow.recurses == Try.prog.recurses 12)) = true := by kernel_rfl
theorem closed12 : ((Rows.markWidthsRow.named == Try.prog.varsNamed 12)) = true := by kernel_rfl
theorem closed13 : ((Rows.markWidthsRow.maps == (Try.f12.params.toList ++ Rows.markWidthsSpec.plain.varTypes Try.prog).any (Try.prog.mapsRec ·))) = true := by kernel_rfl
theorem closed14 : ((Rows.markWidthsRow.ifaces == (Try.f12.params.toList ++ Rows.markWidthsSpec.plain.varTypes Try.prog).any (Try.prog.ifacesRec ·))) = true := by kernel_rfl
theorem closed15 : ((Rows.markWidthsRow.mapsOut == Try.prog.mapsAmong Try.f12.resultTypes.toList)) = true := by kernel_rfl
theorem closed16 : ((Rows.markWidthsRow.loops == (Try.f12.params.toList ++ Rows.markWidthsSpec.plain.varTypes Try.prog).any (Try.prog.loopsFrom ·))) = true := by kernel_rfl
theorem closed17 : ((Rows.markWidthsRow.wideKeys == (Try.f12.params.toList ++ Rows.markWidthsSpec.plain.varTypes Try.prog ++ Try.f12.resultTypes.toList).any (Try.prog.wideKeysFrom ·))) = true := by kernel_rfl
theorem closed18 : (Rows.markWidthsSpec.vars.all (Try.prog.varReadable ·)) = true := by kernel_rfl
theorem closed19 : (Try.f12.resultTypes.all (fun t => Try.prog.readableRec t && decide (t < Try.prog.types.size))) = true := by kernel_rfl
theorem closed20 : ((Rows.markWidthsRow.ifacesOut == Try.f12.resultTypes.toList.any (Try.prog.ifacesRec ·))) = true := by kernel_rfl
theorem closed21 : ((Rows.markWidthsRow.loopsOut == Try.f12.resultTypes.toList.any (Try.prog.loopsFrom ·))) = true := by kernel_rfl
theorem closed22 : ((Rows.markWidthsRow.plainKeys == Try.prog.plainKeys)) = true := by kernel_rfl
theorem closed23 : (Rows.markWidthsRow.shortTexts.isNone) = true := by kernel_rfl
theorem closed24 : (Try.prog.stopsHeard) = true := by kernel_rfl
theorem closed25 : (Try.prog.mayEnter) = true := by kernel_rfl
theorem closed26 : ((Rows.markWidthsRow.lifted == Try.prog.liftsFinal)) = true := by kernel_rfl
theorem closed27 : ((Try.prog.make == some Rows.markWidthsRow.make)) = true := by kernel_rfl
theorem closed29 : ((Rows.markWidthsRow.pinned == Rows.markWidthsRow.pinnedBy)) = true := by kernel_rfl
theorem closed30 : ((Rows.markWidthsRow.veiled == (Try.f12.params.toList ++ Rows.markWidthsSpec.plain.varTypes Try.prog ++ Try.f12.resultTypes.toList).any (Try.prog.veiledRec ·))) = true := by kernel_rfl
theorem closed31 : (Rows.markWidthsRow.veiledFits Try.prog Try.f12.params.toList (Try.f12.params.toList ++ Rows.markWidthsSpec.plain.varTypes Try.prog ++ Try.f12.resultTypes.toList)) = true := by kernel_rfl
set_option maxRecDepth 100000 in
theorem closed : joinedFacts Try.prog 12 Try.f12 Rows.markWidthsSpec Rows.markWidthsRow = true := by
  unfold joinedFacts
  exact (closed_and (closed_and (closed_and (closed_and (closed_and (closed_and (closed_and (closed_and (closed_and (closed_and (closed_and (closed_and (closed_and (closed_and (closed_and (closed_and (closed_and (closed_and (closed_and (closed_and (closed_and (closed_and (closed_and (closed_and (closed_and (closed_and (closed_and (closed_and (closed_and (closed_and (closed_and closed0 closed1) closed2) closed3) closed4) closed5) closed6) closed7) closed8) closed9) closed10) closed11) closed12) closed13) closed14) closed15) closed16) closed17) closed18) closed19) closed20) closed21) closed22) closed23) closed24) closed25) closed26) closed27) (by kernel_rfl)) closed29) closed30) closed31)
theorem over : Rows.markWidthsRow.holds Try.pinned (OpenSpec.ofChange Rows.markWidthsSpec) :=
  OpenClaim.holds_of_wide 12 Try.f12 rfl rfl rfl rfl rfl rfl rfl ⟨rfl, rfl, rfl, rfl, rfl⟩ rfl rfl rfl rfl rfl (by kernel_rfl) Try.func12 closed
    (of_decide_eq_true (by kernel_rfl)) (by unfold Func.isWrapper; first | (rw [if_pos (by decide +kernel)]; kernel_rfl) | (rw [if_neg (by decide +kernel)]; exact ⟨rfl, rfl⟩))
    (fun os started H enc _ => lifted os started H enc)
theorem proved : Rows.MarkWidthsSaid := over
#print axioms proved
end Go.Proofs.Ytfiamddinkokbaa.markWidths
namespace Go.Proofs.Ytfiamddinkokbaa
theorem markWidths_holds : Rows.MarkWidthsSaid := markWidths.proved
end Go.Proofs.Ytfiamddinkokbaa
