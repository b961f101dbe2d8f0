/- The row of the law RectMays, out of its plain law and its walk. -/
import Derived.Test.YtfdmfgaiblfbhaaRows
import Derived.Test.YtfdmfgaiblfbhaaPF14
import Derived.Test.YtfdmfgaiblfbhaaPureRectMays
import Derived.Test.YtfdmfgaiblfbhaaHead
import Derived.Test.YtfdmfgaiblfbhaaJoin
import Derived.Test.YtfdmfgaiblfbhaaRead
import Derived.WalkKit
import Derived.ProofKit
import Derived.OpenShut
import Derived.ShutString
import Derived.ChangeOld
import Derived.Below
import Derived.SizedLaws
namespace Go.Proofs.Ytfdmfgaiblfbhaa.rectMays
open Go.ChangeShapes Go.WideShapes Go.ChangeAt Go.RowKit Go.Proofs.Ytfdmfgaiblfbhaa.P Go.Proofs.YtfdmfgaiblfbhaaW.PrintWords
open Go.ChangeMaps (open_string shut_string)
theorem own : ownKnob Try.prog.godebug = none := by kernel_rfl
theorem laidOut : laidOutB Try.prog = true := by kernel_rfl
set_option maxRecDepth 100000 in
theorem lifted (os : Os) (started : os.Started) (H : Type) (enc : TypeId × Value → H) :
    ReturnsInHanded {} Try.checked os 14 .any (Rows.rectMaysSpec.pre6 enc Try.prog Try.f14 Rows.rectMaysRow.domain false) (Rows.rectMaysSpec.post enc Try.prog Try.f14 false true false false) := by
  refine returnsInHanded_of_change_sized (C := Try.checked) own started (by kernel_rfl) Try.func14
    (ChangeSpec.witness6 (enc := enc) (C := Try.checked) false ⟨#[], #[.slice none 0 0], []⟩ 8 (by kernel_rfl) (by kernel_rfl) (by kernel_rfl) (by kernel_rfl)) ?_
  intro W base args ds gs before hval0 hW hcnd hsz0 _
  have hval : ∀ (j : Nat) t v, Try.f14.params[j]? = some t → args[j]? = some v → Value.okWide Try.prog W .any base t v := hval0
  have hW' := hW
  obtain ⟨p, q, hA0, hV, rfl, hfz, hnd⟩ := hW
  have hA : DataW.TrodAll enc Try.prog W 0 (fun _ => true) true Try.f14.params.toList args.toList ds p := hA0
  rw [Try.params14] at hA hval
  obtain ⟨v0, vs0, d0, ds0, p0, q0, hargs, rfl, rfl, h0, r0⟩ := trodAll_cons hA
  obtain ⟨rfl, rfl, rfl⟩ := trodAll_nil r0
  obtain rfl : args = #[v0] := by cases args; simp_all
  obtain ⟨rfl, rfl⟩ := trodVars_none hV
  have k0 := h0
  have lt0 : ∀ x ∈ p0, x.block < W.heap.size := by obtain ⟨m, hm⟩ := k0; exact DataW.trod_lt m _ _ _ hm
  obtain ⟨fuel0, hf0⟩ := h0
  obtain ⟨A0, len0, cap0, rfl⟩ := okWide_slice Try.underlying42 (hval 0 42 v0 rfl rfl)
  obtain ⟨B0, c0, a0, e0, hc0, hr0, w0⟩ := open_row (k := k23) (ok := wf23) Try.underlying42 (by kernel_rfl) (fun n _ cs y hy => read23 hy) hf0
  simp only [Value.cells, List.cons.injEq, Value.slice.injEq, and_true] at e0
  obtain ⟨rfl, rfl, rfl⟩ := e0
  obtain ⟨k, hP⟩ := Pure.RectMays a0 hr0.2.1 w0
  refine (sashlaw04_RectMays.calls k _ _ a0 true W hr0 hc0 hP).mono fun e W' ⟨he, bel0⟩ => ?_
  have bel : Below W.heap.size W W' := bel0
  subst he
  exact ⟨_, rfl, _, _, _, [], _, [], hW', trodAll_mk1 (shut_bool Try.underlying4 _), (trodAll_cons_mk (Below.trod laidOut (by kernel_rfl) (of_decide_eq_true (by kernel_rfl)) k0 bel lt0) trodAll_mk0), rfl, bel.frame _, fun h => by cases h⟩
theorem j0 : (Rows.rectMaysRow.wf (OpenSpec.ofChange Rows.rectMaysSpec)) = true := by kernel_rfl
theorem j1 : (laidOutB Try.prog) = true := by kernel_rfl
theorem j2 : (mapsRowed Try.prog) = true := by kernel_rfl
theorem j3 : (Try.f14.params.all (Try.prog.readableRec ·)) = true := by kernel_rfl
theorem j4 : (namedTie Try.prog Rows.rectMaysRow.named Rows.rectMaysSpec.vars) = true := by kernel_rfl
theorem j5 : ((Rows.rectMaysRow.stops == [])) = true := by kernel_rfl
theorem j6 : ((Try.prog.stops == [])) = true := by kernel_rfl
theorem j7 : ((Rows.rectMaysRow.knobs == [])) = true := by kernel_rfl
theorem j8 : ((Try.prog.stopKnobs == [])) = true := by kernel_rfl
theorem j9 : ((Rows.rectMaysRow.inPlace == Try.prog.inPlace 14)) = true := by kernel_rfl
theorem j10 : ((Rows.rectMaysRow.unfollowed == Try.prog.unfollowed 14)) = true := by kernel_rfl
theorem j11 : ((Rows.rectMaysRow.recurses == Try.prog.recurses 14)) = true := by kernel_rfl
theorem j12 : ((Rows.rectMaysRow.named == Try.prog.varsNamed 14)) = true := by kernel_rfl
theorem j13 : ((Rows.rectMaysRow.maps == (Try.f14.params.toList ++ Rows.rectMaysSpec.plain.varTypes Try.prog).any (Try.prog.mapsRec ·))) = true := by kernel_rfl
theorem j14 : ((Rows.rectMaysRow.ifaces == (Try.f14.params.toList ++ Rows.rectMaysSpec.plain.varTypes Try.prog).any (Try.prog.ifacesRec ·))) = true := by kernel_rfl
theorem j15 : ((Rows.rectMaysRow.mapsOut == Try.prog.mapsAmong Try.f14.resultTypes.toList)) = true := by kernel_rfl
theorem j16 : ((Rows.rectMaysRow.loops == (Try.f14.params.toList ++ Rows.rectMaysSpec.plain.varTypes Try.prog).any (Try.prog.loopsFrom ·))) = true := by kernel_rfl
theorem j17 : ((Rows.rectMaysRow.wideKeys == (Try.f14.params.toList ++ Rows.rectMaysSpec.plain.varTypes Try.prog ++ Try.f14.resultTypes.toList).any (Try.prog.wideKeysFrom ·))) = true := by kernel_rfl
theorem j18 : (Rows.rectMaysSpec.vars.all (Try.prog.varReadable ·)) = true := by kernel_rfl
theorem j19 : (Try.f14.resultTypes.all (fun t => Try.prog.readableRec t && decide (t < Try.prog.types.size))) = true := by kernel_rfl
theorem j20 : ((Rows.rectMaysRow.ifacesOut == Try.f14.resultTypes.toList.any (Try.prog.ifacesRec ·))) = true := by kernel_rfl
theorem j21 : ((Rows.rectMaysRow.loopsOut == Try.f14.resultTypes.toList.any (Try.prog.loopsFrom ·))) = true := by kernel_rfl
theorem j23 : (Rows.rectMaysRow.shortTexts.isNone) = true := by kernel_rfl
theorem j29 : ((Rows.rectMaysRow.pinned == Rows.rectMaysRow.pinnedBy)) = true := by kernel_rfl
theorem j30 : ((Rows.rectMaysRow.veiled == (Try.f14.params.toList ++ Rows.rectMaysSpec.plain.varTypes Try.prog ++ Try.f14.resultTypes.toList).any (Try.prog.veiledRec ·))) = true := by kernel_rfl
theorem j31 : (Rows.rectMaysRow.veiledFits Try.prog Try.f14.params.toList (Try.f14.params.toList ++ Rows.rectMaysSpec.plain.varTypes Try.prog ++ Try.f14.resultTypes.toList)) = true := by kernel_rfl
theorem closed : joinedFacts Try.prog 14 Try.f14 Rows.rectMaysSpec Rows.rectMaysRow = true := P.joined_mk j0 j1 j2 j3 j4 j5 j6 j7 j8 j9 j10 j11 j12 j13 j14 j15 j16 j17 j18 j19 j20 j21 P.head_keys j23 P.head_heard P.head_enter (by rw [P.head_final]; rfl) (by rw [P.head_make]; rfl) rfl rfl j29 j30 j31
theorem over : Rows.rectMaysRow.holds Try.pinned (OpenSpec.ofChange Rows.rectMaysSpec) :=
  OpenClaim.holds_of_wide 14 Try.f14 rfl rfl rfl rfl rfl rfl rfl ⟨rfl, rfl, rfl, rfl, rfl⟩ rfl rfl rfl rfl rfl (by kernel_rfl) Try.func14 closed
    (of_decide_eq_true (by kernel_rfl)) (by unfold Func.isWrapper; first | (rw [if_pos (by decide +kernel)]; kernel_rfl) | (rw [if_neg (by decide +kernel)]; exact ⟨rfl, rfl⟩))
    (fun os started H enc _ => lifted os started H enc)
theorem proved : Rows.RectMaysSaid := over
#print axioms proved
end Go.Proofs.Ytfdmfgaiblfbhaa.rectMays
namespace Go.Proofs.Ytfdmfgaiblfbhaa
/-- The row, under a short name, for the claim. -/
theorem rectMays_holds : Rows.RectMaysSaid := rectMays.proved
end Go.Proofs.Ytfdmfgaiblfbhaa
