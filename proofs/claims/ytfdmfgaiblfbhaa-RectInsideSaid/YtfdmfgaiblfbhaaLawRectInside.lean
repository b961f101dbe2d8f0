/- The row of the law RectInside, out of its plain law and its walk. -/
import Derived.Test.YtfdmfgaiblfbhaaRows
import Derived.Test.YtfdmfgaiblfbhaaPF10
import Derived.Test.YtfdmfgaiblfbhaaPureRectInside
import Derived.Test.YtfdmfgaiblfbhaaHead
import Derived.Test.YtfdmfgaiblfbhaaJoin
import Derived.Test.YtfdmfgaiblfbhaaRead
import Derived.WalkKit
import Derived.ProofKit
import Derived.OpenShut
import Derived.ShutString
import Derived.ChangeOld
import Derived.Below
import Derived.SizedLaws
namespace Go.Proofs.Ytfdmfgaiblfbhaa.rectInside
open Go.ChangeShapes Go.WideShapes Go.ChangeAt Go.RowKit Go.Proofs.Ytfdmfgaiblfbhaa.P Go.Proofs.YtfdmfgaiblfbhaaW.PrintWords
open Go.ChangeMaps (open_string shut_string)
theorem own : ownKnob Try.prog.godebug = none := by kernel_rfl
theorem laidOut : laidOutB Try.prog = true := by kernel_rfl
set_option maxRecDepth 100000 in
theorem lifted (os : Os) (started : os.Started) (H : Type) (enc : TypeId × Value → H) :
    ReturnsInHanded {} Try.checked os 10 .any (Rows.rectInsideSpec.pre6 enc Try.prog Try.f10 Rows.rectInsideRow.domain false) (Rows.rectInsideSpec.post enc Try.prog Try.f10 false true false false) := by
  refine returnsInHanded_of_change_sized (C := Try.checked) own started (by kernel_rfl) Try.func10
    (ChangeSpec.witness6 (enc := enc) (C := Try.checked) false ⟨#[], #[.agg #[.int .i64 0, .int .i64 0, .int .i64 0, .int .i64 0], .slice none 0 0, .int .i64 0, .int .i64 0], []⟩ 8 (by kernel_rfl) (by kernel_rfl) (by kernel_rfl) (by kernel_rfl)) ?_
  intro W base args ds gs before hval0 hW hcnd hsz0 _
  have hval : ∀ (j : Nat) t v, Try.f10.params[j]? = some t → args[j]? = some v → Value.okWide Try.prog W .any base t v := hval0
  have hW' := hW
  obtain ⟨p, q, hA0, hV, rfl, hfz, hnd⟩ := hW
  have hA : DataW.TrodAll enc Try.prog W 0 (fun _ => true) true Try.f10.params.toList args.toList ds p := hA0
  rw [Try.params10] at hA hval
  obtain ⟨v0, vs0, d0, ds0, p0, q0, hargs, rfl, rfl, h0, r0⟩ := trodAll_cons hA
  obtain ⟨v1, vs1, d1, ds1, p1, q1, rfl, rfl, rfl, h1, r1⟩ := trodAll_cons r0
  obtain ⟨v2, vs2, d2, ds2, p2, q2, rfl, rfl, rfl, h2, r2⟩ := trodAll_cons r1
  obtain ⟨v3, vs3, d3, ds3, p3, q3, rfl, rfl, rfl, h3, r3⟩ := trodAll_cons r2
  obtain ⟨rfl, rfl, rfl⟩ := trodAll_nil r3
  obtain rfl : args = #[v0, v1, v2, v3] := by cases args; simp_all
  obtain ⟨rfl, rfl⟩ := trodVars_none hV
  have k0 := h0
  have lt0 : ∀ x ∈ p0, x.block < W.heap.size := by obtain ⟨m, hm⟩ := k0; exact DataW.trod_lt m _ _ _ hm
  obtain ⟨fuel0, hf0⟩ := h0
  obtain ⟨cs0, rfl, _⟩ := okWide_struct Try.underlying23 (hval 0 23 v0 rfl rfl)
  obtain ⟨a0, b0, w0⟩ := read23 hf0
  have e0 := k23_open b0
  obtain rfl := agg_of e0
  have k1 := h1
  have lt1 : ∀ x ∈ p1, x.block < W.heap.size := by obtain ⟨m, hm⟩ := k1; exact DataW.trod_lt m _ _ _ hm
  obtain ⟨fuel1, hf1⟩ := h1
  obtain ⟨A1, len1, cap1, rfl⟩ := okWide_slice Try.underlying42 (hval 1 42 v1 rfl rfl)
  obtain ⟨B1, c1, a1, e1, hc1, hr1, w1⟩ := open_row (k := k23) (ok := wf23) Try.underlying42 (by kernel_rfl) (fun n _ cs y hy => read23 hy) hf1
  simp only [Value.cells, List.cons.injEq, Value.slice.injEq, and_true] at e1
  obtain ⟨rfl, rfl, rfl⟩ := e1
  obtain ⟨a2, rfl, rfl, rfl, w2⟩ := open_int Try.underlying3 (hval 2 3 v2 rfl rfl) h2
  obtain ⟨a3, rfl, rfl, rfl, w3⟩ := open_int Try.underlying3 (hval 3 3 v3 rfl rfl) h3
  obtain ⟨k, hP⟩ := Pure.RectInside a0 a1 a2 a3 w0 hr1.2.1 w1 (i64_of w2) (i64_of w3)
  refine (sashlaw04_RectInside.calls k a0.f0 a0.f1 a0.f2 a0.f3 _ _ a1 a2 a3 true W hr1 hc1 hP).mono fun e W' ⟨he, bel0⟩ => ?_
  have bel : Below W.heap.size W W' := bel0
  subst he
  exact ⟨_, rfl, _, _, _, [], _, [], hW', trodAll_mk1 (shut_bool Try.underlying4 _), (trodAll_cons_mk (Below.trod laidOut (by kernel_rfl) (of_decide_eq_true (by kernel_rfl)) k0 bel lt0) (trodAll_cons_mk (Below.trod laidOut (by kernel_rfl) (of_decide_eq_true (by kernel_rfl)) k1 bel lt1) (trodAll_cons_mk (shut_int Try.underlying3 w2) (trodAll_cons_mk (shut_int Try.underlying3 w3) trodAll_mk0)))), rfl, bel.frame _, fun h => by cases h⟩
theorem j0 : (Rows.rectInsideRow.wf (OpenSpec.ofChange Rows.rectInsideSpec)) = true := by kernel_rfl
theorem j1 : (laidOutB Try.prog) = true := by kernel_rfl
theorem j2 : (mapsRowed Try.prog) = true := by kernel_rfl
theorem j3 : (Try.f10.params.all (Try.prog.readableRec ·)) = true := by kernel_rfl
theorem j4 : (namedTie Try.prog Rows.rectInsideRow.named Rows.rectInsideSpec.vars) = true := by kernel_rfl
theorem j5 : ((Rows.rectInsideRow.stops == [])) = true := by kernel_rfl
theorem j6 : ((Try.prog.stops == [])) = true := by kernel_rfl
theorem j7 : ((Rows.rectInsideRow.knobs == [])) = true := by kernel_rfl
theorem j8 : ((Try.prog.stopKnobs == [])) = true := by kernel_rfl
theorem j9 : ((Rows.rectInsideRow.inPlace == Try.prog.inPlace 10)) = true := by kernel_rfl
theorem j10 : ((Rows.rectInsideRow.unfollowed == Try.prog.unfollowed 10)) = true := by kernel_rfl
theorem j11 : ((Rows.rectInsideRow.recurses == Try.prog.recurses 10)) = true := by kernel_rfl
theorem j12 : ((Rows.rectInsideRow.named == Try.prog.varsNamed 10)) = true := by kernel_rfl
theorem j13 : ((Rows.rectInsideRow.maps == (Try.f10.params.toList ++ Rows.rectInsideSpec.plain.varTypes Try.prog).any (Try.prog.mapsRec ·))) = true := by kernel_rfl
theorem j14 : ((Rows.rectInsideRow.ifaces == (Try.f10.params.toList ++ Rows.rectInsideSpec.plain.varTypes Try.prog).any (Try.prog.ifacesRec ·))) = true := by kernel_rfl
theorem j15 : ((Rows.rectInsideRow.mapsOut == Try.prog.mapsAmong Try.f10.resultTypes.toList)) = true := by kernel_rfl
theorem j16 : ((Rows.rectInsideRow.loops == (Try.f10.params.toList ++ Rows.rectInsideSpec.plain.varTypes Try.prog).any (Try.prog.loopsFrom ·))) = true := by kernel_rfl
theorem j17 : ((Rows.rectInsideRow.wideKeys == (Try.f10.params.toList ++ Rows.rectInsideSpec.plain.varTypes Try.prog ++ Try.f10.resultTypes.toList).any (Try.prog.wideKeysFrom ·))) = true := by kernel_rfl
theorem j18 : (Rows.rectInsideSpec.vars.all (Try.prog.varReadable ·)) = true := by kernel_rfl
theorem j19 : (Try.f10.resultTypes.all (fun t => Try.prog.readableRec t && decide (t < Try.prog.types.size))) = true := by kernel_rfl
theorem j20 : ((Rows.rectInsideRow.ifacesOut == Try.f10.resultTypes.toList.any (Try.prog.ifacesRec ·))) = true := by kernel_rfl
theorem j21 : ((Rows.rectInsideRow.loopsOut == Try.f10.resultTypes.toList.any (Try.prog.loopsFrom ·))) = true := by kernel_rfl
theorem j23 : (Rows.rectInsideRow.shortTexts.isNone) = true := by kernel_rfl
theorem j29 : ((Rows.rectInsideRow.pinned == Rows.rectInsideRow.pinnedBy)) = true := by kernel_rfl
theorem j30 : ((Rows.rectInsideRow.veiled == (Try.f10.params.toList ++ Rows.rectInsideSpec.plain.varTypes Try.prog ++ Try.f10.resultTypes.toList).any (Try.prog.veiledRec ·))) = true := by kernel_rfl
theorem j31 : (Rows.rectInsideRow.veiledFits Try.prog Try.f10.params.toList (Try.f10.params.toList ++ Rows.rectInsideSpec.plain.varTypes Try.prog ++ Try.f10.resultTypes.toList)) = true := by kernel_rfl
theorem closed : joinedFacts Try.prog 10 Try.f10 Rows.rectInsideSpec Rows.rectInsideRow = true := P.joined_mk j0 j1 j2 j3 j4 j5 j6 j7 j8 j9 j10 j11 j12 j13 j14 j15 j16 j17 j18 j19 j20 j21 P.head_keys j23 P.head_heard P.head_enter (by rw [P.head_final]; rfl) (by rw [P.head_make]; rfl) rfl rfl j29 j30 j31
theorem over : Rows.rectInsideRow.holds Try.pinned (OpenSpec.ofChange Rows.rectInsideSpec) :=
  OpenClaim.holds_of_wide 10 Try.f10 rfl rfl rfl rfl rfl rfl rfl ⟨rfl, rfl, rfl, rfl, rfl⟩ rfl rfl rfl rfl rfl (by kernel_rfl) Try.func10 closed
    (of_decide_eq_true (by kernel_rfl)) (by unfold Func.isWrapper; first | (rw [if_pos (by decide +kernel)]; kernel_rfl) | (rw [if_neg (by decide +kernel)]; exact ⟨rfl, rfl⟩))
    (fun os started H enc _ => lifted os started H enc)
theorem proved : Rows.RectInsideSaid := over
#print axioms proved
end Go.Proofs.Ytfdmfgaiblfbhaa.rectInside
namespace Go.Proofs.Ytfdmfgaiblfbhaa
/-- The row, under a short name, for the claim. -/
theorem rectInside_holds : Rows.RectInsideSaid := rectInside.proved
end Go.Proofs.Ytfdmfgaiblfbhaa
