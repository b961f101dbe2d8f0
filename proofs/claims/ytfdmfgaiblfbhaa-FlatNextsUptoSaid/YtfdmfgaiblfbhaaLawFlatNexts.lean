/- The row of the law FlatNexts, second form (what it reads is of bulk at most 1048576), out of its plain law and its walk. -/
import Derived.Test.YtfdmfgaiblfbhaaRows
import Derived.Test.YtfdmfgaiblfbhaaPF3
import Derived.Test.YtfdmfgaiblfbhaaPureFlatNexts
import Derived.Test.YtfdmfgaiblfbhaaHead
import Derived.Test.YtfdmfgaiblfbhaaJoin
import Derived.Test.YtfdmfgaiblfbhaaReadz
import Derived.WalkKit
import Derived.ProofKit
import Derived.OpenShut
import Derived.ShutString
import Derived.ChangeOld
import Derived.Below
import Derived.SizedLaws
import Derived.JoinedCond
namespace Go.Proofs.Ytfdmfgaiblfbhaa.flatNextsUpto
open Go.ChangeShapes Go.WideShapes Go.ChangeAt Go.RowKit Go.Proofs.Ytfdmfgaiblfbhaa.P Go.Proofs.YtfdmfgaiblfbhaaW.PrintWords
open Go.ChangeMaps (open_string shut_string)
theorem own : ownKnob Try.prog.godebug = none := by kernel_rfl
theorem laidOut : laidOutB Try.prog = true := by kernel_rfl
set_option maxRecDepth 100000 in
theorem lifted (os : Os) (started : os.Started) (H : Type) (enc : TypeId × Value → H) (F : Stop.Interp) :
    ReturnsInHanded {} Try.checked os 3 .any ((Rows.OpenSpec.upto Rows.flatNextsSpec).pre6 enc Try.prog Try.f3 Rows.flatNextsUptoRow.domain false) (((Rows.OpenSpec.upto Rows.flatNextsSpec).at F).post enc Try.prog Try.f3 false true false false) := by
  refine returnsInHanded_of_cond (C := Try.checked) (s := Rows.OpenSpec.upto Rows.flatNextsSpec) (k := Rows.uptoSmall) rfl own started (by kernel_rfl) Try.func3
    (OpenSpec.witness (enc := enc) (C := Try.checked) (s := Rows.OpenSpec.upto Rows.flatNextsSpec) (k := Rows.uptoSmall) rfl false ⟨#[], #[.agg #[.int .u8 0, .int .i64 0, .int .i64 0, .int .i64 0, .int .i64 0, .int .i64 0, .slice none 0 0], .int .i64 0, .int .i64 0], []⟩ 8 (by kernel_rfl) (by kernel_rfl) (by kernel_rfl)
      (x := ([.agg [.lit (.int .u8 0), .agg [.lit (.int .i64 0), .lit (.int .i64 0), .lit (.int .i64 0), .lit (.int .i64 0)], .lit (.int .i64 0), .nil], .lit (.int .i64 0), .lit (.int .i64 0)], [], [])) (by kernel_rfl) rfl (by kernel_rfl)) ?_
  intro W base args ds gs before hval0 hW hcnd hk0 _
  have hval : ∀ (j : Nat) t v, Try.f3.params[j]? = some t → args[j]? = some v → Value.okWide Try.prog W .any base t v := hval0
  have hW' := hW
  obtain ⟨p, q, hA0, hV, rfl, hfz, hnd⟩ := hW
  have hA : DataW.TrodAll enc Try.prog W 0 (fun _ => true) true Try.f3.params.toList args.toList ds p := hA0
  rw [Try.params3] at hA hval
  obtain ⟨v0, vs0, d0, ds0, p0, q0, hargs, rfl, rfl, h0, r0⟩ := trodAll_cons hA
  obtain ⟨v1, vs1, d1, ds1, p1, q1, rfl, rfl, rfl, h1, r1⟩ := trodAll_cons r0
  obtain ⟨v2, vs2, d2, ds2, p2, q2, rfl, rfl, rfl, h2, r2⟩ := trodAll_cons r1
  obtain ⟨rfl, rfl, rfl⟩ := trodAll_nil r2
  obtain rfl : args = #[v0, v1, v2] := by cases args; simp_all
  obtain ⟨rfl, rfl⟩ := trodVars_none hV
  have hB := of_decide_eq_true hk0
  simp only [List.cons_append, List.nil_append, List.append_nil, Rows.uptoBulkAll] at hB
  have z0 : Rows.uptoBulk d0 ≤ 1048576 := by omega
  have k0 := h0
  have lt0 : ∀ x ∈ p0, x.block < W.heap.size := by obtain ⟨m, hm⟩ := k0; exact DataW.trod_lt m _ _ _ hm
  obtain ⟨fuel0, hf0⟩ := h0
  obtain ⟨cs0, rfl, _⟩ := okWide_struct Try.underlying26 (hval 0 26 v0 rfl rfl)
  obtain ⟨a0, b0, w0, y0⟩ := read26z hf0
  obtain ⟨A0, c0, e0, hc0, hr0⟩ := k26_open b0
  obtain rfl := agg_of e0
  obtain ⟨a1, rfl, rfl, rfl, w1⟩ := open_int Try.underlying3 (hval 1 3 v1 rfl rfl) h1
  obtain ⟨a2, rfl, rfl, rfl, w2⟩ := open_int Try.underlying3 (hval 2 3 v2 rfl rfl) h2
  obtain ⟨k, hP⟩ := Pure.FlatNexts a0 a1 a2 w0 (Nat.le_trans y0 z0) (i64_of w1) (i64_of w2)
  refine (sashlaw07_FlatNexts.calls k a0.f0 a0.f1.f0 a0.f1.f1 a0.f1.f2 a0.f1.f3 a0.f2 _ _ a0.f3 a1 a2 true W hr0 hc0 hP).mono fun e W' ⟨he, bel0⟩ => ?_
  have bel : Below W.heap.size W W' := bel0
  subst he
  exact ⟨_, rfl, _, _, _, [], _, [], hW', trodAll_mk1 (shut_bool Try.underlying4 _), (trodAll_cons_mk (Below.trod laidOut (by kernel_rfl) (of_decide_eq_true (by kernel_rfl)) k0 bel lt0) (trodAll_cons_mk (shut_int Try.underlying3 w1) (trodAll_cons_mk (shut_int Try.underlying3 w2) trodAll_mk0))), rfl, bel.frame _, fun h => by cases h⟩
theorem j0 : (Rows.flatNextsUptoRow.wf (OpenSpec.ofChange (Rows.OpenSpec.upto Rows.flatNextsSpec).bare)) = true := by kernel_rfl
theorem j1 : (laidOutB Try.prog) = true := by kernel_rfl
theorem j2 : (mapsRowed Try.prog) = true := by kernel_rfl
theorem j3 : (Try.f3.params.all (Try.prog.readableRec ·)) = true := by kernel_rfl
theorem j4 : (namedTie Try.prog Rows.flatNextsUptoRow.named (Rows.OpenSpec.upto Rows.flatNextsSpec).bare.vars) = true := by kernel_rfl
theorem j5 : ((Rows.flatNextsUptoRow.stops == [])) = true := by kernel_rfl
theorem j6 : ((Try.prog.stops == [])) = true := by kernel_rfl
theorem j7 : ((Rows.flatNextsUptoRow.knobs == [])) = true := by kernel_rfl
theorem j8 : ((Try.prog.stopKnobs == [])) = true := by kernel_rfl
theorem j9 : ((Rows.flatNextsUptoRow.inPlace == Try.prog.inPlace 3)) = true := by kernel_rfl
theorem j10 : ((Rows.flatNextsUptoRow.unfollowed == Try.prog.unfollowed 3)) = true := by kernel_rfl
theorem j11 : ((Rows.flatNextsUptoRow.recurses == Try.prog.recurses 3)) = true := by kernel_rfl
theorem j12 : ((Rows.flatNextsUptoRow.named == Try.prog.varsNamed 3)) = true := by kernel_rfl
theorem j13 : ((Rows.flatNextsUptoRow.maps == (Try.f3.params.toList ++ (Rows.OpenSpec.upto Rows.flatNextsSpec).bare.plain.varTypes Try.prog).any (Try.prog.mapsRec ·))) = true := by kernel_rfl
theorem j14 : ((Rows.flatNextsUptoRow.ifaces == (Try.f3.params.toList ++ (Rows.OpenSpec.upto Rows.flatNextsSpec).bare.plain.varTypes Try.prog).any (Try.prog.ifacesRec ·))) = true := by kernel_rfl
theorem j15 : ((Rows.flatNextsUptoRow.mapsOut == Try.prog.mapsAmong Try.f3.resultTypes.toList)) = true := by kernel_rfl
theorem j16 : ((Rows.flatNextsUptoRow.loops == (Try.f3.params.toList ++ (Rows.OpenSpec.upto Rows.flatNextsSpec).bare.plain.varTypes Try.prog).any (Try.prog.loopsFrom ·))) = true := by kernel_rfl
theorem j17 : ((Rows.flatNextsUptoRow.wideKeys == (Try.f3.params.toList ++ (Rows.OpenSpec.upto Rows.flatNextsSpec).bare.plain.varTypes Try.prog ++ Try.f3.resultTypes.toList).any (Try.prog.wideKeysFrom ·))) = true := by kernel_rfl
theorem j18 : ((Rows.OpenSpec.upto Rows.flatNextsSpec).bare.vars.all (Try.prog.varReadable ·)) = true := by kernel_rfl
theorem j19 : (Try.f3.resultTypes.all (fun t => Try.prog.readableRec t && decide (t < Try.prog.types.size))) = true := by kernel_rfl
theorem j20 : ((Rows.flatNextsUptoRow.ifacesOut == Try.f3.resultTypes.toList.any (Try.prog.ifacesRec ·))) = true := by kernel_rfl
theorem j21 : ((Rows.flatNextsUptoRow.loopsOut == Try.f3.resultTypes.toList.any (Try.prog.loopsFrom ·))) = true := by kernel_rfl
theorem j23 : (Rows.flatNextsUptoRow.shortTexts.isNone) = true := by kernel_rfl
theorem j29 : ((Rows.flatNextsUptoRow.pinned == Rows.flatNextsUptoRow.pinnedBy)) = true := by kernel_rfl
theorem j30 : ((Rows.flatNextsUptoRow.veiled == (Try.f3.params.toList ++ (Rows.OpenSpec.upto Rows.flatNextsSpec).bare.plain.varTypes Try.prog ++ Try.f3.resultTypes.toList).any (Try.prog.veiledRec ·))) = true := by kernel_rfl
theorem j31 : (Rows.flatNextsUptoRow.veiledFits Try.prog Try.f3.params.toList (Try.f3.params.toList ++ (Rows.OpenSpec.upto Rows.flatNextsSpec).bare.plain.varTypes Try.prog ++ Try.f3.resultTypes.toList)) = true := by kernel_rfl
theorem closed : joinedFacts Try.prog 3 Try.f3 (Rows.OpenSpec.upto Rows.flatNextsSpec).bare Rows.flatNextsUptoRow = true := P.joined_mk j0 j1 j2 j3 j4 j5 j6 j7 j8 j9 j10 j11 j12 j13 j14 j15 j16 j17 j18 j19 j20 j21 P.head_keys j23 P.head_heard P.head_enter (by rw [P.head_final]; rfl) (by rw [P.head_make]; rfl) rfl rfl j29 j30 j31
theorem over : Rows.flatNextsUptoRow.holds Try.pinned (Rows.OpenSpec.upto Rows.flatNextsSpec) :=
  OpenClaim.holds_of_cond 3 Try.f3 rfl rfl rfl rfl rfl rfl rfl ⟨rfl, rfl, rfl, rfl, rfl⟩ rfl rfl rfl rfl rfl (by kernel_rfl) Try.func3 closed
    (of_decide_eq_true (by kernel_rfl)) (by unfold Func.isWrapper; first | (rw [if_pos (by decide +kernel)]; kernel_rfl) | (rw [if_neg (by decide +kernel)]; exact ⟨rfl, rfl⟩))
    (fun os started H enc _ F => lifted os started H enc F)
theorem proved : Rows.FlatNextsUptoSaid := over
#print axioms proved
end Go.Proofs.Ytfdmfgaiblfbhaa.flatNextsUpto
namespace Go.Proofs.Ytfdmfgaiblfbhaa
/-- The row, under a short name, for the claim. -/
theorem flatNextsUpto_holds : Rows.FlatNextsUptoSaid := flatNextsUpto.proved
end Go.Proofs.Ytfdmfgaiblfbhaa
