/- The row of the law AdjustEvens, out of its plain law and its walk. -/
import Derived.Test.YtfdmfgaiblfbhaaRows
import Derived.Test.YtfdmfgaiblfbhaaPF7
import Derived.Test.YtfdmfgaiblfbhaaPureAdjustEvens
import Derived.Test.YtfdmfgaiblfbhaaHead
import Derived.Test.YtfdmfgaiblfbhaaJoin
import Derived.WalkKit
import Derived.ProofKit
import Derived.OpenShut
import Derived.ShutString
import Derived.ChangeOld
import Derived.Below
import Derived.SizedLaws
import Derived.Test.YtfdmfgaiblfbhaaWSized
namespace Go.Proofs.Ytfdmfgaiblfbhaa.adjustEvens
open Go.ChangeShapes Go.WideShapes Go.ChangeAt Go.RowKit
open Go.ChangeMaps (open_string shut_string)
set_option linter.unusedVariables false
theorem own : ownKnob Try.prog.godebug = none := by kernel_rfl
theorem laidOut : laidOutB Try.prog = true := by kernel_rfl
def IsRow (k : IntKind) (w : World) (a : Option Addr) (len cap : Nat) (zs : List Int) : Prop :=
  (a = none ∧ len = 0 ∧ cap = 0 ∧ zs = []) ∨
  ∃ x, a = some x ∧ len ≤ cap ∧ cap ≤ maxLen ∧ zs.length = cap ∧ (∀ i, i < zs.length → w.cell? (x.add i) = some (.int k (zs.getD i 0))) ∧ ∀ n ∈ zs, (Lit.int k n).wf = true
set_option maxRecDepth 100000 in
theorem lifted (os : Os) (started : os.Started) (H : Type) (enc : TypeId × Value → H) :
    ReturnsInHanded {} Try.checked os 7 .any (Rows.adjustEvensSpec.pre6 enc Try.prog Try.f7 Rows.adjustEvensRow.domain false) (Rows.adjustEvensSpec.post enc Try.prog Try.f7 false true false false) := by
  refine returnsInHanded_of_change_sized (C := Try.checked) own started (by kernel_rfl) Try.func7
    (ChangeSpec.witness6 (enc := enc) (C := Try.checked) false ⟨#[], #[.int .i64 0, .slice none 0 0], []⟩ 8 (by kernel_rfl) (by kernel_rfl) (by kernel_rfl) (by kernel_rfl)) ?_
  intro W base args ds gs before hval0 hW hcnd hsz0 _
  have hsz : (DataW.weightsEach Try.prog (Try.f7.params.toList ++ Rows.adjustEvensSpec.plain.varTypes Try.prog) (ds ++ gs)).all (· ≤ reachBytes) = true := hsz0
  have hval : ∀ (j : Nat) t v, Try.f7.params[j]? = some t → args[j]? = some v → Value.okWide Try.prog W .any base t v := hval0
  have hW' := hW
  obtain ⟨p, q, hA0, hV, rfl, hfz, hnd⟩ := hW
  have hA : DataW.TrodAll enc Try.prog W 0 (fun _ => true) true Try.f7.params.toList args.toList ds p := hA0
  rw [Try.params7] at hA hval hsz
  obtain ⟨v0, vs0, d0, ds0, p0, q0, hargs, rfl, rfl, h0, r0⟩ := trodAll_cons hA
  obtain ⟨v1, vs1, d1, ds1, p1, q1, rfl, rfl, rfl, h1, r1⟩ := trodAll_cons r0
  obtain ⟨rfl, rfl, rfl⟩ := trodAll_nil r1
  obtain rfl : args = #[v0, v1] := by cases args; simp_all
  obtain ⟨rfl, rfl⟩ := trodVars_none hV
  obtain ⟨a0, rfl, rfl, rfl, w0⟩ := open_int Try.underlying3 (hval 0 3 v0 rfl rfl) h0
  obtain ⟨a1, len1, cap1, rfl⟩ := okWide_slice Try.underlying41 (hval 1 41 v1 rfl rfl)
  have k1 := h1
  have lt1 : ∀ x ∈ p1, x.block < W.heap.size := by obtain ⟨m, hm⟩ := k1; exact DataW.trod_lt m _ _ _ hm
  obtain ⟨z1, w1⟩ : ∃ zs, IsRow .i64 W a1 len1 cap1 zs := by
    obtain ⟨fuel, hf⟩ := h1
    rcases open_ints Try.underlying41 Try.underlying3 (by kernel_rfl) hf with ⟨hcs, _⟩ | ⟨x, l, c, zs, hcs, _, hl, hm, hz, _, hcell, hwz⟩
    · simp [Value.cells] at hcs
      obtain ⟨rfl, rfl, rfl⟩ := hcs
      exact ⟨[], .inl ⟨rfl, rfl, rfl, rfl⟩⟩
    · simp [Value.cells] at hcs
      obtain ⟨rfl, rfl, rfl⟩ := hcs
      exact ⟨zs, .inr ⟨_, rfl, hl, hm, by simpa using hz, hcell, hwz⟩⟩
  have y1 : len1 * 8 ≤ 140737488351232 := Go.Proofs.YtfdmfgaiblfbhaaW.PrintWords.sized_ints hsz (j := 1) (t := 41) rfl rfl Try.underlying41 Try.underlying3 (by kernel_rfl) (by kernel_rfl) h1
  clear hA0 hval0 hsz0 hsz
  refine (P.sashlaw09_AdjustEvens.walk Pure.AdjustEvens a0 a1 len1 cap1 z1 W w0 w1 y1).mono fun e W' ⟨he, bel⟩ => ?_
  subst he
  exact ⟨_, rfl, _, _, _, [], _, [], hW', trodAll_mk1 (shut_bool Try.underlying4 _), (trodAll_cons_mk (shut_int Try.underlying3 w0) (trodAll_cons_mk (Below.trod laidOut (by kernel_rfl) (of_decide_eq_true (by kernel_rfl)) k1 bel lt1) trodAll_mk0)), rfl, bel.frame _, fun h => by cases h⟩
theorem j0 : (Rows.adjustEvensRow.wf (OpenSpec.ofChange Rows.adjustEvensSpec)) = true := by kernel_rfl
theorem j1 : (laidOutB Try.prog) = true := by kernel_rfl
theorem j2 : (mapsRowed Try.prog) = true := by kernel_rfl
theorem j3 : (Try.f7.params.all (Try.prog.readableRec ·)) = true := by kernel_rfl
theorem j4 : (namedTie Try.prog Rows.adjustEvensRow.named Rows.adjustEvensSpec.vars) = true := by kernel_rfl
theorem j5 : ((Rows.adjustEvensRow.stops == [])) = true := by kernel_rfl
theorem j6 : ((Try.prog.stops == [])) = true := by kernel_rfl
theorem j7 : ((Rows.adjustEvensRow.knobs == [])) = true := by kernel_rfl
theorem j8 : ((Try.prog.stopKnobs == [])) = true := by kernel_rfl
theorem j9 : ((Rows.adjustEvensRow.inPlace == Try.prog.inPlace 7)) = true := by kernel_rfl
theorem j10 : ((Rows.adjustEvensRow.unfollowed == Try.prog.unfollowed 7)) = true := by kernel_rfl
theorem j11 : ((Rows.adjustEvensRow.recurses == Try.prog.recurses 7)) = true := by kernel_rfl
theorem j12 : ((Rows.adjustEvensRow.named == Try.prog.varsNamed 7)) = true := by kernel_rfl
theorem j13 : ((Rows.adjustEvensRow.maps == (Try.f7.params.toList ++ Rows.adjustEvensSpec.plain.varTypes Try.prog).any (Try.prog.mapsRec ·))) = true := by kernel_rfl
theorem j14 : ((Rows.adjustEvensRow.ifaces == (Try.f7.params.toList ++ Rows.adjustEvensSpec.plain.varTypes Try.prog).any (Try.prog.ifacesRec ·))) = true := by kernel_rfl
theorem j15 : ((Rows.adjustEvensRow.mapsOut == Try.prog.mapsAmong Try.f7.resultTypes.toList)) = true := by kernel_rfl
theorem j16 : ((Rows.adjustEvensRow.loops == (Try.f7.params.toList ++ Rows.adjustEvensSpec.plain.varTypes Try.prog).any (Try.prog.loopsFrom ·))) = true := by kernel_rfl
theorem j17 : ((Rows.adjustEvensRow.wideKeys == (Try.f7.params.toList ++ Rows.adjustEvensSpec.plain.varTypes Try.prog ++ Try.f7.resultTypes.toList).any (Try.prog.wideKeysFrom ·))) = true := by kernel_rfl
theorem j18 : (Rows.adjustEvensSpec.vars.all (Try.prog.varReadable ·)) = true := by kernel_rfl
theorem j19 : (Try.f7.resultTypes.all (fun t => Try.prog.readableRec t && decide (t < Try.prog.types.size))) = true := by kernel_rfl
theorem j20 : ((Rows.adjustEvensRow.ifacesOut == Try.f7.resultTypes.toList.any (Try.prog.ifacesRec ·))) = true := by kernel_rfl
theorem j21 : ((Rows.adjustEvensRow.loopsOut == Try.f7.resultTypes.toList.any (Try.prog.loopsFrom ·))) = true := by kernel_rfl
theorem j23 : (Rows.adjustEvensRow.shortTexts.isNone) = true := by kernel_rfl
theorem j29 : ((Rows.adjustEvensRow.pinned == Rows.adjustEvensRow.pinnedBy)) = true := by kernel_rfl
theorem j30 : ((Rows.adjustEvensRow.veiled == (Try.f7.params.toList ++ Rows.adjustEvensSpec.plain.varTypes Try.prog ++ Try.f7.resultTypes.toList).any (Try.prog.veiledRec ·))) = true := by kernel_rfl
theorem j31 : (Rows.adjustEvensRow.veiledFits Try.prog Try.f7.params.toList (Try.f7.params.toList ++ Rows.adjustEvensSpec.plain.varTypes Try.prog ++ Try.f7.resultTypes.toList)) = true := by kernel_rfl
theorem closed : joinedFacts Try.prog 7 Try.f7 Rows.adjustEvensSpec Rows.adjustEvensRow = true := P.joined_mk j0 j1 j2 j3 j4 j5 j6 j7 j8 j9 j10 j11 j12 j13 j14 j15 j16 j17 j18 j19 j20 j21 P.head_keys j23 P.head_heard P.head_enter (by rw [P.head_final]; rfl) (by rw [P.head_make]; rfl) rfl rfl j29 j30 j31
theorem over : Rows.adjustEvensRow.holds Try.pinned (OpenSpec.ofChange Rows.adjustEvensSpec) :=
  OpenClaim.holds_of_wide 7 Try.f7 rfl rfl rfl rfl rfl rfl rfl ⟨rfl, rfl, rfl, rfl, rfl⟩ rfl rfl rfl rfl rfl (by kernel_rfl) Try.func7 closed
    (of_decide_eq_true (by kernel_rfl)) (by unfold Func.isWrapper; first | (rw [if_pos (by decide +kernel)]; kernel_rfl) | (rw [if_neg (by decide +kernel)]; exact ⟨rfl, rfl⟩))
    (fun os started H enc _ => lifted os started H enc)
theorem proved : Rows.AdjustEvensSaid := over
#print axioms proved
end Go.Proofs.Ytfdmfgaiblfbhaa.adjustEvens
namespace Go.Proofs.Ytfdmfgaiblfbhaa
/-- The row, under a short name, for the claim. -/
theorem adjustEvens_holds : Rows.AdjustEvensSaid := adjustEvens.proved
end Go.Proofs.Ytfdmfgaiblfbhaa
