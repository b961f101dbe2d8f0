/- RectInside, the plain law: whether any rectangles are inside another one, and whether a cell is one of its, is the reference's. No condition. -/
import Derived.Test.YtfdmfgaiblfbhaaYRect3
import Derived.Test.YtfdmfgaiblfbhaaPF10
namespace Go.Proofs.Ytfdmfgaiblfbhaa.Pure
open Go.RowKit Go.Proofs.Ytfdmfgaiblfbhaa.P Go.Proofs.YtfdmfgaiblfbhaaW.PrintWords Go.Proofs.YtfdmfgaiblfbhaaW.PrintLast Go.Proofs.YtfdmfgaiblfbhaaW.PrintMore
theorem inside_all (o : S23) (l : List S23) (ho : mayR o = true) : (l.all fun r => mayR r && cornersB o r) = (l.all mayR && l.all (cornersB o)) := by
  induction l with
  | nil => rfl
  | cons x xs ih =>
    simp only [List.all_cons, ih]
    cases mayR x <;> cases cornersB o x <;> cases xs.all mayR <;> simp
theorem RectInside : ∀ (a0 : S23) (a1 : List S23) (a2 : Int) (a3 : Int), wf23 a0 → a1.length ≤ 9223372036854775807 → (∀ x, x ∈ a1 → wf23 x) → I64 a2 → I64 a3 → ∃ k, sashlaw04_RectInside.f k a0.f0 a0.f1 a0.f2 a0.f3 a1 a2 a3 = some true := by
  intro o l x y _ hl _ _ _
  refine Ev.rounds (g := fun k => sashlaw04_RectInside.f k o.f0 o.f1 o.f2 o.f3 l x y) ?_
  unfold sashlaw04_RectInside.f
  by_cases h : (l.length : Int) > 40
  · exact ev_pos h aw04
  · refine ev_neg h (Ev.bind (a := mayR o) (ev_some fun k => refmay_some _ _ _ _) ?_)
    have fin : Ev (fun k => sashlaw04_RectInside.l0 k l x y (mayR o && (l.all mayR && l.all (cornersB o))) (l.length : Int) o.f0 o.f1 o.f2 o.f3) true := by
      refine Ev.step (f := fun k => (rect_Inside.f o.f0 o.f1 o.f2 o.f3 l).bind fun t463 => (if (t463 == (mayR o && (l.all mayR && l.all (cornersB o)))) = true then ((rect_Has.f o.f0 o.f1 o.f2 o.f3 x y).bind fun t464 => ((sashref04_Has.f o.f0 o.f1 o.f2 o.f3 x y).bind fun t465 => (if (t464 == t465) = true then ((sashlaw04_awake.f k).bind fun t466 => (some t466)) else (some false)))) else (some false))) (fun k => ?_) ?_
      · simp only [sashlaw04_RectInside.l0]
        rw [if_neg (by omega)]
      · refine Ev.bind (a := mayR o && (l.all mayR && l.all (cornersB o))) (ev_some fun k => rfl) (ev_pos (by simp) ?_)
        exact Ev.bind (a := hasB o x y) (ev_some fun k => has_some o x y) (Ev.bind (a := hasB o x y) (ev_some fun k => refhas_some o x y) (ev_pos (by simp) aw04))
    have key : ∀ d i, i + d = l.length → Ev (fun k => sashlaw04_RectInside.l0 k l x y (mayR o && (l.take i).all fun r => mayR r && cornersB o r) (i : Nat) o.f0 o.f1 o.f2 o.f3) true := by
      intro d
      induction d with
      | zero =>
        intro i hi
        rw [List.take_of_length_le (by omega), show i = l.length by omega]
        have e : (mayR o && l.all fun r => mayR r && cornersB o r) = (mayR o && (l.all mayR && l.all (cornersB o))) := by
          cases ho : mayR o with
          | true => rw [inside_all o l ho]
          | false => rfl
        rw [e]
        exact fin
      | succ d ih =>
        intro i hi
        have h1 : (i : Int) < (l.length : Int) := by omega
        have h0 : (0 : Int) ≤ (i : Int) := by omega
        have hw := up1 (show i < l.length by omega) hl
        have ih := ih (i + 1) (by omega)
        have et : ((l.take (i + 1)).all fun r => mayR r && cornersB o r) = (((l.take i).all fun r => mayR r && cornersB o r) && (mayR (rd_T23 l (i : Int)) && cornersB o (rd_T23 l (i : Int)))) := by
          rw [List.take_succ_eq_append_getElem (by omega), List.all_append, rd23_at l i (by omega)]
          simp
        rw [et] at ih
        cases hb : (mayR o && (l.take i).all fun r => mayR r && cornersB o r) with
        | true =>
          simp only [Bool.and_eq_true] at hb
          obtain ⟨hb1, hb2⟩ := hb
          rw [hb1, hb2, Bool.true_and, Bool.true_and] at ih
          refine Ev.step (fun k => ?_) ih
          simp only [sashlaw04_RectInside.l0]
          rw [if_pos h1, if_pos trivial, if_pos h0, refinside_some, Option.bind_some, hw, hb1, Bool.true_and]
        | false =>
          have e2 : (mayR o && (((l.take i).all fun r => mayR r && cornersB o r) && (mayR (rd_T23 l (i : Int)) && cornersB o (rd_T23 l (i : Int))))) = false := by rw [← Bool.and_assoc, hb, Bool.false_and]
          rw [e2] at ih
          refine Ev.step (fun k => ?_) ih
          simp only [sashlaw04_RectInside.l0]
          rw [if_pos h1, if_neg (by simp), hw]
    have := key l.length 0 (by omega)
    simpa using this
end Go.Proofs.Ytfdmfgaiblfbhaa.Pure
