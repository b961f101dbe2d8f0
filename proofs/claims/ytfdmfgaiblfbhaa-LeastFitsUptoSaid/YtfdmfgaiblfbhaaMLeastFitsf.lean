/- LeastFits: part 6 of 7 of this claim's texts, one behind the other. The words of the kit's printer stand in it cut down, by a program, to those that are used. -/
import Derived.Test.YtfdmfgaiblfbhaaMLeastFitse
import Derived.Test.YtfdmfgaiblfbhaaMLeastFitsd
import Derived.Test.YtfdmfgaiblfbhaaMLeastFitsc
import Derived.WalkSpells
/- Plain words on rectangles: whether one may be, what it is cut into: the code's and the reference's alike. -/
namespace Go.Proofs.Ytfdmfgaiblfbhaa.P
open Go.RowKit Go.Proofs.YtfdmfgaiblfbhaaW.PrintWords Go.Proofs.YtfdmfgaiblfbhaaW.PrintLast Go.Proofs.YtfdmfgaiblfbhaaW.PrintMore

/-- A rectangle's axes, turned where it is cut down. -/
def tX (ax X Y : Int) : Int := if ax = 2 then Y else X
theorem turned_some {ax : Int} (h : ax = 1 ∨ ax = 2) (X Y W H : Int) : rect_turned.f X Y W H ax = some (tX ax X Y, tX ax Y X, tX ax W H, tX ax H W, true) := by
  unfold rect_turned.f tX
  rcases h with rfl | rfl
  · rfl
  · rfl

/-- The parts of a rectangle that is cut: the next one stands at off. -/
def cutP (ax X Y W H : Int) : Int → List Int → List S23
  | _, [] => []
  | off, n :: ns => (⟨tX ax (tX ax X Y + off) (tX ax Y X), tX ax (tX ax Y X) (tX ax X Y + off), tX ax n (tX ax H W), tX ax (tX ax H W) n⟩ : S23) :: cutP ax X Y W H (off + n + 1) ns
theorem cut_both (ax X Y W H : Int) (hax : ax = 1 ∨ ax = 2) (hm : mayB X Y W H = true) (sizes : List Int) (hl : sizes.length ≤ 20000) (hne : 0 < sizes.length) :
    ∀ (rest pre : List Int) (off : Int) (parts lines : List S23), pre ++ rest = sizes → 0 ≤ off → off ≤ 10000 → parts.length ≤ 20000 → lines.length ≤ 20000 → parts.length ≤ pre.length → lines.length ≤ pre.length →
    ∃ t : List S23 × List S23 × Bool, (t.1.length ≤ sizes.length ∧ t.2.1.length ≤ sizes.length) ∧ (t.2.2 = true → t.1 = parts ++ cutP ax X Y W H (if pre.length = 0 then off else off + 1) rest ∧ off + rest.sum + (rest.length : Int) - (if pre.length = 0 then 1 else 0) = tX ax W H ∧ ∀ m, m ∈ rest → 1 ≤ m) ∧ Ev (fun k => rect_Cut.l0 k ax parts lines (tX ax X Y + off) sizes (sizes.length : Int) (pre.length : Int) (tX ax X Y) (tX ax Y X) (tX ax W H) (tX ax H W)) t ∧
      Ev (fun k => sashref04_Cut.l0 k ax sizes [] (tX ax W H) parts lines off (sizes.length : Int) (pre.length : Int) X Y W H) t := by
  replace hm := may_iff.1 hm
  have hb : 0 ≤ tX ax X Y ∧ 1 ≤ tX ax W H ∧ tX ax W H ≤ 10000 ∧ tX ax X Y + tX ax W H ≤ 10000 ∧ tX ax X Y ≤ 10000 := by
    unfold tX
    rcases hax with rfl | rfl
    · rw [if_neg (by omega), if_neg (by omega)]; omega
    · rw [if_pos rfl, if_pos rfl]; omega
  obtain ⟨b1, b2, b3, b4, b5⟩ := hb
  intro rest
  induction rest with
  | nil =>
    intro pre off parts lines he h0 h1 hp hq hp2 hq2
    have e : pre = sizes := by simpa using he
    rw [e] at hp2 hq2
    by_cases ho : off = tX ax W H
    · refine ⟨(parts, lines, true), ⟨hp2, hq2⟩, fun _ => ⟨by simp [cutP], by rw [if_neg (by rw [e]; omega)]; simp; omega, fun m hm => by cases hm⟩, Ev.step (fun k => ?_) (Ev.now _), Ev.step (fun k => ?_) (Ev.now _)⟩
      · simp only [rect_Cut.l0]
        rw [if_neg (by rw [e]; omega), wq (by omega) (by omega), if_pos (by omega)]
      · simp only [sashref04_Cut.l0]
        rw [if_neg (by rw [e]; omega), if_pos ho]
    · refine ⟨([], [], false), ⟨by simp, by simp⟩, fun h => absurd h (by simp), Ev.step (fun k => ?_) (Ev.now _), Ev.step (fun k => ?_) (Ev.now _)⟩
      · simp only [rect_Cut.l0]
        rw [if_neg (by rw [e]; omega), wq (by omega) (by omega), if_neg (by omega)]
      · simp only [sashref04_Cut.l0]
        rw [if_neg (by rw [e]; omega), if_neg ho]
  | cons n rest ih =>
    intro pre off parts lines he h0 h1 hp hq hp2 hq2
    have hlen : sizes.length = pre.length + (rest.length + 1) := by rw [← he]; simp
    have hrd : rd sizes (pre.length : Int) = n := by rw [← he]; exact rd_in pre n rest
    have hi : (pre.length : Int) < (sizes.length : Int) := by omega
    have hi0 : (0 : Int) ≤ (pre.length : Int) := by omega
    have hpl : parts.length < 4398046511104 := Nat.lt_of_le_of_lt hp (by decide)
    have hql : lines.length < 4398046511104 := Nat.lt_of_le_of_lt hq (by decide)
    -- behind the line ahead of this part: off', lines'
    have body : ∀ (off' : Int) (lines' : List S23), 0 ≤ off' → off' ≤ 10001 → lines'.length ≤ pre.length + 1 →
        ∃ t : List S23 × List S23 × Bool, (t.1.length ≤ sizes.length ∧ t.2.1.length ≤ sizes.length) ∧ (t.2.2 = true → t.1 = parts ++ cutP ax X Y W H off' (n :: rest) ∧ off' + (n :: rest).sum + (rest.length : Int) = tX ax W H ∧ ∀ m, m ∈ n :: rest → 1 ≤ m) ∧ Ev (fun k => if n < 1 then (some (([] : List S23), ([] : List S23), false)) else (if n > tX ax W H - off' then (some (([] : List S23), ([] : List S23), false)) else
              (rect_Cut.l0 k ax (parts ++ [(⟨tX ax (tX ax X Y + off') (tX ax Y X), tX ax (tX ax Y X) (tX ax X Y + off'), tX ax n (tX ax H W), tX ax (tX ax H W) n⟩ : S23)]) lines' (tX ax X Y + (off' + n)) sizes (sizes.length : Int) ((pre ++ [n]).length : Int) (tX ax X Y) (tX ax Y X) (tX ax W H) (tX ax H W)))) t ∧
          Ev (fun k => sashref04_Cut.j3 k ax sizes [] (tX ax W H) parts lines' off' (pre.length : Int) (sizes.length : Int) (pre.length : Int) X Y W H) t := by
      intro off' lines' g0 g1 g2
      by_cases hn : n < 1
      · refine ⟨([], [], false), ⟨by simp, by simp⟩, fun h => absurd h (by simp), ev_pos hn (Ev.now _), Ev.step (f := fun k => sashref04_Cut.j4 k ax sizes [] (tX ax W H) parts lines' off' (pre.length : Int) (sizes.length : Int) (pre.length : Int) true X Y W H) (fun k => ?_) (Ev.step (fun k => ?_) (Ev.now _))⟩
        · simp only [sashref04_Cut.j3]
          rw [if_pos hi0, if_pos hi, hrd, if_pos hn]
        · simp only [sashref04_Cut.j4]
          rw [if_pos trivial]
      · by_cases hn2 : n > tX ax W H - off'
        · refine ⟨([], [], false), ⟨by simp, by simp⟩, fun h => absurd h (by simp), ev_neg hn (ev_pos hn2 (Ev.now _)), Ev.step (f := fun k => sashref04_Cut.j4 k ax sizes [] (tX ax W H) parts lines' off' (pre.length : Int) (sizes.length : Int) (pre.length : Int) true X Y W H) (fun k => ?_) (Ev.step (fun k => ?_) (Ev.now _))⟩
          · simp only [sashref04_Cut.j3]
            rw [if_pos hi0, if_pos hi, hrd, if_neg hn]
            by_cases hn3 : n > tX ax W H
            · rw [if_pos hn3]
            · rw [if_neg hn3, wq (by omega) (by omega), decide_eq_true (by omega)]
          · simp only [sashref04_Cut.j4]
            rw [if_pos trivial]
        · obtain ⟨t, t0, tg, t1, t2⟩ := ih (pre ++ [n]) (off' + n) (parts ++ [(⟨tX ax (tX ax X Y + off') (tX ax Y X), tX ax (tX ax Y X) (tX ax X Y + off'), tX ax n (tX ax H W), tX ax (tX ax H W) n⟩ : S23)]) lines' (by simp [← he]) (by omega) (by omega) (by simp; omega) (by omega) (by simp; omega) (by simp; omega)
          refine ⟨t, t0, fun h => ?_, ev_neg hn (ev_neg hn2 t1), Ev.step (f := fun k => sashref04_Cut.j4 k ax sizes [] (tX ax W H) parts lines' off' (pre.length : Int) (sizes.length : Int) (pre.length : Int) false X Y W H) (fun k => ?_) (Ev.step (fun k => ?_) t2)⟩
          · obtain ⟨q1, q2, q3⟩ := tg h
            rw [if_neg (by simp)] at q1 q2
            refine ⟨by rw [q1, List.append_assoc]; rfl, by rw [List.sum_cons]; omega, fun m hm => ?_⟩
            rcases List.mem_cons.1 hm with rfl | hm
            · omega
            · exact q3 m hm
          · simp only [sashref04_Cut.j3]
            rw [if_pos hi0, if_pos hi, hrd, if_neg hn, if_neg (by omega), wq (by omega) (by omega), decide_eq_false (by omega)]
          · have hi1 : wrap64 ((pre.length : Int) + 1) = ((pre ++ [n]).length : Int) := by rw [wq (by omega) (by omega)]; simp
            have ho1 : wrap64 (off' + n) = off' + n := wq (by omega) (by omega)
            simp only [sashref04_Cut.j4]
            rw [if_neg (by simp)]
            simp only [if_pos hi0, if_pos hi, if_pos hpl, hrd, hi1, ho1]
            rcases hax with rfl | rfl
            · rw [if_pos rfl, wq (by omega) (by omega)]
              simp [tX]
            · rw [if_neg (by omega), wq (by omega) (by omega)]
              simp [tX]
    by_cases hz : (pre.length : Int) > 0
    · obtain ⟨t, t0, tg, t1, t2⟩ := body (off + 1) (lines ++ [(⟨tX ax (tX ax X Y + off) (tX ax Y X), tX ax (tX ax Y X) (tX ax X Y + off), tX ax 1 (tX ax H W), tX ax (tX ax H W) 1⟩ : S23)]) (by omega) (by omega) (by simp; omega)
      have ho1 : wrap64 (tX ax X Y + off + 1) = tX ax X Y + (off + 1) := by rw [wq (by omega) (by omega)]; omega
      have ho2 : wrap64 (tX ax X Y + tX ax W H) = tX ax X Y + tX ax W H := wq (by omega) (by omega)
      have ho3 : wrap64 (tX ax X Y + tX ax W H - (tX ax X Y + (off + 1))) = tX ax W H - (off + 1) := by rw [wq (by omega) (by omega)]; omega
      have ho4 : wrap64 (off + 1) = off + 1 := wq (by omega) (by omega)
      refine ⟨t, t0, fun h => by obtain ⟨q1, q2, q3⟩ := tg h; rw [if_neg (by omega), if_neg (by omega)]; exact ⟨q1, by rw [List.length_cons]; omega, q3⟩, Ev.step (fun k => ?_) t1, Ev.step (fun k => ?_) t2⟩
      · simp only [rect_Cut.l0]
        rw [if_pos hi, if_pos hi0, if_pos hi, if_pos hz, turned_some hax]
        simp only [Option.bind_some]
        rw [if_pos hql, hrd, ho1, ho2, ho3]
        by_cases hn : n < 1
        · rw [if_pos hn, if_pos hn]
        · rw [if_neg hn, if_neg hn]
          by_cases hn2 : n > tX ax W H - (off + 1)
          · rw [if_pos hn2, if_pos hn2]
          · have hi1 : wrap64 ((pre.length : Int) + 1) = ((pre ++ [n]).length : Int) := by rw [wq (by omega) (by omega)]; simp
            have ho5 : wrap64 (tX ax X Y + (off + 1) + n) = tX ax X Y + (off + 1 + n) := by rw [wq (by omega) (by omega)]; omega
            rw [if_neg hn2, if_neg hn2, turned_some hax]
            simp only [Option.bind_some]
            rw [if_pos hpl, hi1, ho5]
      · simp only [sashref04_Cut.l0]
        rw [if_pos hi, if_pos hz, ho4]
        rcases hax with rfl | rfl
        · rw [if_pos rfl, if_pos hql, wq (by omega) (by omega)]
          simp [tX]
        · rw [if_neg (by omega), if_pos hql, wq (by omega) (by omega)]
          simp [tX]
    · obtain ⟨t, t0, tg, t1, t2⟩ := body off lines h0 (by omega) (by omega)
      have ho2 : wrap64 (tX ax X Y + tX ax W H) = tX ax X Y + tX ax W H := wq (by omega) (by omega)
      have ho3 : wrap64 (tX ax X Y + tX ax W H - (tX ax X Y + off)) = tX ax W H - off := by rw [wq (by omega) (by omega)]; omega
      refine ⟨t, t0, fun h => by obtain ⟨q1, q2, q3⟩ := tg h; rw [if_pos (by omega), if_pos (by omega)]; exact ⟨q1, by rw [List.length_cons]; omega, q3⟩, Ev.step (fun k => ?_) t1, Ev.step (fun k => ?_) t2⟩
      · simp only [rect_Cut.l0]
        rw [if_pos hi, if_pos hi0, if_pos hi, if_neg hz, hrd, ho2, ho3]
        by_cases hn : n < 1
        · rw [if_pos hn, if_pos hn]
        · rw [if_neg hn, if_neg hn]
          by_cases hn2 : n > tX ax W H - off
          · rw [if_pos hn2, if_pos hn2]
          · have hi1 : wrap64 ((pre.length : Int) + 1) = ((pre ++ [n]).length : Int) := by rw [wq (by omega) (by omega)]; simp
            have ho5 : wrap64 (tX ax X Y + off + n) = tX ax X Y + (off + n) := by rw [wq (by omega) (by omega)]; omega
            rw [if_neg hn2, if_neg hn2, turned_some hax]
            simp only [Option.bind_some]
            rw [if_pos hpl, hi1, ho5]
      · simp only [sashref04_Cut.l0]
        rw [if_pos hi, if_neg hz]

/-- Two rows of rectangles, held against each other. -/
theorem rsame_ev (xs : List S23) (hl : xs.length ≤ 9223372036854775807) : Ev (fun k => sashref04_Same.f k xs xs) true := by
  have key : ∀ (d i : Nat), i + d = xs.length → Ev (fun k => sashref04_Same.l0 k xs xs (xs.length : Int) (i : Int)) true := by
    intro d
    induction d with
    | zero =>
      intro i hi
      refine Ev.step (fun k => ?_) (Ev.now _)
      simp only [sashref04_Same.l0]
      rw [if_neg (by omega)]
    | succ d ih =>
      intro i hi
      have c1 : (i : Int) < (xs.length : Int) := by omega
      have c2 : (0 : Int) ≤ (i : Int) := by omega
      have c3 : wrap64 ((i : Int) + 1) = ((i + 1 : Nat) : Int) := by rw [wq (by omega) (by omega)]; omega
      refine Ev.step (fun k => ?_) (ih (i + 1) (by omega))
      simp only [sashref04_Same.l0]
      simp only [if_pos c1, if_pos c2, c3]
      rw [if_neg (by simp)]
  refine Ev.congr (fun k => ?_) (key xs.length 0 (by omega))
  unfold sashref04_Same.f
  rw [if_pos rfl]
  rfl
theorem awake04 : Ev (fun k => sashlaw04_awake.f k) true := Ev.of (k := 30) (fun k => sashlaw04_awake.mono k) (by decide +kernel)
end Go.Proofs.Ytfdmfgaiblfbhaa.P
namespace Go.Proofs.Ytfdmfgaiblfbhaa.P
open Go.RowKit Go.Proofs.YtfdmfgaiblfbhaaW.PrintWords Go.Proofs.YtfdmfgaiblfbhaaW.PrintLast Go.Proofs.YtfdmfgaiblfbhaaW.PrintMore
attribute [local go_sem] max2_int min2_int max_two min_two max_three min_three max_four min_four   -- for this text's walks alone
set_option linter.unusedVariables false
set_option linter.unusedSimpArgs false

/-! ### sashlaw04_RectCuts: function 5 -/
def sashlaw04_RectCuts.f (k : Nat) (a0_0 : Int) (a0_1 : Int) (a0_2 : Int) (a0_3 : Int) (a1 : Int) (l2 : List Int) : Option (Bool) := if (l2.length : Int) > 100 then ((sashlaw04_awake.f k).bind fun t327 => (some t327)) else ((rect_Cut.f k a0_0 a0_1 a0_2 a0_3 a1 l2).bind fun bt328 => ((sashref04_Cut.f k a0_0 a0_1 a0_2 a0_3 a1 l2).bind fun bt335 => (if (bt328.2.2 == bt335.2.2) = true then ((sashref04_Same.f k bt328.1 bt335.1).bind fun t342 => (if t342 = true then ((sashref04_Same.f k bt328.2.1 bt335.2.1).bind fun t343 => (if t343 = true then ((sashlaw04_awake.f k).bind fun t344 => (some t344)) else (some false))) else (some false))) else (some false))))
end Go.Proofs.Ytfdmfgaiblfbhaa.P
/- RectCuts, the plain law: what any rectangle is cut into, or that it can't be, is the reference's. No condition. -/
namespace Go.Proofs.Ytfdmfgaiblfbhaa.Pure
open Go.RowKit Go.Proofs.Ytfdmfgaiblfbhaa.P Go.Proofs.YtfdmfgaiblfbhaaW.PrintWords Go.Proofs.YtfdmfgaiblfbhaaW.PrintLast Go.Proofs.YtfdmfgaiblfbhaaW.PrintMore

/-- Both answer alike; the rows are no longer than the sizes are many. -/
theorem cut_alike (X Y W H ax : Int) (hax : U8 ax) (sizes : List Int) (hl : sizes.length ≤ 20000) : ∃ t : List S23 × List S23 × Bool, (t.1.length ≤ sizes.length ∧ t.2.1.length ≤ sizes.length) ∧ (t.2.2 = true → (ax = 1 ∨ ax = 2) ∧ t.1 = cutP ax X Y W H 0 sizes ∧ sizes.sum + (sizes.length : Int) - 1 = tX ax W H ∧ ∀ m, m ∈ sizes → 1 ≤ m) ∧ Ev (fun k => rect_Cut.f k X Y W H ax sizes) t ∧ Ev (fun k => sashref04_Cut.f k X Y W H ax sizes) t := by
  have no1 : ∀ x y z u : Int, Ev (fun k => rect_Cut.j0 k ax sizes true x y z u) ([], [], false) := fun x y z u => by
    refine Ev.step (fun k => ?_) (Ev.now _)
    simp only [rect_Cut.j0]
    rw [if_pos trivial]
  have no2 : Ev (fun k => sashref04_Cut.j0 k ax sizes [] true X Y W H) ([], [], false) := by
    refine Ev.step (fun k => ?_) (Ev.now _)
    simp only [sashref04_Cut.j0]
    rw [if_pos trivial]
  have e2 : ∀ r, Ev (fun k => if mayB X Y W H = true then (if ax < 1 then (sashref04_Cut.j0 k ax sizes [] true X Y W H) else (if ax > 2 then (sashref04_Cut.j0 k ax sizes [] true X Y W H) else (sashref04_Cut.j0 k ax sizes [] ((sizes.length : Int) == 0) X Y W H))) else (sashref04_Cut.j0 k ax sizes [] true X Y W H)) r → Ev (fun k => sashref04_Cut.f k X Y W H ax sizes) r := fun r h => by
    refine Ev.congr (fun k => ?_) h
    unfold sashref04_Cut.f
    rw [refmay_some]
    rfl
  unfold U8 at hax
  by_cases ha : ax = 1 ∨ ax = 2
  · have e1 : ∀ r, Ev (fun k => if mayB X Y W H = true then (rect_Cut.j0 k ax sizes ((sizes.length : Int) == 0) (tX ax X Y) (tX ax Y X) (tX ax W H) (tX ax H W)) else (rect_Cut.j0 k ax sizes true (tX ax X Y) (tX ax Y X) (tX ax W H) (tX ax H W))) r → Ev (fun k => rect_Cut.f k X Y W H ax sizes) r := fun r h => by
      refine Ev.congr (fun k => ?_) h
      unfold rect_Cut.f
      rw [turned_some ha]
      simp only [Option.bind_some]
      rw [if_pos trivial, may_some]
      rfl
    by_cases hm : mayB X Y W H = true
    · by_cases hs : sizes = []
      · subst hs
        exact ⟨([], [], false), ⟨by simp, by simp⟩, fun h => absurd h (by simp), e1 _ (ev_pos hm (no1 _ _ _ _)), e2 _ (ev_pos hm (ev_neg (by omega) (ev_neg (by omega) no2)))⟩
      · have hpos : 0 < sizes.length := List.length_pos_iff.2 hs
        have hz : ((sizes.length : Int) == 0) = false := by simp; exact hs
        obtain ⟨t, t0, tg, t1, t2⟩ := cut_both ax X Y W H ha hm sizes hl hpos sizes [] 0 [] [] rfl (by omega) (by omega) (by simp) (by simp) (by simp) (by simp)
        refine ⟨t, t0, fun h => by obtain ⟨q1, q2, q3⟩ := tg h; rw [if_pos List.length_nil] at q1 q2; exact ⟨ha, by simpa using q1, by omega, q3⟩, e1 _ (ev_pos hm ?_), e2 _ (ev_pos hm (ev_neg (by omega) (ev_neg (by omega) ?_)))⟩
        · rw [hz]
          refine Ev.step (fun k => ?_) t1
          simp only [rect_Cut.j0]
          rw [if_neg (by simp), Int.add_zero]
          rfl
        · rw [hz]
          refine Ev.step (f := fun k => sashref04_Cut.j1 k ax sizes [] (tX ax W H) X Y W H) (fun k => ?_) (Ev.step (fun k => ?_) t2)
          · simp only [sashref04_Cut.j0]
            rw [if_neg (by simp)]
            rcases ha with rfl | rfl
            · rw [if_neg (by omega)]; rfl
            · rw [if_pos rfl]; rfl
          · simp only [sashref04_Cut.j1]
            rfl
    · exact ⟨([], [], false), ⟨by simp, by simp⟩, fun h => absurd h (by simp), e1 _ (ev_neg hm (no1 _ _ _ _)), e2 _ (ev_neg hm no2)⟩
  · refine ⟨([], [], false), ⟨by simp, by simp⟩, fun h => absurd h (by simp), Ev.congr (f := fun k => rect_Cut.j0 k ax sizes true 0 0 0 0) (fun k => ?_) (no1 _ _ _ _), e2 _ ?_⟩
    · unfold rect_Cut.f rect_turned.f
      rw [if_neg (by omega), if_neg (by omega)]
      rfl
    · by_cases hm : mayB X Y W H = true
      · refine ev_pos hm ?_
        by_cases h1 : ax < 1
        · exact ev_pos h1 no2
        · exact ev_neg h1 (ev_pos (by omega) no2)
      · exact ev_neg hm no2
theorem RectCuts : ∀ (a0 : S23) (a1 : Int) (a2 : List Int), wf23 a0 → U8 a1 → a2.length ≤ 9223372036854775807 → (∀ x, x ∈ a2 → I64 x) → ∃ k, sashlaw04_RectCuts.f k a0.f0 a0.f1 a0.f2 a0.f3 a1 a2 = some true := by
  intro r ax sizes _ hax _ _
  refine Ev.rounds (g := fun k => sashlaw04_RectCuts.f k r.f0 r.f1 r.f2 r.f3 ax sizes) ?_
  have aw : Ev (fun k => (sashlaw04_awake.f k).bind fun t => some t) true := Ev.bind awake04 (Ev.now _)
  unfold sashlaw04_RectCuts.f
  by_cases h : (sizes.length : Int) > 100
  · exact ev_pos h aw
  · refine ev_neg h ?_
    obtain ⟨t, ⟨l1, l2⟩, _, t1, t2⟩ := cut_alike r.f0 r.f1 r.f2 r.f3 ax hax sizes (by omega)
    refine Ev.bind t1 (Ev.bind t2 (ev_pos (by simp) ?_))
    exact Ev.bind (rsame_ev _ (by omega)) (ev_pos rfl (Ev.bind (rsame_ev _ (by omega)) (ev_pos rfl aw)))
end Go.Proofs.Ytfdmfgaiblfbhaa.Pure
/- Two rows, place by place: plain data. -/
namespace Go.Proofs.Ytfdmfgaiblfbhaa.P
open Go.RowKit Go.Proofs.YtfdmfgaiblfbhaaW.PrintWords Go.Proofs.YtfdmfgaiblfbhaaW.PrintLast Go.Proofs.YtfdmfgaiblfbhaaW.PrintMore
def eqL {α β : Type} (r : α → β → Bool) : List α → List β → Bool
  | a :: ta, b :: tb => r a b && eqL r ta tb
  | [], _ => true
  | _ :: _, [] => true
theorem eqL_at {α β : Type} (r : α → β → Bool) (za : α) (zb : β) (la : List α) (lb : List β) (k : Nat) (ha : k < la.length) (hb : k < lb.length) :
    eqL r (la.drop k) (lb.drop k) = (r (la.getD (k : Int).toNat za) (lb.getD (k : Int).toNat zb) && eqL r (la.drop (k + 1)) (lb.drop (k + 1))) := by
  rw [List.drop_eq_getElem_cons ha, List.drop_eq_getElem_cons hb]
  simp only [eqL, Int.toNat_natCast, List.getD_eq_getElem?_getD, List.getElem?_eq_getElem ha, List.getElem?_eq_getElem hb, Option.getD_some]
theorem eqL_nil {α β : Type} (r : α → β → Bool) (lb : List β) : eqL r ([] : List α) lb = true := by cases lb <;> rfl
end Go.Proofs.Ytfdmfgaiblfbhaa.P
/- slices.EqualFunc at cells (function 211): what it answers, with any test that only reads. -/
namespace Go.Proofs.Ytfdmfgaiblfbhaa.P
open Go.RowKit Go.Proofs.YtfdmfgaiblfbhaaW.PrintWords Go.Proofs.YtfdmfgaiblfbhaaW.PrintLast Go.Proofs.YtfdmfgaiblfbhaaW.PrintMore
set_option linter.unusedVariables false
set_option linter.unusedSimpArgs false
set_option maxHeartbeats 4000000 in
set_option maxRecDepth 100000 in
theorem eqf211 (r : S26 → S23 → Bool) (g : Nat) (eg : ∀ args w, (callFunc g args).run Try.prog w = .ok (.enter g args) w) (la : List S26) (lb : List S23) (A B : Option Addr) (ca cb : Nat) (w : World) (hA : Kd.C k26 w A la.length la) (hB : Kd.C k23 w B lb.length lb)
    (hcall : ∀ W (x : S26) (X : Option Addr) (cx : Nat) (y : S23), x ∈ la → Below w.heap.size w W → Kd.C k26 w X x.f3.length x.f3 → x.f3.length ≤ cx → Calls Try.prog g #[.agg #[.int .u8 x.f0, .int .i64 x.f1.f0, .int .i64 x.f1.f1, .int .i64 x.f1.f2, .int .i64 x.f1.f3, .int .i64 x.f2, .slice X x.f3.length cx], .agg #[.int .i64 y.f0, .int .i64 y.f1, .int .i64 y.f2, .int .i64 y.f3]] W fun e w' => e = .returned (.bool (r x y)) ∧ Below W.heap.size W w') :
    Calls Try.prog 211 #[.slice A la.length ca, .slice B lb.length cb, .func (.func g) #[] #[]] w fun e w' => e = .returned (.bool (la.length == lb.length && eqL r la lb)) ∧ Below w.heap.size w w' := by
  have HA := Aside0.mk hA
  have HLB := Aside0.mk hB
  have HC := Aside0.mk hcall
  have HB := Aside0.mk (Below.refl w.heap.size w)
  have HL := Aside0.mk (show la.length ≤ 9223372036854775807 from hA.2.1)
  clear hA hB hcall
  by_cases hl : la.length = lb.length
  · have hl1 : ((la.length : Int) != (lb.length : Int)) = false := by simp [hl]
    have hl2 : (la.length == lb.length) = true := by simp [hl]
    rw [hl2, Bool.true_and]
    have HE := Aside0.mk hl
    clear hl hl2
    go_enter Try.func211, Try.ntmps211
    go_wp2
    go_loopg [17] la.length (fun gg v17 wr => ∃ (kk : Nat), kk ≤ la.length ∧ la.length - kk ≤ gg ∧ v17 = .int .i64 kk ∧ Aside0 (eqL r la lb = eqL r (la.drop kk) (lb.drop kk)) ∧ Aside0 (Below w.heap.size w wr))
    case atStart => exact ⟨0, Nat.zero_le _, by omega, rfl, ⟨by simp⟩, HB⟩
    case round =>
      clear HB
      obtain ⟨kk, hkk, hgg, rfl, HS, HB⟩ := hrel
      by_cases hlt : kk < la.length
      · have hltz : (kk : Int) < (la.length : Int) := by omega
        have hltb : (kk : Int) < (lb.length : Int) := by have := HE.out; omega
        have hw : wrap64 ((kk : Int) + 1) = ((kk + 1 : Nat) : Int) := by unfold wrap64; have := HL.out; omega
        have HX := Aside0.mk (eqL_at r z26 z23 la lb kk hlt (by omega))
        have hmem : rd_T26 la (kk : Int) ∈ la := scan_mem z26 la kk hlt
        obtain ⟨cd, X, cx, rfl, c0, c1, c2, c3, c4, c5, c6, cl, cg⟩ := at_T26 HA.out (kk : Int) (by omega) hltz
        obtain ⟨dd, rfl, d0, d1, d2, d3⟩ := at_T23 HLB.out (kk : Int) (by omega) hltb
        simp only [Int.toNat_natCast] at c0 c1 c2 c3 c4 c5 c6 d0 d1 d2 d3
        replace c0 := (HB.out.cell (World.block_lt_of_cell? w _ c0)).trans c0
        replace c1 := (HB.out.cell (World.block_lt_of_cell? w _ c1)).trans c1
        replace c2 := (HB.out.cell (World.block_lt_of_cell? w _ c2)).trans c2
        replace c3 := (HB.out.cell (World.block_lt_of_cell? w _ c3)).trans c3
        replace c4 := (HB.out.cell (World.block_lt_of_cell? w _ c4)).trans c4
        replace c5 := (HB.out.cell (World.block_lt_of_cell? w _ c5)).trans c5
        replace c6 := (HB.out.cell (World.block_lt_of_cell? w _ c6)).trans c6
        have D0 := Aside0.mk d0
        have D1 := Aside0.mk d1
        have D2 := Aside0.mk d2
        have D3 := Aside0.mk d3
        clear d0 d1 d2 d3
        have HX := Aside0.mk (show eqL r (la.drop kk) (lb.drop kk) = (r (rd_T26 la (kk : Int)) (rd_T23 lb (kk : Int)) && eqL r (la.drop (kk + 1)) (lb.drop (kk + 1))) from HX.out)
        have cG := Aside0.mk cg
        have cL := Aside0.mk cl
        clear cg cl
        have HM := Aside0.mk hmem
        clear hmem
        generalize rd_T26 la (kk : Int) = x at *
        generalize rd_T23 lb (kk : Int) = y at *
        have HCx := Aside0.mk (fun W hW => HC.out W x X cx y HM.out hW cG.out cL.out )
        have HW := Aside0.mk hw
        have HKK := Aside0.mk (show kk + 1 ≤ la.length from hlt)
        have HGG := Aside0.mk hgg
        clear hw hlt hgg hkk HM
        go_wp2_with (first | ((with_reducible refine gate_dst (N := 8) rfl ?_); refine box_event ?hg (N := 8) ?hd (cs := #[.int .u8 0, .int .i64 0, .int .i64 0, .int .i64 0, .int .i64 0, .int .i64 0, .slice none 0 0]) (t := 26) ?hr ?_; (case hd => rfl); (case hg => rfl); (case hr => (go_simp; done)); intro b8 hg wb8 hbox hb; have K8 := Aside0.mk hbox; have G8 := Aside0.mk (show w.heap.size ≤ b8 by rw [hg]; exact HB.out.size); have q_ := Aside0.mk (below_step HB.out hb); clear HB; have HB := q_; clear q_; clear hb hbox hg) | ((with_reducible refine gate_ (.store 26 (.tmp 8) (.tmp 21)) rfl ?_); go_loud (refine box_store (w0 := w) rfl rfl 26 (.tmp 8) (.tmp 21) rfl (g := b8) (j := 0) (base := w.heap.size) #[.int .u8 x.f0, .int .i64 x.f1.f0, .int .i64 x.f1.f1, .int .i64 x.f1.f2, .int .i64 x.f1.f3, .int .i64 x.f2, .slice X x.f3.length cx] (u := .agg #[.int .u8 x.f0, .int .i64 x.f1.f0, .int .i64 x.f1.f1, .int .i64 x.f1.f2, .int .i64 x.f1.f3, .int .i64 x.f2, .slice X x.f3.length cx]) (seg := [.int .u8 x.f0, .int .i64 x.f1.f0, .int .i64 x.f1.f1, .int .i64 x.f1.f2, .int .i64 x.f1.f3, .int .i64 x.f2, .slice X x.f3.length cx]) ?sA ?sX rfl ?sT ?s1 K8.out ?sJ rfl HB.out HB.out.size G8.out ?_; (case sA => rfl); (case sX => rfl); (case sT => rfl); (case s1 => (simp [Value.oneCell'])); (case sJ => (simp)); intro ws8 hbk hbb hgg; clear K8 HB; have K8 := Aside0.mk hbk; have HB := Aside0.mk hbb; clear hbk hbb hgg; clear c0 c1 c2 c3 c4 c5 c6; have d0 := (HB.out.cell (World.block_lt_of_cell? w _ D0.out)).trans D0.out; have d1 := (HB.out.cell (World.block_lt_of_cell? w _ D1.out)).trans D1.out; have d2 := (HB.out.cell (World.block_lt_of_cell? w _ D2.out)).trans D2.out; have d3 := (HB.out.cell (World.block_lt_of_cell? w _ D3.out)).trans D3.out)) | ((with_reducible refine gate_dst (N := 9) rfl ?_); refine box_event ?hg (N := 9) ?hd (cs := #[.int .i64 0, .int .i64 0, .int .i64 0, .int .i64 0]) (t := 23) ?hr ?_; (case hd => rfl); (case hg => rfl); (case hr => (go_simp; done)); intro b9 hg wb9 hbox hb; have K9 := Aside0.mk hbox; have G9 := Aside0.mk (show w.heap.size ≤ b9 by rw [hg]; exact HB.out.size); have NE := Aside0.mk (show b8 ≠ b9 by rw [hg]; exact Nat.ne_of_lt (blk_lt K8.out)); have q8_ := Aside0.mk (blk_below K8.out hb); clear K8; have K8 := q8_; clear q8_; have q_ := Aside0.mk (below_step HB.out hb); clear HB; have HB := q_; clear q_; clear hb hbox hg d0 d1 d2 d3) | ((with_reducible refine gate_ (.store 23 (.tmp 9) (.tmp 25)) rfl ?_); go_loud (refine box_store (w0 := w) rfl rfl 23 (.tmp 9) (.tmp 25) rfl (g := b9) (j := 0) (base := w.heap.size) #[.int .i64 y.f0, .int .i64 y.f1, .int .i64 y.f2, .int .i64 y.f3] (u := .agg #[.int .i64 y.f0, .int .i64 y.f1, .int .i64 y.f2, .int .i64 y.f3]) (seg := [.int .i64 y.f0, .int .i64 y.f1, .int .i64 y.f2, .int .i64 y.f3]) ?sA ?sX rfl ?sT ?s1 K9.out ?sJ rfl HB.out HB.out.size G9.out ?_; (case sA => rfl); (case sX => rfl); (case sT => rfl); (case s1 => (simp [Value.oneCell'])); (case sJ => (simp)); intro ws9 hbk hbb hgg; have q8_ := Aside0.mk (blk_grown K8.out hgg (fun e_ => absurd (Option.some.inj e_) NE.out)); clear K8; have K8 := q8_; clear q8_; clear K9 HB; have K9 := Aside0.mk hbk; have HB := Aside0.mk hbb; clear hbk hbb hgg; have e0 := (blk_cell K8.out 0).trans rfl; have e1 := (blk_cell K8.out 1).trans rfl; have e2 := (blk_cell K8.out 2).trans rfl; have e3 := (blk_cell K8.out 3).trans rfl; have e4 := (blk_cell K8.out 4).trans rfl; have e5 := (blk_cell K8.out 5).trans rfl; have e6 := (blk_cell K8.out 6).trans rfl; have f0 := (blk_cell K9.out 0).trans rfl; have f1 := (blk_cell K9.out 1).trans rfl; have f2 := (blk_cell K9.out 2).trans rfl; have f3 := (blk_cell K9.out 3).trans rfl)))
        clear e0 e1 e2 e3 e4 e5 e6 f0 f1 f2 f3 K8 K9 NE G8 G9
        refine (HCx.out _ HB.out).mono ?_
        rintro e w' ⟨rfl, hb⟩
        have q_ := Aside0.mk (below_step HB.out hb); clear HB; have HB := q_; clear q_
        clear hb
        cases hq : r x y with
        | true =>
          have HQ := Aside0.mk hq
          clear hq
          go_wp2
          go_roundg (la.length - (kk + 1))
          case measure => have h1 := HGG.out; have h2 := HKK.out; omega
          case rel => exact ⟨kk + 1, HKK.out, Nat.le_refl _, (by rw [HW.out]), ⟨by rw [HS.out, HX.out, HQ.out, Bool.true_and]⟩, HB⟩
        | false =>
          have HQ := Aside0.mk hq
          clear hq
          go_wp2
          go_ret
          rw [HS.out, HX.out, HQ.out, Bool.false_and]
          exact ⟨rfl, HB.out⟩
      · have hltz : ¬ (kk : Int) < (la.length : Int) := by omega
        go_wp2
        go_ret
        rw [HS.out, List.drop_eq_nil_of_le (by omega), eqL_nil]
        exact ⟨rfl, HB.out⟩
  · have hl1 : ((la.length : Int) != (lb.length : Int)) = true := by simp; omega
    have hl2 : (la.length == lb.length) = false := by simp [hl]
    rw [hl2, Bool.false_and]
    clear hl hl2
    go_enter Try.func211, Try.ntmps211
    go_wp2
    go_ret
    exact ⟨rfl, HB.out⟩
end Go.Proofs.Ytfdmfgaiblfbhaa.P
namespace Go.Proofs.Ytfdmfgaiblfbhaa.P
open Go.RowKit Go.Proofs.YtfdmfgaiblfbhaaW.PrintWords Go.Proofs.YtfdmfgaiblfbhaaW.PrintLast Go.Proofs.YtfdmfgaiblfbhaaW.PrintMore
attribute [local go_sem] max2_int min2_int max_two min_two max_three min_three max_four min_four   -- for this text's walks alone
set_option linter.unusedVariables false
set_option linter.unusedSimpArgs false

attribute [local go_sem high] eqA23
/-! ### sashref05_Same: function 64 -/
mutual
def sashref05_Same.j0 : Nat → Bool → Int → Int → Int → Int → Int → Int → List (S26) → Int → Int → Int → Int → Int → Int → List (S26) → Option (Bool)
 | 0, _, _, _, _, _, _, _, _, _, _, _, _, _, _, _ => none
 | k + 1, x33, x601000, x601001, x601002, x601003, x601004, x601005, x601006, x602000, x602001, x602002, x602003, x602004, x602005, x602006 => if x33 = true then (some false) else (sashref05_Same.l0 k (x601006.length : Int) 0 x601000 x601001 x601002 x601003 x601004 x601005 x601006 x602000 x602001 x602002 x602003 x602004 x602005 x602006)
def sashref05_Same.l0 : Nat → Int → Int → Int → Int → Int → Int → Int → Int → List (S26) → Int → Int → Int → Int → Int → Int → List (S26) → Option (Bool)
 | 0, _, _, _, _, _, _, _, _, _, _, _, _, _, _, _, _ => none
 | k + 1, x36, x37, x601000, x601001, x601002, x601003, x601004, x601005, x601006, x602000, x602001, x602002, x602003, x602004, x602005, x602006 => if x37 < x36 then (if 0 ≤ x37 then (if x37 < (x601006.length : Int) then (if x37 < (x602006.length : Int) then ((sashref05_Same.f k ((rd_T26 x601006 x37).f0) ((rd_T26 x601006 x37).f1.f0) ((rd_T26 x601006 x37).f1.f1) ((rd_T26 x601006 x37).f1.f2) ((rd_T26 x601006 x37).f1.f3) ((rd_T26 x601006 x37).f2) ((rd_T26 x601006 x37).f3) ((rd_T26 x602006 x37).f0) ((rd_T26 x602006 x37).f1.f0) ((rd_T26 x602006 x37).f1.f1) ((rd_T26 x602006 x37).f1.f2) ((rd_T26 x602006 x37).f1.f3) ((rd_T26 x602006 x37).f2) ((rd_T26 x602006 x37).f3)).bind fun t604 => (if t604 = true then (sashref05_Same.l0 k x36 (wrap64 (x37 + 1)) x601000 x601001 x601002 x601003 x601004 x601005 x601006 x602000 x602001 x602002 x602003 x602004 x602005 x602006) else (some false))) else (none)) else (none)) else (none)) else (some true)
def sashref05_Same.f : Nat → Int → Int → Int → Int → Int → Int → List (S26) → Int → Int → Int → Int → Int → Int → List (S26) → Option (Bool)
 | 0, _, _, _, _, _, _, _, _, _, _, _, _, _, _ => none
 | k + 1, a0_0, a0_1, a0_2, a0_3, a0_4, a0_5, l0_6, a1_0, a1_1, a1_2, a1_3, a1_4, a1_5, l1_6 => if a0_0 = a1_0 then (if (!(a0_1 == a1_1) || (!(a0_2 == a1_2) || (!(a0_3 == a1_3) || (!(a0_4 == a1_4))))) = true then (sashref05_Same.j0 k true a0_0 a0_1 a0_2 a0_3 a0_4 a0_5 l0_6 a1_0 a1_1 a1_2 a1_3 a1_4 a1_5 l1_6) else (if a0_5 = a1_5 then (sashref05_Same.j0 k ((l0_6.length : Int) != (l1_6.length : Int)) a0_0 a0_1 a0_2 a0_3 a0_4 a0_5 l0_6 a1_0 a1_1 a1_2 a1_3 a1_4 a1_5 l1_6) else (sashref05_Same.j0 k true a0_0 a0_1 a0_2 a0_3 a0_4 a0_5 l0_6 a1_0 a1_1 a1_2 a1_3 a1_4 a1_5 l1_6))) else (sashref05_Same.j0 k true a0_0 a0_1 a0_2 a0_3 a0_4 a0_5 l0_6 a1_0 a1_1 a1_2 a1_3 a1_4 a1_5 l1_6)
end
def sashref05_Same.T6 : Bool × List (List Nat × List Nat) := (true, [([], []), ([0], [0]), ([], []), ([1, 2], [1, 2]), ([3], [3]), ([], []), ([5], [5]), ([], []), ([6, 7], [6, 7]), ([8], [8]), ([4, 9], [4, 9]), ([10], [10])])
def sashref05_Same.B6 : List Nat := [0, 1, 0, 7, 15, 0, 32, 0, 224, 480, 1023, 2047]
end Go.Proofs.Ytfdmfgaiblfbhaa.P
/- The reference's sameness of trees: plain data. -/
namespace Go.Proofs.Ytfdmfgaiblfbhaa.P
open Go.RowKit Go.Proofs.YtfdmfgaiblfbhaaW.PrintWords Go.Proofs.YtfdmfgaiblfbhaaW.PrintLast Go.Proofs.YtfdmfgaiblfbhaaW.PrintMore

def rectB (a b : S23) : Bool := a.f0 == b.f0 && (a.f1 == b.f1 && (a.f2 == b.f2 && a.f3 == b.f3))
mutual
def sameC : S26 → S26 → Bool
  | ⟨a, r, d, l⟩, ⟨a', r', d', l'⟩ => a == a' && (rectB r r' && (d == d' && (l.length == l'.length && sameL l l')))
def sameL : List S26 → List S26 → Bool
  | [], _ => true
  | _ :: _, [] => true
  | c :: cs, e :: es => sameC c e && sameL cs es
end
end Go.Proofs.Ytfdmfgaiblfbhaa.P
namespace Go.Proofs.Ytfdmfgaiblfbhaa.P
open Go.RowKit Go.Proofs.YtfdmfgaiblfbhaaW.PrintWords Go.Proofs.YtfdmfgaiblfbhaaW.PrintLast Go.Proofs.YtfdmfgaiblfbhaaW.PrintMore
attribute [local go_sem] max2_int min2_int max_two min_two max_three min_three max_four min_four   -- for this text's walks alone
set_option linter.unusedVariables false
set_option linter.unusedSimpArgs false

/-! ### tile_cut: function 210 -/
def tile_cut.l0 : Nat → List Int → List (S26) → Int → Int → Int → Int → Int → Int → Int → Int → List (S26) → Option ((List (S23)) × (List (S23)) × Bool)
 | 0, _, _, _, _, _, _, _, _, _, _, _ => none
 | k + 1, x5, x9, x10, x11, x1875000, x1875001, x1875002, x1875003, x1875004, x1875005, x1875006 => if x11 < x10 then (if 0 ≤ x11 then (if x11 < (x9.length : Int) then (if x1875000 = 2 then (if x5.length < 17592186044416 then (tile_cut.l0 k (x5 ++ [(rd_T26 x9 x11).f1.f2]) x9 x10 (wrap64 (x11 + 1)) x1875000 x1875001 x1875002 x1875003 x1875004 x1875005 x1875006) else (none)) else (if x5.length < 17592186044416 then (tile_cut.l0 k (x5 ++ [(rd_T26 x9 x11).f1.f3]) x9 x10 (wrap64 (x11 + 1)) x1875000 x1875001 x1875002 x1875003 x1875004 x1875005 x1875006) else (none))) else (none)) else (none)) else ((rect_Cut.f k x1875001 x1875002 x1875003 x1875004 ((((x1875000 - 2) % 256) + 1) % 256) x5).bind fun bt1883 => (some (bt1883.1, bt1883.2.1, bt1883.2.2)))
def tile_cut.f (k : Nat) (a0_0 : Int) (a0_1 : Int) (a0_2 : Int) (a0_3 : Int) (a0_4 : Int) (a0_5 : Int) (l0_6 : List (S26)) : Option ((List (S23)) × (List (S23)) × Bool) := tile_cut.l0 k ([] : List Int) l0_6 (l0_6.length : Int) 0 a0_0 a0_1 a0_2 a0_3 a0_4 a0_5 l0_6
set_option maxHeartbeats 8000000 in
set_option maxRecDepth 100000 in
theorem tile_cut.calls (k : Nat) (a0_0 : Int) (a0_1 : Int) (a0_2 : Int) (a0_3 : Int) (a0_4 : Int) (a0_5 : Int) (A0_6 : Option Addr) (c0_6 : Nat) (l0_6 : List (S26)) (r1 : List (S23)) (r2 : List (S23)) (r3 : Bool) (w : World) (hr0_6 : Kd.C k26 w A0_6 l0_6.length l0_6) (hc0_6 : l0_6.length ≤ c0_6) (h : tile_cut.f k a0_0 a0_1 a0_2 a0_3 a0_4 a0_5 l0_6 = some (r1, r2, r3)) :
  Calls Try.prog 210 #[.agg #[.int .u8 a0_0, .int .i64 a0_1, .int .i64 a0_2, .int .i64 a0_3, .int .i64 a0_4, .int .i64 a0_5, .slice A0_6 l0_6.length c0_6]] w fun e w' => ∃ v0_ v1_ : Value, e = .returned (.tuple #[v0_, v1_, .bool r3]) ∧ Kd.R k23 23 w' w.heap.size (fun k_ => some k_ ≠ (v1_ : Value).ownBlock) v0_ r1 ∧ Kd.R k23 23 w' w.heap.size (fun k_ => some k_ ≠ (v0_ : Value).ownBlock) v1_ r2 ∧ Below w.heap.size w w' := by
 have hu26 := Try.underlying26
 have hu23 := Try.underlying23
 have HR0_6 := Aside0.mk hr0_6
 clear hr0_6 hc0_6
 have HB := Aside0.mk (Below.refl w.heap.size w)
 have H : (tile_cut.l0 k ([] : List Int) l0_6 (l0_6.length : Int) 0 a0_0 a0_1 a0_2 a0_3 a0_4 a0_5 l0_6) = some (r1, r2, r3) := h
 clear h
 have H' := Aside0.mk H
 clear H
 go_enter Try.func210, Try.ntmps210
 go_wp2_with (((with_reducible refine gate_dst (N := 1) rfl ?_); refine box_event ?hg (N := 1) ?hd (cs := #[.int .u8 a0_0, .int .i64 a0_1, .int .i64 a0_2, .int .i64 a0_3, .int .i64 a0_4, .int .i64 a0_5, .slice A0_6 l0_6.length c0_6]) (t := 26) ?hr ?_; (case hd => rfl); (case hg => rfl); (case hr => (go_simp; done)); intro gb1874 hg w2 hbox hb; have BK1874 := Aside0.mk (hbox); replace HB := Aside0.mk (below_step (by repeat ((with_reducible exact HB.out))) hb); clear hb hbox hg; have hcz3_0 : w2.cell? ⟨gb1874, 0, none⟩ = some (.int .u8 a0_0) := (blk_cell BK1874.out 0).trans rfl; have hcz3_1 : w2.cell? ⟨gb1874, 1, none⟩ = some (.int .i64 a0_1) := (blk_cell BK1874.out 1).trans rfl; have hcz3_2 : w2.cell? ⟨gb1874, 2, none⟩ = some (.int .i64 a0_2) := (blk_cell BK1874.out 2).trans rfl; have hcz3_3 : w2.cell? ⟨gb1874, 3, none⟩ = some (.int .i64 a0_3) := (blk_cell BK1874.out 3).trans rfl; have hcz3_4 : w2.cell? ⟨gb1874, 4, none⟩ = some (.int .i64 a0_4) := (blk_cell BK1874.out 4).trans rfl; have hcz3_5 : w2.cell? ⟨gb1874, 5, none⟩ = some (.int .i64 a0_5) := (blk_cell BK1874.out 5).trans rfl; have hcz3_6 : w2.cell? ⟨gb1874, 6, none⟩ = some (.slice A0_6 l0_6.length c0_6) := (blk_cell BK1874.out 6).trans rfl; have hfz3_0 := blk_frozen BK1874.out 0; have hfz3_1 := blk_frozen BK1874.out 1; have hfz3_2 := blk_frozen BK1874.out 2; have hfz3_3 := blk_frozen BK1874.out 3; have hfz3_4 := blk_frozen BK1874.out 4; have hfz3_5 := blk_frozen BK1874.out 5; have hfz3_6 := blk_frozen BK1874.out 6))
 go_loopg [5, 11] k (fun kq v5 v11 w' => ∃ (x5_1 : List Int) (x11_1 : Int), v11 = .int .i64 x11_1 ∧ Aside0 (tile_cut.l0 kq x5_1 l0_6 (l0_6.length : Int) x11_1 a0_0 a0_1 a0_2 a0_3 a0_4 a0_5 l0_6 = some (r1, r2, r3)) ∧ Aside0 (kq ≤ k) ∧ Aside0 (Kd.R (Kd.int .i64) 3 w' w.heap.size (fun _ => True) v5 x5_1) ∧ Aside0 (w'.heap[gb1874]? = some (.cells #[.int .u8 a0_0, .int .i64 a0_1, .int .i64 a0_2, .int .i64 a0_3, .int .i64 a0_4, .int .i64 a0_5, (.slice A0_6 l0_6.length c0_6)] 26 (0, 0))) ∧ Aside0 (Below w.heap.size w w'))
 case atStart => exact ⟨(([] : List Int)), (0), (by rfl), H', ⟨Nat.le_refl _⟩, ⟨by exact Kd.R_nil _ _ _ _ _⟩, ⟨by exact BK1874.out⟩, ⟨by repeat ((with_reducible exact HB.out))⟩⟩
 case round =>
  clear H'
  clear hcz3_0 hcz3_1 hcz3_2 hcz3_3 hcz3_4 hcz3_5 hcz3_6 hfz3_0 hfz3_1 hfz3_2 hfz3_3 hfz3_4 hfz3_5 hfz3_6
  obtain ⟨x5_1, x11_1, rfl, HA, HK1, HO_5, BK1874, HB⟩ := hrel
  cases gk with
  | zero => exact absurd HA.out (by simp [tile_cut.l0])
  | succ k1 =>
   have H := HA.out
   clear HA
   simp only [tile_cut.l0] at H
   by_cases c4 : x11_1 < (l0_6.length : Int)
   ·rw [if_pos c4] at H
    have c4b0 : decide (x11_1 < (l0_6.length : Int)) = true := decide_eq_true c4
    clear c4
    by_cases c5 : 0 ≤ x11_1
    ·rw [if_pos c5] at H
     have c5b0 : decide (0 ≤ x11_1) = true := decide_eq_true c5
     clear c5
     by_cases c6 : x11_1 < (l0_6.length : Int)
     ·rw [if_pos c6] at H
      have c6b0 : decide (x11_1 < (l0_6.length : Int)) = true := decide_eq_true c6
      clear c6
      by_cases c7 : a0_0 = 2
      ·rw [if_pos c7] at H
       have c7b0 : (a0_0 == 2) = true := beq_iff_eq.mpr c7
       have c7b1 : (a0_0 != 2) = false := bne_eq_false_iff_eq.mpr c7
       clear c7
       by_cases c8 : x5_1.length < 17592186044416
       ·rw [if_pos c8] at H
        have LMc8 := Aside0.mk c8
        clear c8
        obtain ⟨y1877, hy1877⟩ : ∃ y_ : List Int, y_ = (x5_1 ++ [(rd_T26 l0_6 x11_1).f1.f2]) := ⟨_, rfl⟩
        replace H : (tile_cut.l0 k1 y1877 l0_6 (l0_6.length : Int) (wrap64 (x11_1 + 1)) a0_0 a0_1 a0_2 a0_3 a0_4 a0_5 l0_6) = some (r1, r2, r3) := by (rw [hy1877]; with_reducible exact H)
        have Ny1877 := Aside0.mk hy1877
        clear hy1877
        have H' := Aside0.mk H
        clear H
        have p1875 : 0 ≤ (x11_1 : Int) := of_decide_eq_true (by (with_reducible assumption))
        have q1875 : x11_1 < (l0_6.length : Int) := of_decide_eq_true (by (with_reducible assumption))
        obtain ⟨ad1875, A1875_6, c1875_6, e1875, hx1875_0, hx1875_1, hx1875_2, hx1875_3, hx1875_4, hx1875_5, hx1875_6, hl1875_6, hi1875_6⟩ := at_T26 HR0_6.out x11_1 p1875 q1875
        cases e1875
        replace hx1875_0 := (HB.out.cell (World.block_lt_of_cell? w _ hx1875_0)).trans hx1875_0
        replace hx1875_1 := (HB.out.cell (World.block_lt_of_cell? w _ hx1875_1)).trans hx1875_1
        replace hx1875_2 := (HB.out.cell (World.block_lt_of_cell? w _ hx1875_2)).trans hx1875_2
        replace hx1875_3 := (HB.out.cell (World.block_lt_of_cell? w _ hx1875_3)).trans hx1875_3
        replace hx1875_4 := (HB.out.cell (World.block_lt_of_cell? w _ hx1875_4)).trans hx1875_4
        replace hx1875_5 := (HB.out.cell (World.block_lt_of_cell? w _ hx1875_5)).trans hx1875_5
        replace hx1875_6 := (HB.out.cell (World.block_lt_of_cell? w _ hx1875_6)).trans hx1875_6
        clear hi1875_6 hl1875_6
        replace p1875 := eq_true p1875
        replace q1875 := eq_true q1875
        go_wp2_with (first | ((with_reducible refine gate_dst (N := 7) rfl ?_); refine box_event ?hg (N := 7) ?hd (cs := #[.int .u8 0, .int .i64 0, .int .i64 0, .int .i64 0, .int .i64 0, .int .i64 0, .slice none 0 0]) (t := 26) ?hr ?_; (case hd => rfl); (case hg => rfl); (case hr => (go_simp; done)); intro gb1876 hg w9 hbox hb; have BK1876 := Aside0.mk (hbox); have GE1876 := Aside0.mk ((by rw [hg]; exact (below_size (by repeat ((with_reducible exact HB.out)))) : w.heap.size ≤ gb1876)); have NB1874_1876 := Aside0.mk ((by rw [hg]; exact Nat.ne_of_lt (blk_lt BK1874.out) : gb1874 ≠ gb1876)); have NB1876_1874 := Aside0.mk ((by rw [hg]; exact Nat.ne_of_gt (blk_lt BK1874.out) : gb1876 ≠ gb1874)); replace HO_5 := Aside0.mk (Kd.R_below HO_5.out hb); replace BK1874 := Aside0.mk (blk_below BK1874.out hb); replace HB := Aside0.mk (below_step (by repeat ((with_reducible exact HB.out))) hb); clear hb hbox hg; have hnb10 := NB1876_1874.out; have hnc10 := NB1874_1876.out; have hcz11_0 : w9.cell? ⟨gb1876, 0, none⟩ = some (.int .u8 0) := (blk_cell BK1876.out 0).trans rfl; have hcz11_1 : w9.cell? ⟨gb1876, 1, none⟩ = some (.int .i64 0) := (blk_cell BK1876.out 1).trans rfl; have hcz11_2 : w9.cell? ⟨gb1876, 2, none⟩ = some (.int .i64 0) := (blk_cell BK1876.out 2).trans rfl; have hcz11_3 : w9.cell? ⟨gb1876, 3, none⟩ = some (.int .i64 0) := (blk_cell BK1876.out 3).trans rfl; have hcz11_4 : w9.cell? ⟨gb1876, 4, none⟩ = some (.int .i64 0) := (blk_cell BK1876.out 4).trans rfl; have hcz11_5 : w9.cell? ⟨gb1876, 5, none⟩ = some (.int .i64 0) := (blk_cell BK1876.out 5).trans rfl; have hcz11_6 : w9.cell? ⟨gb1876, 6, none⟩ = some (.slice none 0 0) := (blk_cell BK1876.out 6).trans rfl; have hfz11_0 := blk_frozen BK1876.out 0; have hfz11_1 := blk_frozen BK1876.out 1; have hfz11_2 := blk_frozen BK1876.out 2; have hfz11_3 := blk_frozen BK1876.out 3; have hfz11_4 := blk_frozen BK1876.out 4; have hfz11_5 := blk_frozen BK1876.out 5; have hfz11_6 := blk_frozen BK1876.out 6; have hcz12_0 : w9.cell? ⟨gb1874, 0, none⟩ = some (.int .u8 a0_0) := (blk_cell BK1874.out 0).trans rfl; have hcz12_1 : w9.cell? ⟨gb1874, 1, none⟩ = some (.int .i64 a0_1) := (blk_cell BK1874.out 1).trans rfl; have hcz12_2 : w9.cell? ⟨gb1874, 2, none⟩ = some (.int .i64 a0_2) := (blk_cell BK1874.out 2).trans rfl; have hcz12_3 : w9.cell? ⟨gb1874, 3, none⟩ = some (.int .i64 a0_3) := (blk_cell BK1874.out 3).trans rfl; have hcz12_4 : w9.cell? ⟨gb1874, 4, none⟩ = some (.int .i64 a0_4) := (blk_cell BK1874.out 4).trans rfl; have hcz12_5 : w9.cell? ⟨gb1874, 5, none⟩ = some (.int .i64 a0_5) := (blk_cell BK1874.out 5).trans rfl; have hcz12_6 : w9.cell? ⟨gb1874, 6, none⟩ = some (.slice (some ad1875) l0_6.length c0_6) := (blk_cell BK1874.out 6).trans rfl; have hfz12_0 := blk_frozen BK1874.out 0; have hfz12_1 := blk_frozen BK1874.out 1; have hfz12_2 := blk_frozen BK1874.out 2; have hfz12_3 := blk_frozen BK1874.out 3; have hfz12_4 := blk_frozen BK1874.out 4; have hfz12_5 := blk_frozen BK1874.out 5; have hfz12_6 := blk_frozen BK1874.out 6) | ((with_reducible refine gate_builtin (b := .append) (xs := #[.tmp 18, .tmp 22]) rfl ?_); at_builtin; refine Kd.R_append (Kd.int .i64) (w0 := w) w.heap.size rfl (.tmp 18) (.tmp 22) 41 3 (.int .i64 0) 8 rfl Try.underlying41 info3 rfl (by decide) (by omega) u5 x5_1 ((rd_T26 l0_6 x11_1).f1.f2) [.int .i64 ((rd_T26 l0_6 x11_1).f1.f2)] (fun _ => True) (fun _ => False) rfl (by (go_simp; done)) ?aP (fun _ hk => hk.elim) ?aF ?aO ?aB ?aS ?aL ?_; (case aP => exact rfl); (case aB => exact (by repeat ((with_reducible first | exact HB.out | refine below_set ?_ GE1876.out)))); (case aF => exact (fun _ _ => trivial)); (case aO => exact (by exact Kd.R_mono (Kd.R_far (p := ⟨gb1876, 6, none⟩) (Kd.R_far (p := ⟨gb1876, 5, none⟩) (Kd.R_far (p := ⟨gb1876, 4, none⟩) (Kd.R_far (p := ⟨gb1876, 3, none⟩) (Kd.R_far (p := ⟨gb1876, 2, none⟩) (Kd.R_far (p := ⟨gb1876, 1, none⟩) (Kd.R_far (p := ⟨gb1876, 0, none⟩) (Kd.R_types HO_5.out BK1876.out (by decide)) (fun _ hk => hk.2) (.int .u8 ((rd_T26 l0_6 x11_1).f0))) (fun _ hk => hk.2) (.int .i64 ((rd_T26 l0_6 x11_1).f1.f0))) (fun _ hk => hk.2) (.int .i64 ((rd_T26 l0_6 x11_1).f1.f1))) (fun _ hk => hk.2) (.int .i64 ((rd_T26 l0_6 x11_1).f1.f2))) (fun _ hk => hk.2) (.int .i64 ((rd_T26 l0_6 x11_1).f1.f3))) (fun _ hk => hk.2) (.int .i64 ((rd_T26 l0_6 x11_1).f2))) (fun _ hk => hk.2) (.slice A1875_6 ((rd_T26 l0_6 x11_1).f3).length c1875_6)) (fun _ hk => trivial))); (case aS => exact (below_size (by repeat ((with_reducible first | exact HB.out | refine below_set ?_ GE1876.out))))); (case aL => have := LMc8.out; omega); intro v1878 w13 ho hb hg hat; rw [← Ny1877.out] at ho; have HO1879 := Aside0.mk (ho); replace BK1874 := Aside0.mk (blk_grown (g := gb1874) (o := .cells #[.int .u8 a0_0, .int .i64 a0_1, .int .i64 a0_2, .int .i64 a0_3, .int .i64 a0_4, .int .i64 a0_5, .slice (some ad1875) l0_6.length c0_6] 26 (0, 0)) (by refine blk_far ?_ NB1874_1876.out _; refine blk_far ?_ NB1874_1876.out _; refine blk_far ?_ NB1874_1876.out _; refine blk_far ?_ NB1874_1876.out _; refine blk_far ?_ NB1874_1876.out _; refine blk_far ?_ NB1874_1876.out _; refine blk_far ?_ NB1874_1876.out _; exact BK1874.out) hg (Kd.R_ne HO_5.out BK1874.out (by decide))); replace BK1876 := Aside0.mk (blk_grown (g := gb1876) (o := .cells #[.int .u8 ((rd_T26 l0_6 x11_1).f0), .int .i64 ((rd_T26 l0_6 x11_1).f1.f0), .int .i64 ((rd_T26 l0_6 x11_1).f1.f1), .int .i64 ((rd_T26 l0_6 x11_1).f1.f2), .int .i64 ((rd_T26 l0_6 x11_1).f1.f3), .int .i64 ((rd_T26 l0_6 x11_1).f2), .slice A1875_6 ((rd_T26 l0_6 x11_1).f3).length c1875_6] 26 (0, 0)) (by refine blk_put (cs := #[.int .u8 ((rd_T26 l0_6 x11_1).f0), .int .i64 ((rd_T26 l0_6 x11_1).f1.f0), .int .i64 ((rd_T26 l0_6 x11_1).f1.f1), .int .i64 ((rd_T26 l0_6 x11_1).f1.f2), .int .i64 ((rd_T26 l0_6 x11_1).f1.f3), .int .i64 ((rd_T26 l0_6 x11_1).f2), .slice none 0 0]) ?_ 6 _ rfl; refine blk_put (cs := #[.int .u8 ((rd_T26 l0_6 x11_1).f0), .int .i64 ((rd_T26 l0_6 x11_1).f1.f0), .int .i64 ((rd_T26 l0_6 x11_1).f1.f1), .int .i64 ((rd_T26 l0_6 x11_1).f1.f2), .int .i64 ((rd_T26 l0_6 x11_1).f1.f3), .int .i64 0, .slice none 0 0]) ?_ 5 _ rfl; refine blk_put (cs := #[.int .u8 ((rd_T26 l0_6 x11_1).f0), .int .i64 ((rd_T26 l0_6 x11_1).f1.f0), .int .i64 ((rd_T26 l0_6 x11_1).f1.f1), .int .i64 ((rd_T26 l0_6 x11_1).f1.f2), .int .i64 0, .int .i64 0, .slice none 0 0]) ?_ 4 _ rfl; refine blk_put (cs := #[.int .u8 ((rd_T26 l0_6 x11_1).f0), .int .i64 ((rd_T26 l0_6 x11_1).f1.f0), .int .i64 ((rd_T26 l0_6 x11_1).f1.f1), .int .i64 0, .int .i64 0, .int .i64 0, .slice none 0 0]) ?_ 3 _ rfl; refine blk_put (cs := #[.int .u8 ((rd_T26 l0_6 x11_1).f0), .int .i64 ((rd_T26 l0_6 x11_1).f1.f0), .int .i64 0, .int .i64 0, .int .i64 0, .int .i64 0, .slice none 0 0]) ?_ 2 _ rfl; refine blk_put (cs := #[.int .u8 ((rd_T26 l0_6 x11_1).f0), .int .i64 0, .int .i64 0, .int .i64 0, .int .i64 0, .int .i64 0, .slice none 0 0]) ?_ 1 _ rfl; refine blk_put (cs := #[.int .u8 0, .int .i64 0, .int .i64 0, .int .i64 0, .int .i64 0, .int .i64 0, .slice none 0 0]) ?_ 0 _ rfl; exact BK1876.out) hg (Kd.R_ne HO_5.out BK1876.out (by decide))); replace HB := Aside0.mk (hb); clear HO_5; clear ho hb hg hat))
        go_roundg k1
        case measure => have := HK1.out; omega
        case rel => exact ⟨(y1877), (wrap64 (x11_1 + 1)), (by rfl), H', ⟨by have := HK1.out; omega⟩, ⟨by exact HO1879.out⟩, ⟨by exact BK1874.out⟩, ⟨by repeat ((with_reducible exact HB.out))⟩⟩
       ·rw [if_neg c8] at H
        exact absurd H (by simp)
      ·rw [if_neg c7] at H
       have c7b0 : (a0_0 == 2) = false := beq_eq_false_iff_ne.mpr c7
       have c7b1 : (a0_0 != 2) = true := bne_iff_ne.mpr c7
       by_cases c14 : x5_1.length < 17592186044416
       ·rw [if_pos c14] at H
        have LMc14 := Aside0.mk c14
        clear c14
        obtain ⟨y1880, hy1880⟩ : ∃ y_ : List Int, y_ = (x5_1 ++ [(rd_T26 l0_6 x11_1).f1.f3]) := ⟨_, rfl⟩
        replace H : (tile_cut.l0 k1 y1880 l0_6 (l0_6.length : Int) (wrap64 (x11_1 + 1)) a0_0 a0_1 a0_2 a0_3 a0_4 a0_5 l0_6) = some (r1, r2, r3) := by (rw [hy1880]; with_reducible exact H)
        have Ny1880 := Aside0.mk hy1880
        clear hy1880
        have H' := Aside0.mk H
        clear H
        have p1875 : 0 ≤ (x11_1 : Int) := of_decide_eq_true (by (with_reducible assumption))
        have q1875 : x11_1 < (l0_6.length : Int) := of_decide_eq_true (by (with_reducible assumption))
        obtain ⟨ad1875, A1875_6, c1875_6, e1875, hx1875_0, hx1875_1, hx1875_2, hx1875_3, hx1875_4, hx1875_5, hx1875_6, hl1875_6, hi1875_6⟩ := at_T26 HR0_6.out x11_1 p1875 q1875
        cases e1875
        replace hx1875_0 := (HB.out.cell (World.block_lt_of_cell? w _ hx1875_0)).trans hx1875_0
        replace hx1875_1 := (HB.out.cell (World.block_lt_of_cell? w _ hx1875_1)).trans hx1875_1
        replace hx1875_2 := (HB.out.cell (World.block_lt_of_cell? w _ hx1875_2)).trans hx1875_2
        replace hx1875_3 := (HB.out.cell (World.block_lt_of_cell? w _ hx1875_3)).trans hx1875_3
        replace hx1875_4 := (HB.out.cell (World.block_lt_of_cell? w _ hx1875_4)).trans hx1875_4
        replace hx1875_5 := (HB.out.cell (World.block_lt_of_cell? w _ hx1875_5)).trans hx1875_5
        replace hx1875_6 := (HB.out.cell (World.block_lt_of_cell? w _ hx1875_6)).trans hx1875_6
        clear hi1875_6 hl1875_6
        replace p1875 := eq_true p1875
        replace q1875 := eq_true q1875
        go_wp2_with (first | ((with_reducible refine gate_dst (N := 7) rfl ?_); refine box_event ?hg (N := 7) ?hd (cs := #[.int .u8 0, .int .i64 0, .int .i64 0, .int .i64 0, .int .i64 0, .int .i64 0, .slice none 0 0]) (t := 26) ?hr ?_; (case hd => rfl); (case hg => rfl); (case hr => (go_simp; done)); intro gb1876 hg w15 hbox hb; have BK1876 := Aside0.mk (hbox); have GE1876 := Aside0.mk ((by rw [hg]; exact (below_size (by repeat ((with_reducible exact HB.out)))) : w.heap.size ≤ gb1876)); have NB1874_1876 := Aside0.mk ((by rw [hg]; exact Nat.ne_of_lt (blk_lt BK1874.out) : gb1874 ≠ gb1876)); have NB1876_1874 := Aside0.mk ((by rw [hg]; exact Nat.ne_of_gt (blk_lt BK1874.out) : gb1876 ≠ gb1874)); replace HO_5 := Aside0.mk (Kd.R_below HO_5.out hb); replace BK1874 := Aside0.mk (blk_below BK1874.out hb); replace HB := Aside0.mk (below_step (by repeat ((with_reducible exact HB.out))) hb); clear hb hbox hg; have hnb16 := NB1876_1874.out; have hnc16 := NB1874_1876.out; have hcz17_0 : w15.cell? ⟨gb1876, 0, none⟩ = some (.int .u8 0) := (blk_cell BK1876.out 0).trans rfl; have hcz17_1 : w15.cell? ⟨gb1876, 1, none⟩ = some (.int .i64 0) := (blk_cell BK1876.out 1).trans rfl; have hcz17_2 : w15.cell? ⟨gb1876, 2, none⟩ = some (.int .i64 0) := (blk_cell BK1876.out 2).trans rfl; have hcz17_3 : w15.cell? ⟨gb1876, 3, none⟩ = some (.int .i64 0) := (blk_cell BK1876.out 3).trans rfl; have hcz17_4 : w15.cell? ⟨gb1876, 4, none⟩ = some (.int .i64 0) := (blk_cell BK1876.out 4).trans rfl; have hcz17_5 : w15.cell? ⟨gb1876, 5, none⟩ = some (.int .i64 0) := (blk_cell BK1876.out 5).trans rfl; have hcz17_6 : w15.cell? ⟨gb1876, 6, none⟩ = some (.slice none 0 0) := (blk_cell BK1876.out 6).trans rfl; have hfz17_0 := blk_frozen BK1876.out 0; have hfz17_1 := blk_frozen BK1876.out 1; have hfz17_2 := blk_frozen BK1876.out 2; have hfz17_3 := blk_frozen BK1876.out 3; have hfz17_4 := blk_frozen BK1876.out 4; have hfz17_5 := blk_frozen BK1876.out 5; have hfz17_6 := blk_frozen BK1876.out 6; have hcz18_0 : w15.cell? ⟨gb1874, 0, none⟩ = some (.int .u8 a0_0) := (blk_cell BK1874.out 0).trans rfl; have hcz18_1 : w15.cell? ⟨gb1874, 1, none⟩ = some (.int .i64 a0_1) := (blk_cell BK1874.out 1).trans rfl; have hcz18_2 : w15.cell? ⟨gb1874, 2, none⟩ = some (.int .i64 a0_2) := (blk_cell BK1874.out 2).trans rfl; have hcz18_3 : w15.cell? ⟨gb1874, 3, none⟩ = some (.int .i64 a0_3) := (blk_cell BK1874.out 3).trans rfl; have hcz18_4 : w15.cell? ⟨gb1874, 4, none⟩ = some (.int .i64 a0_4) := (blk_cell BK1874.out 4).trans rfl; have hcz18_5 : w15.cell? ⟨gb1874, 5, none⟩ = some (.int .i64 a0_5) := (blk_cell BK1874.out 5).trans rfl; have hcz18_6 : w15.cell? ⟨gb1874, 6, none⟩ = some (.slice (some ad1875) l0_6.length c0_6) := (blk_cell BK1874.out 6).trans rfl; have hfz18_0 := blk_frozen BK1874.out 0; have hfz18_1 := blk_frozen BK1874.out 1; have hfz18_2 := blk_frozen BK1874.out 2; have hfz18_3 := blk_frozen BK1874.out 3; have hfz18_4 := blk_frozen BK1874.out 4; have hfz18_5 := blk_frozen BK1874.out 5; have hfz18_6 := blk_frozen BK1874.out 6) | ((with_reducible refine gate_builtin (b := .append) (xs := #[.tmp 24, .tmp 28]) rfl ?_); at_builtin; refine Kd.R_append (Kd.int .i64) (w0 := w) w.heap.size rfl (.tmp 24) (.tmp 28) 41 3 (.int .i64 0) 8 rfl Try.underlying41 info3 rfl (by decide) (by omega) u5 x5_1 ((rd_T26 l0_6 x11_1).f1.f3) [.int .i64 ((rd_T26 l0_6 x11_1).f1.f3)] (fun _ => True) (fun _ => False) rfl (by (go_simp; done)) ?aP (fun _ hk => hk.elim) ?aF ?aO ?aB ?aS ?aL ?_; (case aP => exact rfl); (case aB => exact (by repeat ((with_reducible first | exact HB.out | refine below_set ?_ GE1876.out)))); (case aF => exact (fun _ _ => trivial)); (case aO => exact (by exact Kd.R_mono (Kd.R_far (p := ⟨gb1876, 6, none⟩) (Kd.R_far (p := ⟨gb1876, 5, none⟩) (Kd.R_far (p := ⟨gb1876, 4, none⟩) (Kd.R_far (p := ⟨gb1876, 3, none⟩) (Kd.R_far (p := ⟨gb1876, 2, none⟩) (Kd.R_far (p := ⟨gb1876, 1, none⟩) (Kd.R_far (p := ⟨gb1876, 0, none⟩) (Kd.R_types HO_5.out BK1876.out (by decide)) (fun _ hk => hk.2) (.int .u8 ((rd_T26 l0_6 x11_1).f0))) (fun _ hk => hk.2) (.int .i64 ((rd_T26 l0_6 x11_1).f1.f0))) (fun _ hk => hk.2) (.int .i64 ((rd_T26 l0_6 x11_1).f1.f1))) (fun _ hk => hk.2) (.int .i64 ((rd_T26 l0_6 x11_1).f1.f2))) (fun _ hk => hk.2) (.int .i64 ((rd_T26 l0_6 x11_1).f1.f3))) (fun _ hk => hk.2) (.int .i64 ((rd_T26 l0_6 x11_1).f2))) (fun _ hk => hk.2) (.slice A1875_6 ((rd_T26 l0_6 x11_1).f3).length c1875_6)) (fun _ hk => trivial))); (case aS => exact (below_size (by repeat ((with_reducible first | exact HB.out | refine below_set ?_ GE1876.out))))); (case aL => have := LMc14.out; omega); intro v1881 w19 ho hb hg hat; rw [← Ny1880.out] at ho; have HO1882 := Aside0.mk (ho); replace BK1874 := Aside0.mk (blk_grown (g := gb1874) (o := .cells #[.int .u8 a0_0, .int .i64 a0_1, .int .i64 a0_2, .int .i64 a0_3, .int .i64 a0_4, .int .i64 a0_5, .slice (some ad1875) l0_6.length c0_6] 26 (0, 0)) (by refine blk_far ?_ NB1874_1876.out _; refine blk_far ?_ NB1874_1876.out _; refine blk_far ?_ NB1874_1876.out _; refine blk_far ?_ NB1874_1876.out _; refine blk_far ?_ NB1874_1876.out _; refine blk_far ?_ NB1874_1876.out _; refine blk_far ?_ NB1874_1876.out _; exact BK1874.out) hg (Kd.R_ne HO_5.out BK1874.out (by decide))); replace BK1876 := Aside0.mk (blk_grown (g := gb1876) (o := .cells #[.int .u8 ((rd_T26 l0_6 x11_1).f0), .int .i64 ((rd_T26 l0_6 x11_1).f1.f0), .int .i64 ((rd_T26 l0_6 x11_1).f1.f1), .int .i64 ((rd_T26 l0_6 x11_1).f1.f2), .int .i64 ((rd_T26 l0_6 x11_1).f1.f3), .int .i64 ((rd_T26 l0_6 x11_1).f2), .slice A1875_6 ((rd_T26 l0_6 x11_1).f3).length c1875_6] 26 (0, 0)) (by refine blk_put (cs := #[.int .u8 ((rd_T26 l0_6 x11_1).f0), .int .i64 ((rd_T26 l0_6 x11_1).f1.f0), .int .i64 ((rd_T26 l0_6 x11_1).f1.f1), .int .i64 ((rd_T26 l0_6 x11_1).f1.f2), .int .i64 ((rd_T26 l0_6 x11_1).f1.f3), .int .i64 ((rd_T26 l0_6 x11_1).f2), .slice none 0 0]) ?_ 6 _ rfl; refine blk_put (cs := #[.int .u8 ((rd_T26 l0_6 x11_1).f0), .int .i64 ((rd_T26 l0_6 x11_1).f1.f0), .int .i64 ((rd_T26 l0_6 x11_1).f1.f1), .int .i64 ((rd_T26 l0_6 x11_1).f1.f2), .int .i64 ((rd_T26 l0_6 x11_1).f1.f3), .int .i64 0, .slice none 0 0]) ?_ 5 _ rfl; refine blk_put (cs := #[.int .u8 ((rd_T26 l0_6 x11_1).f0), .int .i64 ((rd_T26 l0_6 x11_1).f1.f0), .int .i64 ((rd_T26 l0_6 x11_1).f1.f1), .int .i64 ((rd_T26 l0_6 x11_1).f1.f2), .int .i64 0, .int .i64 0, .slice none 0 0]) ?_ 4 _ rfl; refine blk_put (cs := #[.int .u8 ((rd_T26 l0_6 x11_1).f0), .int .i64 ((rd_T26 l0_6 x11_1).f1.f0), .int .i64 ((rd_T26 l0_6 x11_1).f1.f1), .int .i64 0, .int .i64 0, .int .i64 0, .slice none 0 0]) ?_ 3 _ rfl; refine blk_put (cs := #[.int .u8 ((rd_T26 l0_6 x11_1).f0), .int .i64 ((rd_T26 l0_6 x11_1).f1.f0), .int .i64 0, .int .i64 0, .int .i64 0, .int .i64 0, .slice none 0 0]) ?_ 2 _ rfl; refine blk_put (cs := #[.int .u8 ((rd_T26 l0_6 x11_1).f0), .int .i64 0, .int .i64 0, .int .i64 0, .int .i64 0, .int .i64 0, .slice none 0 0]) ?_ 1 _ rfl; refine blk_put (cs := #[.int .u8 0, .int .i64 0, .int .i64 0, .int .i64 0, .int .i64 0, .int .i64 0, .slice none 0 0]) ?_ 0 _ rfl; exact BK1876.out) hg (Kd.R_ne HO_5.out BK1876.out (by decide))); replace HB := Aside0.mk (hb); clear HO_5; clear ho hb hg hat))
        go_roundg k1
        case measure => have := HK1.out; omega
        case rel => exact ⟨(y1880), (wrap64 (x11_1 + 1)), (by rfl), H', ⟨by have := HK1.out; omega⟩, ⟨by exact HO1882.out⟩, ⟨by exact BK1874.out⟩, ⟨by repeat ((with_reducible exact HB.out))⟩⟩
       ·rw [if_neg c14] at H
        exact absurd H (by simp)
     ·rw [if_neg c6] at H
      exact absurd H (by simp)
    ·rw [if_neg c5] at H
     exact absurd H (by simp)
   ·rw [if_neg c4] at H
    have c4b0 : decide (x11_1 < (l0_6.length : Int)) = false := decide_eq_false c4
    clear c4
    replace H := Option.bind_eq_some_iff.mp H
    obtain ⟨⟨t1883, t1886, t1889⟩, A200, H⟩ := H
    replace H : (some (t1883, t1886, t1889)) = some (r1, r2, r3) := H
    have A20 := Aside0.mk A200
    clear A200
    simp only [Option.some.injEq, Prod.mk.injEq] at H
    obtain ⟨rfl, rfl, rfl⟩ := H
    have hcz21_0 : wr.cell? ⟨gb1874, 0, none⟩ = some (.int .u8 a0_0) := (blk_cell BK1874.out 0).trans rfl
    have hcz21_1 : wr.cell? ⟨gb1874, 1, none⟩ = some (.int .i64 a0_1) := (blk_cell BK1874.out 1).trans rfl
    have hcz21_2 : wr.cell? ⟨gb1874, 2, none⟩ = some (.int .i64 a0_2) := (blk_cell BK1874.out 2).trans rfl
    have hcz21_3 : wr.cell? ⟨gb1874, 3, none⟩ = some (.int .i64 a0_3) := (blk_cell BK1874.out 3).trans rfl
    have hcz21_4 : wr.cell? ⟨gb1874, 4, none⟩ = some (.int .i64 a0_4) := (blk_cell BK1874.out 4).trans rfl
    have hcz21_5 : wr.cell? ⟨gb1874, 5, none⟩ = some (.int .i64 a0_5) := (blk_cell BK1874.out 5).trans rfl
    have hcz21_6 : wr.cell? ⟨gb1874, 6, none⟩ = some (.slice A0_6 l0_6.length c0_6) := (blk_cell BK1874.out 6).trans rfl
    have hfz21_0 := blk_frozen BK1874.out 0
    have hfz21_1 := blk_frozen BK1874.out 1
    have hfz21_2 := blk_frozen BK1874.out 2
    have hfz21_3 := blk_frozen BK1874.out 3
    have hfz21_4 := blk_frozen BK1874.out 4
    have hfz21_5 := blk_frozen BK1874.out 5
    have hfz21_6 := blk_frozen BK1874.out 6
    obtain ⟨Ao22, co22, eo22⟩ := Kd.R_slice HO_5.out
    subst eo22
    go_wp2_with (((with_reducible refine gate_callee (f := 45) rfl ?_); refine goesL_ (some 38) rfl rfl Try.func45 (by kernel_rfl) rfl #[.agg #[.int .i64 a0_1, .int .i64 a0_2, .int .i64 a0_3, .int .i64 a0_4], .int .u8 ((((a0_0 - 2) % 256) + 1) % 256), .slice Ao22 x5_1.length co22] rfl (by (try simp only [List.map_toArray, List.map_cons, List.map_nil]); rfl) ?_; (with_reducible refine (rect_Cut.calls k1 a0_1 a0_2 a0_3 a0_4 ((((a0_0 - 2) % 256) + 1) % 256) _ _ x5_1 t1883 t1886 t1889 _ ?side1 ?side2 A20.out).mono ?_); (case side1 => repeat (exact (Kd.R_reads' HO_5.out).2.2)); (case side2 => exact (Kd.R_reads' HO_5.out).2.1); rintro e w23 ⟨v1884, v1887, rfl, ho0, ho1, hb⟩; refine ⟨_, rfl, ?_⟩; have HO1885 := Aside0.mk (Kd.R_lower ho0 (below_size (by repeat ((with_reducible exact HB.out))))); have HO1888 := Aside0.mk (Kd.R_lower ho1 (below_size (by repeat ((with_reducible exact HB.out))))); replace HO_5 := Aside0.mk (Kd.R_below HO_5.out hb); replace BK1874 := Aside0.mk (blk_below BK1874.out hb); replace HB := Aside0.mk (below_step (by repeat ((with_reducible exact HB.out))) hb); (try clear hb); (try clear ho0); (try clear ho1)))
    go_ret3
    exact ⟨_, _, by rfl, by exact HO1885.out, by exact HO1888.out, by repeat ((with_reducible exact HB.out))⟩

end Go.Proofs.Ytfdmfgaiblfbhaa.P
/- The contract of tile.lines (and of its closure): the lines of a cell alone, and whether it tiles. -/
namespace Go.Proofs.Ytfdmfgaiblfbhaa.P
open Go.RowKit Go.Proofs.YtfdmfgaiblfbhaaW.PrintWords Go.Proofs.YtfdmfgaiblfbhaaW.PrintLast Go.Proofs.YtfdmfgaiblfbhaaW.PrintMore
set_option linter.unusedVariables false
set_option linter.unusedSimpArgs false
set_option maxHeartbeats 2000000 in
set_option maxRecDepth 100000 in
theorem clo212 (ak ax ay aw ah aid bx by_ bw bh : Int) (A : Option Addr) (la : List S26) (ca : Nat) (w : World) :
    Calls Try.prog 212 #[.agg #[.int .u8 ak, .int .i64 ax, .int .i64 ay, .int .i64 aw, .int .i64 ah, .int .i64 aid, .slice A la.length ca], .agg #[.int .i64 bx, .int .i64 by_, .int .i64 bw, .int .i64 bh]] w fun e w' => e = .returned (.bool (rectB ⟨ax, ay, aw, ah⟩ ⟨bx, by_, bw, bh⟩)) ∧ Below w.heap.size w w' := by
  have HB := Aside0.mk (Below.refl w.heap.size w)
  have hu23 := Try.underlying23
  simp only [rectB]
  by_cases e_ : ax = bx
  rotate_left
  · have k_ : (ax == bx) = false := beq_eq_false_iff_ne.mpr e_
    clear e_
    simp only [k_, beq_self_eq_true, Bool.true_and, Bool.false_and, Bool.and_false]
    go_enter Try.func212, Try.ntmps212
    go_wp2_with (first | ((with_reducible refine gate_dst (N := 2) rfl ?_); refine box_event ?hg (N := 2) ?hd (cs := #[.int .u8 ak, .int .i64 ax, .int .i64 ay, .int .i64 aw, .int .i64 ah, .int .i64 aid, .slice A la.length ca]) (t := 26) ?hr ?_; (case hd => rfl); (case hg => rfl); (case hr => (go_simp; done)); intro b2 hg wbb2 hbox hb; have Kb2 := Aside0.mk hbox; have q_ := Aside0.mk (below_step HB.out hb); clear HB; have HB := q_; clear q_; clear hb hbox hg) | ((with_reducible refine gate_dst (N := 3) rfl ?_); refine box_event ?hg (N := 3) ?hd (cs := #[.int .i64 bx, .int .i64 by_, .int .i64 bw, .int .i64 bh]) (t := 23) ?hr ?_; (case hd => rfl); (case hg => rfl); (case hr => (go_simp; done)); intro b3 hg wbb3 hbox hb; have Kb3 := Aside0.mk hbox; have q_ := Aside0.mk (below_step HB.out hb); clear HB; have HB := q_; clear q_; have q2_ := Aside0.mk (blk_below Kb2.out hb); clear Kb2; have Kb2 := q2_; clear q2_; have c0 := (blk_cell Kb2.out 0).trans rfl; have c1 := (blk_cell Kb2.out 1).trans rfl; have c2 := (blk_cell Kb2.out 2).trans rfl; have c3 := (blk_cell Kb2.out 3).trans rfl; have c4 := (blk_cell Kb2.out 4).trans rfl; have c5 := (blk_cell Kb2.out 5).trans rfl; have c6 := (blk_cell Kb2.out 6).trans rfl; have d0 := (blk_cell Kb3.out 0).trans rfl; have d1 := (blk_cell Kb3.out 1).trans rfl; have d2 := (blk_cell Kb3.out 2).trans rfl; have d3 := (blk_cell Kb3.out 3).trans rfl; clear hb hbox hg))
    go_ret
    exact ⟨rfl, HB.out⟩
  subst e_
  by_cases e_ : ay = by_
  rotate_left
  · have k_ : (ay == by_) = false := beq_eq_false_iff_ne.mpr e_
    clear e_
    simp only [k_, beq_self_eq_true, Bool.true_and, Bool.false_and, Bool.and_false]
    go_enter Try.func212, Try.ntmps212
    go_wp2_with (first | ((with_reducible refine gate_dst (N := 2) rfl ?_); refine box_event ?hg (N := 2) ?hd (cs := #[.int .u8 ak, .int .i64 ax, .int .i64 ay, .int .i64 aw, .int .i64 ah, .int .i64 aid, .slice A la.length ca]) (t := 26) ?hr ?_; (case hd => rfl); (case hg => rfl); (case hr => (go_simp; done)); intro b2 hg wbb2 hbox hb; have Kb2 := Aside0.mk hbox; have q_ := Aside0.mk (below_step HB.out hb); clear HB; have HB := q_; clear q_; clear hb hbox hg) | ((with_reducible refine gate_dst (N := 3) rfl ?_); refine box_event ?hg (N := 3) ?hd (cs := #[.int .i64 ax, .int .i64 by_, .int .i64 bw, .int .i64 bh]) (t := 23) ?hr ?_; (case hd => rfl); (case hg => rfl); (case hr => (go_simp; done)); intro b3 hg wbb3 hbox hb; have Kb3 := Aside0.mk hbox; have q_ := Aside0.mk (below_step HB.out hb); clear HB; have HB := q_; clear q_; have q2_ := Aside0.mk (blk_below Kb2.out hb); clear Kb2; have Kb2 := q2_; clear q2_; have c0 := (blk_cell Kb2.out 0).trans rfl; have c1 := (blk_cell Kb2.out 1).trans rfl; have c2 := (blk_cell Kb2.out 2).trans rfl; have c3 := (blk_cell Kb2.out 3).trans rfl; have c4 := (blk_cell Kb2.out 4).trans rfl; have c5 := (blk_cell Kb2.out 5).trans rfl; have c6 := (blk_cell Kb2.out 6).trans rfl; have d0 := (blk_cell Kb3.out 0).trans rfl; have d1 := (blk_cell Kb3.out 1).trans rfl; have d2 := (blk_cell Kb3.out 2).trans rfl; have d3 := (blk_cell Kb3.out 3).trans rfl; clear hb hbox hg))
    go_ret
    exact ⟨rfl, HB.out⟩
  subst e_
  by_cases e_ : aw = bw
  rotate_left
  · have k_ : (aw == bw) = false := beq_eq_false_iff_ne.mpr e_
    clear e_
    simp only [k_, beq_self_eq_true, Bool.true_and, Bool.false_and, Bool.and_false]
    go_enter Try.func212, Try.ntmps212
    go_wp2_with (first | ((with_reducible refine gate_dst (N := 2) rfl ?_); refine box_event ?hg (N := 2) ?hd (cs := #[.int .u8 ak, .int .i64 ax, .int .i64 ay, .int .i64 aw, .int .i64 ah, .int .i64 aid, .slice A la.length ca]) (t := 26) ?hr ?_; (case hd => rfl); (case hg => rfl); (case hr => (go_simp; done)); intro b2 hg wbb2 hbox hb; have Kb2 := Aside0.mk hbox; have q_ := Aside0.mk (below_step HB.out hb); clear HB; have HB := q_; clear q_; clear hb hbox hg) | ((with_reducible refine gate_dst (N := 3) rfl ?_); refine box_event ?hg (N := 3) ?hd (cs := #[.int .i64 ax, .int .i64 ay, .int .i64 bw, .int .i64 bh]) (t := 23) ?hr ?_; (case hd => rfl); (case hg => rfl); (case hr => (go_simp; done)); intro b3 hg wbb3 hbox hb; have Kb3 := Aside0.mk hbox; have q_ := Aside0.mk (below_step HB.out hb); clear HB; have HB := q_; clear q_; have q2_ := Aside0.mk (blk_below Kb2.out hb); clear Kb2; have Kb2 := q2_; clear q2_; have c0 := (blk_cell Kb2.out 0).trans rfl; have c1 := (blk_cell Kb2.out 1).trans rfl; have c2 := (blk_cell Kb2.out 2).trans rfl; have c3 := (blk_cell Kb2.out 3).trans rfl; have c4 := (blk_cell Kb2.out 4).trans rfl; have c5 := (blk_cell Kb2.out 5).trans rfl; have c6 := (blk_cell Kb2.out 6).trans rfl; have d0 := (blk_cell Kb3.out 0).trans rfl; have d1 := (blk_cell Kb3.out 1).trans rfl; have d2 := (blk_cell Kb3.out 2).trans rfl; have d3 := (blk_cell Kb3.out 3).trans rfl; clear hb hbox hg))
    go_ret
    exact ⟨rfl, HB.out⟩
  subst e_
  by_cases e_ : ah = bh
  rotate_left
  · have k_ : (ah == bh) = false := beq_eq_false_iff_ne.mpr e_
    clear e_
    simp only [k_, beq_self_eq_true, Bool.true_and, Bool.false_and, Bool.and_false]
    go_enter Try.func212, Try.ntmps212
    go_wp2_with (first | ((with_reducible refine gate_dst (N := 2) rfl ?_); refine box_event ?hg (N := 2) ?hd (cs := #[.int .u8 ak, .int .i64 ax, .int .i64 ay, .int .i64 aw, .int .i64 ah, .int .i64 aid, .slice A la.length ca]) (t := 26) ?hr ?_; (case hd => rfl); (case hg => rfl); (case hr => (go_simp; done)); intro b2 hg wbb2 hbox hb; have Kb2 := Aside0.mk hbox; have q_ := Aside0.mk (below_step HB.out hb); clear HB; have HB := q_; clear q_; clear hb hbox hg) | ((with_reducible refine gate_dst (N := 3) rfl ?_); refine box_event ?hg (N := 3) ?hd (cs := #[.int .i64 ax, .int .i64 ay, .int .i64 aw, .int .i64 bh]) (t := 23) ?hr ?_; (case hd => rfl); (case hg => rfl); (case hr => (go_simp; done)); intro b3 hg wbb3 hbox hb; have Kb3 := Aside0.mk hbox; have q_ := Aside0.mk (below_step HB.out hb); clear HB; have HB := q_; clear q_; have q2_ := Aside0.mk (blk_below Kb2.out hb); clear Kb2; have Kb2 := q2_; clear q2_; have c0 := (blk_cell Kb2.out 0).trans rfl; have c1 := (blk_cell Kb2.out 1).trans rfl; have c2 := (blk_cell Kb2.out 2).trans rfl; have c3 := (blk_cell Kb2.out 3).trans rfl; have c4 := (blk_cell Kb2.out 4).trans rfl; have c5 := (blk_cell Kb2.out 5).trans rfl; have c6 := (blk_cell Kb2.out 6).trans rfl; have d0 := (blk_cell Kb3.out 0).trans rfl; have d1 := (blk_cell Kb3.out 1).trans rfl; have d2 := (blk_cell Kb3.out 2).trans rfl; have d3 := (blk_cell Kb3.out 3).trans rfl; clear hb hbox hg))
    go_ret
    exact ⟨rfl, HB.out⟩
  subst e_
  simp only [beq_self_eq_true, Bool.true_and]
  go_enter Try.func212, Try.ntmps212
  go_wp2_with (first | ((with_reducible refine gate_dst (N := 2) rfl ?_); refine box_event ?hg (N := 2) ?hd (cs := #[.int .u8 ak, .int .i64 ax, .int .i64 ay, .int .i64 aw, .int .i64 ah, .int .i64 aid, .slice A la.length ca]) (t := 26) ?hr ?_; (case hd => rfl); (case hg => rfl); (case hr => (go_simp; done)); intro b2 hg wbb2 hbox hb; have Kb2 := Aside0.mk hbox; have q_ := Aside0.mk (below_step HB.out hb); clear HB; have HB := q_; clear q_; clear hb hbox hg) | ((with_reducible refine gate_dst (N := 3) rfl ?_); refine box_event ?hg (N := 3) ?hd (cs := #[.int .i64 ax, .int .i64 ay, .int .i64 aw, .int .i64 ah]) (t := 23) ?hr ?_; (case hd => rfl); (case hg => rfl); (case hr => (go_simp; done)); intro b3 hg wbb3 hbox hb; have Kb3 := Aside0.mk hbox; have q_ := Aside0.mk (below_step HB.out hb); clear HB; have HB := q_; clear q_; have q2_ := Aside0.mk (blk_below Kb2.out hb); clear Kb2; have Kb2 := q2_; clear q2_; have c0 := (blk_cell Kb2.out 0).trans rfl; have c1 := (blk_cell Kb2.out 1).trans rfl; have c2 := (blk_cell Kb2.out 2).trans rfl; have c3 := (blk_cell Kb2.out 3).trans rfl; have c4 := (blk_cell Kb2.out 4).trans rfl; have c5 := (blk_cell Kb2.out 5).trans rfl; have c6 := (blk_cell Kb2.out 6).trans rfl; have d0 := (blk_cell Kb3.out 0).trans rfl; have d1 := (blk_cell Kb3.out 1).trans rfl; have d2 := (blk_cell Kb3.out 2).trans rfl; have d3 := (blk_cell Kb3.out 3).trans rfl; clear hb hbox hg))
  go_ret
  exact ⟨rfl, HB.out⟩
def oneT (c : S26) (t : List S23 × List S23 × Bool) : Bool := c.f0 == 1 || (t.2.2 && (c.f3.length == t.1.length && eqL (fun k r => rectB k.f1 r) c.f3 t.1))
def linesT (c : S26) (t : List S23 × List S23 × Bool) : List S23 := if c.f0 = 1 then [] else t.2.1
set_option maxHeartbeats 2000000 in
set_option maxRecDepth 100000 in
theorem lines206 (k : Nat) (c : S26) (A : Option Addr) (cc : Nat) (t : List S23 × List S23 × Bool) (w : World) (hr : Kd.C k26 w A c.f3.length c.f3) (hc : c.f3.length ≤ cc) (h : c.f0 ≠ 1 → tile_cut.f k c.f0 c.f1.f0 c.f1.f1 c.f1.f2 c.f1.f3 c.f2 c.f3 = some t) :
    Calls Try.prog 206 #[.agg #[.int .u8 c.f0, .int .i64 c.f1.f0, .int .i64 c.f1.f1, .int .i64 c.f1.f2, .int .i64 c.f1.f3, .int .i64 c.f2, .slice A c.f3.length cc]] w fun e w' => ∃ v : Value, e = .returned (.tuple #[v, .bool (oneT c t)]) ∧ Kd.R k23 23 w' w.heap.size (fun _ => True) v (linesT c t) ∧ Below w.heap.size w w' := by
  have HR := Aside0.mk hr
  have HC := Aside0.mk hc
  have HT := Aside0.mk h
  have HB := Aside0.mk (Below.refl w.heap.size w)
  clear hr hc h
  obtain ⟨ck, ⟨cx, cy, cw, ch⟩, cid, l⟩ := c
  obtain ⟨t1, t2, t3⟩ := t
  simp only [oneT, linesT] at HR HC HT ⊢
  by_cases k1 : ck = 1
  · have k1b : (ck == 1) = true := beq_iff_eq.mpr k1
    simp only [k1b, Bool.true_or, if_pos k1]
    clear k1 HT
    go_enter Try.func206, Try.ntmps206
    go_wp2_with (((with_reducible refine gate_dst (N := 1) rfl ?_); refine box_event ?hg (N := 1) ?hd (cs := #[.int .u8 ck, .int .i64 cx, .int .i64 cy, .int .i64 cw, .int .i64 ch, .int .i64 cid, .slice A l.length cc]) (t := 26) ?hr ?_; (case hd => rfl); (case hg => rfl); (case hr => (go_simp; done)); intro b1 hg wbb1 hbox hb; have Kb1 := Aside0.mk hbox; have q_ := Aside0.mk (below_step HB.out hb); clear HB; have HB := q_; clear q_; have c0 := (blk_cell Kb1.out 0).trans rfl; have c1 := (blk_cell Kb1.out 1).trans rfl; have c2 := (blk_cell Kb1.out 2).trans rfl; have c3 := (blk_cell Kb1.out 3).trans rfl; have c4 := (blk_cell Kb1.out 4).trans rfl; have c5 := (blk_cell Kb1.out 5).trans rfl; have c6 := (blk_cell Kb1.out 6).trans rfl; clear hb hbox hg))
    go_ret2
    exact ⟨_, rfl, Kd.R_nil _ _ _ _ _, HB.out⟩
  · have k1b : (ck == 1) = false := beq_eq_false_iff_ne.mpr k1
    have HT := Aside0.mk (HT.out k1)
    simp only [k1b, Bool.false_or, if_neg k1]
    clear k1
    cases t3 with
    | false =>
      rw [Bool.false_and]
      go_enter Try.func206, Try.ntmps206
      go_wp2_with (((with_reducible refine gate_dst (N := 1) rfl ?_); refine box_event ?hg (N := 1) ?hd (cs := #[.int .u8 ck, .int .i64 cx, .int .i64 cy, .int .i64 cw, .int .i64 ch, .int .i64 cid, .slice A l.length cc]) (t := 26) ?hr ?_; (case hd => rfl); (case hg => rfl); (case hr => (go_simp; done)); intro b1 hg wbb1 hbox hb; have Kb1 := Aside0.mk hbox; have q_ := Aside0.mk (below_step HB.out hb); clear HB; have HB := q_; clear q_; have c0 := (blk_cell Kb1.out 0).trans rfl; have c1 := (blk_cell Kb1.out 1).trans rfl; have c2 := (blk_cell Kb1.out 2).trans rfl; have c3 := (blk_cell Kb1.out 3).trans rfl; have c4 := (blk_cell Kb1.out 4).trans rfl; have c5 := (blk_cell Kb1.out 5).trans rfl; have c6 := (blk_cell Kb1.out 6).trans rfl; clear hb hbox hg))
      clear c0 c1 c2 c3 c4 c5 c6
      refine (tile_cut.calls k ck cx cy cw ch cid A cc l _ _ _ _ (Kd.C_below HR.out HB.out) HC.out HT.out).mono ?_
      rintro e w' ⟨v0, v1, rfl, h0, h1, hb⟩
      have H0 := Aside0.mk h0
      have H1 := Aside0.mk (Kd.R_lower h1 HB.out.size)
      have q1_ := Aside0.mk (blk_below Kb1.out hb)
      clear Kb1
      have Kb1 := q1_
      clear q1_
      have q_ := Aside0.mk (below_step HB.out hb); clear HB; have HB := q_; clear q_
      clear hb h0 h1
      obtain ⟨Ap, cp, ep⟩ := Kd.R_slice H0.out
      subst ep
      have c0 := (blk_cell Kb1.out 0).trans rfl
      have c1 := (blk_cell Kb1.out 1).trans rfl
      have c2 := (blk_cell Kb1.out 2).trans rfl
      have c3 := (blk_cell Kb1.out 3).trans rfl
      have c4 := (blk_cell Kb1.out 4).trans rfl
      have c5 := (blk_cell Kb1.out 5).trans rfl
      have c6 := (blk_cell Kb1.out 6).trans rfl
      go_wp2
      go_ret2
      exact ⟨_, rfl, Kd.R_mono H1.out (fun _ _ => trivial), HB.out⟩
    | true =>
      rw [Bool.true_and]
      go_enter Try.func206, Try.ntmps206
      go_wp2_with (((with_reducible refine gate_dst (N := 1) rfl ?_); refine box_event ?hg (N := 1) ?hd (cs := #[.int .u8 ck, .int .i64 cx, .int .i64 cy, .int .i64 cw, .int .i64 ch, .int .i64 cid, .slice A l.length cc]) (t := 26) ?hr ?_; (case hd => rfl); (case hg => rfl); (case hr => (go_simp; done)); intro b1 hg wbb1 hbox hb; have Kb1 := Aside0.mk hbox; have q_ := Aside0.mk (below_step HB.out hb); clear HB; have HB := q_; clear q_; have c0 := (blk_cell Kb1.out 0).trans rfl; have c1 := (blk_cell Kb1.out 1).trans rfl; have c2 := (blk_cell Kb1.out 2).trans rfl; have c3 := (blk_cell Kb1.out 3).trans rfl; have c4 := (blk_cell Kb1.out 4).trans rfl; have c5 := (blk_cell Kb1.out 5).trans rfl; have c6 := (blk_cell Kb1.out 6).trans rfl; clear hb hbox hg))
      clear c0 c1 c2 c3 c4 c5 c6
      refine (tile_cut.calls k ck cx cy cw ch cid A cc l _ _ _ _ (Kd.C_below HR.out HB.out) HC.out HT.out).mono ?_
      rintro e w' ⟨v0, v1, rfl, h0, h1, hb⟩
      have H0 := Aside0.mk h0
      have H1 := Aside0.mk (Kd.R_lower h1 HB.out.size)
      have q1_ := Aside0.mk (blk_below Kb1.out hb)
      clear Kb1
      have Kb1 := q1_
      clear q1_
      have q_ := Aside0.mk (below_step HB.out hb); clear HB; have HB := q_; clear q_
      clear hb h0 h1
      obtain ⟨Ap, cp, ep⟩ := Kd.R_slice H0.out
      subst ep
      have c0 := (blk_cell Kb1.out 0).trans rfl
      have c1 := (blk_cell Kb1.out 1).trans rfl
      have c2 := (blk_cell Kb1.out 2).trans rfl
      have c3 := (blk_cell Kb1.out 3).trans rfl
      have c4 := (blk_cell Kb1.out 4).trans rfl
      have c5 := (blk_cell Kb1.out 5).trans rfl
      have c6 := (blk_cell Kb1.out 6).trans rfl
      go_wp2_with fail
      refine ((eqf211 (fun k r => rectB k.f1 r) 212 (enters_fn Try.func212 (by decide +kernel) (by kernel_rfl)) l t1 A Ap cc cp _ (Kd.C_below HR.out HB.out) (Kd.R_reads' H0.out).2.2 (fun W x X cx y _ _ _ _ => clo212 _ _ _ _ _ _ _ _ _ _ X x.f3 cx W))).mono ?_
      rintro e ws ⟨rfl, hb⟩
      have q1_ := Aside0.mk (Kd.R_below H1.out hb)
      clear H1
      have H1 := q1_
      have q_ := Aside0.mk (below_step HB.out hb); clear HB; have HB := q_; clear q_
      clear hb q1_
      go_wp2
      go_ret2
      exact ⟨_, rfl, Kd.R_mono H1.out (fun _ _ => trivial), HB.out⟩
end Go.Proofs.Ytfdmfgaiblfbhaa.P
/- What a cell is cut into, and whether a tree tiles: plain data, out of the answer that the code's cut and the reference's share. -/
namespace Go.Proofs.Ytfdmfgaiblfbhaa.P
open Go.RowKit Go.Proofs.YtfdmfgaiblfbhaaW.PrintWords Go.Proofs.YtfdmfgaiblfbhaaW.PrintLast Go.Proofs.YtfdmfgaiblfbhaaW.PrintMore
def axC (k : Int) : Int := (((k - 2) % 256) + 1) % 256
def szK (c k : S26) : Int := if c.f0 = 2 then k.f1.f2 else k.f1.f3
def sizesC (c : S26) : List Int := c.f3.map (szK c)
theorem cut_any (c : S26) : ∃ t : List S23 × List S23 × Bool, c.f3.length ≤ 20000 → (t.1.length ≤ c.f3.length ∧ t.2.1.length ≤ c.f3.length) ∧ ((t.2.2 = true → (axC c.f0 = 1 ∨ axC c.f0 = 2) ∧ t.1 = cutP (axC c.f0) c.f1.f0 c.f1.f1 c.f1.f2 c.f1.f3 0 (sizesC c) ∧ (sizesC c).sum + ((sizesC c).length : Int) - 1 = tX (axC c.f0) c.f1.f2 c.f1.f3 ∧ ∀ m, m ∈ sizesC c → 1 ≤ m)) ∧ Ev (fun k => rect_Cut.f k c.f1.f0 c.f1.f1 c.f1.f2 c.f1.f3 (axC c.f0) (sizesC c)) t ∧ Ev (fun k => sashref04_Cut.f k c.f1.f0 c.f1.f1 c.f1.f2 c.f1.f3 (axC c.f0) (sizesC c)) t := by
  by_cases h : c.f3.length ≤ 20000
  · obtain ⟨t, h1, hg, h2, h3⟩ := Pure.cut_alike c.f1.f0 c.f1.f1 c.f1.f2 c.f1.f3 (axC c.f0) (by unfold axC U8; omega) (sizesC c) (by simpa [sizesC] using h)
    rw [show (sizesC c).length = c.f3.length from by simp [sizesC]] at h1
    exact ⟨t, fun _ => ⟨h1, hg, h2, h3⟩⟩
  · exact ⟨([], [], false), fun h' => absurd h' h⟩
noncomputable def cutT (c : S26) : List S23 × List S23 × Bool := Classical.choose (cut_any c)
theorem cutT_spec (c : S26) (h : c.f3.length ≤ 20000) : ((cutT c).1.length ≤ c.f3.length ∧ (cutT c).2.1.length ≤ c.f3.length) ∧ (((cutT c).2.2 = true → (axC c.f0 = 1 ∨ axC c.f0 = 2) ∧ (cutT c).1 = cutP (axC c.f0) c.f1.f0 c.f1.f1 c.f1.f2 c.f1.f3 0 (sizesC c) ∧ (sizesC c).sum + ((sizesC c).length : Int) - 1 = tX (axC c.f0) c.f1.f2 c.f1.f3 ∧ ∀ m, m ∈ sizesC c → 1 ≤ m)) ∧ Ev (fun k => rect_Cut.f k c.f1.f0 c.f1.f1 c.f1.f2 c.f1.f3 (axC c.f0) (sizesC c)) (cutT c) ∧ Ev (fun k => sashref04_Cut.f k c.f1.f0 c.f1.f1 c.f1.f2 c.f1.f3 (axC c.f0) (sizesC c)) (cutT c) := Classical.choose_spec (cut_any c) h
noncomputable def oneB (c : S26) : Bool := oneT c (cutT c)
noncomputable def linesB (c : S26) : List S23 := linesT c (cutT c)
noncomputable def tilesB (c : S26) : Bool := (allC c).all oneB
theorem linesB_len (c : S26) (h : c.f3.length ≤ 20000) : (linesB c).length ≤ c.f3.length := by
  unfold linesB linesT
  split
  · exact Nat.zero_le _
  · exact (cutT_spec c h).1.2
theorem tilesB_eq (c : S26) : tilesB c = (oneB c && c.f3.all tilesB) := by
  unfold tilesB
  rw [allC_eq, List.all_cons]
  congr 1
  generalize c.f3 = l
  induction l with
  | nil => rw [allL_nil]; rfl
  | cons x xs ih => rw [allL_cons, List.all_append, List.all_cons, ih]
theorem tile_cut_ev (c : S26) (h : c.f3.length ≤ 20000) : Ev (fun k => tile_cut.f k c.f0 c.f1.f0 c.f1.f1 c.f1.f2 c.f1.f3 c.f2 c.f3) (cutT c) := by
  have key : ∀ (rest pre : List S26), pre ++ rest = c.f3 → Ev (fun k => tile_cut.l0 k (pre.map (szK c)) c.f3 (c.f3.length : Int) (pre.length : Int) c.f0 c.f1.f0 c.f1.f1 c.f1.f2 c.f1.f3 c.f2 c.f3) (cutT c) := by
    intro rest
    induction rest with
    | nil =>
      intro pre hp
      rw [List.append_nil] at hp
      subst hp
      refine Ev.step (f := fun k => (rect_Cut.f k c.f1.f0 c.f1.f1 c.f1.f2 c.f1.f3 (axC c.f0) (sizesC c)).bind fun bt => some (bt.1, bt.2.1, bt.2.2)) (fun k => ?_) (Ev.bind (cutT_spec c h).2.2.1 (Ev.now _))
      simp only [tile_cut.l0]
      rw [if_neg (by omega)]
      rfl
    | cons x xs ih =>
      intro pre hp
      have hl : (pre.length : Int) < (c.f3.length : Int) := by rw [← hp, List.length_append, List.length_cons]; omega
      have hr : rd_T26 c.f3 (pre.length : Int) = x := by rw [← hp]; exact rd26_in pre x xs
      have hu : wrap64 ((pre.length : Int) + 1) = ((pre ++ [x]).length : Int) := up_in pre x xs (by rw [hp]; omega)
      have e2 := ih (pre ++ [x]) (by rw [List.append_assoc]; exact hp)
      have hm : (pre ++ [x]).map (szK c) = pre.map (szK c) ++ [szK c x] := by simp
      rw [hm] at e2
      refine Ev.step (fun k => ?_) e2
      simp only [tile_cut.l0]
      rw [if_pos hl, if_pos (by omega), if_pos hl, hr, hu, List.length_map]
      by_cases h2 : c.f0 = 2
      · rw [if_pos h2, if_pos (by omega), show szK c x = x.f1.f2 from if_pos h2]
      · rw [if_neg h2, if_pos (by omega), show szK c x = x.f1.f3 from if_neg h2]
  unfold tile_cut.f
  exact key c.f3 [] rfl
theorem lines_rounds (c : S26) (h : c.f3.length ≤ 20000) : ∃ k, c.f0 ≠ 1 → tile_cut.f k c.f0 c.f1.f0 c.f1.f1 c.f1.f2 c.f1.f3 c.f2 c.f3 = some (cutT c) := by
  obtain ⟨k, hk⟩ := tile_cut_ev c h
  exact ⟨k, fun _ => hk k (Nat.le_refl _)⟩
end Go.Proofs.Ytfdmfgaiblfbhaa.P
/- The walker of package tile: it goes through a tree that may be, and tells whether all its cells tile. -/
namespace Go.Proofs.Ytfdmfgaiblfbhaa.P
open Go.RowKit Go.Proofs.YtfdmfgaiblfbhaaW.PrintWords Go.Proofs.YtfdmfgaiblfbhaaW.PrintLast Go.Proofs.YtfdmfgaiblfbhaaW.PrintMore
set_option linter.unusedVariables false
set_option linter.unusedSimpArgs false
/-- The walker's block, and its row of lines. -/
def WalkI (w0 : World) (gw j : Nat) (W : World) : Prop := Below w0.heap.size w0 W ∧ ∃ (n : Int) (v : Value) (ls : List S23), W.heap[gw]? = some (.cells #[.int .i64 n, v] 182 (0, 0)) ∧ Kd.R k23 23 W w0.heap.size (fun _ => True) v ls ∧ ls.length ≤ j
/-- All blocks but the walker's, and but rows of lines, stay. -/
def Fr (gw : Nat) (W W' : World) : Prop := ∀ k cs t, k ≠ gw → t ≠ 23 → W.heap[k]? = some (.cells cs t (0, 0)) → W'.heap[k]? = some (.cells cs t (0, 0))
theorem Fr.refl (gw : Nat) (W : World) : Fr gw W W := fun _ _ _ _ _ h => h
theorem Fr.trans {gw : Nat} {W W1 W2 : World} (h : Fr gw W W1) (k : Fr gw W1 W2) : Fr gw W W2 := fun i cs t hi ht hb => k i cs t hi ht (h i cs t hi ht hb)
theorem Fr.below {gw : Nat} {W W1 : World} (h : Below W.heap.size W W1) : Fr gw W W1 := fun _ _ _ _ _ hb => blk_below hb h
theorem Fr.store {gw : Nat} {W W1 : World} (h : W.grownBy W1 (some gw)) : Fr gw W W1 := fun _ _ _ hi _ hb => blk_grown hb h (fun e => absurd (Option.some.inj e) hi)
theorem Fr.append {gw base : Nat} {W W1 : World} {v : Value} {xs : List S23} {ok : Nat → Prop} (hv : Kd.R k23 23 W base ok v xs) (h : W.grownBy W1 v.ownBlock) : Fr gw W W1 := fun _ _ _ _ ht hb => blk_grown hb h (Kd.R_ne hv hb (fun e => ht e.symm))
theorem WalkI.below {w0 W W1 : World} {gw j : Nat} (h : WalkI w0 gw j W) (hb : Below W.heap.size W W1) : WalkI w0 gw j W1 := by
  obtain ⟨h1, n, v, ls, h2, h3, h4⟩ := h
  exact ⟨below_step h1 hb, n, v, ls, blk_below h2 hb, Kd.R_below h3 hb, h4⟩
theorem WalkI.mono {w0 W : World} {gw j j' : Nat} (h : WalkI w0 gw j W) (hj : j ≤ j') : WalkI w0 gw j' W := by
  obtain ⟨h1, n, v, ls, h2, h3, h4⟩ := h
  exact ⟨h1, n, v, ls, h2, h3, Nat.le_trans h4 hj⟩
set_option maxHeartbeats 1000000 in
theorem clo207 (x : S26) (B : Option Addr) (cb b3 gw : Nat) (r : Bool) (R : World → Prop) (W : World) (hk : W.heap[b3]? = some (.cells #[.pointer (some ⟨gw, 0, none⟩)] 180 (0, 0)))
    (h : ∀ W1, Below W.heap.size W W1 → Calls Try.prog 197 #[.pointer (some ⟨gw, 0, none⟩), .agg #[.int .u8 x.f0, .int .i64 x.f1.f0, .int .i64 x.f1.f1, .int .i64 x.f1.f2, .int .i64 x.f1.f3, .int .i64 x.f2, .slice B x.f3.length cb]] W1 fun e w' => e = .returned (.bool r) ∧ R w') :
    Calls Try.prog 207 (#[.agg #[.int .u8 x.f0, .int .i64 x.f1.f0, .int .i64 x.f1.f1, .int .i64 x.f1.f2, .int .i64 x.f1.f3, .int .i64 x.f2, .slice B x.f3.length cb]] ++ #[.pointer (some ⟨b3, 0, none⟩)]) W fun e w' => e = .returned (.bool (!r)) ∧ R w' := by
  have HK := Aside0.mk hk
  have H := Aside0.mk h
  clear hk h
  simp only [List.append_toArray, List.cons_append, List.nil_append]
  cases r
  all_goals
    go_enter Try.func207, Try.ntmps207
    go_wp2_with (((with_reducible refine gate_dst (N := 2) rfl ?_); refine box_event ?hg (N := 2) ?hd (cs := #[.int .u8 x.f0, .int .i64 x.f1.f0, .int .i64 x.f1.f1, .int .i64 x.f1.f2, .int .i64 x.f1.f3, .int .i64 x.f2, .slice B x.f3.length cb]) (t := 26) ?hr ?_; (case hd => rfl); (case hg => rfl); (case hr => (go_simp; done)); intro b2 hg wb2 hbox hb; have Kb2 := Aside0.mk hbox; have HB := Aside0.mk hb; have K3 := Aside0.mk (blk_below HK.out hb); have d0 := (blk_cell K3.out 0).trans rfl; have c0 := (blk_cell Kb2.out 0).trans rfl; have c1 := (blk_cell Kb2.out 1).trans rfl; have c2 := (blk_cell Kb2.out 2).trans rfl; have c3 := (blk_cell Kb2.out 3).trans rfl; have c4 := (blk_cell Kb2.out 4).trans rfl; have c5 := (blk_cell Kb2.out 5).trans rfl; have c6 := (blk_cell Kb2.out 6).trans rfl; clear hb hbox hg))
    clear c0 c1 c2 c3 c4 c5 c6 d0
    refine (H.out _ HB.out).mono ?_
    rintro e w' ⟨rfl, hR⟩
    have HR := Aside0.mk hR
    clear hR
    go_wp2
    go_ret
    exact ⟨rfl, HR.out⟩

def tile_walk.T5 : Bool × List (List Nat × List Nat) := (true, [([], []), ([], []), ([1], [1]), ([2], [2]), ([3], [3]), ([], []), ([4, 5], [4, 5]), ([0, 0, 1, 2, 3, 4, 5, 6], [0]), ([7, 0, 1, 2, 3, 4, 5, 6], [7]), ([8, 6, 6, 0, 1, 2, 3, 4, 5, 6], [6, 8])])
def tile_walk.B5 : List Nat := [0, 0, 2, 6, 14, 0, 62, 127, 255, 511]
theorem tile_walk.tab5 : rtab .any (opsOf Try.f197 5) = tile_walk.T5 := by kernel_rfl
theorem tile_walk.bits5 : waitsOk tile_walk.T5.2 tile_walk.B5 = true := by kernel_rfl
set_option maxHeartbeats 4000000 in
set_option maxRecDepth 100000 in
theorem walk197 (w0 : World) (gw : Nat) (hgw : w0.heap.size ≤ gw) : ∀ (N : Nat) (c : S26), sz c ≤ N → N ≤ 20000 → ∀ (A : Option Addr) (cc : Nat), Kd.C k26 w0 A c.f3.length c.f3 → c.f3.length ≤ cc → ∀ (j : Nat) (W : World), j + szL c.f3 ≤ 1000000 → WalkI w0 gw j W →
    Calls Try.prog 197 #[.pointer (some ⟨gw, 0, none⟩), .agg #[.int .u8 c.f0, .int .i64 c.f1.f0, .int .i64 c.f1.f1, .int .i64 c.f1.f2, .int .i64 c.f1.f3, .int .i64 c.f2, .slice A c.f3.length cc]] W fun e w' => e = .returned (.bool (tilesB c)) ∧ WalkI w0 gw (j + szL c.f3) w' ∧ Fr gw W w' := by
  intro N
  induction N with
  | zero => intro c h; rw [sz_eq] at h; omega
  | succ N ih =>
    intro c hc hN A cc hr hlc j W hj hI
    have hsz := sz_eq c
    have hlen := szL_len c.f3
    have hKids : ∀ (b2 j1 : Nat) (W1 : World), b2 ≠ gw → W1.heap[b2]? = some (.cells #[.pointer (some ⟨gw, 0, none⟩)] 180 (0, 0)) → WalkI w0 gw j1 W1 → j1 ≤ j + c.f3.length →
        Calls Try.prog 174 #[.slice A c.f3.length cc, .func (.func 207) #[] #[.pointer (some ⟨b2, 0, none⟩)]] W1 fun e w' => e = .returned (.bool (!(c.f3.all tilesB))) ∧ WalkI w0 gw (j + szL c.f3) w' ∧ Fr gw W1 w' := by
      intro b2 j1 W1 hne hk hi hj1
      have hcon := cons174 (fun rest w' => (∃ i, WalkI w0 gw i w' ∧ i + szL rest ≤ (j + szL c.f3) + rest.length) ∧ Fr gw W1 w') (fun x => !tilesB x) 207 #[.pointer (some ⟨b2, 0, none⟩)] (enters_fn Try.func207 (by decide +kernel) (by kernel_rfl)) c.f3 A cc w0 hr
        (fun s w' h => by obtain ⟨⟨i, h1, _⟩, _⟩ := h; exact h1.1)
        (fun s w' n h => by obtain ⟨⟨i, h1, h2⟩, h3⟩ := h; exact ⟨⟨i, h1.below (pw_below_drewN (Below.refl _ _) n), h2⟩, h3.trans (Fr.below (pw_below_drewN (Below.refl _ _) n))⟩)
        (fun x rest w' B cb hx hp h hCx hlx => by
          obtain ⟨⟨i, h1, h2⟩, h3⟩ := h
          obtain ⟨pre, hp⟩ := hp
          have e1 : szL c.f3 = szL pre + (sz x + szL rest) := by rw [← hp, szL_app, szL_cons]
          have e2 := sz_eq x
          have e3 := szL_len rest
          have e4 := szL_len pre
          rw [szL_cons, List.length_cons] at h2
          refine (clo207 x B cb b2 gw (tilesB x) (fun w'' => WalkI w0 gw (i + szL x.f3) w'' ∧ Fr gw W1 w'') w' (h3 b2 _ 180 hne (by decide) hk) (fun W2 hb2 => ?_)).mono ?_
          · refine (ih x (by omega) (by omega) B cb hCx hlx i W2 (by omega) (h1.below hb2)).mono ?_
            rintro e w'' ⟨he, hi2, hf⟩
            exact ⟨he, hi2, h3.trans ((Fr.below hb2).trans hf)⟩
          · rintro e w'' ⟨he, hi2, hf⟩
            refine ⟨he, ⟨⟨i + szL x.f3, hi2, ?_⟩, hf⟩⟩
            split
            · rw [szL_nil]; show _ ≤ _ + 0; omega
            · omega)
        W1 ⟨⟨j1, hi, by omega⟩, Fr.refl gw W1⟩ hr.2.1
      refine hcon.mono ?_
      rintro e w' ⟨he, ⟨i, h1, h2⟩, h3⟩
      rw [szL_nil] at h2
      refine ⟨?_, h1.mono (by simpa using h2), h3⟩
      rw [he, List.not_all_eq_any_not]
    have hone : c.f3.length ≤ 20000 := by omega
    obtain ⟨k0, hk0⟩ := lines_rounds c hone
    have hll := linesB_len c hone
    have hL : ∀ W1, Below w0.heap.size w0 W1 → Calls Try.prog 206 #[.agg #[.int .u8 c.f0, .int .i64 c.f1.f0, .int .i64 c.f1.f1, .int .i64 c.f1.f2, .int .i64 c.f1.f3, .int .i64 c.f2, .slice A c.f3.length cc]] W1 fun e w' => ∃ v : Value, e = .returned (.tuple #[v, .bool (oneB c)]) ∧ Kd.R k23 23 w' W1.heap.size (fun _ => True) v (linesB c) ∧ Below W1.heap.size W1 w' := fun W1 hb => lines206 k0 c A cc (cutT c) W1 (Kd.C_below hr hb) hlc hk0
    rw [tilesB_eq]
    obtain ⟨hB, n, v, ls, hK, hV, hls⟩ := hI
    obtain ⟨Av, cv, ev⟩ := Kd.R_slice hV
    subst ev
    have HB := Aside0.mk hB
    have KW := Aside0.mk hK
    have RV := Aside0.mk hV
    have FR := Aside0.mk (Fr.refl gw W)
    have HGW := Aside0.mk hgw
    have HKids := Aside0.mk hKids
    have HL := Aside0.mk hL
    have HLS := Aside0.mk hls
    have HLL := Aside0.mk hll
    have HJ := Aside0.mk hj
    have HN := Aside0.mk hlen
    clear hB hK hV hKids hL hls hll hj hlen hone hk0 hsz ih hr hlc hc hN
    obtain ⟨ck, ⟨cx, cy, cw, ch⟩, cid, l⟩ := c
    simp only [] at HKids HL HLL HJ HN ⊢
    generalize oneB ⟨ck, ⟨cx, cy, cw, ch⟩, cid, l⟩ = q at HL ⊢
    generalize linesB ⟨ck, ⟨cx, cy, cw, ch⟩, cid, l⟩ = us at HL HLL
    generalize l.all tilesB = p at HKids ⊢
    cases q with
    | false =>
      rw [Bool.false_and]
      go_enter Try.func197, Try.ntmps197
      go_wp2_with (first | ((with_reducible refine gate_dst (N := 2) rfl ?_); refine box_event ?hg (N := 2) ?hd (cs := #[.pointer (some ⟨gw, 0, none⟩)]) (t := 180) ?hr ?_; (case hd => rfl); (case hg => rfl); (case hr => (go_simp; done)); intro b2 hg wb2 hbox hb; have Kb2 := Aside0.mk hbox; have NE2 := Aside0.mk (show b2 ≠ gw by rw [hg]; exact Nat.ne_of_gt (blk_lt KW.out)); have q_HB := Aside0.mk (below_step HB.out hb); have q_KW := Aside0.mk (blk_below KW.out hb); have q_RV := Aside0.mk (Kd.R_below RV.out hb); have q_FR := Aside0.mk (FR.out.trans (Fr.below hb)); clear HB KW RV FR; have HB := q_HB; have KW := q_KW; have RV := q_RV; have FR := q_FR; clear q_HB q_KW q_RV q_FR; clear hb hbox hg) | ((with_reducible refine gate_dst (N := 3) rfl ?_); refine box_event ?hg (N := 3) ?hd (cs := #[.int .u8 ck, .int .i64 cx, .int .i64 cy, .int .i64 cw, .int .i64 ch, .int .i64 cid, .slice A l.length cc]) (t := 26) ?hr ?_; (case hd => rfl); (case hg => rfl); (case hr => (go_simp; done)); intro b3 hg wb3 hbox hb; have Kb3 := Aside0.mk hbox; have NE3 := Aside0.mk (show b3 ≠ gw by rw [hg]; exact Nat.ne_of_gt (blk_lt KW.out)); have q_HB := Aside0.mk (below_step HB.out hb); have q_KW := Aside0.mk (blk_below KW.out hb); have q_RV := Aside0.mk (Kd.R_below RV.out hb); have q_FR := Aside0.mk (FR.out.trans (Fr.below hb)); have q_Kb2 := Aside0.mk (blk_below Kb2.out hb); clear HB KW RV FR Kb2; have HB := q_HB; have KW := q_KW; have RV := q_RV; have FR := q_FR; have Kb2 := q_Kb2; clear q_HB q_KW q_RV q_FR q_Kb2; have c0 := (blk_cell Kb3.out 0).trans rfl; have c1 := (blk_cell Kb3.out 1).trans rfl; have c2 := (blk_cell Kb3.out 2).trans rfl; have c3 := (blk_cell Kb3.out 3).trans rfl; have c4 := (blk_cell Kb3.out 4).trans rfl; have c5 := (blk_cell Kb3.out 5).trans rfl; have c6 := (blk_cell Kb3.out 6).trans rfl; clear hb hbox hg))
      clear c0 c1 c2 c3 c4 c5 c6
      refine (HL.out _ HB.out).mono ?_
      rintro e w1 ⟨u, rfl, hu, hb⟩
      have HU := Aside0.mk (Kd.R_lower hu HB.out.size)
      clear hu
      have q_HB := Aside0.mk (below_step HB.out hb); have q_KW := Aside0.mk (blk_below KW.out hb); have q_RV := Aside0.mk (Kd.R_below RV.out hb); have q_FR := Aside0.mk (FR.out.trans (Fr.below hb)); have q_Kb2 := Aside0.mk (blk_below Kb2.out hb); have q_Kb3 := Aside0.mk (blk_below Kb3.out hb); clear HB KW RV FR Kb2 Kb3; have HB := q_HB; have KW := q_KW; have RV := q_RV; have FR := q_FR; have Kb2 := q_Kb2; have Kb3 := q_Kb3; clear q_HB q_KW q_RV q_FR q_Kb2 q_Kb3
      clear hb
      obtain ⟨Au, cu, eu⟩ := Kd.R_slice HU.out
      subst eu
      go_wp2
      go_ret
      exact ⟨rfl, ⟨HB.out, n, _, ls, KW.out, RV.out, by have := HLS.out; omega⟩, FR.out⟩
    | true =>
      rw [Bool.true_and]
      go_enter Try.func197, Try.ntmps197
      go_wp2_with (first | ((with_reducible refine gate_dst (N := 2) rfl ?_); refine box_event ?hg (N := 2) ?hd (cs := #[.pointer (some ⟨gw, 0, none⟩)]) (t := 180) ?hr ?_; (case hd => rfl); (case hg => rfl); (case hr => (go_simp; done)); intro b2 hg wb2 hbox hb; have Kb2 := Aside0.mk hbox; have NE2 := Aside0.mk (show b2 ≠ gw by rw [hg]; exact Nat.ne_of_gt (blk_lt KW.out)); have q_HB := Aside0.mk (below_step HB.out hb); have q_KW := Aside0.mk (blk_below KW.out hb); have q_RV := Aside0.mk (Kd.R_below RV.out hb); have q_FR := Aside0.mk (FR.out.trans (Fr.below hb)); clear HB KW RV FR; have HB := q_HB; have KW := q_KW; have RV := q_RV; have FR := q_FR; clear q_HB q_KW q_RV q_FR; clear hb hbox hg) | ((with_reducible refine gate_dst (N := 3) rfl ?_); refine box_event ?hg (N := 3) ?hd (cs := #[.int .u8 ck, .int .i64 cx, .int .i64 cy, .int .i64 cw, .int .i64 ch, .int .i64 cid, .slice A l.length cc]) (t := 26) ?hr ?_; (case hd => rfl); (case hg => rfl); (case hr => (go_simp; done)); intro b3 hg wb3 hbox hb; have Kb3 := Aside0.mk hbox; have NE3 := Aside0.mk (show b3 ≠ gw by rw [hg]; exact Nat.ne_of_gt (blk_lt KW.out)); have q_HB := Aside0.mk (below_step HB.out hb); have q_KW := Aside0.mk (blk_below KW.out hb); have q_RV := Aside0.mk (Kd.R_below RV.out hb); have q_FR := Aside0.mk (FR.out.trans (Fr.below hb)); have q_Kb2 := Aside0.mk (blk_below Kb2.out hb); clear HB KW RV FR Kb2; have HB := q_HB; have KW := q_KW; have RV := q_RV; have FR := q_FR; have Kb2 := q_Kb2; clear q_HB q_KW q_RV q_FR q_Kb2; have c0 := (blk_cell Kb3.out 0).trans rfl; have c1 := (blk_cell Kb3.out 1).trans rfl; have c2 := (blk_cell Kb3.out 2).trans rfl; have c3 := (blk_cell Kb3.out 3).trans rfl; have c4 := (blk_cell Kb3.out 4).trans rfl; have c5 := (blk_cell Kb3.out 5).trans rfl; have c6 := (blk_cell Kb3.out 6).trans rfl; clear hb hbox hg))
      clear c0 c1 c2 c3 c4 c5 c6
      refine (HL.out _ HB.out).mono ?_
      rintro e w1 ⟨u, rfl, hu, hb⟩
      have HU := Aside0.mk (Kd.R_lower hu HB.out.size)
      clear hu
      have q_HB := Aside0.mk (below_step HB.out hb); have q_KW := Aside0.mk (blk_below KW.out hb); have q_RV := Aside0.mk (Kd.R_below RV.out hb); have q_FR := Aside0.mk (FR.out.trans (Fr.below hb)); have q_Kb2 := Aside0.mk (blk_below Kb2.out hb); have q_Kb3 := Aside0.mk (blk_below Kb3.out hb); clear HB KW RV FR Kb2 Kb3; have HB := q_HB; have KW := q_KW; have RV := q_RV; have FR := q_FR; have Kb2 := q_Kb2; have Kb3 := q_Kb3; clear q_HB q_KW q_RV q_FR q_Kb2 q_Kb3
      clear hb
      obtain ⟨Au, cu, eu⟩ := Kd.R_slice HU.out
      subst eu
      have d0 := (blk_cell Kb2.out 0).trans rfl
      have e0 := (blk_cell KW.out 0).trans rfl
      have e1 := (blk_cell KW.out 1).trans rfl
      go_wp2_with (((with_reducible refine gate_ (.store 3 (.tmp 20) (.tmp 18)) rfl ?_); go_loud (refine box_store (w0 := w0) rfl rfl 3 (.tmp 20) (.tmp 18) rfl (g := gw) (j := 0) (base := w0.heap.size) #[.int .i64 (wrap64 (n + 1)), .slice Av ls.length cv] (u := .int .i64 (wrap64 (n + 1))) (seg := [.int .i64 (wrap64 (n + 1))]) ?sA ?sX rfl ?sT ?s1 KW.out ?sJ rfl HB.out HB.out.size HGW.out ?_; (case sA => rfl); (case sX => rfl); (case sT => rfl); (case s1 => (simp [Value.oneCell'])); (case sJ => (simp)); intro ws hbk hbb hgg; have q_RV := Aside0.mk (Kd.R_grown2 RV.out rfl hgg (fun k_ hk => hk ▸ Kd.R_ne RV.out KW.out (by decide))); have q_HU := Aside0.mk (Kd.R_grown2 HU.out rfl hgg (fun k_ hk => hk ▸ Kd.R_ne HU.out KW.out (by decide))); have q_FR := Aside0.mk (FR.out.trans (Fr.store hgg)); have q_Kb2 := Aside0.mk (blk_grown Kb2.out hgg (fun e_ => absurd (Option.some.inj e_) NE2.out)); have q_Kb3 := Aside0.mk (blk_grown Kb3.out hgg (fun e_ => absurd (Option.some.inj e_) NE3.out)); clear RV HU FR Kb2 Kb3; have RV := q_RV; have HU := q_HU; have FR := q_FR; have Kb2 := q_Kb2; have Kb3 := q_Kb3; clear q_RV q_HU q_FR q_Kb2 q_Kb3; clear KW HB d0 e0 e1; have KW := Aside0.mk hbk; have HB := Aside0.mk hbb; clear hbk hbb hgg)))
      have hb : Below ws.heap.size ws ws.drew := below_drew (Below.refl _ _)
      have q_HB := Aside0.mk (below_step HB.out hb); have q_KW := Aside0.mk (blk_below KW.out hb); have q_RV := Aside0.mk (Kd.R_below RV.out hb); have q_FR := Aside0.mk (FR.out.trans (Fr.below hb)); have q_Kb2 := Aside0.mk (blk_below Kb2.out hb); have q_Kb3 := Aside0.mk (blk_below Kb3.out hb); have q_HU := Aside0.mk (Kd.R_below HU.out hb); clear HB KW RV FR Kb2 Kb3 HU; have HB := q_HB; have KW := q_KW; have RV := q_RV; have FR := q_FR; have Kb2 := q_Kb2; have Kb3 := q_Kb3; have HU := q_HU; clear q_HB q_KW q_RV q_FR q_Kb2 q_Kb3 q_HU
      clear hb
      refine start_ (n := 10) (S := fun w' => Below w0.heap.size w0 w' ∧ w'.heap[b2]? = some (.cells #[.pointer (some ⟨gw, 0, none⟩)] 180 (0, 0)) ∧ w'.heap[gw]? = some (.cells #[.int .i64 (wrap64 (n + 1)), .slice Av ls.length cv] 182 (0, 0))) (ds := [9]) #[false, false, false, false, false, false, false, false, false, false] (by kernel_rfl) rfl rfl ⟨HB.out, Kb2.out, KW.out⟩ (fun hHeld => ?_); refine with_tabW tile_walk.tab5 tile_walk.bits5 (fun HT_ HW_ => ?_)
      generalize ws.drew = wd at HB KW RV FR Kb2 Kb3 HU hHeld ⊢
      refine take_ (i := 0) (N := some 21) (v := ?_) (a' := ?_) #[true, false, false, false, false, false, false, false, false, false] rfl rfl (take_ofW HT_.out HW_.out (by kernel_rfl)) (fun _ _ _ h => h) (Or.inl ⟨by rfl, ?_⟩) hHeld ?_ ?_
      rotate_left
      · intro w' hs_
        have c := (blk_cell hs_.2.1 0).trans rfl
        go_simp; with_reducible rfl
      rotate_left
      · simp only [Act.put, List.setIfInBounds_toArray, List.set_cons_zero, List.set_cons_succ, i64_w, i32_w]
        rfl
      refine take_ (i := 1) (N := some 22) (v := ?_) (a' := ?_) #[true, true, false, false, false, false, false, false, false, false] rfl rfl (take_ofW HT_.out HW_.out (by kernel_rfl)) (fun _ _ _ h => h) (Or.inl ⟨by rfl, ?_⟩) hHeld ?_ ?_
      rotate_left
      · intro w' hs_
        have c := (blk_cell hs_.2.1 0).trans rfl
        go_simp; with_reducible rfl
      rotate_left
      · simp only [Act.put, List.setIfInBounds_toArray, List.set_cons_zero, List.set_cons_succ, i64_w, i32_w]
        rfl
      refine pure_ (i := 2) (N := some 23) (v := ?_) (a' := ?_) #[true, true, true, false, false, false, false, false, false, false] rfl rfl (any_of HT_.out (by kernel_rfl)) (fun _ _ _ h => h) (Or.inl ⟨by rfl, ?_⟩) ?_ ?_
      rotate_left
      · intro w'; go_simp; with_reducible rfl
      rotate_left
      · simp only [Act.put, List.setIfInBounds_toArray, List.set_cons_zero, List.set_cons_succ, i64_w, i32_w]
        rfl
      refine pure_ (i := 3) (N := some 24) (v := ?_) (a' := ?_) #[true, true, true, true, false, false, false, false, false, false] rfl rfl (any_of HT_.out (by kernel_rfl)) (fun _ _ _ h => h) (Or.inl ⟨by rfl, ?_⟩) ?_ ?_
      rotate_left
      · intro w'; go_simp; with_reducible rfl
      rotate_left
      · simp only [Act.put, List.setIfInBounds_toArray, List.set_cons_zero, List.set_cons_succ, i64_w, i32_w]
        rfl
      refine take_ (i := 4) (N := some 25) (v := ?_) (a' := ?_) #[true, true, true, true, true, false, false, false, false, false] rfl rfl (take_ofW HT_.out HW_.out (by kernel_rfl)) (fun _ _ _ h => h) (Or.inl ⟨by rfl, ?_⟩) hHeld ?_ ?_
      rotate_left
      · intro w' hs_
        have c := (blk_cell hs_.2.2 1).trans rfl
        go_simp; with_reducible rfl
      rotate_left
      · simp only [Act.put, List.setIfInBounds_toArray, List.set_cons_zero, List.set_cons_succ, i64_w, i32_w]
        rfl
      refine pure_ (i := 5) (N := some 26) (v := ?_) (a' := ?_) #[true, true, true, true, true, true, false, false, false, false] rfl rfl (any_of HT_.out (by kernel_rfl)) (fun _ _ _ h => h) (Or.inl ⟨by rfl, ?_⟩) ?_ ?_
      rotate_left
      · intro w'; go_simp; with_reducible rfl
      rotate_left
      · simp only [Act.put, List.setIfInBounds_toArray, List.set_cons_zero, List.set_cons_succ, i64_w, i32_w]
        rfl
      refine one_ (i := 6) (N := some 27) #[true, true, true, true, true, true, true, false, false, false] rfl rfl (one_of HT_.out (by kernel_rfl)) (by decide) (fun K hK => ?_)
      refine Kd.R_append_rows_step k23 (w0 := w0) w0.heap.size (by rfl) (.tmp 25) (.tmp 26) 42 23 (.agg #[(.int .i64 0), (.int .i64 0), (.int .i64 0), (.int .i64 0)]) 32 rfl Try.underlying42 info23 rfl (by decide) (by omega) (.slice Av ls.length cv) ls us Au us.length cu (fun _ => True) (fun _ => False) rfl rfl RV.out (Kd.R_reads' HU.out).2.2 (fun _ _ h => h) (fun _ h => h.elim) (fun _ _ => trivial) HB.out HB.out.size (by have h1 := HLS.out; have h2 := HLL.out; have h3 := HJ.out; have h4 := HN.out; omega) ?_
      intro v1 wk ho hb hg hat
      have q1 := Aside0.mk (FR.out.trans (Fr.append RV.out hg))
      have q2 := Aside0.mk (blk_grown Kb2.out hg (Kd.R_ne RV.out Kb2.out (by decide)))
      have q3 := Aside0.mk (blk_grown Kb3.out hg (Kd.R_ne RV.out Kb3.out (by decide)))
      have q4 := Aside0.mk (blk_grown KW.out hg (Kd.R_ne RV.out KW.out (by decide)))
      clear FR Kb2 Kb3 KW HB RV HU
      have FR := q1
      have Kb2 := q2
      have Kb3 := q3
      have KW := q4
      have HB := Aside0.mk hb
      have RV := Aside0.mk ho
      clear q1 q2 q3 q4 hb ho hg hat
      obtain ⟨A1, c1, e1⟩ := Kd.R_slice RV.out
      subst e1
      refine hK.out _ _ ⟨HB.out, Kb2.out, KW.out⟩ (fun hHeld => ?_)
      clear hK K
      refine norm_ (a' := ?_) ?_ ?_
      rotate_left
      · show Act.put _ (some 27) _ = _
        simp only [Act.put, List.setIfInBounds_toArray, List.set_cons_zero, List.set_cons_succ, i64_w, i32_w]
        rfl
      refine pure_ (i := 7) (N := some 28) (v := ?_) (a' := ?_) #[true, true, true, true, true, true, true, true, false, false] rfl rfl (any_of HT_.out (by kernel_rfl)) (fun _ _ _ h => h) (Or.inl ⟨by rfl, ?_⟩) ?_ ?_
      rotate_left
      · intro w'; go_simp; with_reducible rfl
      rotate_left
      · simp only [Act.put, List.setIfInBounds_toArray, List.set_cons_zero, List.set_cons_succ, i64_w, i32_w]
        rfl
      refine pure_ (i := 8) (N := some 29) (v := ?_) (a' := ?_) #[true, true, true, true, true, true, true, true, true, false] rfl rfl (any_of HT_.out (by kernel_rfl)) (fun _ _ _ h => h) (Or.inl ⟨by rfl, ?_⟩) ?_ ?_
      rotate_left
      · intro w'; go_simp; with_reducible rfl
      rotate_left
      · simp only [Act.put, List.setIfInBounds_toArray, List.set_cons_zero, List.set_cons_succ, i64_w, i32_w]
        rfl
      refine last_ (i := 9) (N := none) #[true, true, true, true, true, true, true, true, true, true] rfl rfl (one_of HT_.out (by kernel_rfl)) (by decide) (fun K hK => ?_)
      obtain ⟨w9, hw9⟩ : ∃ w9, w9 = wk.setCells gw 1 [.slice A1 (ls ++ us).length c1] := ⟨_, rfl⟩
      have hst := box_cells (j := 1) (cs' := #[.int .i64 (wrap64 (n + 1)), .slice A1 (ls ++ us).length c1]) (seg := [.slice A1 (ls ++ us).length c1]) KW.out (by simp) rfl
      rw [← hw9] at hst
      refine skip_ (w1 := w9) (by rfl) rfl ?_ ?_
      · rw [hw9]; exact store_exec 42 (.tmp 29) (.tmp 27) rfl (cs := #[.int .i64 (wrap64 (n + 1)), .slice Av ls.length cv]) (t0 := 182) (seg := [.slice A1 (ls ++ us).length c1]) rfl rfl rfl (by kernel_rfl) (by simp [Value.oneCell']) KW.out (by simp)
      have HB9 := Aside0.mk (grown_below HB.out hst.2 HGW.out HB.out.size)
      have RV9 := Aside0.mk (Kd.R_grown2 RV.out rfl hst.2 (fun k_ hk => hk ▸ Kd.R_ne RV.out KW.out (by decide)))
      have FR9 := Aside0.mk (FR.out.trans (Fr.store hst.2))
      have K29 := Aside0.mk (blk_grown Kb2.out hst.2 (fun e_ => absurd (Option.some.inj e_) NE2.out))
      have K39 := Aside0.mk (blk_grown Kb3.out hst.2 (fun e_ => absurd (Option.some.inj e_) NE3.out))
      have KW9 := Aside0.mk hst.1
      clear hst
      refine hK.out _ _ ?_
      clear hK K hw9
      refine done_ (done_of HT_.out (by kernel_rfl)) ?_
      have c6 := (blk_cell K39.out 6).trans rfl
      cases p
      all_goals
        go_wp2_with fail
        refine (HKids.out b2 (j + us.length) _ NE2.out K29.out ⟨HB9.out, _, _, _, KW9.out, RV9.out, by have := HLS.out; rw [List.length_append]; omega⟩ (by have := HLL.out; omega)).mono ?_
        rintro e w2 ⟨rfl, hi, hf⟩
        have HI := Aside0.mk hi
        have HF := Aside0.mk (FR9.out.trans hf)
        clear hi hf
        go_wp2
        go_ret
        exact ⟨rfl, HI.out, HF.out⟩
end Go.Proofs.Ytfdmfgaiblfbhaa.P
/- fault.New, fault.In, and slices.Clone at strings, as package tile calls them: an error comes back. -/
namespace Go.Proofs.Ytfdmfgaiblfbhaa.P
open Go.RowKit Go.Proofs.YtfdmfgaiblfbhaaW.PrintWords Go.Proofs.YtfdmfgaiblfbhaaW.PrintLast Go.Proofs.YtfdmfgaiblfbhaaW.PrintMore
set_option linter.unusedVariables false
set_option linter.unusedSimpArgs false
theorem info9s : (Try.prog.info? 9).map (fun i => (i.zero, i.size, i.bytes)) = some (some (.string ⟨#[]⟩), 1, 16) := by kernel_rfl
set_option maxHeartbeats 1000000 in
theorem new196 (e at_ : Int) (he : e ≠ 0) (w : World) : Calls Try.prog 196 #[.int .i64 e, .int .i64 at_] w fun x w' => (∃ t v, x = .returned (.iface t v)) ∧ Below w.heap.size w w' := by
  have hb : (e == 0) = false := beq_eq_false_iff_ne.mpr he
  clear he
  go_enter Try.func196, Try.ntmps196
  go_wp2
  go_ret
  exact ⟨⟨_, _, rfl⟩, below_alloc (Below.refl _ _) _⟩
set_option maxHeartbeats 2000000 in
set_option maxRecDepth 100000 in
theorem clone205 (ad : Addr) (c0 : Nat) (l0 : List ByteArray) (hl : l0.length ≤ 1000) (w : World) (hr0 : Kd.C Kd.string w (some ad) l0.length l0) (hc0 : l0.length ≤ c0) :
    Calls Try.prog 205 #[.slice (some ad) l0.length c0] w fun e w' => ∃ A n c, e = .returned (.slice A n c) ∧ Below w.heap.size w w' := by
  have heq : ∀ W : World, (binOp .eql 190 (.slice (some ad) l0.length c0) (.slice none 0 0)).run Try.prog W = .ok (.bool false) W := fun W => Lib.run_eql_slice_nil W 190 9 (some ad) l0.length c0 0 0 Try.underlying190
  have HR := Aside0.mk hr0
  have HL := Aside0.mk hl
  clear hl hr0
  go_enter Try.func205, Try.ntmps205
  go_wp2_with (first | ((with_reducible refine gate_dst (N := 5) rfl ?_); refine Kd.R_lit Kd.string w.heap.size 9 ?hg (N := 5) ?hd (xs := ([] : List ByteArray)) (inner := []) (ok := fun _ => True) (okp := fun _ => True) ?hr ?hp (fun _ hk => hk) trivial (Below.refl _ _) (Nat.le_refl _) (by simp) ?_; (case hd => rfl); (case hg => rfl); (case hr => (go_simp; done)); (case hp => exact Reps.none _ _); intro v5 w5 ho hb hg_ hnew_; clear hg_ hnew_; have HO := Aside0.mk ho; have HB := Aside0.mk hb; clear ho hb; obtain ⟨Ao, co, eo⟩ := Kd.R_slice HO.out; subst eo) | ((with_reducible refine gate_builtin (b := .append) (xs := #[.tmp 5, .tmp 6]) rfl ?_); at_builtin; refine Kd.R_append_rows (Rr := Kd.string.K w) Kd.string (w0 := w) w.heap.size rfl (.tmp 5) (.tmp 6) 190 9 (.string ⟨#[]⟩) 16 rfl Try.underlying190 info9s rfl (by decide) (by omega) (.slice Ao ([] : List ByteArray).length co) ([] : List ByteArray) l0 _ _ _ (fun _ => True) (fun _ => False) rfl rfl HO.out ?aR (fun _ _ h => h) (fun _ h => h.elim) (fun _ _ => trivial) HB.out HB.out.size ?aL ?_; (case aR => exact Kd.C_below HR.out HB.out); (case aL => have := HL.out; simp; omega); intro v7 w7 ho hb hg_ hat_; have HO7 := Aside0.mk ho; have HB7 := Aside0.mk hb; clear ho hb hg_ hat_))
  obtain ⟨A7, c7, e7⟩ := Kd.R_slice HO7.out
  subst e7
  go_ret
  exact ⟨_, _, _, rfl, HB7.out⟩
set_option maxHeartbeats 2000000 in
set_option maxRecDepth 100000 in
theorem in195 (tv : TypeId) (v : Value) (ad : Addr) (c0 : Nat) (x : ByteArray) (w : World) (hr0 : Kd.C Kd.string w (some ad) 1 [x]) (hc0 : 1 ≤ c0) :
    Calls Try.prog 195 #[.iface tv v, .slice (some ad) 1 c0] w fun e w' => (∃ t u, e = .returned (.iface t u)) ∧ Below w.heap.size w w' := by
  have HCl := Aside0.mk (clone205 ad c0 [x] (by simp) w hr0 hc0)
  clear hr0
  go_enter Try.func195, Try.ntmps195
  go_wp2_with fail
  refine HCl.out.mono ?_
  rintro e w' ⟨A, n, c, rfl, hb⟩
  have HB := Aside0.mk hb
  clear hb
  go_wp2
  go_ret
  exact ⟨⟨_, _, rfl⟩, below_alloc HB.out _⟩
end Go.Proofs.Ytfdmfgaiblfbhaa.P
/- The contracts of tile.Check and tile.Tiles: whether a tree may be and tiles. Condition: at most 1048576 cells. -/
namespace Go.Proofs.Ytfdmfgaiblfbhaa.P
open Go.RowKit Go.Proofs.YtfdmfgaiblfbhaaW.PrintWords Go.Proofs.YtfdmfgaiblfbhaaW.PrintLast Go.Proofs.YtfdmfgaiblfbhaaW.PrintMore
set_option linter.unusedVariables false
set_option linter.unusedSimpArgs false
noncomputable def tilesC (c : S26) : Bool := mayC c && tilesB c
theorem may_small {c : S26} (h : mayC c = true) : sz c ≤ 20000 := by
  unfold mayC at h
  simp only [Bool.and_eq_true, decide_eq_true_eq] at h
  omega
theorem row_some {x : ByteArray} {w : World} {A : Option Addr} (h : Kd.C Kd.string w A 1 [x]) : ∃ ad, A = some ad := by
  obtain ⟨ad, h1, _⟩ := h.2.2 (by omega)
  exact ⟨ad, h1⟩
set_option maxHeartbeats 4000000 in
set_option maxRecDepth 100000 in
theorem check180 (c : S26) (hz : sz c ≤ 1048576) (A : Option Addr) (cc : Nat) (w : World) (hr : Kd.C k26 w A c.f3.length c.f3) (hc : c.f3.length ≤ cc) :
    Calls Try.prog 180 #[.agg #[.int .u8 c.f0, .int .i64 c.f1.f0, .int .i64 c.f1.f1, .int .i64 c.f1.f2, .int .i64 c.f1.f3, .int .i64 c.f2, .slice A c.f3.length cc]] w fun e w' => (if tilesC c = true then e = .returned .nilIface else ∃ t u, e = .returned (.iface t u)) ∧ Below w.heap.size w w' := by
  have hM : cell_May.f [c] = some (mayC c) := by
    unfold cell_May.f
    rw [if_pos (by simp [hz])]
    simp
  have hW : mayC c = true → ∀ (gw : Nat) (W : World), w.heap.size ≤ gw → WalkI w gw 0 W → Calls Try.prog 197 #[.pointer (some ⟨gw, 0, none⟩), .agg #[.int .u8 c.f0, .int .i64 c.f1.f0, .int .i64 c.f1.f1, .int .i64 c.f1.f2, .int .i64 c.f1.f3, .int .i64 c.f2, .slice A c.f3.length cc]] W fun e w' => e = .returned (.bool (tilesB c)) ∧ WalkI w gw (0 + szL c.f3) w' ∧ Fr gw W w' := fun hm gw W hg hI => walk197 w gw hg (sz c) c (Nat.le_refl _) (may_small hm) A cc hr hc 0 W (by have := may_small hm; have := sz_eq c; omega) hI
  unfold tilesC
  have HR := Aside0.mk hr
  have HC := Aside0.mk hc
  have HM := Aside0.mk hM
  have HW := Aside0.mk hW
  have HB := Aside0.mk (Below.refl w.heap.size w)
  clear hr hc hM hW hz
  obtain ⟨ck, ⟨cx, cy, cw, ch⟩, cid, l⟩ := c
  simp only [] at HR HC HW ⊢
  generalize tilesB ⟨ck, ⟨cx, cy, cw, ch⟩, cid, l⟩ = q at HW ⊢
  cases hm : mayC (⟨ck, ⟨cx, cy, cw, ch⟩, cid, l⟩ : S26) with
  | false =>
    rw [hm] at HM
    have HM := HM
    simp only [Bool.false_and, Bool.false_eq_true, if_false]
    clear hm HW
    go_enter Try.func180, Try.ntmps180
    go_wp2_with (first | ((with_reducible refine gate_dst (N := 1) rfl ?_); refine box_event ?hg (N := 1) ?hd (cs := #[.int .u8 ck, .int .i64 cx, .int .i64 cy, .int .i64 cw, .int .i64 ch, .int .i64 cid, .slice A l.length cc]) (t := 26) ?hr ?_; (case hd => rfl); (case hg => rfl); (case hr => (go_simp; done)); intro b1 hg wb1 hbox hb; have Kb1 := Aside0.mk hbox; have q_HB := Aside0.mk (below_step HB.out hb); clear HB; have HB := q_HB; clear q_HB; clear hb hbox hg) | ((with_reducible refine gate_dst (N := 5) rfl ?_); refine box_event ?hg (N := 5) ?hd (cs := #[.int .i64 0, .slice none 0 0]) (t := 182) ?hr ?_; (case hd => rfl); (case hg => rfl); (case hr => (go_simp; done)); intro gw hg wgw hbox hb; have Kgw := Aside0.mk hbox; have GG := Aside0.mk (show w.heap.size ≤ gw by rw [hg]; exact HB.out.size); have q_HB := Aside0.mk (below_step HB.out hb); have q_Kb1 := Aside0.mk (blk_below Kb1.out hb); clear HB Kb1; have HB := q_HB; have Kb1 := q_Kb1; clear q_HB q_Kb1; have c0 := (blk_cell Kb1.out 0).trans rfl; have c1 := (blk_cell Kb1.out 1).trans rfl; have c2 := (blk_cell Kb1.out 2).trans rfl; have c3 := (blk_cell Kb1.out 3).trans rfl; have c4 := (blk_cell Kb1.out 4).trans rfl; have c5 := (blk_cell Kb1.out 5).trans rfl; have c6 := (blk_cell Kb1.out 6).trans rfl; clear hb hbox hg) | ((with_reducible refine gate_dst (N := 8) rfl ?_); refine Kd.N_lit k26 _ 26 ?hg (N' := 8) ?hd (xs := [(⟨ck, ⟨cx, cy, cw, ch⟩, cid, l⟩ : S26)]) (inner := [.int .u8 ck, .int .i64 cx, .int .i64 cy, .int .i64 cw, .int .i64 ch, .int .i64 cid, .slice A l.length cc]) (ok := fun _ => True) (okp := fun _ => True) ?hr ?hp (fun _ hk => hk) trivial (Below.refl _ _) (Nat.le_refl _) (by simp) ?_; (case hd => rfl); (case hg => rfl); (case hr => (go_simp; done)); (case hp => exact (Reps.c7 (k26_mkF _ _ (⟨ck, ⟨cx, cy, cw, ch⟩, cid, l⟩ : S26) HC.out (Kd.F_mono (Kd.C_F k26_heap (Kd.C_below HR.out HB.out)) (fun _ _ => trivial))) (Reps.none _ _))); intro vr wr ho hb hg_ hnew_; clear hg_ hnew_; obtain ⟨Am, cm, er⟩ := Kd.N_slice ho; subst er; have q_HB := Aside0.mk (below_step HB.out hb); have q_Kb1 := Aside0.mk (blk_below Kb1.out hb); have q_Kgw := Aside0.mk (blk_below Kgw.out hb); clear HB Kb1 Kgw; have HB := q_HB; have Kb1 := q_Kb1; have Kgw := q_Kgw; clear q_HB q_Kb1 q_Kgw; have Hm := Aside0.mk (Kd.N_reads' ho).2.2; have Lm := Aside0.mk (Kd.N_reads' ho).2.1; clear ho hb c0 c1 c2 c3 c4 c5 c6))
    refine (cell_May.calls Am cm [(⟨ck, ⟨cx, cy, cw, ch⟩, cid, l⟩ : S26)] false _ Hm.out Lm.out HM.out).mono ?_
    rintro e w1 ⟨rfl, hb⟩
    have q_HB := Aside0.mk (below_step HB.out hb); have q_Kb1 := Aside0.mk (blk_below Kb1.out hb); have q_Kgw := Aside0.mk (blk_below Kgw.out hb); clear HB Kb1 Kgw; have HB := q_HB; have Kb1 := q_Kb1; have Kgw := q_Kgw; clear q_HB q_Kb1 q_Kgw
    clear hb Hm Lm
    go_wp2_with fail
    refine (new196 1 0 (by decide) _).mono ?_
    rintro e w2 ⟨⟨tv, v, rfl⟩, hb⟩
    have q_HB := Aside0.mk (below_step HB.out hb); clear HB; have HB := q_HB; clear q_HB
    clear hb
    go_wp2_with (((with_reducible refine gate_dst (N := 12) rfl ?_); refine Kd.R_lit Kd.string _ 9 ?hg (N := 12) ?hd (xs := [(⟨#[108, 97, 121, 111, 117, 116]⟩ : ByteArray)]) (inner := [.string (⟨#[108, 97, 121, 111, 117, 116]⟩ : ByteArray)]) (ok := fun _ => True) (okp := fun _ => True) ?hr ?hp (fun _ hk => hk) trivial (Below.refl _ _) (Nat.le_refl _) (by simp) ?_; (case hd => rfl); (case hg => rfl); (case hr => (go_simp; done)); (case hp => exact (Reps.one (show Kd.M Kd.string _ _ _ (⟨#[108, 97, 121, 111, 117, 116]⟩ : ByteArray) [.string (⟨#[108, 97, 121, 111, 117, 116]⟩ : ByteArray)] from rfl) (Reps.none _ _))); intro vs wr ho hb hg_ hnew_; clear hg_ hnew_; obtain ⟨As, cs_, er⟩ := Kd.R_slice ho; subst er; have q_HB := Aside0.mk (below_step HB.out hb); clear HB; have HB := q_HB; clear q_HB; have Hs := Aside0.mk (Kd.R_reads' ho).2.2; have Ls := Aside0.mk (Kd.R_reads' ho).2.1; clear ho hb))
    obtain ⟨ad, ea⟩ := row_some Hs.out
    subst ea
    refine (in195 tv v ad cs_ _ _ Hs.out Ls.out).mono ?_
    rintro e w3 ⟨⟨tu, u, rfl⟩, hb⟩
    have q_HB := Aside0.mk (below_step HB.out hb); clear HB; have HB := q_HB; clear q_HB
    clear hb Hs Ls
    go_wp2
    go_ret
    exact ⟨⟨_, _, rfl⟩, HB.out⟩
  | true =>
    rw [hm] at HM
    have HW := Aside0.mk (HW.out hm)
    simp only [Bool.true_and]
    clear hm
    cases q with
    | true =>
      simp only [if_true]
      go_enter Try.func180, Try.ntmps180
      go_wp2_with (first | ((with_reducible refine gate_dst (N := 1) rfl ?_); refine box_event ?hg (N := 1) ?hd (cs := #[.int .u8 ck, .int .i64 cx, .int .i64 cy, .int .i64 cw, .int .i64 ch, .int .i64 cid, .slice A l.length cc]) (t := 26) ?hr ?_; (case hd => rfl); (case hg => rfl); (case hr => (go_simp; done)); intro b1 hg wb1 hbox hb; have Kb1 := Aside0.mk hbox; have q_HB := Aside0.mk (below_step HB.out hb); clear HB; have HB := q_HB; clear q_HB; clear hb hbox hg) | ((with_reducible refine gate_dst (N := 5) rfl ?_); refine box_event ?hg (N := 5) ?hd (cs := #[.int .i64 0, .slice none 0 0]) (t := 182) ?hr ?_; (case hd => rfl); (case hg => rfl); (case hr => (go_simp; done)); intro gw hg wgw hbox hb; have Kgw := Aside0.mk hbox; have GG := Aside0.mk (show w.heap.size ≤ gw by rw [hg]; exact HB.out.size); have q_HB := Aside0.mk (below_step HB.out hb); have q_Kb1 := Aside0.mk (blk_below Kb1.out hb); clear HB Kb1; have HB := q_HB; have Kb1 := q_Kb1; clear q_HB q_Kb1; have c0 := (blk_cell Kb1.out 0).trans rfl; have c1 := (blk_cell Kb1.out 1).trans rfl; have c2 := (blk_cell Kb1.out 2).trans rfl; have c3 := (blk_cell Kb1.out 3).trans rfl; have c4 := (blk_cell Kb1.out 4).trans rfl; have c5 := (blk_cell Kb1.out 5).trans rfl; have c6 := (blk_cell Kb1.out 6).trans rfl; clear hb hbox hg) | ((with_reducible refine gate_dst (N := 8) rfl ?_); refine Kd.N_lit k26 _ 26 ?hg (N' := 8) ?hd (xs := [(⟨ck, ⟨cx, cy, cw, ch⟩, cid, l⟩ : S26)]) (inner := [.int .u8 ck, .int .i64 cx, .int .i64 cy, .int .i64 cw, .int .i64 ch, .int .i64 cid, .slice A l.length cc]) (ok := fun _ => True) (okp := fun _ => True) ?hr ?hp (fun _ hk => hk) trivial (Below.refl _ _) (Nat.le_refl _) (by simp) ?_; (case hd => rfl); (case hg => rfl); (case hr => (go_simp; done)); (case hp => exact (Reps.c7 (k26_mkF _ _ (⟨ck, ⟨cx, cy, cw, ch⟩, cid, l⟩ : S26) HC.out (Kd.F_mono (Kd.C_F k26_heap (Kd.C_below HR.out HB.out)) (fun _ _ => trivial))) (Reps.none _ _))); intro vr wr ho hb hg_ hnew_; clear hg_ hnew_; obtain ⟨Am, cm, er⟩ := Kd.N_slice ho; subst er; have q_HB := Aside0.mk (below_step HB.out hb); have q_Kb1 := Aside0.mk (blk_below Kb1.out hb); have q_Kgw := Aside0.mk (blk_below Kgw.out hb); clear HB Kb1 Kgw; have HB := q_HB; have Kb1 := q_Kb1; have Kgw := q_Kgw; clear q_HB q_Kb1 q_Kgw; have Hm := Aside0.mk (Kd.N_reads' ho).2.2; have Lm := Aside0.mk (Kd.N_reads' ho).2.1; clear ho hb c0 c1 c2 c3 c4 c5 c6))
      refine (cell_May.calls Am cm [(⟨ck, ⟨cx, cy, cw, ch⟩, cid, l⟩ : S26)] true _ Hm.out Lm.out HM.out).mono ?_
      rintro e w1 ⟨rfl, hb⟩
      have q_HB := Aside0.mk (below_step HB.out hb); have q_Kb1 := Aside0.mk (blk_below Kb1.out hb); have q_Kgw := Aside0.mk (blk_below Kgw.out hb); clear HB Kb1 Kgw; have HB := q_HB; have Kb1 := q_Kb1; have Kgw := q_Kgw; clear q_HB q_Kb1 q_Kgw
      clear hb Hm Lm
      have HI := Aside0.mk (show WalkI w gw 0 w1 from ⟨HB.out, 0, .slice none 0 0, [], Kgw.out, Kd.R_nil _ _ _ _ _, Nat.le_refl _⟩)
      have c0 := (blk_cell Kb1.out 0).trans rfl
      have c1 := (blk_cell Kb1.out 1).trans rfl
      have c2 := (blk_cell Kb1.out 2).trans rfl
      have c3 := (blk_cell Kb1.out 3).trans rfl
      have c4 := (blk_cell Kb1.out 4).trans rfl
      have c5 := (blk_cell Kb1.out 5).trans rfl
      have c6 := (blk_cell Kb1.out 6).trans rfl
      go_wp2_with fail
      clear c0 c1 c2 c3 c4 c5 c6
      refine (HW.out gw w1 GG.out HI.out).mono ?_
      rintro e w2 ⟨rfl, ⟨hb2, n, v, ls, hk, _, _⟩, _⟩
      clear HB Kgw HI Kb1
      have HB := Aside0.mk hb2
      have Kgw := Aside0.mk hk
      clear hb2 hk
      go_wp2
      go_ret
      exact ⟨rfl, HB.out⟩
    | false =>
      simp only [Bool.false_eq_true, if_false]
      go_enter Try.func180, Try.ntmps180
      go_wp2_with (first | ((with_reducible refine gate_dst (N := 1) rfl ?_); refine box_event ?hg (N := 1) ?hd (cs := #[.int .u8 ck, .int .i64 cx, .int .i64 cy, .int .i64 cw, .int .i64 ch, .int .i64 cid, .slice A l.length cc]) (t := 26) ?hr ?_; (case hd => rfl); (case hg => rfl); (case hr => (go_simp; done)); intro b1 hg wb1 hbox hb; have Kb1 := Aside0.mk hbox; have q_HB := Aside0.mk (below_step HB.out hb); clear HB; have HB := q_HB; clear q_HB; clear hb hbox hg) | ((with_reducible refine gate_dst (N := 5) rfl ?_); refine box_event ?hg (N := 5) ?hd (cs := #[.int .i64 0, .slice none 0 0]) (t := 182) ?hr ?_; (case hd => rfl); (case hg => rfl); (case hr => (go_simp; done)); intro gw hg wgw hbox hb; have Kgw := Aside0.mk hbox; have GG := Aside0.mk (show w.heap.size ≤ gw by rw [hg]; exact HB.out.size); have q_HB := Aside0.mk (below_step HB.out hb); have q_Kb1 := Aside0.mk (blk_below Kb1.out hb); clear HB Kb1; have HB := q_HB; have Kb1 := q_Kb1; clear q_HB q_Kb1; have c0 := (blk_cell Kb1.out 0).trans rfl; have c1 := (blk_cell Kb1.out 1).trans rfl; have c2 := (blk_cell Kb1.out 2).trans rfl; have c3 := (blk_cell Kb1.out 3).trans rfl; have c4 := (blk_cell Kb1.out 4).trans rfl; have c5 := (blk_cell Kb1.out 5).trans rfl; have c6 := (blk_cell Kb1.out 6).trans rfl; clear hb hbox hg) | ((with_reducible refine gate_dst (N := 8) rfl ?_); refine Kd.N_lit k26 _ 26 ?hg (N' := 8) ?hd (xs := [(⟨ck, ⟨cx, cy, cw, ch⟩, cid, l⟩ : S26)]) (inner := [.int .u8 ck, .int .i64 cx, .int .i64 cy, .int .i64 cw, .int .i64 ch, .int .i64 cid, .slice A l.length cc]) (ok := fun _ => True) (okp := fun _ => True) ?hr ?hp (fun _ hk => hk) trivial (Below.refl _ _) (Nat.le_refl _) (by simp) ?_; (case hd => rfl); (case hg => rfl); (case hr => (go_simp; done)); (case hp => exact (Reps.c7 (k26_mkF _ _ (⟨ck, ⟨cx, cy, cw, ch⟩, cid, l⟩ : S26) HC.out (Kd.F_mono (Kd.C_F k26_heap (Kd.C_below HR.out HB.out)) (fun _ _ => trivial))) (Reps.none _ _))); intro vr wr ho hb hg_ hnew_; clear hg_ hnew_; obtain ⟨Am, cm, er⟩ := Kd.N_slice ho; subst er; have q_HB := Aside0.mk (below_step HB.out hb); have q_Kb1 := Aside0.mk (blk_below Kb1.out hb); have q_Kgw := Aside0.mk (blk_below Kgw.out hb); clear HB Kb1 Kgw; have HB := q_HB; have Kb1 := q_Kb1; have Kgw := q_Kgw; clear q_HB q_Kb1 q_Kgw; have Hm := Aside0.mk (Kd.N_reads' ho).2.2; have Lm := Aside0.mk (Kd.N_reads' ho).2.1; clear ho hb c0 c1 c2 c3 c4 c5 c6))
      refine (cell_May.calls Am cm [(⟨ck, ⟨cx, cy, cw, ch⟩, cid, l⟩ : S26)] true _ Hm.out Lm.out HM.out).mono ?_
      rintro e w1 ⟨rfl, hb⟩
      have q_HB := Aside0.mk (below_step HB.out hb); have q_Kb1 := Aside0.mk (blk_below Kb1.out hb); have q_Kgw := Aside0.mk (blk_below Kgw.out hb); clear HB Kb1 Kgw; have HB := q_HB; have Kb1 := q_Kb1; have Kgw := q_Kgw; clear q_HB q_Kb1 q_Kgw
      clear hb Hm Lm
      have HI := Aside0.mk (show WalkI w gw 0 w1 from ⟨HB.out, 0, .slice none 0 0, [], Kgw.out, Kd.R_nil _ _ _ _ _, Nat.le_refl _⟩)
      have c0 := (blk_cell Kb1.out 0).trans rfl
      have c1 := (blk_cell Kb1.out 1).trans rfl
      have c2 := (blk_cell Kb1.out 2).trans rfl
      have c3 := (blk_cell Kb1.out 3).trans rfl
      have c4 := (blk_cell Kb1.out 4).trans rfl
      have c5 := (blk_cell Kb1.out 5).trans rfl
      have c6 := (blk_cell Kb1.out 6).trans rfl
      go_wp2_with fail
      clear c0 c1 c2 c3 c4 c5 c6
      refine (HW.out gw w1 GG.out HI.out).mono ?_
      rintro e w2 ⟨rfl, ⟨hb2, n, v, ls, hk, _, _⟩, _⟩
      clear HB Kgw HI Kb1
      have HB := Aside0.mk hb2
      have Kgw := Aside0.mk hk
      clear hb2 hk
      have c0 := (blk_cell Kgw.out 0).trans rfl
      have c1 := (blk_cell Kgw.out 1).trans rfl
      go_wp2_with fail
      clear c0 c1
      refine (new196 5 n (by decide) _).mono ?_
      rintro e w2 ⟨⟨tv, v, rfl⟩, hb⟩
      have q_HB := Aside0.mk (below_step HB.out hb); clear HB; have HB := q_HB; clear q_HB
      clear hb
      go_wp2_with (((with_reducible refine gate_dst (N := 24) rfl ?_); refine Kd.R_lit Kd.string _ 9 ?hg (N := 24) ?hd (xs := [(⟨#[108, 97, 121, 111, 117, 116]⟩ : ByteArray)]) (inner := [.string (⟨#[108, 97, 121, 111, 117, 116]⟩ : ByteArray)]) (ok := fun _ => True) (okp := fun _ => True) ?hr ?hp (fun _ hk => hk) trivial (Below.refl _ _) (Nat.le_refl _) (by simp) ?_; (case hd => rfl); (case hg => rfl); (case hr => (go_simp; done)); (case hp => exact (Reps.one (show Kd.M Kd.string _ _ _ (⟨#[108, 97, 121, 111, 117, 116]⟩ : ByteArray) [.string (⟨#[108, 97, 121, 111, 117, 116]⟩ : ByteArray)] from rfl) (Reps.none _ _))); intro vs wr ho hb hg_ hnew_; clear hg_ hnew_; obtain ⟨As, cs_, er⟩ := Kd.R_slice ho; subst er; have q_HB := Aside0.mk (below_step HB.out hb); clear HB; have HB := q_HB; clear q_HB; have Hs := Aside0.mk (Kd.R_reads' ho).2.2; have Ls := Aside0.mk (Kd.R_reads' ho).2.1; clear ho hb))
      obtain ⟨ad, ea⟩ := row_some Hs.out
      subst ea
      refine (in195 tv v ad cs_ _ _ Hs.out Ls.out).mono ?_
      rintro e w3 ⟨⟨tu, u, rfl⟩, hb⟩
      have q_HB := Aside0.mk (below_step HB.out hb); clear HB; have HB := q_HB; clear q_HB
      clear hb Hs Ls
      go_wp2
      go_ret
      exact ⟨⟨_, _, rfl⟩, HB.out⟩
set_option maxHeartbeats 2000000 in
theorem clo179 (x : S26) (hz : sz x ≤ 1048576) (B : Option Addr) (cb : Nat) (W : World) (hr : Kd.C k26 W B x.f3.length x.f3) (hl : x.f3.length ≤ cb) :
    Calls Try.prog 179 #[.agg #[.int .u8 x.f0, .int .i64 x.f1.f0, .int .i64 x.f1.f1, .int .i64 x.f1.f2, .int .i64 x.f1.f3, .int .i64 x.f2, .slice B x.f3.length cb]] W fun e w' => e = .returned (.bool (!tilesC x)) ∧ Below W.heap.size W w' := by
  have HC := Aside0.mk (fun W1 (hb : Below W.heap.size W W1) => check180 x hz B cb W1 (Kd.C_below hr hb) hl)
  have HB := Aside0.mk (Below.refl W.heap.size W)
  clear hr hl hz
  cases hq : tilesC x
  all_goals
    simp only [hq, if_pos, Bool.false_eq_true, if_false] at HC
    clear hq
    go_enter Try.func179, Try.ntmps179
    go_wp2_with (((with_reducible refine gate_dst (N := 1) rfl ?_); refine box_event ?hg (N := 1) ?hd (cs := #[.int .u8 x.f0, .int .i64 x.f1.f0, .int .i64 x.f1.f1, .int .i64 x.f1.f2, .int .i64 x.f1.f3, .int .i64 x.f2, .slice B x.f3.length cb]) (t := 26) ?hr ?_; (case hd => rfl); (case hg => rfl); (case hr => (go_simp; done)); intro b1 hg wb1 hbox hb; have Kb1 := Aside0.mk hbox; have q_HB := Aside0.mk (below_step HB.out hb); clear HB; have HB := q_HB; clear q_HB; have c0 := (blk_cell Kb1.out 0).trans rfl; have c1 := (blk_cell Kb1.out 1).trans rfl; have c2 := (blk_cell Kb1.out 2).trans rfl; have c3 := (blk_cell Kb1.out 3).trans rfl; have c4 := (blk_cell Kb1.out 4).trans rfl; have c5 := (blk_cell Kb1.out 5).trans rfl; have c6 := (blk_cell Kb1.out 6).trans rfl; clear hb hbox hg))
    clear c0 c1 c2 c3 c4 c5 c6
  · refine (HC.out _ HB.out).mono ?_
    rintro e w2 ⟨⟨t, u, rfl⟩, hb⟩
    have q_HB := Aside0.mk (below_step HB.out hb); clear HB; have HB := q_HB; clear q_HB
    clear hb
    go_wp2
    go_ret
    exact ⟨rfl, HB.out⟩
  · refine (HC.out _ HB.out).mono ?_
    rintro e w2 ⟨rfl, hb⟩
    have q_HB := Aside0.mk (below_step HB.out hb); clear HB; have HB := q_HB; clear q_HB
    clear hb
    go_wp2
    go_ret
    exact ⟨rfl, HB.out⟩
set_option maxHeartbeats 1000000 in
theorem tiles148 (l : List S26) (hz : ∀ x, x ∈ l → sz x ≤ 1048576) (A : Option Addr) (c : Nat) (w : World) (hr : Kd.C k26 w A l.length l) (hc : l.length ≤ c) :
    Calls Try.prog 148 #[.slice A l.length c] w fun e w' => e = .returned (.bool (l.all tilesC)) ∧ Below w.heap.size w w' := by
  have hq := cons174 (fun _ W => Below w.heap.size w W) (fun x => !tilesC x) 179 #[] (enters_fn Try.func179 (by decide +kernel) (by kernel_rfl)) l A c w hr (fun _ _ h => h) (fun _ W n h => below_step h (pw_below_drewN (Below.refl _ _) n))
    (fun x rest W B cb hx _ hI hC hlx => by
      refine (clo179 x (hz x hx) B cb W (Kd.C_below hC hI) hlx).mono ?_
      rintro e w' ⟨he, hb⟩
      exact ⟨he, below_step hI hb⟩) w (Below.refl _ _) hr.2.1
  have HQ := Aside0.mk hq
  rw [List.all_eq_not_any_not]
  clear hq hr hc hz
  generalize l.any (fun x => !tilesC x) = r at HQ ⊢
  cases r
  all_goals
    go_enter Try.func148, Try.ntmps148
    go_wp2_with fail
    refine HQ.out.mono ?_
    rintro e w2 ⟨rfl, hb⟩
    have HB := Aside0.mk hb
    clear hb
    go_wp2
    go_ret
    exact ⟨rfl, HB.out⟩
noncomputable def tile_Tiles.f (l0 : List S26) : Option Bool := if l0.all (fun c => decide (sz c ≤ 1048576)) = true then some (l0.all tilesC) else none
theorem tile_Tiles.calls (A0 : Option Addr) (c0 : Nat) (l0 : List S26) (r : Bool) (w : World) (hr0 : Kd.C k26 w A0 l0.length l0) (hc0 : l0.length ≤ c0) (h : tile_Tiles.f l0 = some r) :
    Calls Try.prog 148 #[.slice A0 l0.length c0] w fun e w' => e = .returned (.bool r) ∧ Below w.heap.size w w' := by
  unfold tile_Tiles.f at h
  split at h
  · rename_i hz
    injection h with h
    subst h
    exact tiles148 l0 (fun x hx => of_decide_eq_true (List.all_eq_true.1 hz x hx)) A0 c0 w hr0 hc0
  · exact absurd h (by simp)
end Go.Proofs.Ytfdmfgaiblfbhaa.P
namespace Go.Proofs.Ytfdmfgaiblfbhaa.P
open Go.RowKit Go.Proofs.YtfdmfgaiblfbhaaW.PrintWords Go.Proofs.YtfdmfgaiblfbhaaW.PrintLast Go.Proofs.YtfdmfgaiblfbhaaW.PrintMore
attribute [local go_sem] max2_int min2_int max_two min_two max_three min_three max_four min_four   -- for this text's walks alone
set_option linter.unusedVariables false
set_option linter.unusedSimpArgs false

/-! ### least_Gives: function 86 -/
noncomputable def least_Gives.j0 : Nat → Int → Bool → Int → Int → Int → Int → Int → Int → List (S26) → Option (Int)
 | 0, _, _, _, _, _, _, _, _, _ => none
 | k + 1, x1, x13, x972000, x972001, x972002, x972003, x972004, x972005, x972006 => if x13 = true then (some 0) else ((least_Size.f x972001 x972002 x972003 x972004 x1).bind fun t977 => ((least_least.f k x972000 x972001 x972002 x972003 x972004 x972005 x972006 x1).bind fun t978 => (some (wrap64 (t977 - t978)))))
noncomputable def least_Gives.f (k : Nat) (a0_0 : Int) (a0_1 : Int) (a0_2 : Int) (a0_3 : Int) (a0_4 : Int) (a0_5 : Int) (l0_6 : List (S26)) (a1 : Int) : Option (Int) := (least_axes.f a1).bind fun t972 => (if t972 = true then ((tile_Tiles.f (([(⟨a0_0, (⟨a0_1, a0_2, a0_3, a0_4⟩ : S23), a0_5, l0_6⟩ : S26)] : List (S26)))).bind fun t976 => (least_Gives.j0 k a1 (!t976) a0_0 a0_1 a0_2 a0_3 a0_4 a0_5 l0_6)) else (least_Gives.j0 k a1 true a0_0 a0_1 a0_2 a0_3 a0_4 a0_5 l0_6))
def least_Gives.T3 : Bool × List (List Nat × List Nat) := (true, [([], []), ([0], [0]), ([], []), ([1, 2], [1, 2]), ([], []), ([], []), ([4, 5, 3], [4, 5]), ([3, 6], [3, 6]), ([7, 6, 0, 1, 2, 3, 4, 5, 6, 7], [7])])
def least_Gives.B3 : List Nat := [0, 1, 0, 7, 0, 0, 63, 127, 255]
theorem least_Gives.tab3 : rtab .any (opsOf Try.f86 3) = least_Gives.T3 := by kernel_rfl
theorem least_Gives.bits3 : waitsOk least_Gives.T3.2 least_Gives.B3 = true := by kernel_rfl
set_option maxHeartbeats 8000000 in
set_option maxRecDepth 100000 in
theorem least_Gives.calls (k : Nat) (a0_0 : Int) (a0_1 : Int) (a0_2 : Int) (a0_3 : Int) (a0_4 : Int) (a0_5 : Int) (P0_6_ : Nat → Prop) (A0_6 : Option Addr) (c0_6 : Nat) (l0_6 : List (S26)) (a1 : Int) (r : Int) (w : World) (hs0_6 : Kd.V k26 26 w w.heap.size (fun k_ => P0_6_ k_) (.slice A0_6 l0_6.length c0_6) l0_6) (h : least_Gives.f k a0_0 a0_1 a0_2 a0_3 a0_4 a0_5 l0_6 a1 = some r) :
  Calls Try.prog 86 #[.agg #[.int .u8 a0_0, .int .i64 a0_1, .int .i64 a0_2, .int .i64 a0_3, .int .i64 a0_4, .int .i64 a0_5, .slice A0_6 l0_6.length c0_6], .int .u8 a1] w fun e w' => e = .returned (.int .i64 r) ∧ Below w.heap.size w w' := by
 have hu26 := Try.underlying26
 have hu23 := Try.underlying23
 have HO0_6 := Aside0.mk (show Kd.V k26 26 w w.heap.size (fun k_ => (P0_6_ k_ ∨ w.heap.size ≤ k_)) (.slice A0_6 l0_6.length c0_6) l0_6 from Kd.V_mono hs0_6 (fun k_ hk => .inl hk))
 have HB := Aside0.mk (Below.refl w.heap.size w)
 have H : ((least_axes.f a1).bind fun t972 => (if t972 = true then ((tile_Tiles.f (([(⟨a0_0, (⟨a0_1, a0_2, a0_3, a0_4⟩ : S23), a0_5, l0_6⟩ : S26)] : List (S26)))).bind fun t976 => (least_Gives.j0 k a1 (!t976) a0_0 a0_1 a0_2 a0_3 a0_4 a0_5 l0_6)) else (least_Gives.j0 k a1 true a0_0 a0_1 a0_2 a0_3 a0_4 a0_5 l0_6))) = some r := h
 clear h
 have HC3 := Aside0.mk H
 clear H
 go_enter Try.func86, Try.ntmps86
 go_upto_region 1 with (((with_reducible refine gate_dst (N := 2) rfl ?_); (try (refine gate_guard (by rfl) ?_; dsimp only)); refine box_event ?hg (N := 2) ?hd (cs := #[.int .u8 a0_0, .int .i64 a0_1, .int .i64 a0_2, .int .i64 a0_3, .int .i64 a0_4, .int .i64 a0_5, .slice A0_6 l0_6.length c0_6]) (t := 26) ?hr ?_; (case hd => rfl); (case hg => rfl); (case hr => (go_simp; done)); intro gb971 hg w4 hbox hb; have BK971 := Aside0.mk (hbox); replace HO0_6 := Aside0.mk (Kd.V_below (Kd.V_elderB HO0_6.out gb971 (Nat.le_of_eq hg.symm)) hb); replace HB := Aside0.mk (below_step (by repeat ((with_reducible exact HB.out))) hb); clear hb hbox hg))
 (skip)
 go_cut [13] (fun v13 wc => ∃ (kq : Nat) (x13_2 : Bool), v13 = .bool x13_2 ∧ Aside0 (least_Gives.j0 kq a1 x13_2 a0_0 a0_1 a0_2 a0_3 a0_4 a0_5 l0_6 = some r) ∧ Aside0 (kq ≤ k) ∧ Aside0 (Kd.V k26 26 wc w.heap.size (fun k_ => (P0_6_ k_ ∨ w.heap.size ≤ k_) ∧ k_ ≠ gb971) (.slice A0_6 l0_6.length c0_6) l0_6) ∧ Aside0 (wc.heap[gb971]? = some (.cells #[.int .u8 a0_0, .int .i64 a0_1, .int .i64 a0_2, .int .i64 a0_3, .int .i64 a0_4, .int .i64 a0_5, (.slice A0_6 l0_6.length c0_6)] 26 (0, 0))) ∧ Aside0 (Below w.heap.size w wc))
 case first =>
  have H := HC3.out
  clear HC3
  replace H := Option.bind_eq_some_iff.mp H
  obtain ⟨t972, A50, H⟩ := H
  replace H : (if t972 = true then ((tile_Tiles.f (([(⟨a0_0, (⟨a0_1, a0_2, a0_3, a0_4⟩ : S23), a0_5, l0_6⟩ : S26)] : List (S26)))).bind fun t976 => (least_Gives.j0 k a1 (!t976) a0_0 a0_1 a0_2 a0_3 a0_4 a0_5 l0_6)) else (least_Gives.j0 k a1 true a0_0 a0_1 a0_2 a0_3 a0_4 a0_5 l0_6)) = some r := H
  have A5 := Aside0.mk A50
  clear A50
  by_cases c6 : t972 = true
  ·subst c6
   have H1 : ((tile_Tiles.f (([(⟨a0_0, (⟨a0_1, a0_2, a0_3, a0_4⟩ : S23), a0_5, l0_6⟩ : S26)] : List (S26)))).bind fun t976 => (least_Gives.j0 k a1 (!t976) a0_0 a0_1 a0_2 a0_3 a0_4 a0_5 l0_6)) = some r := by rw [if_pos rfl] at H; exact H
   clear H
   have H := H1
   clear H1
   obtain ⟨y973, hy973⟩ : ∃ y_ : List (S26), y_ = (([(⟨a0_0, (⟨a0_1, a0_2, a0_3, a0_4⟩ : S23), a0_5, l0_6⟩ : S26)] : List (S26))) := ⟨_, rfl⟩
   replace H : ((tile_Tiles.f y973).bind fun t976 => (least_Gives.j0 k a1 (!t976) a0_0 a0_1 a0_2 a0_3 a0_4 a0_5 l0_6)) = some r := by (rw [hy973]; with_reducible exact H)
   have Ny973 := Aside0.mk hy973
   clear hy973
   replace H := Option.bind_eq_some_iff.mp H
   obtain ⟨t976, A70, H⟩ := H
   replace H : (least_Gives.j0 k a1 (!t976) a0_0 a0_1 a0_2 a0_3 a0_4 a0_5 l0_6) = some r := H
   have A7 := Aside0.mk A70
   clear A70
   have H' := Aside0.mk H
   clear H
   go_wp2_with (first | ((with_reducible refine gate_callee (f := 147) rfl ?_); refine goesL_ (some 6) rfl rfl Try.func147 (by kernel_rfl) rfl #[.int .u8 a1] rfl (by (try simp only [List.map_toArray, List.map_cons, List.map_nil]); rfl) ?_; (with_reducible refine (least_axes.calls a1 true _ A5.out).mono ?_); rintro e w8 ⟨rfl, hb⟩; refine ⟨_, rfl, ?_⟩; replace HO0_6 := Aside0.mk (Kd.V_below HO0_6.out hb); replace BK971 := Aside0.mk (blk_below BK971.out hb); replace HB := Aside0.mk (below_step (by repeat ((with_reducible exact HB.out))) hb); (try clear hb); have hcz9_0 : w8.cell? ⟨gb971, 0, none⟩ = some (.int .u8 a0_0) := (blk_cell BK971.out 0).trans rfl; have hcz9_1 : w8.cell? ⟨gb971, 1, none⟩ = some (.int .i64 a0_1) := (blk_cell BK971.out 1).trans rfl; have hcz9_2 : w8.cell? ⟨gb971, 2, none⟩ = some (.int .i64 a0_2) := (blk_cell BK971.out 2).trans rfl; have hcz9_3 : w8.cell? ⟨gb971, 3, none⟩ = some (.int .i64 a0_3) := (blk_cell BK971.out 3).trans rfl; have hcz9_4 : w8.cell? ⟨gb971, 4, none⟩ = some (.int .i64 a0_4) := (blk_cell BK971.out 4).trans rfl; have hcz9_5 : w8.cell? ⟨gb971, 5, none⟩ = some (.int .i64 a0_5) := (blk_cell BK971.out 5).trans rfl; have hcz9_6 : w8.cell? ⟨gb971, 6, none⟩ = some (.slice A0_6 l0_6.length c0_6) := (blk_cell BK971.out 6).trans rfl; have hfz9_0 := blk_frozen BK971.out 0; have hfz9_1 := blk_frozen BK971.out 1; have hfz9_2 := blk_frozen BK971.out 2; have hfz9_3 := blk_frozen BK971.out 3; have hfz9_4 := blk_frozen BK971.out 4; have hfz9_5 := blk_frozen BK971.out 5; have hfz9_6 := blk_frozen BK971.out 6) | ((with_reducible refine gate_dst (N := 10) rfl ?_); (try (refine gate_guard (by rfl) ?_; dsimp only)); refine Kd.N_lit k26 _ 26 ?hg (N' := 10) ?hd (xs := ([(⟨a0_0, (⟨a0_1, a0_2, a0_3, a0_4⟩ : S23), a0_5, l0_6⟩ : S26)] : List (S26))) (inner := [.int .u8 a0_0, .int .i64 a0_1, .int .i64 a0_2, .int .i64 a0_3, .int .i64 a0_4, .int .i64 a0_5, .slice A0_6 l0_6.length c0_6]) (ok := (fun k_ => (P0_6_ k_ ∨ w.heap.size ≤ k_) ∧ k_ ≠ gb971)) (okp := (fun k_ => (P0_6_ k_ ∨ w.heap.size ≤ k_) ∧ k_ ≠ gb971)) ?hr ?hp (fun _ hk => hk) ((show ∀ k_, w8.heap.size ≤ k_ → (fun k_ => (P0_6_ k_ ∨ w.heap.size ≤ k_) ∧ k_ ≠ gb971) k_ from fun k_ hk => ⟨(.inr (Nat.le_trans (below_size (by repeat ((with_reducible exact HB.out)))) hk)), Kd.freshB BK971.out k_ hk⟩) _ (Nat.le_refl _)) (Below.refl _ _) (Nat.le_refl _) (by simp) ?_; (case hd => rfl); (case hg => rfl); (case hr => (go_simp; done)); (case hp => exact (Reps.c7 (show Kd.FK k26 _ _ (⟨a0_0, (⟨a0_1, a0_2, a0_3, a0_4⟩ : S23), a0_5, l0_6⟩ : S26) [.int .u8 a0_0, .int .i64 a0_1, .int .i64 a0_2, .int .i64 a0_3, .int .i64 a0_4, .int .i64 a0_5, .slice A0_6 l0_6.length c0_6] from (k26_mkF _ _ (⟨a0_0, (⟨a0_1, a0_2, a0_3, a0_4⟩ : S23), a0_5, l0_6⟩ : S26) (Kd.V_reads' (Kd.V_mono (ok' := (fun k_ => (P0_6_ k_ ∨ w.heap.size ≤ k_) ∧ k_ ≠ gb971)) (HO0_6.out) (fun k_ hk => ⟨hk.1, hk.2⟩))).2.1 (Kd.V_F (Kd.V_mono (ok' := (fun k_ => (P0_6_ k_ ∨ w.heap.size ≤ k_) ∧ k_ ≠ gb971)) (HO0_6.out) (fun k_ hk => ⟨hk.1, hk.2⟩))))) (Reps.none _ _))); intro v974 w10 ho11 hb hg_ hnew_; clear hg_ hnew_; (rw [← Ny973.out] at ho11); have HO975 := Aside0.mk (Kd.N_lower ho11 (below_size (by repeat ((with_reducible exact HB.out))))); replace HO0_6 := Aside0.mk (Kd.V_elder' HO0_6.out (Kd.N_base ho11) hb); replace BK971 := Aside0.mk (blk_below BK971.out hb); replace HB := Aside0.mk (below_step (by repeat ((with_reducible exact HB.out))) hb); clear hb ho11; obtain ⟨Ao12, co12, eo12⟩ := Kd.N_slice HO975.out; subst eo12) | (go_at_call 148; (with_reducible refine (tile_Tiles.calls _ _ y973 t976 _ ?side1 ?side2 A7.out).mono ?_); (case side1 => repeat (exact (Kd.N_reads' HO975.out).2.2)); (case side2 => exact (Kd.N_reads' HO975.out).2.1); rintro e w13 ⟨rfl, hb⟩; replace HO0_6 := Aside0.mk (Kd.V_below HO0_6.out hb); replace HO975 := Aside0.mk (Kd.N_below HO975.out hb); replace BK971 := Aside0.mk (blk_below BK971.out hb); replace HB := Aside0.mk (below_step (by repeat ((with_reducible exact HB.out))) hb); (try clear hb)))
   go_meet
   case rel => exact ⟨_, (!t976), (by rfl), H', ⟨by omega⟩, ⟨by exact Kd.V_mono HO0_6.out (fun _ hk => ⟨hk.1.1, hk.1.2⟩)⟩, ⟨by exact BK971.out⟩, ⟨by repeat ((with_reducible exact HB.out))⟩⟩
  ·replace c6 := Bool.eq_false_iff.mpr c6
   subst c6
   have H1 : (least_Gives.j0 k a1 true a0_0 a0_1 a0_2 a0_3 a0_4 a0_5 l0_6) = some r := by rw [if_neg (show ¬ (false = true) by decide)] at H; exact H
   clear H
   have H := H1
   clear H1
   have H' := Aside0.mk H
   clear H
   go_wp2_with (((with_reducible refine gate_callee (f := 147) rfl ?_); refine goesL_ (some 6) rfl rfl Try.func147 (by kernel_rfl) rfl #[.int .u8 a1] rfl (by (try simp only [List.map_toArray, List.map_cons, List.map_nil]); rfl) ?_; (with_reducible refine (least_axes.calls a1 false _ A5.out).mono ?_); rintro e w14 ⟨rfl, hb⟩; refine ⟨_, rfl, ?_⟩; replace HO0_6 := Aside0.mk (Kd.V_below HO0_6.out hb); replace BK971 := Aside0.mk (blk_below BK971.out hb); replace HB := Aside0.mk (below_step (by repeat ((with_reducible exact HB.out))) hb); (try clear hb)))
   go_meet
   case rel => exact ⟨_, (true), (by rfl), H', ⟨by omega⟩, ⟨by exact HO0_6.out⟩, ⟨by exact BK971.out⟩, ⟨by repeat ((with_reducible exact HB.out))⟩⟩
 case rest =>
  clear HC3
  obtain ⟨kq, x13_2, rfl, HA, HJ2, HO_972006, BK971, HB⟩ := hcut
  cases kq with
  | zero => exact absurd HA.out (by simp [least_Gives.j0])
  | succ kj2 =>
   have H := HA.out
   clear HA
   simp only [least_Gives.j0] at H
   by_cases c15 : x13_2 = true
   ·subst c15
    have H1 : (some 0) = some r := by rw [if_pos rfl] at H; exact H
    clear H
    have H := H1
    clear H1
    obtain rfl := Option.some.inj H
    go_wp2
    go_ret
    exact ⟨by rfl, by repeat ((with_reducible exact HB.out))⟩
   ·replace c15 := Bool.eq_false_iff.mpr c15
    subst c15
    have H1 : ((least_Size.f a0_1 a0_2 a0_3 a0_4 a1).bind fun t977 => ((least_least.f kj2 a0_0 a0_1 a0_2 a0_3 a0_4 a0_5 l0_6 a1).bind fun t978 => (some (wrap64 (t977 - t978))))) = some r := by rw [if_neg (show ¬ (false = true) by decide)] at H; exact H
    clear H
    have H := H1
    clear H1
    replace H := Option.bind_eq_some_iff.mp H
    obtain ⟨t977, A160, H⟩ := H
    replace H : ((least_least.f kj2 a0_0 a0_1 a0_2 a0_3 a0_4 a0_5 l0_6 a1).bind fun t978 => (some (wrap64 (t977 - t978)))) = some r := H
    have A16 := Aside0.mk A160
    clear A160
    replace H := Option.bind_eq_some_iff.mp H
    obtain ⟨t978, A170, H⟩ := H
    replace H : (some (wrap64 (t977 - t978))) = some r := H
    have A17 := Aside0.mk A170
    clear A170
    obtain rfl := Option.some.inj H
    try go_wp2
    replace HO_972006 := Aside0.mk (Kd.V_drew HO_972006.out); replace BK971 := Aside0.mk (blk_drew BK971.out); replace HB := Aside0.mk (below_drew1 HB.out)
    refine start_ (n := 9) (S := fun w' => w'.cell? ⟨gb971, 0, none⟩ = some (.int .u8 a0_0) ∧ w'.cell? ⟨gb971, 1, none⟩ = some (.int .i64 a0_1) ∧ w'.cell? ⟨gb971, 2, none⟩ = some (.int .i64 a0_2) ∧ w'.cell? ⟨gb971, 3, none⟩ = some (.int .i64 a0_3) ∧ w'.cell? ⟨gb971, 4, none⟩ = some (.int .i64 a0_4) ∧ w'.cell? ⟨gb971, 5, none⟩ = some (.int .i64 a0_5) ∧ w'.cell? ⟨gb971, 6, none⟩ = some (.slice A0_6 l0_6.length c0_6)) (ds := []) #[false, false, false, false, false, false, false, false, false] (by kernel_rfl) rfl rfl ⟨(blk_cell BK971.out 0).trans rfl, (blk_cell BK971.out 1).trans rfl, (blk_cell BK971.out 2).trans rfl, (blk_cell BK971.out 3).trans rfl, (blk_cell BK971.out 4).trans rfl, (blk_cell BK971.out 5).trans rfl, (blk_cell BK971.out 6).trans rfl⟩ (fun hHeld => ?_); refine with_tabW least_Gives.tab3 least_Gives.bits3 (fun HT_ HW_ => ?_)
    generalize wc.drew = w18 at HO_972006 BK971 HB hHeld ⊢
    refine pure_ (i := 0) (N := some 14) (v := ?_) (a' := ?_) #[true, false, false, false, false, false, false, false, false] rfl rfl (any_of HT_.out (by kernel_rfl)) (fun _ _ _ h => h) (Or.inl ⟨by rfl, ?_⟩) ?_ ?_
    rotate_left
    ·intro w'
     go_simp
     with_reducible rfl
    rotate_left
    ·simp only [Act.put, List.setIfInBounds_toArray, List.set_cons_zero, List.set_cons_succ, i64_w, i32_w]
     rfl
    refine pure_ (i := 2) (N := some 16) (v := ?_) (a' := ?_) #[true, false, true, false, false, false, false, false, false] rfl rfl (any_of HT_.out (by kernel_rfl)) (fun _ _ _ h => h) (Or.inl ⟨by rfl, ?_⟩) ?_ ?_
    rotate_left
    ·intro w'
     go_simp
     with_reducible rfl
    rotate_left
    ·simp only [Act.put, List.setIfInBounds_toArray, List.set_cons_zero, List.set_cons_succ, i64_w, i32_w]
     rfl
    refine pure_ (i := 5) (N := some 19) (v := ?_) (a' := ?_) #[true, false, true, false, false, true, false, false, false] rfl rfl (any_of HT_.out (by kernel_rfl)) (fun _ _ _ h => h) (Or.inl ⟨by rfl, ?_⟩) ?_ ?_
    rotate_left
    ·intro w'
     go_simp
     with_reducible rfl
    rotate_left
    ·simp only [Act.put, List.setIfInBounds_toArray, List.set_cons_zero, List.set_cons_succ, i64_w, i32_w]
     rfl
    refine take_ (i := 1) (N := some 15) (v := ?_) (a' := ?_) #[true, true, true, false, false, true, false, false, false] rfl rfl (take_ofW HT_.out HW_.out (by kernel_rfl)) (fun _ _ _ h => h) (Or.inl ⟨by rfl, ?_⟩) hHeld ?_ ?_
    rotate_left
    ·rintro w' ⟨s0, s1, s2, s3, s4, s5, s6⟩
     go_simp
     with_reducible rfl
    rotate_left
    ·simp only [Act.put, List.setIfInBounds_toArray, List.set_cons_zero, List.set_cons_succ, i64_w, i32_w]
     rfl
    refine take_ (i := 4) (N := some 18) (v := ?_) (a' := ?_) #[true, true, true, false, true, true, false, false, false] rfl rfl (take_ofW HT_.out HW_.out (by kernel_rfl)) (fun _ _ _ h => h) (Or.inl ⟨by rfl, ?_⟩) hHeld ?_ ?_
    rotate_left
    ·rintro w' ⟨s0, s1, s2, s3, s4, s5, s6⟩
     go_simp
     with_reducible rfl
    rotate_left
    ·simp only [Act.put, List.setIfInBounds_toArray, List.set_cons_zero, List.set_cons_succ, i64_w, i32_w]
     rfl
    refine one_ (i := 3) (N := some 17) #[true, true, true, true, true, true, false, false, false] rfl rfl (one_of HT_.out (by kernel_rfl)) (by decide) (fun K hK => ?_)
    refine goes_ Try.func98 (by kernel_rfl) rfl #[.agg #[.int .i64 a0_1, .int .i64 a0_2, .int .i64 a0_3, .int .i64 a0_4], .int .u8 a1] (by rfl) rfl rfl (by (try simp only [List.map_toArray, List.map_cons, List.map_nil]); rfl) ?_
    with_reducible refine (least_Size.calls a0_1 a0_2 a0_3 a0_4 a1 t977 _ A16.out).mono ?_
    rintro e w19 ⟨rfl, hb⟩
    refine ⟨_, rfl, ?_⟩
    replace HO_972006 := Aside0.mk (Kd.V_below HO_972006.out hb); replace BK971 := Aside0.mk (blk_below BK971.out hb); replace HB := Aside0.mk (below_step (by repeat ((with_reducible exact HB.out))) hb)
    (try clear hb)
    (skip)
    (skip)
    (skip)
    refine hK.out _ _ ⟨(blk_cell BK971.out 0).trans rfl, (blk_cell BK971.out 1).trans rfl, (blk_cell BK971.out 2).trans rfl, (blk_cell BK971.out 3).trans rfl, (blk_cell BK971.out 4).trans rfl, (blk_cell BK971.out 5).trans rfl, (blk_cell BK971.out 6).trans rfl⟩ (fun hHeld => ?_)
    clear hK K
    refine norm_ (a' := ?_) ?_ ?_
    rotate_left
    ·show Act.put _ (some 17) _ = _
     simp only [Act.put, List.setIfInBounds_toArray, List.set_cons_zero, List.set_cons_succ, i64_w, i32_w]
     rfl
    refine one_ (i := 6) (N := some 20) #[true, true, true, true, true, true, true, false, false] rfl rfl (one_of HT_.out (by kernel_rfl)) (by decide) (fun K hK => ?_)
    refine goes_ Try.func149 (by kernel_rfl) rfl #[.agg #[.int .u8 a0_0, .int .i64 a0_1, .int .i64 a0_2, .int .i64 a0_3, .int .i64 a0_4, .int .i64 a0_5, .slice A0_6 l0_6.length c0_6], .int .u8 a1] (by rfl) rfl rfl (by (try simp only [List.map_toArray, List.map_cons, List.map_nil]); rfl) ?_
    with_reducible refine (least_least.calls kj2 a0_0 a0_1 a0_2 a0_3 a0_4 a0_5 _ _ l0_6 a1 t978 _ ?side1 ?side2 A17.out).mono ?_
    (case side1 => repeat (exact (Kd.V_reads' HO_972006.out).2.2))
    (case side2 => exact (Kd.V_reads' HO_972006.out).2.1)
    rintro e w20 ⟨rfl, hb⟩
    refine ⟨_, rfl, ?_⟩
    replace HO_972006 := Aside0.mk (Kd.V_below HO_972006.out hb); replace BK971 := Aside0.mk (blk_below BK971.out hb); replace HB := Aside0.mk (below_step (by repeat ((with_reducible exact HB.out))) hb)
    (try clear hb)
    (skip)
    (skip)
    (skip)
    refine hK.out _ _ ⟨(blk_cell BK971.out 0).trans rfl, (blk_cell BK971.out 1).trans rfl, (blk_cell BK971.out 2).trans rfl, (blk_cell BK971.out 3).trans rfl, (blk_cell BK971.out 4).trans rfl, (blk_cell BK971.out 5).trans rfl, (blk_cell BK971.out 6).trans rfl⟩ (fun hHeld => ?_)
    clear hK K
    refine norm_ (a' := ?_) ?_ ?_
    rotate_left
    ·show Act.put _ (some 20) _ = _
     simp only [Act.put, List.setIfInBounds_toArray, List.set_cons_zero, List.set_cons_succ, i64_w, i32_w]
     rfl
    refine pure_ (i := 7) (N := some 21) (v := ?_) (a' := ?_) #[true, true, true, true, true, true, true, true, false] rfl rfl (any_of HT_.out (by kernel_rfl)) (fun _ _ _ h => h) (Or.inl ⟨by rfl, ?_⟩) ?_ ?_
    rotate_left
    ·intro w'
     go_simp
     with_reducible rfl
    rotate_left
    ·simp only [Act.put, List.setIfInBounds_toArray, List.set_cons_zero, List.set_cons_succ, i64_w, i32_w]
     rfl
    refine pure_ (i := 8) (N := some 4) (v := ?_) (a' := ?_) #[true, true, true, true, true, true, true, true, true] rfl rfl (any_of HT_.out (by kernel_rfl)) (fun _ _ _ h => h) (Or.inl ⟨by rfl, ?_⟩) ?_ ?_
    rotate_left
    ·intro w'
     go_simp
     with_reducible rfl
    rotate_left
    ·simp only [Act.put, List.setIfInBounds_toArray, List.set_cons_zero, List.set_cons_succ, i64_w, i32_w]
     rfl
    refine done_ (done_of HT_.out (by kernel_rfl)) ?_
    try go_wp2
    go_ret
    exact ⟨by rfl, by repeat ((with_reducible exact HB.out))⟩

end Go.Proofs.Ytfdmfgaiblfbhaa.P
/- May a tree be, by the reference: plain data. -/
namespace Go.Proofs.Ytfdmfgaiblfbhaa.P
open Go.RowKit Go.Proofs.YtfdmfgaiblfbhaaW.PrintWords Go.Proofs.YtfdmfgaiblfbhaaW.PrintLast Go.Proofs.YtfdmfgaiblfbhaaW.PrintMore

theorem may_ev (c : S26) (h : sz c ≤ 1048576) : Ev (fun k => sashref05_May.f k c.f0 c.f1.f0 c.f1.f1 c.f1.f2 c.f1.f3 c.f2 c.f3) (mayC c) := by
  unfold sashref05_May.f
  refine Ev.bind (all_cells _ c h (Nat.le_refl _)) ?_
  by_cases h2 : ((allC c).length : Int) > 20000
  · refine ev_pos h2 ?_
    have : mayC c = false := by
      unfold mayC sz
      rw [decide_eq_false (by omega), Bool.false_and]
    rw [this]
    exact Ev.now _
  refine ev_neg h2 ?_
  have hm : mayC c = ((allC c).all okC && distinctC (leavesC c)) := by
    unfold mayC sz
    rw [decide_eq_true (by omega), Bool.true_and]
  have hlv : (leavesC c).length ≤ 1048576 := by have := leaves_len c; omega
  -- the leaves' numbers
  have inner : ∀ (pre : List S26) (x : S26) (rest : List S26), pre ++ x :: rest = leavesC c → ∀ b : Bool, (apartTo pre x = true → Ev (fun k => sashref05_May.l1 k (leavesC c) ((leavesC c).length : Int) ((pre ++ [x]).length : Int)) b) → (apartTo pre x = false → b = false) →
      ∀ (q p : List S26), p ++ q = pre → apartTo p x = true → Ev (fun k => sashref05_May.l2 k (leavesC c) (pre.length : Int) (p.length : Int) ((leavesC c).length : Int) (pre.length : Int)) b := by
    intro pre x rest hp b hb hf q
    have hl : (pre.length : Int) < ((leavesC c).length : Int) := by rw [← hp, List.length_append, List.length_cons]; omega
    have hr : rd_T26 (leavesC c) (pre.length : Int) = x := by rw [← hp]; exact rd26_in pre x rest
    have hu : wrap64 ((pre.length : Int) + 1) = ((pre ++ [x]).length : Int) := up_in pre x rest (by rw [hp]; omega)
    induction q with
    | nil =>
      intro p hq ha
      rw [List.append_nil] at hq
      subst hq
      refine Ev.step (fun k => ?_) (hb ha)
      simp only [sashref05_May.l2]
      rw [if_neg (by omega), hu]
    | cons y ys ihq =>
      intro p hq ha
      have hpl : (p.length : Int) < (pre.length : Int) := by rw [← hq, List.length_append, List.length_cons]; omega
      have hpr : rd_T26 (leavesC c) (p.length : Int) = y := by rw [← hp, ← hq, List.append_assoc, List.cons_append]; exact rd26_in p y _
      have hpu : wrap64 ((p.length : Int) + 1) = ((p ++ [y]).length : Int) := up_in p y ys (by rw [hq]; omega)
      by_cases he : x.f2 = y.f2
      · have hbf : b = false := hf (by
          unfold apartTo
          rw [← hq, List.all_append, List.all_cons, decide_eq_false (by simpa using he), Bool.false_and, Bool.and_false])
        rw [hbf]
        refine Ev.step (f := fun _ => some false) (fun k => ?_) (Ev.now _)
        simp only [sashref05_May.l2]
        rw [if_pos hpl, if_pos (by omega), if_pos hl, if_pos (by omega), if_pos (by omega), hr, hpr, if_pos he]
      · have e2 := ihq (p ++ [y]) (by rw [List.append_assoc]; exact hq) (by
          unfold apartTo at ha ⊢
          rw [List.all_append, ha, Bool.true_and, List.all_cons, decide_eq_true (by simpa using he)]
          rfl)
        refine Ev.step (fun k => ?_) e2
        simp only [sashref05_May.l2]
        rw [if_pos hpl, if_pos (by omega), if_pos hl, if_pos (by omega), if_pos (by omega), hr, hpr, if_neg he, hpu]
  have outer : ∀ (rest pre : List S26), pre ++ rest = leavesC c → distinctC pre = true → Ev (fun k => sashref05_May.l1 k (leavesC c) ((leavesC c).length : Int) (pre.length : Int)) (distinctC (leavesC c)) := by
    intro rest
    induction rest with
    | nil =>
      intro pre hp hd
      rw [List.append_nil] at hp
      have hd2 : distinctC (leavesC c) = true := by rw [← hp]; exact hd
      rw [hd2]
      refine Ev.step (f := fun _ => some true) (fun k => ?_) (Ev.now _)
      simp only [sashref05_May.l1]
      rw [if_neg (by rw [← hp]; omega)]
    | cons x xs ihr =>
      intro pre hp hd
      have hl : (pre.length : Int) < ((leavesC c).length : Int) := by rw [← hp, List.length_append, List.length_cons]; omega
      have e := inner pre x xs hp (distinctC (leavesC c)) (fun ha => ihr (pre ++ [x]) (by rw [List.append_assoc]; exact hp) (by rw [distinctC_app, hd, ha]; rfl)) (fun ha => by
        have := distinctC_pre (pre ++ [x]) xs (by rw [distinctC_app, ha, Bool.and_false])
        rwa [List.append_assoc, List.singleton_append, hp] at this) pre [] rfl rfl
      refine Ev.step (fun k => ?_) e
      simp only [sashref05_May.l1]
      rw [if_pos hl]
      rfl
  -- the cells
  have cells : ∀ (rest pre : List S26), pre ++ rest = allC c → pre.all okC = true → Ev (fun k => sashref05_May.l0 k (allC c) ((allC c).length : Int) (pre.length : Int) c.f0 c.f1.f0 c.f1.f1 c.f1.f2 c.f1.f3 c.f2 c.f3) (mayC c) := by
    intro rest
    induction rest with
    | nil =>
      intro pre hp ha
      rw [List.append_nil] at hp
      rw [hm, ← hp, ha, Bool.true_and, hp]
      refine Ev.step (f := fun k => (sashref05_Leaves.f k c.f0 c.f1.f0 c.f1.f1 c.f1.f2 c.f1.f3 c.f2 c.f3).bind fun t => sashref05_May.l1 k t (t.length : Int) 0) (fun k => ?_) (Ev.bind (leaves_ev c h) (outer (leavesC c) [] rfl rfl))
      simp only [sashref05_May.l0]
      rw [if_neg (by omega)]
    | cons x xs ihr =>
      intro pre hp ha
      have hsz : (allC c).length ≤ 1048576 := h
      have hl : (pre.length : Int) < ((allC c).length : Int) := by rw [← hp, List.length_append, List.length_cons]; omega
      have hr : rd_T26 (allC c) (pre.length : Int) = x := by rw [← hp]; exact rd26_in pre x xs
      have hu : wrap64 ((pre.length : Int) + 1) = ((pre ++ [x]).length : Int) := up_in pre x xs (by rw [hp]; omega)
      have hno : okC x = false → mayC c = false := fun hx => by
        rw [hm, ← hp, List.all_append, List.all_cons, hx, Bool.false_and, Bool.and_false, Bool.false_and]
      have hyes : okC x = true → Ev (fun k => sashref05_May.l0 k (allC c) ((allC c).length : Int) ((pre ++ [x]).length : Int) c.f0 c.f1.f0 c.f1.f1 c.f1.f2 c.f1.f3 c.f2 c.f3) (mayC c) := fun hx =>
        ihr (pre ++ [x]) (by rw [List.append_assoc]; exact hp) (by rw [List.all_append, ha, Bool.true_and, List.all_cons, hx]; rfl)
      have j1t : okC x = false → Ev (fun k => sashref05_May.j1 k (allC c) (pre.length : Int) ((allC c).length : Int) (pre.length : Int) true c.f0 c.f1.f0 c.f1.f1 c.f1.f2 c.f1.f3 c.f2 c.f3) (mayC c) := fun hx => by
        rw [hno hx]
        refine Ev.step (f := fun _ => some false) (fun k => ?_) (Ev.now _)
        simp only [sashref05_May.j1]
        rw [if_pos trivial]
      refine Ev.step (f := fun k => (sashref04_May.f x.f1.f0 x.f1.f1 x.f1.f2 x.f1.f3).bind fun t179 => (if t179 = true then (if x.f0 < 1 then (sashref05_May.j1 k (allC c) (pre.length : Int) ((allC c).length : Int) (pre.length : Int) true c.f0 c.f1.f0 c.f1.f1 c.f1.f2 c.f1.f3 c.f2 c.f3) else (sashref05_May.j1 k (allC c) (pre.length : Int) ((allC c).length : Int) (pre.length : Int) (decide (x.f0 > 3)) c.f0 c.f1.f0 c.f1.f1 c.f1.f2 c.f1.f3 c.f2 c.f3)) else (sashref05_May.j1 k (allC c) (pre.length : Int) ((allC c).length : Int) (pre.length : Int) true c.f0 c.f1.f0 c.f1.f1 c.f1.f2 c.f1.f3 c.f2 c.f3))) (fun k => ?_) ?_
      · simp only [sashref05_May.l0]
        rw [if_pos hl, if_pos (by omega), if_pos hl, hr]
      · refine Ev.bind (a := mayR x.f1) (ev_some fun k => refmay_some _ _ _ _) ?_
        by_cases hmr : mayR x.f1 = true
        · refine ev_pos hmr ?_
          by_cases h1 : x.f0 < 1
          · refine ev_pos h1 (j1t ?_)
            unfold okC
            rw [decide_eq_false (p := 1 ≤ x.f0 ∧ x.f0 ≤ 3) (by omega)]
            simp
          · refine ev_neg h1 ?_
            by_cases h3 : x.f0 > 3
            · rw [decide_eq_true h3]
              refine j1t ?_
              unfold okC
              rw [decide_eq_false (p := 1 ≤ x.f0 ∧ x.f0 ≤ 3) (by omega)]
              simp
            · rw [decide_eq_false h3]
              have hk : okC x = (decide (x.f0 = 1 → x.f3.length = 0 ∧ 0 ≤ x.f2 ∧ x.f2 ≤ 2147483647) && decide (x.f0 > 1 → 2 ≤ x.f3.length ∧ x.f2 = 0)) := by
                unfold okC
                rw [hmr, decide_eq_true (p := 1 ≤ x.f0 ∧ x.f0 ≤ 3) (by omega), Bool.true_and, Bool.true_and]
              have go : ∀ {f : Nat → Option Bool}, Ev f (mayC c) → (∀ k, sashref05_May.j1 (k + 1) (allC c) (pre.length : Int) ((allC c).length : Int) (pre.length : Int) false c.f0 c.f1.f0 c.f1.f1 c.f1.f2 c.f1.f3 c.f2 c.f3 = f k) → Ev (fun k => sashref05_May.j1 k (allC c) (pre.length : Int) ((allC c).length : Int) (pre.length : Int) false c.f0 c.f1.f0 c.f1.f1 c.f1.f2 c.f1.f3 c.f2 c.f3) (mayC c) := fun he hs => Ev.step hs he
              have base : ∀ k, sashref05_May.j1 (k + 1) (allC c) (pre.length : Int) ((allC c).length : Int) (pre.length : Int) false c.f0 c.f1.f0 c.f1.f1 c.f1.f2 c.f1.f3 c.f2 c.f3 =
                  (if x.f0 = 1 then (if (x.f3.length : Int) > 0 then (some false) else (if x.f2 < 0 then (some false) else (if x.f2 > 2147483647 then (some false) else (if x.f0 > 1 then (if (x.f3.length : Int) < 2 then (some false) else (if x.f2 = 0 then (sashref05_May.l0 k (allC c) ((allC c).length : Int) ((pre ++ [x]).length : Int) c.f0 c.f1.f0 c.f1.f1 c.f1.f2 c.f1.f3 c.f2 c.f3) else (some false))) else (sashref05_May.l0 k (allC c) ((allC c).length : Int) ((pre ++ [x]).length : Int) c.f0 c.f1.f0 c.f1.f1 c.f1.f2 c.f1.f3 c.f2 c.f3))))) else (if x.f0 > 1 then (if (x.f3.length : Int) < 2 then (some false) else (if x.f2 = 0 then (sashref05_May.l0 k (allC c) ((allC c).length : Int) ((pre ++ [x]).length : Int) c.f0 c.f1.f0 c.f1.f1 c.f1.f2 c.f1.f3 c.f2 c.f3) else (some false))) else (sashref05_May.l0 k (allC c) ((allC c).length : Int) ((pre ++ [x]).length : Int) c.f0 c.f1.f0 c.f1.f1 c.f1.f2 c.f1.f3 c.f2 c.f3))) := by
                intro k
                simp only [sashref05_May.j1]
                rw [if_neg (by simp), if_pos (by omega), if_pos hl, hr, hu]
              have bad : okC x = false → Ev (fun _ : Nat => some false) (mayC c) := fun hx => by rw [hno hx]; exact Ev.now _
              by_cases g1 : x.f0 = 1
              · by_cases g2 : (x.f3.length : Int) > 0
                · exact go (bad (by rw [hk, decide_eq_false (by omega), Bool.false_and])) (fun k => by rw [base, if_pos g1, if_pos g2])
                · by_cases g3 : x.f2 < 0
                  · exact go (bad (by rw [hk, decide_eq_false (by omega), Bool.false_and])) (fun k => by rw [base, if_pos g1, if_neg g2, if_pos g3])
                  · by_cases g4 : x.f2 > 2147483647
                    · exact go (bad (by rw [hk, decide_eq_false (by omega), Bool.false_and])) (fun k => by rw [base, if_pos g1, if_neg g2, if_neg g3, if_pos g4])
                    · exact go (hyes (by rw [hk, decide_eq_true (by omega), decide_eq_true (by omega)]; rfl)) (fun k => by rw [base, if_pos g1, if_neg g2, if_neg g3, if_neg g4, if_neg (by omega)])
              · by_cases g2 : (x.f3.length : Int) < 2
                · exact go (bad (by rw [hk, decide_eq_false (p := x.f0 > 1 → 2 ≤ x.f3.length ∧ x.f2 = 0) (by omega), Bool.and_false])) (fun k => by rw [base, if_neg g1, if_pos (by omega), if_pos g2])
                · by_cases g3 : x.f2 = 0
                  · exact go (hyes (by rw [hk, decide_eq_true (by omega), decide_eq_true (by omega)]; rfl)) (fun k => by rw [base, if_neg g1, if_pos (by omega), if_neg g2, if_pos g3])
                  · exact go (bad (by rw [hk, decide_eq_false (p := x.f0 > 1 → 2 ≤ x.f3.length ∧ x.f2 = 0) (by omega), Bool.and_false])) (fun k => by rw [base, if_neg g1, if_pos (by omega), if_neg g2, if_neg g3])
        · refine ev_neg hmr (j1t ?_)
          unfold okC
          rw [Bool.eq_false_iff.2 hmr, Bool.false_and, Bool.false_and, Bool.false_and]
  exact cells (allC c) [] rfl rfl
end Go.Proofs.Ytfdmfgaiblfbhaa.P
/- Whether a tree tiles, by the reference: plain data. -/
namespace Go.Proofs.Ytfdmfgaiblfbhaa.P
open Go.RowKit Go.Proofs.YtfdmfgaiblfbhaaW.PrintWords Go.Proofs.YtfdmfgaiblfbhaaW.PrintLast Go.Proofs.YtfdmfgaiblfbhaaW.PrintMore
theorem all_sz : ∀ (N : Nat), (∀ c : S26, sz c ≤ N → ∀ d, d ∈ allC c → sz d ≤ sz c) ∧ (∀ l : List S26, szL l ≤ N → ∀ d, d ∈ allL l → sz d ≤ szL l) := by
  intro N
  induction N with
  | zero =>
    refine ⟨fun c h => ?_, fun l h => ?_⟩
    · rw [sz_eq] at h; omega
    · cases l with
      | nil => intro d hd; rw [allL_nil] at hd; cases hd
      | cons z zs => rw [szL_cons, sz_eq] at h; omega
  | succ N ih =>
    have hC : ∀ c : S26, sz c ≤ N + 1 → ∀ d, d ∈ allC c → sz d ≤ sz c := by
      intro c h d hd
      have hs := sz_eq c
      rw [allC_eq] at hd
      rcases List.mem_cons.1 hd with rfl | hd
      · exact Nat.le_refl _
      · have := ih.2 c.f3 (by omega) d hd
        omega
    refine ⟨hC, fun l => ?_⟩
    induction l with
    | nil => intro _ d hd; rw [allL_nil] at hd; cases hd
    | cons x xs ihl =>
      intro h d hd
      rw [szL_cons] at h ⊢
      rw [allL_cons] at hd
      rcases List.mem_append.1 hd with hd | hd
      · have := hC x (by omega) d hd
        omega
      · have := ihl (by omega) d hd
        omega
theorem cutP_len (ax X Y W H : Int) : ∀ (ns : List Int) (off : Int), (cutP ax X Y W H off ns).length = ns.length := by
  intro ns
  induction ns with
  | nil => intro off; rfl
  | cons n ns ih => intro off; simp [cutP, ih]
theorem sizes_ev (c : S26) (h : c.f3.length ≤ 1048576) : Ev (fun k => sashref06_Sizes.f k c.f0 c.f1.f0 c.f1.f1 c.f1.f2 c.f1.f3 c.f2 c.f3) (sizesC c) := by
  have key : ∀ (rest pre : List S26), pre ++ rest = c.f3 → Ev (fun k => sashref06_Sizes.l0 k (pre.map (szK c)) (c.f3.length : Int) (pre.length : Int) c.f0 c.f1.f0 c.f1.f1 c.f1.f2 c.f1.f3 c.f2 c.f3) (sizesC c) := by
    intro rest
    induction rest with
    | nil =>
      intro pre hp
      rw [List.append_nil] at hp
      subst hp
      refine Ev.step (f := fun _ => some (sizesC c)) (fun k => ?_) (Ev.now _)
      simp only [sashref06_Sizes.l0]
      rw [if_neg (by omega)]
      rfl
    | cons x xs ih =>
      intro pre hp
      have hl : (pre.length : Int) < (c.f3.length : Int) := by rw [← hp, List.length_append, List.length_cons]; omega
      have hr : rd_T26 c.f3 (pre.length : Int) = x := by rw [← hp]; exact rd26_in pre x xs
      have hu : wrap64 ((pre.length : Int) + 1) = ((pre ++ [x]).length : Int) := up_in pre x xs (by rw [hp]; omega)
      have e2 := ih (pre ++ [x]) (by rw [List.append_assoc]; exact hp)
      have hm : (pre ++ [x]).map (szK c) = pre.map (szK c) ++ [szK c x] := by simp
      rw [hm] at e2
      refine Ev.step (fun k => ?_) e2
      simp only [sashref06_Sizes.l0]
      rw [if_pos hl, hr, hu, List.length_map]
      by_cases h2 : c.f0 = 2
      · rw [if_pos h2, if_pos (by omega), if_pos hl, if_pos (by omega), show szK c x = x.f1.f2 from if_pos h2]
      · rw [if_neg h2, if_pos (by omega), if_pos hl, if_pos (by omega), show szK c x = x.f1.f3 from if_neg h2]
  unfold sashref06_Sizes.f
  exact key c.f3 [] rfl
theorem one_ev (c : S26) (h : c.f3.length ≤ 20000) : ∃ ls : List S23, ls.length ≤ c.f3.length ∧ Ev (fun k => sashref06_one.f k c.f0 c.f1.f0 c.f1.f1 c.f1.f2 c.f1.f3 c.f2 c.f3) (ls, oneB c) := by
  unfold oneB oneT
  by_cases h1 : c.f0 = 1
  · refine ⟨[], by simp, Ev.congr (f := fun _ => some ([], true)) (fun k => ?_) ?_⟩
    · unfold sashref06_one.f
      rw [if_pos h1]
    · rw [show (c.f0 == 1) = true from by simp [h1], Bool.true_or]
      exact Ev.now _
  · rw [show (c.f0 == 1) = false from by simp [h1], Bool.false_or]
    obtain ⟨⟨l1, l2⟩, hg, _, t2⟩ := cutT_spec c h
    have hax : (c.f0 - 1) % 256 = axC c.f0 := by unfold axC; omega
    generalize cutT c = t at l1 l2 hg t2
    have main : ∀ ls : List S23, ∀ b : Bool, Ev (fun k => if t.2.2 = true then (sashref06_one.l0 k t.1 t.2.1 (t.1.length : Int) 0 c.f0 c.f1.f0 c.f1.f1 c.f1.f2 c.f1.f3 c.f2 c.f3) else (some (t.2.1, false))) (ls, b) → Ev (fun k => sashref06_one.f k c.f0 c.f1.f0 c.f1.f1 c.f1.f2 c.f1.f3 c.f2 c.f3) (ls, b) := by
      intro ls b he
      refine Ev.congr (f := fun k => (sashref06_Sizes.f k c.f0 c.f1.f0 c.f1.f1 c.f1.f2 c.f1.f3 c.f2 c.f3).bind fun s => (sashref04_Cut.f k c.f1.f0 c.f1.f1 c.f1.f2 c.f1.f3 (axC c.f0) s).bind fun bt => (if bt.2.2 = true then (sashref06_one.l0 k bt.1 bt.2.1 (bt.1.length : Int) 0 c.f0 c.f1.f0 c.f1.f1 c.f1.f2 c.f1.f3 c.f2 c.f3) else (some (bt.2.1, false)))) (fun k => ?_) (Ev.bind (sizes_ev c (by omega)) (Ev.bind t2 he))
      unfold sashref06_one.f
      rw [if_neg h1, hax]
    cases ht : t.2.2 with
    | false =>
      rw [Bool.false_and]
      exact ⟨t.2.1, l2, main _ _ (ev_neg (by rw [ht]; simp) (Ev.now _))⟩
    | true =>
      obtain ⟨_, gp, _, _⟩ := hg ht
      have hlen : t.1.length = c.f3.length := by rw [gp, cutP_len]; simp [sizesC]
      rw [show (c.f3.length == t.1.length) = true from by simp [hlen], Bool.true_and, Bool.true_and]
      have key : ∀ (rest pre : List S23) (rb pb : List S26), pre ++ rest = t.1 → pb ++ rb = c.f3 → pre.length = pb.length → ∃ ls : List S23, ls.length ≤ c.f3.length ∧ Ev (fun k => sashref06_one.l0 k t.1 t.2.1 (t.1.length : Int) (pre.length : Int) c.f0 c.f1.f0 c.f1.f1 c.f1.f2 c.f1.f3 c.f2 c.f3) (ls, eqL (fun k r => rectB k.f1 r) rb rest) := by
        intro rest
        induction rest with
        | nil =>
          intro pre rb pb hp hb he
          rw [List.append_nil] at hp
          have hr : rb = [] := by
            apply List.eq_nil_of_length_eq_zero
            have h2 := congrArg List.length hb
            rw [List.length_append] at h2
            rw [← hp] at hlen
            omega
          subst hr
          refine ⟨t.2.1, l2, Ev.step (f := fun _ => some (t.2.1, true)) (fun k => ?_) (Ev.now _)⟩
          simp only [sashref06_one.l0]
          rw [if_neg (by rw [hp]; omega)]
        | cons r rs ih =>
          intro pre rb pb hp hb he
          have h4 : t.1.length = pre.length + (rs.length + 1) := by rw [← hp, List.length_append, List.length_cons]
          cases rb with
          | nil => rw [List.append_nil] at hb; rw [← hb] at hlen; omega
          | cons x xs =>
            have hl : (pre.length : Int) < (t.1.length : Int) := by omega
            have hr : rd_T26 c.f3 (pre.length : Int) = x := by rw [he, ← hb]; exact rd26_in pb x xs
            have hr2 : rd_T23 t.1 (pre.length : Int) = r := by rw [← hp]; simp [rd_T23, List.getD_eq_getElem?_getD]
            have hu : wrap64 ((pre.length : Int) + 1) = ((pre ++ [r]).length : Int) := up_in pre r rs (by rw [hp]; omega)
            have hq : (!(r.f0 == x.f1.f0) || (!(r.f1 == x.f1.f1) || (!(r.f2 == x.f1.f2) || (!(r.f3 == x.f1.f3))))) = !(rectB x.f1 r) := by
              unfold rectB
              rw [Bool.not_and, Bool.not_and, Bool.not_and, Bool.beq_comm (a := r.f0), Bool.beq_comm (a := r.f1), Bool.beq_comm (a := r.f2), Bool.beq_comm (a := r.f3)]
            simp only [eqL]
            cases hx : rectB x.f1 r with
            | false =>
              refine ⟨[], by simp, Ev.step (f := fun _ => some ([], false)) (fun k => ?_) (Ev.now _)⟩
              simp only [sashref06_one.l0]
              rw [if_pos hl, if_pos (by omega), if_pos hl, if_pos (by omega), hr, hr2, hq, hx, if_pos (by rfl)]
            | true =>
              obtain ⟨ls, a1, a2⟩ := ih (pre ++ [r]) xs (pb ++ [x]) (by rw [List.append_assoc]; exact hp) (by rw [List.append_assoc]; exact hb) (by rw [List.length_append, List.length_append, he]; rfl)
              refine ⟨ls, a1, Ev.step (fun k => ?_) a2⟩
              simp only [sashref06_one.l0]
              rw [if_pos hl, if_pos (by omega), if_pos hl, if_pos (by omega), hr, hr2, hq, hx, if_neg (by simp), hu]
      obtain ⟨ls, a1, a2⟩ := key t.1 [] c.f3 [] rfl rfl rfl
      exact ⟨ls, a1, main _ _ (ev_pos ht a2)⟩
theorem ref_tiles_ev (c : S26) (hz : sz c ≤ 1048576) : Ev (fun k => sashref06_Tiles.f k c.f0 c.f1.f0 c.f1.f1 c.f1.f2 c.f1.f3 c.f2 c.f3) (tilesC c) := by
  unfold tilesC
  cases hm : mayC c with
  | false =>
    rw [Bool.false_and]
    refine Ev.congr (fun k => ?_) (Ev.bind (a := (([], 1, 0) : List S23 × Int × Int)) (g := fun k => sashref06_Check.f k c.f0 c.f1.f0 c.f1.f1 c.f1.f2 c.f1.f3 c.f2 c.f3) (f := fun _ bt => some (bt.2.1 == 0)) ?_ (Ev.now _))
    · rfl
    · unfold sashref06_Check.f
      have e := may_ev c hz
      rw [hm] at e
      exact Ev.bind (Ev.now ([] : List S23)) (Ev.bind e (ev_neg (by simp) (Ev.now _)))
  | true =>
    rw [Bool.true_and]
    have hs := may_small hm
    have hlen : ∀ d, d ∈ allC c → d.f3.length ≤ 20000 := fun d hd => by
      have h1 := (all_sz (sz c)).1 c (Nat.le_refl _) d hd
      have h2 := sz_eq d
      have h3 := szL_len d.f3
      omega
    have key : ∀ (rest pre : List S26), pre ++ rest = allC c → ∀ out : List S23, out.length ≤ 20001 * pre.length → ∃ r : List S23 × Int × Int, Ev (fun k => sashref06_Check.l0 k ([] : List S23) (allC c) out ((allC c).length : Int) (pre.length : Int)) r ∧ (r.2.1 == 0) = rest.all oneB := by
      intro rest
      induction rest with
      | nil =>
        intro pre hp out ho
        rw [List.append_nil] at hp
        refine ⟨(out, 0, 0), Ev.step (f := fun _ => some (out, 0, 0)) (fun k => ?_) (Ev.now _), rfl⟩
        simp only [sashref06_Check.l0]
        rw [if_neg (by rw [hp]; omega)]
      | cons x xs ih =>
        intro pre hp out ho
        have hl : (pre.length : Int) < ((allC c).length : Int) := by rw [← hp, List.length_append, List.length_cons]; omega
        have hl2 : (allC c).length = sz c := rfl
        have hr : rd_T26 (allC c) (pre.length : Int) = x := by rw [← hp]; exact rd26_in pre x xs
        have hu : wrap64 ((pre.length : Int) + 1) = ((pre ++ [x]).length : Int) := up_in pre x xs (by rw [hp]; omega)
        have hx := hlen x (by rw [← hp]; simp)
        obtain ⟨ls, b1, b2⟩ := one_ev x hx
        rw [List.all_cons]
        cases ho1 : oneB x with
        | false =>
          rw [ho1] at b2
          refine ⟨([], 5, (pre.length : Int)), Ev.step (f := fun k => (sashref06_one.f k x.f0 x.f1.f0 x.f1.f1 x.f1.f2 x.f1.f3 x.f2 x.f3).bind fun bt => (if bt.2 = true then (if out.length + bt.1.length < 4398046511104 then (sashref06_Check.l0 k ([] : List S23) (allC c) (out ++ bt.1) ((allC c).length : Int) (wrap64 ((pre.length : Int) + 1))) else (none)) else (some (([] : List S23), 5, (pre.length : Int))))) (fun k => ?_) (Ev.bind b2 (ev_neg (by simp) (Ev.now _))), by rfl⟩
          simp only [sashref06_Check.l0]
          rw [if_pos hl, if_pos (by omega), if_pos hl, hr]
        | true =>
          rw [ho1] at b2
          obtain ⟨r, c1, c2⟩ := ih (pre ++ [x]) (by rw [List.append_assoc]; exact hp) (out ++ ls) (by rw [List.length_append, List.length_append, List.length_singleton]; omega)
          refine ⟨r, Ev.step (f := fun k => (sashref06_one.f k x.f0 x.f1.f0 x.f1.f1 x.f1.f2 x.f1.f3 x.f2 x.f3).bind fun bt => (if bt.2 = true then (if out.length + bt.1.length < 4398046511104 then (sashref06_Check.l0 k ([] : List S23) (allC c) (out ++ bt.1) ((allC c).length : Int) (wrap64 ((pre.length : Int) + 1))) else (none)) else (some (([] : List S23), 5, (pre.length : Int))))) (fun k => ?_) (Ev.bind b2 (ev_pos rfl (ev_pos ?_ ?_))), by rw [c2, Bool.true_and]⟩
          · simp only [sashref06_Check.l0]
            rw [if_pos hl, if_pos (by omega), if_pos hl, hr]
          · have : pre.length ≤ 20000 := by omega
            show out.length + ls.length < 4398046511104
            omega
          · rw [hu]
            exact c1
    obtain ⟨r, e1, e2⟩ := key (allC c) [] rfl [] (by simp)
    have e3 : Ev (fun k => sashref06_Check.f k c.f0 c.f1.f0 c.f1.f1 c.f1.f2 c.f1.f3 c.f2 c.f3) r := by
      unfold sashref06_Check.f
      have e := may_ev c hz
      rw [hm] at e
      exact Ev.bind (Ev.now ([] : List S23)) (Ev.bind e (ev_pos rfl (Ev.bind (all_cells _ c hz (Nat.le_refl _)) e1)))
    have e4 := Ev.bind (f := fun _ bt => some (bt.2.1 == 0)) e3 (Ev.now (r.2.1 == 0))
    rw [e2] at e4
    exact e4
end Go.Proofs.Ytfdmfgaiblfbhaa.P
namespace Go.Proofs.Ytfdmfgaiblfbhaa.P
open Go.RowKit Go.Proofs.YtfdmfgaiblfbhaaW.PrintWords Go.Proofs.YtfdmfgaiblfbhaaW.PrintLast Go.Proofs.YtfdmfgaiblfbhaaW.PrintMore
attribute [local go_sem] max2_int min2_int max_two min_two max_three min_three max_four min_four   -- for this text's walks alone
set_option linter.unusedVariables false
set_option linter.unusedSimpArgs false

/-! ### sashref08_Along: function 88 -/
def sashref08_Along.f (a0_0 : Int) (a0_1 : Int) (a0_2 : Int) (a0_3 : Int) (a0_4 : Int) (a0_5 : Int) (l0_6 : List (S26)) (a1 : Int) : Option (Bool) := if a0_0 = 2 then (if a1 = 1 then (some true) else (if a0_0 = 3 then (some (a1 == 2)) else (some false))) else (if a0_0 = 3 then (some (a1 == 2)) else (some false))
end Go.Proofs.Ytfdmfgaiblfbhaa.P
namespace Go.Proofs.Ytfdmfgaiblfbhaa.P
open Go.RowKit Go.Proofs.YtfdmfgaiblfbhaaW.PrintWords Go.Proofs.YtfdmfgaiblfbhaaW.PrintLast Go.Proofs.YtfdmfgaiblfbhaaW.PrintMore
attribute [local go_sem] max2_int min2_int max_two min_two max_three min_three max_four min_four   -- for this text's walks alone
set_option linter.unusedVariables false
set_option linter.unusedSimpArgs false

/-! ### sashref08_Of: function 152 -/
mutual
def sashref08_Of.l0 : Nat → Int → Int → Int → Int → Int → Int → Int → Int → Int → Int → List (S26) → Option (Int)
 | 0, _, _, _, _, _, _, _, _, _, _, _ => none
 | k + 1, x1, x5, x14, x15, x1082000, x1082001, x1082002, x1082003, x1082004, x1082005, x1082006 => if x15 < x14 then (if 0 ≤ x15 then (if x15 < (x1082006.length : Int) then ((sashref08_Of.f k ((rd_T26 x1082006 x15).f0) ((rd_T26 x1082006 x15).f1.f0) ((rd_T26 x1082006 x15).f1.f1) ((rd_T26 x1082006 x15).f1.f2) ((rd_T26 x1082006 x15).f1.f3) ((rd_T26 x1082006 x15).f2) ((rd_T26 x1082006 x15).f3) x1).bind fun t1083 => ((sashref08_Along.f x1082000 x1082001 x1082002 x1082003 x1082004 x1082005 x1082006 x1).bind fun t1084 => (if t1084 = true then (if x15 > 0 then (sashref08_Of.l0 k x1 (wrap64 ((wrap64 (x5 + t1083)) + 1)) x14 (wrap64 (x15 + 1)) x1082000 x1082001 x1082002 x1082003 x1082004 x1082005 x1082006) else (sashref08_Of.l0 k x1 (wrap64 (x5 + t1083)) x14 (wrap64 (x15 + 1)) x1082000 x1082001 x1082002 x1082003 x1082004 x1082005 x1082006)) else (if t1083 > x5 then (sashref08_Of.l0 k x1 t1083 x14 (wrap64 (x15 + 1)) x1082000 x1082001 x1082002 x1082003 x1082004 x1082005 x1082006) else (sashref08_Of.l0 k x1 x5 x14 (wrap64 (x15 + 1)) x1082000 x1082001 x1082002 x1082003 x1082004 x1082005 x1082006))))) else (none)) else (none)) else (some x5)
def sashref08_Of.f : Nat → Int → Int → Int → Int → Int → Int → List (S26) → Int → Option (Int)
 | 0, _, _, _, _, _, _, _, _ => none
 | k + 1, a0_0, a0_1, a0_2, a0_3, a0_4, a0_5, l0_6, a1 => if (l0_6.length : Int) = 0 then (some 1) else (sashref08_Of.l0 k a1 0 (l0_6.length : Int) 0 a0_0 a0_1 a0_2 a0_3 a0_4 a0_5 l0_6)
end
end Go.Proofs.Ytfdmfgaiblfbhaa.P
/- The least size of a tree, by the code and by the reference: plain data. -/
namespace Go.Proofs.Ytfdmfgaiblfbhaa.P
open Go.RowKit Go.Proofs.YtfdmfgaiblfbhaaW.PrintWords Go.Proofs.YtfdmfgaiblfbhaaW.PrintLast Go.Proofs.YtfdmfgaiblfbhaaW.PrintMore
def alongK (ax k : Int) : Bool := (k == 2 && ax == 1) || (k == 3 && ax == 2)
theorem along_some (c : S26) (ax : Int) : least_Along.f c.f0 c.f1.f0 c.f1.f1 c.f1.f2 c.f1.f3 c.f2 c.f3 ax = some (alongK ax c.f0) := by
  unfold least_Along.f alongK
  by_cases h2 : c.f0 = 2
  · by_cases h1 : ax = 1
    · rw [if_pos h2, if_pos h1]; simp [h2, h1]
    · rw [if_pos h2, if_neg h1, if_neg (by omega)]; simp [h2, h1]
  · rw [if_neg h2]
    by_cases h3 : c.f0 = 3
    · rw [if_pos h3]; simp [h3]
    · rw [if_neg h3]; simp [h2, h3]
mutual
def leastC (ax : Int) : S26 → Int
  | ⟨a, _, _, l⟩ => if a = 1 then 1 else if alongK ax a = true then ((l.length : Int) - 1) + sumL ax l else mostL ax 0 l
def sumL (ax : Int) : List S26 → Int
  | [] => 0
  | k :: ks => leastC ax k + sumL ax ks
def mostL (ax : Int) : Int → List S26 → Int
  | m, [] => m
  | m, k :: ks => mostL ax (mx m (leastC ax k)) ks
end
theorem leastC_eq (ax : Int) (c : S26) : leastC ax c = if c.f0 = 1 then 1 else if alongK ax c.f0 = true then ((c.f3.length : Int) - 1) + sumL ax c.f3 else mostL ax 0 c.f3 := by cases c; simp [leastC]
theorem sumL_nil (ax : Int) : sumL ax [] = 0 := by simp [sumL]
theorem sumL_cons (ax : Int) (k : S26) (ks : List S26) : sumL ax (k :: ks) = leastC ax k + sumL ax ks := by simp [sumL]
theorem sumL_app (ax : Int) (a b : List S26) : sumL ax (a ++ b) = sumL ax a + sumL ax b := by
  induction a with
  | nil => rw [List.nil_append, sumL_nil]; omega
  | cons x xs ih => rw [List.cons_append, sumL_cons, sumL_cons, ih]; omega
theorem mostL_nil (ax m : Int) : mostL ax m [] = m := by simp [mostL]
theorem mostL_cons (ax m : Int) (k : S26) (ks : List S26) : mostL ax m (k :: ks) = mostL ax (mx m (leastC ax k)) ks := by simp [mostL]
theorem mx_le {a b c : Int} (h : a ≤ c) (k : b ≤ c) : mx a b ≤ c := by unfold mx; split <;> omega
theorem le_mx1 (a b : Int) : a ≤ mx a b := by unfold mx; split <;> omega
theorem le_mx2 (a b : Int) : b ≤ mx a b := by unfold mx; split <;> omega
theorem leastC_bd (ax : Int) : ∀ (N : Nat), (∀ c : S26, sz c ≤ N → -(sz c : Int) ≤ leastC ax c ∧ leastC ax c ≤ 2 * (sz c : Int) - 1) ∧
    (∀ l : List S26, szL l ≤ N → -(szL l : Int) ≤ sumL ax l ∧ sumL ax l ≤ 2 * (szL l : Int) - (l.length : Int)) ∧ (∀ l : List S26, szL l ≤ N → ∀ m : Int, m ≤ mostL ax m l ∧ ∀ u, m ≤ u → 2 * (szL l : Int) ≤ u → mostL ax m l ≤ u) := by
  intro N
  induction N with
  | zero =>
    refine ⟨fun c h => ?_, fun l h => ?_, fun l h => ?_⟩
    · rw [sz_eq] at h; omega
    · cases l with
      | nil => rw [sumL_nil, szL_nil]; simp
      | cons z zs => rw [szL_cons, sz_eq] at h; omega
    · cases l with
      | nil => intro m; rw [mostL_nil]; exact ⟨Int.le_refl _, fun u h _ => h⟩
      | cons z zs => rw [szL_cons, sz_eq] at h; omega
  | succ N ih =>
    have hC : ∀ c : S26, sz c ≤ N + 1 → -(sz c : Int) ≤ leastC ax c ∧ leastC ax c ≤ 2 * (sz c : Int) - 1 := by
      intro c h
      have hs := sz_eq c
      have h1 := ih.2.1 c.f3 (by omega)
      have h2 := ih.2.2 c.f3 (by omega) 0
      have h3 := h2.2 (2 * (szL c.f3 : Int)) (by omega) (Int.le_refl _)
      rw [leastC_eq]
      split
      · omega
      · split
        · omega
        · omega
    refine ⟨hC, fun l => ?_, fun l => ?_⟩
    · induction l with
      | nil => intro _; rw [sumL_nil, szL_nil]; simp
      | cons x xs ihl =>
        intro h
        rw [szL_cons] at h ⊢
        have h1 := hC x (by omega)
        have h2 := ihl (by omega)
        rw [sumL_cons, List.length_cons]
        omega
    · induction l with
      | nil => intro _ m; rw [mostL_nil]; exact ⟨Int.le_refl _, fun u h _ => h⟩
      | cons x xs ihl =>
        intro h m
        rw [szL_cons] at h ⊢
        have h1 := hC x (by omega)
        have h2 := ihl (by omega) (mx m (leastC ax x))
        rw [mostL_cons]
        refine ⟨Int.le_trans (le_mx1 m (leastC ax x)) h2.1, fun u hu hu2 => h2.2 u (mx_le hu (by omega)) (by omega)⟩
theorem least_ev (ax : Int) : ∀ (N : Nat) (c : S26), sz c ≤ N → N ≤ 1048576 → Ev (fun k => least_least.f k c.f0 c.f1.f0 c.f1.f1 c.f1.f2 c.f1.f3 c.f2 c.f3 ax) (leastC ax c) := by
  intro N
  induction N with
  | zero => intro c h _; rw [sz_eq] at h; omega
  | succ N ih =>
    intro c hc hN
    have hs := sz_eq c
    have hlen := szL_len c.f3
    rw [leastC_eq]
    by_cases h1 : c.f0 = 1
    · rw [if_pos h1]
      refine Ev.step (f := fun _ => some 1) (fun k => ?_) (Ev.now _)
      simp only [least_least.f]
      rw [if_pos h1]
    · rw [if_neg h1]
      have key : ∀ (rest pre : List S26), pre ++ rest = c.f3 → ∀ m : Int, Ev (fun k => least_least.l0 k ax (((c.f3.length : Int) - 1) + sumL ax pre) m c.f3 (c.f3.length : Int) (pre.length : Int) c.f0 c.f1.f0 c.f1.f1 c.f1.f2 c.f1.f3 c.f2 c.f3) (if alongK ax c.f0 = true then ((c.f3.length : Int) - 1) + sumL ax c.f3 else mostL ax m rest) := by
        intro rest
        induction rest with
        | nil =>
          intro pre hp m
          rw [List.append_nil] at hp
          subst hp
          rw [mostL_nil]
          refine Ev.step (f := fun _ => some (if alongK ax c.f0 = true then ((c.f3.length : Int) - 1) + sumL ax c.f3 else m)) (fun k => ?_) (Ev.now _)
          simp only [least_least.l0]
          rw [if_neg (by omega), along_some]
          simp only [Option.bind_some]
          split <;> rfl
        | cons x xs ihr =>
          intro pre hp m
          have hl : (pre.length : Int) < (c.f3.length : Int) := by rw [← hp, List.length_append, List.length_cons]; omega
          have hsum : szL c.f3 = szL pre + (sz x + szL xs) := by rw [← hp, szL_app, szL_cons]
          have hr : rd_T26 c.f3 (pre.length : Int) = x := by rw [← hp]; exact rd26_in pre x xs
          have hu : wrap64 ((pre.length : Int) + 1) = ((pre ++ [x]).length : Int) := up_in pre x xs (by rw [hp]; omega)
          have e2 := ihr (pre ++ [x]) (by rw [List.append_assoc]; exact hp) (mx m (leastC ax x))
          have b1 := (leastC_bd ax (sz x)).1 x (Nat.le_refl _)
          have b2 := (leastC_bd ax (szL pre)).2.1 pre (Nat.le_refl _)
          have hw : wrap64 ((((c.f3.length : Int) - 1) + sumL ax pre) + leastC ax x) = ((c.f3.length : Int) - 1) + sumL ax (pre ++ [x]) := by
            rw [wq (by omega) (by omega), sumL_app, sumL_cons, sumL_nil]
            omega
          rw [mostL_cons]
          refine Ev.step (f := fun k => (least_least.f k x.f0 x.f1.f0 x.f1.f1 x.f1.f2 x.f1.f3 x.f2 x.f3 ax).bind fun t => least_least.l0 k ax (wrap64 ((((c.f3.length : Int) - 1) + sumL ax pre) + t)) (mx m t) c.f3 (c.f3.length : Int) (wrap64 ((pre.length : Int) + 1)) c.f0 c.f1.f0 c.f1.f1 c.f1.f2 c.f1.f3 c.f2 c.f3) (fun k => ?_) (Ev.bind (ih x (by omega) (by omega)) ?_)
          · simp only [least_least.l0]
            rw [if_pos hl, if_pos (by omega), if_pos hl, hr]
          · rw [hu, hw]
            exact e2
      have e := key c.f3 [] rfl 0
      rw [sumL_nil, Int.add_zero] at e
      refine Ev.step (fun k => ?_) e
      simp only [least_least.f]
      rw [if_neg h1, wq (by omega) (by omega)]
      rfl
theorem ok_kids {c x : S26} (h : (allC c).all okC = true) (hx : x ∈ c.f3) : (allC x).all okC = true := by
  rw [allC_eq, List.all_cons, Bool.and_eq_true] at h
  obtain ⟨p, q, e⟩ := List.append_of_mem hx
  have h2 := h.2
  rw [e, allL_app, allL_cons, List.all_append, List.all_append] at h2
  simp only [Bool.and_eq_true] at h2
  exact h2.2.1
theorem ok_head {c : S26} (h : (allC c).all okC = true) : okC c = true := by
  rw [allC_eq, List.all_cons, Bool.and_eq_true] at h
  exact h.1
theorem ok_kinds {c : S26} (h : okC c = true) : (c.f0 = 1 ∧ c.f3.length = 0) ∨ ((c.f0 = 2 ∨ c.f0 = 3) ∧ 2 ≤ c.f3.length) := by
  unfold okC at h
  simp only [Bool.and_eq_true, decide_eq_true_eq] at h
  obtain ⟨⟨⟨_, h1⟩, h2⟩, h3⟩ := h
  by_cases e : c.f0 = 1
  · exact .inl ⟨e, (h2 e).1⟩
  · exact .inr ⟨by omega, (h3 (by omega)).1⟩
end Go.Proofs.Ytfdmfgaiblfbhaa.P
/- least.Size: plain data. -/
namespace Go.Proofs.Ytfdmfgaiblfbhaa.P
open Go.RowKit Go.Proofs.YtfdmfgaiblfbhaaW.PrintWords Go.Proofs.YtfdmfgaiblfbhaaW.PrintLast Go.Proofs.YtfdmfgaiblfbhaaW.PrintMore
def sizeR (ax : Int) (r : S23) : Int := if ax = 1 then r.f2 else if ax = 2 then r.f3 else 0
theorem size_some (r : S23) (ax : Int) : least_Size.f r.f0 r.f1 r.f2 r.f3 ax = some (sizeR ax r) := by
  unfold least_Size.f sizeR
  by_cases h1 : ax = 1
  · rw [if_neg (by omega), if_pos h1, if_pos h1]
  · by_cases h2 : ax = 2
    · rw [if_pos h2, if_neg h1, if_pos h2]
    · rw [if_neg h2, if_neg h1, if_neg h1, if_neg h2]
end Go.Proofs.Ytfdmfgaiblfbhaa.P
namespace Go.Proofs.Ytfdmfgaiblfbhaa.P
open Go.RowKit Go.Proofs.YtfdmfgaiblfbhaaW.PrintWords Go.Proofs.YtfdmfgaiblfbhaaW.PrintLast Go.Proofs.YtfdmfgaiblfbhaaW.PrintMore
attribute [local go_sem] max2_int min2_int max_two min_two max_three min_three max_four min_four   -- for this text's walks alone
set_option linter.unusedVariables false
set_option linter.unusedSimpArgs false

/-! ### sashref08_Least: function 94 -/
def sashref08_Least.f (k : Nat) (a0_0 : Int) (a0_1 : Int) (a0_2 : Int) (a0_3 : Int) (a0_4 : Int) (a0_5 : Int) (l0_6 : List (S26)) (a1 : Int) : Option (Int) := if a1 < 1 then (some 0) else (if a1 > 2 then (some 0) else ((sashref05_May.f k a0_0 a0_1 a0_2 a0_3 a0_4 a0_5 l0_6).bind fun t1086 => (if t1086 = true then ((sashref08_Of.f k a0_0 a0_1 a0_2 a0_3 a0_4 a0_5 l0_6 a1).bind fun t1087 => (some t1087)) else (some 0))))
end Go.Proofs.Ytfdmfgaiblfbhaa.P
namespace Go.Proofs.Ytfdmfgaiblfbhaa.P
open Go.RowKit Go.Proofs.YtfdmfgaiblfbhaaW.PrintWords Go.Proofs.YtfdmfgaiblfbhaaW.PrintLast Go.Proofs.YtfdmfgaiblfbhaaW.PrintMore
attribute [local go_sem] max2_int min2_int max_two min_two max_three min_three max_four min_four   -- for this text's walks alone
set_option linter.unusedVariables false
set_option linter.unusedSimpArgs false

/-! ### sashref08_Size: function 87 -/
def sashref08_Size.f (a0_0 : Int) (a0_1 : Int) (a0_2 : Int) (a0_3 : Int) (a1 : Int) : Option (Int) := if a1 = 1 then (some a0_2) else (if a1 = 2 then (some a0_3) else (some 0))
end Go.Proofs.Ytfdmfgaiblfbhaa.P
namespace Go.Proofs.Ytfdmfgaiblfbhaa.P
open Go.RowKit Go.Proofs.YtfdmfgaiblfbhaaW.PrintWords Go.Proofs.YtfdmfgaiblfbhaaW.PrintLast Go.Proofs.YtfdmfgaiblfbhaaW.PrintMore
attribute [local go_sem] max2_int min2_int max_two min_two max_three min_three max_four min_four   -- for this text's walks alone
set_option linter.unusedVariables false
set_option linter.unusedSimpArgs false

/-! ### sashref08_Gives: function 95 -/
def sashref08_Gives.j0 : Nat → Int → Bool → Int → Int → Int → Int → Int → Int → List (S26) → Option (Int)
 | 0, _, _, _, _, _, _, _, _, _ => none
 | k + 1, x1, x15, x1089000, x1089001, x1089002, x1089003, x1089004, x1089005, x1089006 => if x15 = true then (some 0) else ((sashref08_Size.f x1089001 x1089002 x1089003 x1089004 x1).bind fun t1090 => ((sashref08_Of.f k x1089000 x1089001 x1089002 x1089003 x1089004 x1089005 x1089006 x1).bind fun t1091 => (some (wrap64 (t1090 - t1091)))))
def sashref08_Gives.f (k : Nat) (a0_0 : Int) (a0_1 : Int) (a0_2 : Int) (a0_3 : Int) (a0_4 : Int) (a0_5 : Int) (l0_6 : List (S26)) (a1 : Int) : Option (Int) := if a1 < 1 then (sashref08_Gives.j0 k a1 true a0_0 a0_1 a0_2 a0_3 a0_4 a0_5 l0_6) else (if a1 > 2 then (sashref08_Gives.j0 k a1 true a0_0 a0_1 a0_2 a0_3 a0_4 a0_5 l0_6) else ((sashref06_Tiles.f k a0_0 a0_1 a0_2 a0_3 a0_4 a0_5 l0_6).bind fun t1089 => (sashref08_Gives.j0 k a1 (!t1089) a0_0 a0_1 a0_2 a0_3 a0_4 a0_5 l0_6)))
def sashref08_Gives.T3 : Bool × List (List Nat × List Nat) := (true, [([], []), ([0], [0]), ([], []), ([1, 2], [1, 2]), ([], []), ([], []), ([4, 5, 3], [4, 5]), ([3, 6], [3, 6]), ([7, 6, 0, 1, 2, 3, 4, 5, 6, 7], [7])])
def sashref08_Gives.B3 : List Nat := [0, 1, 0, 7, 0, 0, 63, 127, 255]
end Go.Proofs.Ytfdmfgaiblfbhaa.P
namespace Go.Proofs.Ytfdmfgaiblfbhaa.P
open Go.RowKit Go.Proofs.YtfdmfgaiblfbhaaW.PrintWords Go.Proofs.YtfdmfgaiblfbhaaW.PrintLast Go.Proofs.YtfdmfgaiblfbhaaW.PrintMore
attribute [local go_sem] max2_int min2_int max_two min_two max_three min_three max_four min_four   -- for this text's walks alone
set_option linter.unusedVariables false
set_option linter.unusedSimpArgs false

/-! ### sashref08_Fits: function 97 -/
def sashref08_Fits.f (k : Nat) (a0_0 : Int) (a0_1 : Int) (a0_2 : Int) (a0_3 : Int) (a0_4 : Int) (a0_5 : Int) (l0_6 : List (S26)) (a1 : Int) (a2 : Int) : Option (Bool) := (sashref05_May.f k a0_0 a0_1 a0_2 a0_3 a0_4 a0_5 l0_6).bind fun t1100 => (if t1100 = true then ((sashref08_Of.f k a0_0 a0_1 a0_2 a0_3 a0_4 a0_5 l0_6 1).bind fun t1101 => (if a1 ≥ t1101 then (if a1 ≤ (wrap64 (10000 - a0_1)) then ((sashref08_Of.f k a0_0 a0_1 a0_2 a0_3 a0_4 a0_5 l0_6 2).bind fun t1102 => (if a2 ≥ t1102 then (some (decide (a2 ≤ (wrap64 (10000 - a0_2))))) else (some false))) else (some false)) else (some false))) else (some false))
end Go.Proofs.Ytfdmfgaiblfbhaa.P
/- What a tree can give, its least size, whether a size fits it, by the code and by the reference: plain data. -/
namespace Go.Proofs.Ytfdmfgaiblfbhaa.P
open Go.RowKit Go.Proofs.YtfdmfgaiblfbhaaW.PrintWords Go.Proofs.YtfdmfgaiblfbhaaW.PrintLast Go.Proofs.YtfdmfgaiblfbhaaW.PrintMore
theorem Ev.unique {α : Type} {g : Nat → Option α} {a b : α} (h : Ev g a) (k : Ev g b) : a = b := by
  obtain ⟨n, hn⟩ := h
  obtain ⟨m, hm⟩ := k
  have e := (hn (max n m) (by omega)).symm.trans (hm (max n m) (by omega))
  exact Option.some.inj e
theorem may1_some (c : S26) (hz : sz c ≤ 1048576) : cell_May.f ([(⟨c.f0, (⟨c.f1.f0, c.f1.f1, c.f1.f2, c.f1.f3⟩ : S23), c.f2, c.f3⟩ : S26)] : List S26) = some (mayC c) := by
  rw [eta26]
  unfold cell_May.f
  rw [if_pos (by simp [hz])]
  simp
theorem tiles1_some (c : S26) (hz : sz c ≤ 1048576) : tile_Tiles.f ([(⟨c.f0, (⟨c.f1.f0, c.f1.f1, c.f1.f2, c.f1.f3⟩ : S23), c.f2, c.f3⟩ : S26)] : List S26) = some (tilesC c) := by
  rw [eta26]
  unfold tile_Tiles.f
  rw [if_pos (by simp [hz])]
  simp
theorem may_ok {c : S26} (h : mayC c = true) : (allC c).all okC = true := by
  unfold mayC at h
  simp only [Bool.and_eq_true] at h
  exact h.2.1
theorem tiles_may {c : S26} (h : tilesC c = true) : mayC c = true := by
  unfold tilesC at h
  simp only [Bool.and_eq_true] at h
  exact h.1
noncomputable def givesC (ax : Int) (c : S26) : Int := if (ax = 1 ∨ ax = 2) ∧ tilesC c = true then wrap64 (sizeR ax c.f1 - leastC ax c) else 0
def lstC (ax : Int) (c : S26) : Int := if (ax = 1 ∨ ax = 2) ∧ mayC c = true then leastC ax c else 0
def fitsC (c : S26) (w h : Int) : Bool := mayC c && (decide (w ≥ leastC 1 c) && (decide (h ≥ leastC 2 c) && (decide (w ≤ wrap64 (10000 - c.f1.f0)) && decide (h ≤ wrap64 (10000 - c.f1.f1)))))
theorem gives_ev (c : S26) (hz : sz c ≤ 1048576) (ax : Int) : Ev (fun k => least_Gives.f k c.f0 c.f1.f0 c.f1.f1 c.f1.f2 c.f1.f3 c.f2 c.f3 ax) (givesC ax c) := by
  have no : Ev (fun k => least_Gives.j0 k ax true c.f0 c.f1.f0 c.f1.f1 c.f1.f2 c.f1.f3 c.f2 c.f3) 0 := by
    refine Ev.step (f := fun _ => some 0) (fun k => ?_) (Ev.now _)
    simp only [least_Gives.j0]
    rw [if_pos trivial]
  unfold givesC
  by_cases hax : ax = 1 ∨ ax = 2
  · have ha : least_axes.f ax = some true := by
      unfold least_axes.f
      rcases hax with rfl | rfl <;> rfl
    cases ht : tilesC c with
    | false =>
      rw [if_neg (by simp)]
      refine Ev.congr (f := fun k => least_Gives.j0 k ax true c.f0 c.f1.f0 c.f1.f1 c.f1.f2 c.f1.f3 c.f2 c.f3) (fun k => ?_) no
      unfold least_Gives.f
      rw [ha]
      simp only [Option.bind_some, if_true]
      rw [tiles1_some c hz, ht]
      rfl
    | true =>
      rw [if_pos ⟨hax, rfl⟩]
      refine Ev.congr (f := fun k => least_Gives.j0 k ax false c.f0 c.f1.f0 c.f1.f1 c.f1.f2 c.f1.f3 c.f2 c.f3) (fun k => ?_) (Ev.step (f := fun k => (least_least.f k c.f0 c.f1.f0 c.f1.f1 c.f1.f2 c.f1.f3 c.f2 c.f3 ax).bind fun t => some (wrap64 (sizeR ax c.f1 - t))) (fun k => ?_) (Ev.bind (least_ev ax (sz c) c (Nat.le_refl _) hz) (Ev.now _)))
      · unfold least_Gives.f
        rw [ha]
        simp only [Option.bind_some, if_true]
        rw [tiles1_some c hz, ht]
        rfl
      · simp only [least_Gives.j0]
        rw [if_neg (by simp), size_some c.f1 ax]
        rfl
  · rw [if_neg (fun h => hax h.1)]
    refine Ev.congr (f := fun k => least_Gives.j0 k ax true c.f0 c.f1.f0 c.f1.f1 c.f1.f2 c.f1.f3 c.f2 c.f3) (fun k => ?_) no
    unfold least_Gives.f least_axes.f
    rw [if_neg (fun h => hax (.inl h)), show (ax == 2) = false from by simp; exact fun h => hax (.inr h)]
    simp only [Option.bind_some, Bool.false_eq_true, if_false]
theorem lst_ev (c : S26) (hz : sz c ≤ 1048576) (ax : Int) : Ev (fun k => least_Least.f k c.f0 c.f1.f0 c.f1.f1 c.f1.f2 c.f1.f3 c.f2 c.f3 ax) (lstC ax c) := by
  unfold lstC least_Least.f
  by_cases hax : ax = 1 ∨ ax = 2
  · have ha : least_axes.f ax = some true := by
      unfold least_axes.f
      rcases hax with rfl | rfl <;> rfl
    rw [ha, may1_some c hz]
    simp only [Option.bind_some, if_true]
    cases hm : mayC c with
    | false =>
      rw [if_neg (by simp)]
      exact ev_neg (by simp) (Ev.now _)
    | true =>
      rw [if_pos ⟨hax, rfl⟩]
      exact ev_pos rfl (Ev.bind (least_ev ax (sz c) c (Nat.le_refl _) hz) (Ev.now _))
  · rw [if_neg (fun h => hax h.1)]
    unfold least_axes.f
    rw [if_neg (fun h => hax (.inl h)), show (ax == 2) = false from by simp; exact fun h => hax (.inr h)]
    simp only [Option.bind_some, Bool.false_eq_true, if_false]
    exact Ev.now _
theorem fits_ev (c : S26) (hz : sz c ≤ 1048576) (w h : Int) : Ev (fun k => least_Fits.f k c.f0 c.f1.f0 c.f1.f1 c.f1.f2 c.f1.f3 c.f2 c.f3 w h) (fitsC c w h) := by
  unfold fitsC least_Fits.f
  rw [may1_some c hz]
  simp only [Option.bind_some]
  cases hm : mayC c with
  | false => exact ev_neg (by simp) (Ev.now _)
  | true =>
    rw [Bool.true_and]
    refine ev_pos rfl (Ev.bind (least_ev 1 (sz c) c (Nat.le_refl _) hz) ?_)
    by_cases h1 : w ≥ leastC 1 c
    · rw [decide_eq_true h1, Bool.true_and]
      refine ev_pos h1 (Ev.bind (least_ev 2 (sz c) c (Nat.le_refl _) hz) ?_)
      by_cases h2 : h ≥ leastC 2 c
      · rw [decide_eq_true h2, Bool.true_and]
        refine ev_pos h2 ?_
        by_cases h3 : w ≤ wrap64 (10000 - c.f1.f0)
        · rw [decide_eq_true h3, Bool.true_and]
          exact ev_pos h3 (Ev.now _)
        · rw [decide_eq_false h3, Bool.false_and]
          exact ev_neg h3 (Ev.now _)
      · rw [decide_eq_false h2, Bool.false_and]
        exact ev_neg h2 (Ev.now _)
    · rw [decide_eq_false h1, Bool.false_and]
      exact ev_neg h1 (Ev.now _)
def tree08 : S26 := ⟨2, ⟨0, 0, 7, 2⟩, 0, [⟨1, ⟨0, 0, 3, 2⟩, 1, []⟩, ⟨1, ⟨4, 0, 3, 2⟩, 2, []⟩]⟩
theorem tree08_tiles : tilesC tree08 = true :=
  Ev.unique (ref_tiles_ev tree08 (by decide +kernel)) (Ev.of (k := 60) (fun k => sashref06_Tiles.mono _ _ _ _ _ _ _ k) (by decide +kernel))
theorem l08_1 : lstC 1 tree08 = 3 := by decide +kernel
theorem l08_2 : lstC 2 tree08 = 1 := by decide +kernel
theorem l08_3 : leastC 1 tree08 = 3 := by decide +kernel
theorem g08 : givesC 1 tree08 = 4 := by
  unfold givesC
  rw [if_pos ⟨.inl rfl, tree08_tiles⟩, l08_3]
  decide +kernel
end Go.Proofs.Ytfdmfgaiblfbhaa.P
/- The document's example of chapter 08, walked: it holds. -/
namespace Go.Proofs.Ytfdmfgaiblfbhaa.P
open Go.RowKit Go.Proofs.YtfdmfgaiblfbhaaW.PrintWords Go.Proofs.YtfdmfgaiblfbhaaW.PrintLast Go.Proofs.YtfdmfgaiblfbhaaW.PrintMore
attribute [local go_sem] max2_int min2_int max_two min_two max_three min_three max_four min_four
set_option linter.unusedVariables false
set_option linter.unusedSimpArgs false
def sashlaw08_awake.f : Option Bool := some true
set_option maxHeartbeats 8000000 in
set_option maxRecDepth 100000 in
theorem sashlaw08_awake.calls (r : Bool) (w : World) (h : sashlaw08_awake.f = some r) :
    Calls Try.prog 85 #[] w fun e w' => e = .returned (.bool r) ∧ Below w.heap.size w w' := by
  have hu23 := Try.underlying23
  have hu26 := Try.underlying26
  have HB := Aside0.mk (Below.refl w.heap.size w)
  injection h with h
  subst h
  obtain ⟨y988, hy988⟩ : ∃ y_ : List (S26), y_ = (([(⟨1, (⟨0, 0, 3, 2⟩ : S23), 1, ([] : List (S26))⟩ : S26), (⟨1, (⟨4, 0, 3, 2⟩ : S23), 2, ([] : List (S26))⟩ : S26)] : List (S26))) := ⟨_, rfl⟩
  have e1 := lst_ev tree08 (by decide +kernel) 1
  have e2 := lst_ev tree08 (by decide +kernel) 2
  have e3 := gives_ev tree08 (by decide +kernel) 1
  rw [l08_1] at e1
  rw [l08_2] at e2
  rw [g08] at e3
  obtain ⟨k1, e1⟩ := e1
  obtain ⟨k2, e2⟩ := e2
  obtain ⟨k3, e3⟩ := e3
  obtain ⟨k, hk1, hk2, hk3⟩ : ∃ k : Nat, k1 ≤ k ∧ k2 ≤ k ∧ k3 ≤ k := ⟨k1 + k2 + k3, by omega, by omega, by omega⟩
  obtain ⟨t992, h992⟩ : ∃ t : Int, t = 3 := ⟨_, rfl⟩
  obtain ⟨t993, h993⟩ : ∃ t : Int, t = 1 := ⟨_, rfl⟩
  obtain ⟨t994, h994⟩ : ∃ t : Int, t = 4 := ⟨_, rfl⟩
  have A1 : Aside0 (least_Least.f k 2 0 0 7 2 0 y988 1 = some t992) := ⟨by rw [hy988, h992]; exact e1 k hk1⟩
  have A3 : Aside0 (least_Least.f k 2 0 0 7 2 0 y988 2 = some t993) := ⟨by rw [hy988, h993]; exact e2 k hk2⟩
  have A5 : Aside0 (least_Gives.f k 2 0 0 7 2 0 y988 1 = some t994) := ⟨by rw [hy988, h994]; exact e3 k hk3⟩
  have Ny988 := Aside0.mk hy988
  clear hy988 e1 e2 e3 hk1 hk2 hk3
  have c2b0 : (t992 == 3) = true := beq_iff_eq.mpr h992
  have c2b1 : (t992 != 3) = false := bne_eq_false_iff_eq.mpr h992
  have c4b0 : (t993 == 1) = true := beq_iff_eq.mpr h993
  have c4b1 : (t993 != 1) = false := bne_eq_false_iff_eq.mpr h993
  have c5b0 : (t994 == 4) = true := beq_iff_eq.mpr h994
  clear h992 h993 h994
  go_enter Try.func85, Try.ntmps85
  go_wp2_with (first | ((with_reducible refine gate_dst (N := 1) rfl ?_); refine box_event ?hg (N := 1) ?hd (cs := #[.int .u8 0, .int .i64 0, .int .i64 0, .int .i64 0, .int .i64 0, .int .i64 0, .slice none 0 0]) (t := 26) ?hr ?_; (case hd => rfl); (case hg => rfl); (case hr => (go_simp; done)); intro gb986 hg w6 hbox hb; have BK986 := Aside0.mk (hbox); have GE986 := Aside0.mk ((by rw [hg]; exact (below_size (by repeat ((with_reducible exact HB.out)))) : w.heap.size ≤ gb986)); replace HB := Aside0.mk (below_step (by repeat ((with_reducible exact HB.out))) hb); clear hb hbox hg; have hcz7_0 : w6.cell? ⟨gb986, 0, none⟩ = some (.int .u8 0) := (blk_cell BK986.out 0).trans rfl; have hcz7_1 : w6.cell? ⟨gb986, 1, none⟩ = some (.int .i64 0) := (blk_cell BK986.out 1).trans rfl; have hcz7_2 : w6.cell? ⟨gb986, 2, none⟩ = some (.int .i64 0) := (blk_cell BK986.out 2).trans rfl; have hcz7_3 : w6.cell? ⟨gb986, 3, none⟩ = some (.int .i64 0) := (blk_cell BK986.out 3).trans rfl; have hcz7_4 : w6.cell? ⟨gb986, 4, none⟩ = some (.int .i64 0) := (blk_cell BK986.out 4).trans rfl; have hcz7_5 : w6.cell? ⟨gb986, 5, none⟩ = some (.int .i64 0) := (blk_cell BK986.out 5).trans rfl; have hcz7_6 : w6.cell? ⟨gb986, 6, none⟩ = some (.slice none 0 0) := (blk_cell BK986.out 6).trans rfl; have hfz7_0 := blk_frozen BK986.out 0; have hfz7_1 := blk_frozen BK986.out 1; have hfz7_2 := blk_frozen BK986.out 2; have hfz7_3 := blk_frozen BK986.out 3; have hfz7_4 := blk_frozen BK986.out 4; have hfz7_5 := blk_frozen BK986.out 5; have hfz7_6 := blk_frozen BK986.out 6) | ((with_reducible refine gate_dst (N := 2) rfl ?_); refine box_event ?hg (N := 2) ?hd (cs := #[.int .u8 0, .int .i64 0, .int .i64 0, .int .i64 0, .int .i64 0, .int .i64 0, .slice none 0 0]) (t := 26) ?hr ?_; (case hd => rfl); (case hg => rfl); (case hr => (go_simp; done)); intro gb987 hg w8 hbox hb; have BK987 := Aside0.mk (hbox); have GE987 := Aside0.mk ((by rw [hg]; exact (below_size (by repeat ((with_reducible first | exact HB.out | refine below_set ?_ GE986.out)))) : w.heap.size ≤ gb987)); have NB986_987 := Aside0.mk ((by rw [hg]; exact Nat.ne_of_lt (blk_lt (g := gb986) (o := .cells #[.int .u8 1, .int .i64 0, .int .i64 0, .int .i64 3, .int .i64 2, .int .i64 1, .slice none 0 0] 26 (0, 0)) (by refine blk_put (cs := #[.int .u8 1, .int .i64 0, .int .i64 0, .int .i64 3, .int .i64 2, .int .i64 1, .slice none 0 0]) ?_ 6 _ rfl; refine blk_put (cs := #[.int .u8 1, .int .i64 0, .int .i64 0, .int .i64 3, .int .i64 2, .int .i64 0, .slice none 0 0]) ?_ 5 _ rfl; refine blk_put (cs := #[.int .u8 1, .int .i64 0, .int .i64 0, .int .i64 3, .int .i64 0, .int .i64 0, .slice none 0 0]) ?_ 4 _ rfl; refine blk_put (cs := #[.int .u8 1, .int .i64 0, .int .i64 0, .int .i64 0, .int .i64 0, .int .i64 0, .slice none 0 0]) ?_ 3 _ rfl; refine blk_put (cs := #[.int .u8 1, .int .i64 0, .int .i64 0, .int .i64 0, .int .i64 0, .int .i64 0, .slice none 0 0]) ?_ 2 _ rfl; refine blk_put (cs := #[.int .u8 1, .int .i64 0, .int .i64 0, .int .i64 0, .int .i64 0, .int .i64 0, .slice none 0 0]) ?_ 1 _ rfl; refine blk_put (cs := #[.int .u8 0, .int .i64 0, .int .i64 0, .int .i64 0, .int .i64 0, .int .i64 0, .slice none 0 0]) ?_ 0 _ rfl; exact BK986.out)) : gb986 ≠ gb987)); have NB987_986 := Aside0.mk ((by rw [hg]; exact Nat.ne_of_gt (blk_lt (g := gb986) (o := .cells #[.int .u8 1, .int .i64 0, .int .i64 0, .int .i64 3, .int .i64 2, .int .i64 1, .slice none 0 0] 26 (0, 0)) (by refine blk_put (cs := #[.int .u8 1, .int .i64 0, .int .i64 0, .int .i64 3, .int .i64 2, .int .i64 1, .slice none 0 0]) ?_ 6 _ rfl; refine blk_put (cs := #[.int .u8 1, .int .i64 0, .int .i64 0, .int .i64 3, .int .i64 2, .int .i64 0, .slice none 0 0]) ?_ 5 _ rfl; refine blk_put (cs := #[.int .u8 1, .int .i64 0, .int .i64 0, .int .i64 3, .int .i64 0, .int .i64 0, .slice none 0 0]) ?_ 4 _ rfl; refine blk_put (cs := #[.int .u8 1, .int .i64 0, .int .i64 0, .int .i64 0, .int .i64 0, .int .i64 0, .slice none 0 0]) ?_ 3 _ rfl; refine blk_put (cs := #[.int .u8 1, .int .i64 0, .int .i64 0, .int .i64 0, .int .i64 0, .int .i64 0, .slice none 0 0]) ?_ 2 _ rfl; refine blk_put (cs := #[.int .u8 1, .int .i64 0, .int .i64 0, .int .i64 0, .int .i64 0, .int .i64 0, .slice none 0 0]) ?_ 1 _ rfl; refine blk_put (cs := #[.int .u8 0, .int .i64 0, .int .i64 0, .int .i64 0, .int .i64 0, .int .i64 0, .slice none 0 0]) ?_ 0 _ rfl; exact BK986.out)) : gb987 ≠ gb986)); replace BK986 := Aside0.mk (blk_below (g := gb986) (o := .cells #[.int .u8 1, .int .i64 0, .int .i64 0, .int .i64 3, .int .i64 2, .int .i64 1, .slice none 0 0] 26 (0, 0)) (by refine blk_put (cs := #[.int .u8 1, .int .i64 0, .int .i64 0, .int .i64 3, .int .i64 2, .int .i64 1, .slice none 0 0]) ?_ 6 _ rfl; refine blk_put (cs := #[.int .u8 1, .int .i64 0, .int .i64 0, .int .i64 3, .int .i64 2, .int .i64 0, .slice none 0 0]) ?_ 5 _ rfl; refine blk_put (cs := #[.int .u8 1, .int .i64 0, .int .i64 0, .int .i64 3, .int .i64 0, .int .i64 0, .slice none 0 0]) ?_ 4 _ rfl; refine blk_put (cs := #[.int .u8 1, .int .i64 0, .int .i64 0, .int .i64 0, .int .i64 0, .int .i64 0, .slice none 0 0]) ?_ 3 _ rfl; refine blk_put (cs := #[.int .u8 1, .int .i64 0, .int .i64 0, .int .i64 0, .int .i64 0, .int .i64 0, .slice none 0 0]) ?_ 2 _ rfl; refine blk_put (cs := #[.int .u8 1, .int .i64 0, .int .i64 0, .int .i64 0, .int .i64 0, .int .i64 0, .slice none 0 0]) ?_ 1 _ rfl; refine blk_put (cs := #[.int .u8 0, .int .i64 0, .int .i64 0, .int .i64 0, .int .i64 0, .int .i64 0, .slice none 0 0]) ?_ 0 _ rfl; exact BK986.out) hb); replace HB := Aside0.mk (below_step (by repeat ((with_reducible first | exact HB.out | refine below_set ?_ GE986.out))) hb); clear hb hbox hg; have hnb9 := NB987_986.out; have hnc9 := NB986_987.out; have hcz10_0 : w8.cell? ⟨gb987, 0, none⟩ = some (.int .u8 0) := (blk_cell BK987.out 0).trans rfl; have hcz10_1 : w8.cell? ⟨gb987, 1, none⟩ = some (.int .i64 0) := (blk_cell BK987.out 1).trans rfl; have hcz10_2 : w8.cell? ⟨gb987, 2, none⟩ = some (.int .i64 0) := (blk_cell BK987.out 2).trans rfl; have hcz10_3 : w8.cell? ⟨gb987, 3, none⟩ = some (.int .i64 0) := (blk_cell BK987.out 3).trans rfl; have hcz10_4 : w8.cell? ⟨gb987, 4, none⟩ = some (.int .i64 0) := (blk_cell BK987.out 4).trans rfl; have hcz10_5 : w8.cell? ⟨gb987, 5, none⟩ = some (.int .i64 0) := (blk_cell BK987.out 5).trans rfl; have hcz10_6 : w8.cell? ⟨gb987, 6, none⟩ = some (.slice none 0 0) := (blk_cell BK987.out 6).trans rfl; have hfz10_0 := blk_frozen BK987.out 0; have hfz10_1 := blk_frozen BK987.out 1; have hfz10_2 := blk_frozen BK987.out 2; have hfz10_3 := blk_frozen BK987.out 3; have hfz10_4 := blk_frozen BK987.out 4; have hfz10_5 := blk_frozen BK987.out 5; have hfz10_6 := blk_frozen BK987.out 6; have hcz11_0 : w8.cell? ⟨gb986, 0, none⟩ = some (.int .u8 1) := (blk_cell BK986.out 0).trans rfl; have hcz11_1 : w8.cell? ⟨gb986, 1, none⟩ = some (.int .i64 0) := (blk_cell BK986.out 1).trans rfl; have hcz11_2 : w8.cell? ⟨gb986, 2, none⟩ = some (.int .i64 0) := (blk_cell BK986.out 2).trans rfl; have hcz11_3 : w8.cell? ⟨gb986, 3, none⟩ = some (.int .i64 3) := (blk_cell BK986.out 3).trans rfl; have hcz11_4 : w8.cell? ⟨gb986, 4, none⟩ = some (.int .i64 2) := (blk_cell BK986.out 4).trans rfl; have hcz11_5 : w8.cell? ⟨gb986, 5, none⟩ = some (.int .i64 1) := (blk_cell BK986.out 5).trans rfl; have hcz11_6 : w8.cell? ⟨gb986, 6, none⟩ = some (.slice none 0 0) := (blk_cell BK986.out 6).trans rfl; have hfz11_0 := blk_frozen BK986.out 0; have hfz11_1 := blk_frozen BK986.out 1; have hfz11_2 := blk_frozen BK986.out 2; have hfz11_3 := blk_frozen BK986.out 3; have hfz11_4 := blk_frozen BK986.out 4; have hfz11_5 := blk_frozen BK986.out 5; have hfz11_6 := blk_frozen BK986.out 6) | ((with_reducible refine gate_dst (N := 11) rfl ?_); refine Kd.R_lit k26 _ 26 ?hg (N := 11) ?hd (xs := ([(⟨1, (⟨0, 0, 3, 2⟩ : S23), 1, ([] : List (S26))⟩ : S26), (⟨1, (⟨4, 0, 3, 2⟩ : S23), 2, ([] : List (S26))⟩ : S26)] : List (S26))) (inner := [.int .u8 1, .int .i64 0, .int .i64 0, .int .i64 3, .int .i64 2, .int .i64 1, .slice none 0 0, .int .u8 1, .int .i64 4, .int .i64 0, .int .i64 3, .int .i64 2, .int .i64 2, .slice none 0 0]) (ok := fun _ => True) (okp := fun _ => True) ?hr ?hp (fun _ hk => hk) trivial (Below.refl _ _) (Nat.le_refl _) (by simp) ?_; (case hd => rfl); (case hg => rfl); (case hr => (go_simp; done)); (case hp => exact (Reps.c7 (show Kd.M k26 _ _ _ (⟨1, (⟨0, 0, 3, 2⟩ : S23), 1, ([] : List (S26))⟩ : S26) [.int .u8 1, .int .i64 0, .int .i64 0, .int .i64 3, .int .i64 2, .int .i64 1, .slice none 0 0] from (k26_mkM _ _ _ (⟨1, (⟨0, 0, 3, 2⟩ : S23), 1, ([] : List (S26))⟩ : S26) (Kd.R_nil _ _ _ _ _))) (Reps.c7 (show Kd.M k26 _ _ _ (⟨1, (⟨4, 0, 3, 2⟩ : S23), 2, ([] : List (S26))⟩ : S26) [.int .u8 1, .int .i64 4, .int .i64 0, .int .i64 3, .int .i64 2, .int .i64 2, .slice none 0 0] from (k26_mkM _ _ _ (⟨1, (⟨4, 0, 3, 2⟩ : S23), 2, ([] : List (S26))⟩ : S26) (Kd.R_nil _ _ _ _ _))) (Reps.none _ _)))); intro v989 w12 ho13 hb hg_ hnew_; clear hg_ hnew_; (rw [← Ny988.out] at ho13); have HO990 := Aside0.mk (Kd.R_lower (Kd.R_newB (Kd.R_newB ho13 (g := gb986) (o := .cells #[.int .u8 1, .int .i64 0, .int .i64 0, .int .i64 3, .int .i64 2, .int .i64 1, .slice none 0 0] 26 (0, 0)) (by refine blk_far ?_ NB986_987.out _; refine blk_far ?_ NB986_987.out _; refine blk_far ?_ NB986_987.out _; refine blk_far ?_ NB986_987.out _; refine blk_far ?_ NB986_987.out _; refine blk_far ?_ NB986_987.out _; refine blk_far ?_ NB986_987.out _; exact BK986.out)) (g := gb987) (o := .cells #[.int .u8 1, .int .i64 4, .int .i64 0, .int .i64 3, .int .i64 2, .int .i64 2, .slice none 0 0] 26 (0, 0)) (by refine blk_put (cs := #[.int .u8 1, .int .i64 4, .int .i64 0, .int .i64 3, .int .i64 2, .int .i64 2, .slice none 0 0]) ?_ 6 _ rfl; refine blk_put (cs := #[.int .u8 1, .int .i64 4, .int .i64 0, .int .i64 3, .int .i64 2, .int .i64 0, .slice none 0 0]) ?_ 5 _ rfl; refine blk_put (cs := #[.int .u8 1, .int .i64 4, .int .i64 0, .int .i64 3, .int .i64 0, .int .i64 0, .slice none 0 0]) ?_ 4 _ rfl; refine blk_put (cs := #[.int .u8 1, .int .i64 4, .int .i64 0, .int .i64 0, .int .i64 0, .int .i64 0, .slice none 0 0]) ?_ 3 _ rfl; refine blk_put (cs := #[.int .u8 1, .int .i64 4, .int .i64 0, .int .i64 0, .int .i64 0, .int .i64 0, .slice none 0 0]) ?_ 2 _ rfl; refine blk_put (cs := #[.int .u8 1, .int .i64 0, .int .i64 0, .int .i64 0, .int .i64 0, .int .i64 0, .slice none 0 0]) ?_ 1 _ rfl; refine blk_put (cs := #[.int .u8 0, .int .i64 0, .int .i64 0, .int .i64 0, .int .i64 0, .int .i64 0, .slice none 0 0]) ?_ 0 _ rfl; exact BK987.out)) (below_size (by repeat ((with_reducible first | exact HB.out | refine below_set ?_ GE987.out))))); replace BK986 := Aside0.mk (blk_below (g := gb986) (o := .cells #[.int .u8 1, .int .i64 0, .int .i64 0, .int .i64 3, .int .i64 2, .int .i64 1, .slice none 0 0] 26 (0, 0)) (by refine blk_far ?_ NB986_987.out _; refine blk_far ?_ NB986_987.out _; refine blk_far ?_ NB986_987.out _; refine blk_far ?_ NB986_987.out _; refine blk_far ?_ NB986_987.out _; refine blk_far ?_ NB986_987.out _; refine blk_far ?_ NB986_987.out _; exact BK986.out) hb); replace BK987 := Aside0.mk (blk_below (g := gb987) (o := .cells #[.int .u8 1, .int .i64 4, .int .i64 0, .int .i64 3, .int .i64 2, .int .i64 2, .slice none 0 0] 26 (0, 0)) (by refine blk_put (cs := #[.int .u8 1, .int .i64 4, .int .i64 0, .int .i64 3, .int .i64 2, .int .i64 2, .slice none 0 0]) ?_ 6 _ rfl; refine blk_put (cs := #[.int .u8 1, .int .i64 4, .int .i64 0, .int .i64 3, .int .i64 2, .int .i64 0, .slice none 0 0]) ?_ 5 _ rfl; refine blk_put (cs := #[.int .u8 1, .int .i64 4, .int .i64 0, .int .i64 3, .int .i64 0, .int .i64 0, .slice none 0 0]) ?_ 4 _ rfl; refine blk_put (cs := #[.int .u8 1, .int .i64 4, .int .i64 0, .int .i64 0, .int .i64 0, .int .i64 0, .slice none 0 0]) ?_ 3 _ rfl; refine blk_put (cs := #[.int .u8 1, .int .i64 4, .int .i64 0, .int .i64 0, .int .i64 0, .int .i64 0, .slice none 0 0]) ?_ 2 _ rfl; refine blk_put (cs := #[.int .u8 1, .int .i64 0, .int .i64 0, .int .i64 0, .int .i64 0, .int .i64 0, .slice none 0 0]) ?_ 1 _ rfl; refine blk_put (cs := #[.int .u8 0, .int .i64 0, .int .i64 0, .int .i64 0, .int .i64 0, .int .i64 0, .slice none 0 0]) ?_ 0 _ rfl; exact BK987.out) hb); replace HB := Aside0.mk (below_step (by repeat ((with_reducible first | exact HB.out | refine below_set ?_ GE987.out))) hb); clear hb ho13; obtain ⟨Ao14, co14, eo14⟩ := Kd.R_slice HO990.out; subst eo14) | ((with_reducible refine gate_dst (N := 3) rfl ?_); refine box_event ?hg (N := 3) ?hd (cs := #[.int .u8 0, .int .i64 0, .int .i64 0, .int .i64 0, .int .i64 0, .int .i64 0, .slice none 0 0]) (t := 26) ?hr ?_; (case hd => rfl); (case hg => rfl); (case hr => (go_simp; done)); intro gb991 hg w15 hbox hb; have BK991 := Aside0.mk (hbox); have GE991 := Aside0.mk ((by rw [hg]; exact (below_size (by repeat ((with_reducible exact HB.out)))) : w.heap.size ≤ gb991)); have NB986_991 := Aside0.mk ((by rw [hg]; exact Nat.ne_of_lt (blk_lt BK986.out) : gb986 ≠ gb991)); have NB991_986 := Aside0.mk ((by rw [hg]; exact Nat.ne_of_gt (blk_lt BK986.out) : gb991 ≠ gb986)); have NB987_991 := Aside0.mk ((by rw [hg]; exact Nat.ne_of_lt (blk_lt BK987.out) : gb987 ≠ gb991)); have NB991_987 := Aside0.mk ((by rw [hg]; exact Nat.ne_of_gt (blk_lt BK987.out) : gb991 ≠ gb987)); replace HO990 := Aside0.mk (Kd.R_below (Kd.R_elderB HO990.out gb991 (Nat.le_of_eq hg.symm)) hb); replace BK986 := Aside0.mk (blk_below BK986.out hb); replace BK987 := Aside0.mk (blk_below BK987.out hb); replace HB := Aside0.mk (below_step (by repeat ((with_reducible exact HB.out))) hb); clear hb hbox hg; have hnb16 := NB991_986.out; have hnc16 := NB986_991.out; have hnb17 := NB991_987.out; have hnc17 := NB987_991.out; have hcz18_0 : w15.cell? ⟨gb991, 0, none⟩ = some (.int .u8 0) := (blk_cell BK991.out 0).trans rfl; have hcz18_1 : w15.cell? ⟨gb991, 1, none⟩ = some (.int .i64 0) := (blk_cell BK991.out 1).trans rfl; have hcz18_2 : w15.cell? ⟨gb991, 2, none⟩ = some (.int .i64 0) := (blk_cell BK991.out 2).trans rfl; have hcz18_3 : w15.cell? ⟨gb991, 3, none⟩ = some (.int .i64 0) := (blk_cell BK991.out 3).trans rfl; have hcz18_4 : w15.cell? ⟨gb991, 4, none⟩ = some (.int .i64 0) := (blk_cell BK991.out 4).trans rfl; have hcz18_5 : w15.cell? ⟨gb991, 5, none⟩ = some (.int .i64 0) := (blk_cell BK991.out 5).trans rfl; have hcz18_6 : w15.cell? ⟨gb991, 6, none⟩ = some (.slice none 0 0) := (blk_cell BK991.out 6).trans rfl; have hfz18_0 := blk_frozen BK991.out 0; have hfz18_1 := blk_frozen BK991.out 1; have hfz18_2 := blk_frozen BK991.out 2; have hfz18_3 := blk_frozen BK991.out 3; have hfz18_4 := blk_frozen BK991.out 4; have hfz18_5 := blk_frozen BK991.out 5; have hfz18_6 := blk_frozen BK991.out 6) | ((with_reducible refine gate_store (t := 26) (p := 3) rfl ?_); refine store_event (t := 26) (p := 3) (v := ?vo_w19) (w1 := (((((((w15.setCell ⟨gb991, 0, none⟩ (.int .u8 2)).setCell ⟨gb991, 1, none⟩ (.int .i64 0)).setCell ⟨gb991, 2, none⟩ (.int .i64 0)).setCell ⟨gb991, 3, none⟩ (.int .i64 7)).setCell ⟨gb991, 4, none⟩ (.int .i64 2)).setCell ⟨gb991, 5, none⟩ (.int .i64 0)).setCell ⟨gb991, 6, none⟩ (.slice Ao14 y988.length co14))) ?hg ?ho ?hn ?hr ?_; (case ho => rfl); (case hg => rfl); (case hn => rfl); (case hr => (go_simp; done)); intro w19 hw; have n0_ : Aside0 (Kd.R k26 26 w19 w.heap.size (fun k_ => k_ ≠ gb986 ∧ k_ ≠ gb987 ∧ k_ ≠ gb991) (.slice Ao14 y988.length co14) y988) := ⟨(by rw [hw]; exact (by exact Kd.R_mono (Kd.R_far (p := ⟨gb991, 6, none⟩) (Kd.R_far (p := ⟨gb991, 5, none⟩) (Kd.R_far (p := ⟨gb991, 4, none⟩) (Kd.R_far (p := ⟨gb991, 3, none⟩) (Kd.R_far (p := ⟨gb991, 2, none⟩) (Kd.R_far (p := ⟨gb991, 1, none⟩) (Kd.R_far (p := ⟨gb991, 0, none⟩) (Kd.R_mono HO990.out (fun k_ hk => (⟨hk, hk.2⟩ : _ ∧ k_ ≠ gb991))) (fun _ hk => hk.2) (.int .u8 2)) (fun _ hk => hk.2) (.int .i64 0)) (fun _ hk => hk.2) (.int .i64 0)) (fun _ hk => hk.2) (.int .i64 7)) (fun _ hk => hk.2) (.int .i64 2)) (fun _ hk => hk.2) (.int .i64 0)) (fun _ hk => hk.2) (.slice Ao14 y988.length co14)) (fun _ hk => ⟨hk.1.1.1.2, ⟨hk.1.1.2, hk.1.2⟩⟩)))⟩; have n1_ : Aside0 (w19.heap[gb986]? = some (.cells #[.int .u8 1, .int .i64 0, .int .i64 0, .int .i64 3, .int .i64 2, .int .i64 1, .slice none 0 0] 26 (0, 0))) := ⟨(by rw [hw]; exact (by refine blk_far ?_ NB986_991.out _; refine blk_far ?_ NB986_991.out _; refine blk_far ?_ NB986_991.out _; refine blk_far ?_ NB986_991.out _; refine blk_far ?_ NB986_991.out _; refine blk_far ?_ NB986_991.out _; refine blk_far ?_ NB986_991.out _; exact BK986.out))⟩; have n2_ : Aside0 (w19.heap[gb987]? = some (.cells #[.int .u8 1, .int .i64 4, .int .i64 0, .int .i64 3, .int .i64 2, .int .i64 2, .slice none 0 0] 26 (0, 0))) := ⟨(by rw [hw]; exact (by refine blk_far ?_ NB987_991.out _; refine blk_far ?_ NB987_991.out _; refine blk_far ?_ NB987_991.out _; refine blk_far ?_ NB987_991.out _; refine blk_far ?_ NB987_991.out _; refine blk_far ?_ NB987_991.out _; refine blk_far ?_ NB987_991.out _; exact BK987.out))⟩; have n3_ : Aside0 (w19.heap[gb991]? = some (.cells #[.int .u8 2, .int .i64 0, .int .i64 0, .int .i64 7, .int .i64 2, .int .i64 0, .slice Ao14 y988.length co14] 26 (0, 0))) := ⟨(by rw [hw]; exact (by refine blk_put (cs := #[.int .u8 2, .int .i64 0, .int .i64 0, .int .i64 7, .int .i64 2, .int .i64 0, .slice none 0 0]) ?_ 6 _ rfl; refine blk_put (cs := #[.int .u8 2, .int .i64 0, .int .i64 0, .int .i64 7, .int .i64 2, .int .i64 0, .slice none 0 0]) ?_ 5 _ rfl; refine blk_put (cs := #[.int .u8 2, .int .i64 0, .int .i64 0, .int .i64 7, .int .i64 0, .int .i64 0, .slice none 0 0]) ?_ 4 _ rfl; refine blk_put (cs := #[.int .u8 2, .int .i64 0, .int .i64 0, .int .i64 0, .int .i64 0, .int .i64 0, .slice none 0 0]) ?_ 3 _ rfl; refine blk_put (cs := #[.int .u8 2, .int .i64 0, .int .i64 0, .int .i64 0, .int .i64 0, .int .i64 0, .slice none 0 0]) ?_ 2 _ rfl; refine blk_put (cs := #[.int .u8 2, .int .i64 0, .int .i64 0, .int .i64 0, .int .i64 0, .int .i64 0, .slice none 0 0]) ?_ 1 _ rfl; refine blk_put (cs := #[.int .u8 0, .int .i64 0, .int .i64 0, .int .i64 0, .int .i64 0, .int .i64 0, .slice none 0 0]) ?_ 0 _ rfl; exact BK991.out))⟩; have n4_ : Aside0 (Below w.heap.size w w19) := ⟨(by rw [hw]; exact (by repeat ((with_reducible first | exact HB.out | refine below_set ?_ GE991.out))))⟩; clear hw; clear HO990; clear BK986; clear BK987; clear BK991; clear HB; have HO990 := n0_; have BK986 := n1_; have BK987 := n2_; have BK991 := n3_; have HB := n4_; clear n0_ n1_ n2_ n3_ n4_; have hcz20_0 : w19.cell? ⟨gb991, 0, none⟩ = some (.int .u8 2) := (blk_cell BK991.out 0).trans rfl; have hcz20_1 : w19.cell? ⟨gb991, 1, none⟩ = some (.int .i64 0) := (blk_cell BK991.out 1).trans rfl; have hcz20_2 : w19.cell? ⟨gb991, 2, none⟩ = some (.int .i64 0) := (blk_cell BK991.out 2).trans rfl; have hcz20_3 : w19.cell? ⟨gb991, 3, none⟩ = some (.int .i64 7) := (blk_cell BK991.out 3).trans rfl; have hcz20_4 : w19.cell? ⟨gb991, 4, none⟩ = some (.int .i64 2) := (blk_cell BK991.out 4).trans rfl; have hcz20_5 : w19.cell? ⟨gb991, 5, none⟩ = some (.int .i64 0) := (blk_cell BK991.out 5).trans rfl; have hcz20_6 : w19.cell? ⟨gb991, 6, none⟩ = some (.slice Ao14 y988.length co14) := (blk_cell BK991.out 6).trans rfl; have hfz20_0 := blk_frozen BK991.out 0; have hfz20_1 := blk_frozen BK991.out 1; have hfz20_2 := blk_frozen BK991.out 2; have hfz20_3 := blk_frozen BK991.out 3; have hfz20_4 := blk_frozen BK991.out 4; have hfz20_5 := blk_frozen BK991.out 5; have hfz20_6 := blk_frozen BK991.out 6) | ((with_reducible refine gate_callee (f := 93) rfl ?_); refine goesL_ (some 14) rfl rfl Try.func93 (by kernel_rfl) rfl #[.agg #[.int .u8 2, .int .i64 0, .int .i64 0, .int .i64 7, .int .i64 2, .int .i64 0, .slice Ao14 y988.length co14], .int .u8 1] rfl (by (try simp only [List.map_toArray, List.map_cons, List.map_nil]); rfl) ?_; (with_reducible refine (least_Least.calls k 2 0 0 7 2 0 (fun k_ => (k_ ≠ gb986 ∧ (k_ ≠ gb987 ∧ k_ ≠ gb991))) _ _ y988 1 t992 _ ?side1 A1.out).mono ?_); (case side1 => exact Kd.R_V (HO990.out)); rintro e w21 ⟨rfl, hb⟩; refine ⟨_, rfl, ?_⟩; replace HO990 := Aside0.mk (Kd.R_below HO990.out hb); replace BK986 := Aside0.mk (blk_below BK986.out hb); replace BK987 := Aside0.mk (blk_below BK987.out hb); replace BK991 := Aside0.mk (blk_below BK991.out hb); replace HB := Aside0.mk (below_step (by repeat ((with_reducible exact HB.out))) hb); (try clear hb); have hcz22_0 : w21.cell? ⟨gb991, 0, none⟩ = some (.int .u8 2) := (blk_cell BK991.out 0).trans rfl; have hcz22_1 : w21.cell? ⟨gb991, 1, none⟩ = some (.int .i64 0) := (blk_cell BK991.out 1).trans rfl; have hcz22_2 : w21.cell? ⟨gb991, 2, none⟩ = some (.int .i64 0) := (blk_cell BK991.out 2).trans rfl; have hcz22_3 : w21.cell? ⟨gb991, 3, none⟩ = some (.int .i64 7) := (blk_cell BK991.out 3).trans rfl; have hcz22_4 : w21.cell? ⟨gb991, 4, none⟩ = some (.int .i64 2) := (blk_cell BK991.out 4).trans rfl; have hcz22_5 : w21.cell? ⟨gb991, 5, none⟩ = some (.int .i64 0) := (blk_cell BK991.out 5).trans rfl; have hcz22_6 : w21.cell? ⟨gb991, 6, none⟩ = some (.slice Ao14 y988.length co14) := (blk_cell BK991.out 6).trans rfl; have hfz22_0 := blk_frozen BK991.out 0; have hfz22_1 := blk_frozen BK991.out 1; have hfz22_2 := blk_frozen BK991.out 2; have hfz22_3 := blk_frozen BK991.out 3; have hfz22_4 := blk_frozen BK991.out 4; have hfz22_5 := blk_frozen BK991.out 5; have hfz22_6 := blk_frozen BK991.out 6) | (go_at_call 93; (with_reducible refine (least_Least.calls k 2 0 0 7 2 0 (fun k_ => (k_ ≠ gb986 ∧ (k_ ≠ gb987 ∧ k_ ≠ gb991))) _ _ y988 2 t993 _ ?side1 A3.out).mono ?_); (case side1 => exact Kd.R_V (HO990.out)); rintro e w23 ⟨rfl, hb⟩; replace HO990 := Aside0.mk (Kd.R_below HO990.out hb); replace BK986 := Aside0.mk (blk_below BK986.out hb); replace BK987 := Aside0.mk (blk_below BK987.out hb); replace BK991 := Aside0.mk (blk_below BK991.out hb); replace HB := Aside0.mk (below_step (by repeat ((with_reducible exact HB.out))) hb); (try clear hb); have hcz24_0 : w23.cell? ⟨gb991, 0, none⟩ = some (.int .u8 2) := (blk_cell BK991.out 0).trans rfl; have hcz24_1 : w23.cell? ⟨gb991, 1, none⟩ = some (.int .i64 0) := (blk_cell BK991.out 1).trans rfl; have hcz24_2 : w23.cell? ⟨gb991, 2, none⟩ = some (.int .i64 0) := (blk_cell BK991.out 2).trans rfl; have hcz24_3 : w23.cell? ⟨gb991, 3, none⟩ = some (.int .i64 7) := (blk_cell BK991.out 3).trans rfl; have hcz24_4 : w23.cell? ⟨gb991, 4, none⟩ = some (.int .i64 2) := (blk_cell BK991.out 4).trans rfl; have hcz24_5 : w23.cell? ⟨gb991, 5, none⟩ = some (.int .i64 0) := (blk_cell BK991.out 5).trans rfl; have hcz24_6 : w23.cell? ⟨gb991, 6, none⟩ = some (.slice Ao14 y988.length co14) := (blk_cell BK991.out 6).trans rfl; have hfz24_0 := blk_frozen BK991.out 0; have hfz24_1 := blk_frozen BK991.out 1; have hfz24_2 := blk_frozen BK991.out 2; have hfz24_3 := blk_frozen BK991.out 3; have hfz24_4 := blk_frozen BK991.out 4; have hfz24_5 := blk_frozen BK991.out 5; have hfz24_6 := blk_frozen BK991.out 6) | (go_at_call 86; (with_reducible refine (least_Gives.calls k 2 0 0 7 2 0 (fun k_ => (k_ ≠ gb986 ∧ (k_ ≠ gb987 ∧ k_ ≠ gb991))) _ _ y988 1 t994 _ ?side1 A5.out).mono ?_); (case side1 => exact Kd.R_V (HO990.out)); rintro e w25 ⟨rfl, hb⟩; replace HO990 := Aside0.mk (Kd.R_below HO990.out hb); replace BK986 := Aside0.mk (blk_below BK986.out hb); replace BK987 := Aside0.mk (blk_below BK987.out hb); replace BK991 := Aside0.mk (blk_below BK991.out hb); replace HB := Aside0.mk (below_step (by repeat ((with_reducible exact HB.out))) hb); (try clear hb)))
  go_ret
  exact ⟨by rfl, by repeat ((with_reducible exact HB.out))⟩
end Go.Proofs.Ytfdmfgaiblfbhaa.P
