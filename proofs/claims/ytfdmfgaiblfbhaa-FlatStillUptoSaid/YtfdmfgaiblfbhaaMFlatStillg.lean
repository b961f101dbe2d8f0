/- The row of the law FlatStill, second form (what it reads is of bulk at most 1048576), out of its plain law and its walk. -/
import Derived.Test.YtfdmfgaiblfbhaaMFlatStillf
import Derived.Test.YtfdmfgaiblfbhaaMFlatStille
import Derived.Test.YtfdmfgaiblfbhaaMFlatStilld
import Derived.Test.YtfdmfgaiblfbhaaMFlatStillc
import Derived.ProofKit
import Derived.Deep.Slices
import Derived.Lib.SmallJoins
import Derived.OpenShut
import Derived.Test.YtfdmfgaiblfbhaaRows
import Derived.WalkKit
import Derived.ShutString
import Derived.ChangeOld
import Derived.Below
import Derived.SizedLaws
import Derived.JoinedCond
/- Naming a tree's leaves: plain data. -/
namespace Go.Proofs.Ytfdmfgaiblfbhaa.P
open Go.RowKit Go.Proofs.YtfdmfgaiblfbhaaW.PrintWords Go.Proofs.YtfdmfgaiblfbhaaW.PrintLast Go.Proofs.YtfdmfgaiblfbhaaW.PrintMore

mutual
def nameC : S26 → List Int → S26 × List Int
  | ⟨a, b, d, l⟩, ids => (⟨a, b, if a = 1 then ids.headD 0 else d, (nameL l (if a = 1 then ids.drop 1 else ids)).1⟩, (nameL l (if a = 1 then ids.drop 1 else ids)).2)
def nameL : List S26 → List Int → List S26 × List Int
  | [], ids => ([], ids)
  | c :: cs, ids => ((nameC c ids).1 :: (nameL cs (nameC c ids).2).1, (nameL cs (nameC c ids).2).2)
end
/-- How many leaves. -/
def nlv (c : S26) : Nat := (leavesC c).length
def nlvL (l : List S26) : Nat := ((allL l).filter fun x => decide (x.f0 = 1)).length
theorem nlv_eq (c : S26) : nlv c = (if c.f0 = 1 then 1 else 0) + nlvL c.f3 := by
  unfold nlv leavesC nlvL
  rw [allC_eq]
  by_cases h : c.f0 = 1
  · rw [if_pos h, List.filter_cons_of_pos (by simpa using h), List.length_cons]
    omega
  · rw [if_neg h, List.filter_cons_of_neg (by simpa using h)]
    omega
theorem nlvL_cons (c : S26) (cs : List S26) : nlvL (c :: cs) = nlv c + nlvL cs := by
  unfold nlvL nlv leavesC
  rw [allL_cons, List.filter_append, List.length_append]
theorem nlvL_nil : nlvL [] = 0 := by unfold nlvL; rw [allL_nil]; rfl
theorem nameC_eq (c : S26) (ids : List Int) : nameC c ids = (⟨c.f0, c.f1, if c.f0 = 1 then ids.headD 0 else c.f2, (nameL c.f3 (if c.f0 = 1 then ids.drop 1 else ids)).1⟩, (nameL c.f3 (if c.f0 = 1 then ids.drop 1 else ids)).2) := by
  cases c
  simp [nameC]
theorem nameL_nil (ids : List Int) : nameL [] ids = ([], ids) := by simp [nameL]
theorem nameL_cons (c : S26) (cs : List S26) (ids : List Int) : nameL (c :: cs) ids = ((nameC c ids).1 :: (nameL cs (nameC c ids).2).1, (nameL cs (nameC c ids).2).2) := by simp [nameL]

theorem zip_app {α β γ : Type} (f : α → β → γ) : ∀ (a b : List α) (l : List β), a.length ≤ l.length → List.zipWith f (a ++ b) l = List.zipWith f a l ++ List.zipWith f b (l.drop a.length) := by
  intro a
  induction a with
  | nil => intro b l _; simp
  | cons x xs ih =>
    intro b l h
    cases l with
    | nil => simp at h
    | cons y ys => simp only [List.cons_append, List.zipWith_cons_cons, List.length_cons, List.drop_succ_cons]; rw [ih b ys (by simpa using h)]
def named (p : S35) (id : Int) : S35 := ⟨id, p.f1⟩
/-- What naming does: the size stays, the numbers are used up from the front, the panes have them. -/
theorem name_facts : ∀ (N : Nat), (∀ c : S26, sz c ≤ N → ∀ ids : List Int, nlv c ≤ ids.length → sz (nameC c ids).1 = sz c ∧ (nameC c ids).2 = ids.drop (nlv c) ∧ panes (nameC c ids).1 = List.zipWith named (panes c) ids) ∧
    (∀ l : List S26, szL l ≤ N → ∀ ids : List Int, nlvL l ≤ ids.length → szL (nameL l ids).1 = szL l ∧ (nameL l ids).2 = ids.drop (nlvL l) ∧ panesL (nameL l ids).1 = List.zipWith named (panesL l) ids ∧ (nameL l ids).1.length = l.length) := by
  intro N
  induction N with
  | zero =>
    refine ⟨fun c h => ?_, fun l h ids _ => ?_⟩
    · rw [sz_eq] at h; omega
    · cases l with
      | nil => rw [nameL_nil, nlvL_nil]; exact ⟨rfl, rfl, by unfold panesL; rw [allL_nil]; rfl, rfl⟩
      | cons x xs => rw [szL_cons, sz_eq] at h; omega
  | succ N ih =>
    have hC : ∀ c : S26, sz c ≤ N + 1 → ∀ ids : List Int, nlv c ≤ ids.length → sz (nameC c ids).1 = sz c ∧ (nameC c ids).2 = ids.drop (nlv c) ∧ panes (nameC c ids).1 = List.zipWith named (panes c) ids := by
      intro c hc ids hids
      have hs := sz_eq c
      have hn := nlv_eq c
      rw [nameC_eq]
      by_cases h1 : c.f0 = 1
      · rw [if_pos h1] at hn
        simp only [if_pos h1]
        obtain ⟨a1, a2, a3, _⟩ := ih.2 c.f3 (by omega) (ids.drop 1) (by rw [List.length_drop]; omega)
        refine ⟨?_, ?_, ?_⟩
        · rw [sz_eq, hs]
          simp only [a1]
        · rw [a2, List.drop_drop, hn]
        · rw [panes_eq, panes_eq c]
          simp only [if_pos h1, a3]
          cases ids with
          | nil => simp at hids; omega
          | cons i is => rfl
      · rw [if_neg h1] at hn
        simp only [if_neg h1]
        obtain ⟨a1, a2, a3, _⟩ := ih.2 c.f3 (by omega) ids (by omega)
        refine ⟨?_, ?_, ?_⟩
        · rw [sz_eq, hs]
          simp only [a1]
        · rw [a2, hn, Nat.zero_add]
        · rw [panes_eq, panes_eq c]
          simp only [if_neg h1, a3, List.nil_append]
    refine ⟨hC, ?_⟩
    intro l
    induction l with
    | nil => intro _ ids _; rw [nameL_nil, nlvL_nil]; exact ⟨rfl, rfl, by unfold panesL; rw [allL_nil]; rfl, rfl⟩
    | cons x xs ihl =>
      intro hl ids hids
      rw [szL_cons] at hl
      rw [nlvL_cons] at hids
      obtain ⟨a1, a2, a3⟩ := hC x (by omega) ids (by omega)
      obtain ⟨b1, b2, b3, b4⟩ := ihl (by omega) (nameC x ids).2 (by rw [a2, List.length_drop]; omega)
      rw [nameL_cons]
      refine ⟨by rw [szL_cons, szL_cons, a1, b1], by rw [b2, a2, List.drop_drop, nlvL_cons], ?_, by simp [b4]⟩
      have e : ∀ y ys, panesL (y :: ys) = panes y ++ panesL ys := fun y ys => by rw [← panesL_one y, ← panesL_app]; rfl
      have hlen : (panes x).length = nlv x := by unfold panes nlv; rw [List.length_map]
      rw [e, e, a3, b3, a2, zip_app named _ _ _ (by omega), hlen]
theorem nameL_app (x : S26) : ∀ (pre : List S26) (ids : List Int), nameL (pre ++ [x]) ids = ((nameL pre ids).1 ++ [(nameC x (nameL pre ids).2).1], (nameC x (nameL pre ids).2).2) := by
  intro pre
  induction pre with
  | nil => intro ids; rw [List.nil_append, nameL_cons, nameL_nil, nameL_nil]; rfl
  | cons y ys ih => intro ids; rw [List.cons_append, nameL_cons, nameL_cons, ih]; rfl
theorem nameL_len : ∀ (l : List S26) (ids : List Int), (nameL l ids).1.length = l.length := by
  intro l
  induction l with
  | nil => intro ids; rw [nameL_nil]
  | cons y ys ih => intro ids; rw [nameL_cons]; simp [ih]
def nameT (c : S26) (ids : List Int) : Int × Int × Int × Int × Int × Int × (List S26) × List Int := ((nameC c ids).1.f0, (nameC c ids).1.f1.f0, (nameC c ids).1.f1.f1, (nameC c ids).1.f1.f2, (nameC c ids).1.f1.f3, (nameC c ids).1.f2, (nameC c ids).1.f3, (nameC c ids).2)
theorem name_ev : ∀ (N : Nat) (c : S26), sz c ≤ N → N ≤ 1000000 → ∀ ids : List Int, nlv c ≤ ids.length → Ev (fun k => flat_name.f k c.f0 c.f1.f0 c.f1.f1 c.f1.f2 c.f1.f3 c.f2 c.f3 ids) (nameT c ids) := by
  intro N
  induction N with
  | zero => intro c h _; rw [sz_eq] at h; omega
  | succ N ih =>
    intro c hc hN ids hids
    have hs := sz_eq c
    have hn := nlv_eq c
    have hlen := szL_len c.f3
    have key : ∀ (d : Int) (ids : List Int), nlvL c.f3 ≤ ids.length → ∀ (rest pre : List S26), pre ++ rest = c.f3 → Ev (fun k => flat_name.l0 k (nameL pre ids).2 (c.f3.length : Int) (pre.length : Int) c.f0 c.f1.f0 c.f1.f1 c.f1.f2 c.f1.f3 d ((nameL pre ids).1 ++ rest)) (c.f0, c.f1.f0, c.f1.f1, c.f1.f2, c.f1.f3, d, (nameL c.f3 ids).1, (nameL c.f3 ids).2) := by
      intro d ids hids rest
      induction rest with
      | nil =>
        intro pre hp
        rw [List.append_nil] at hp
        subst hp
        rw [List.append_nil]
        refine Ev.step (f := fun _ => some (c.f0, c.f1.f0, c.f1.f1, c.f1.f2, c.f1.f3, d, (nameL c.f3 ids).1, (nameL c.f3 ids).2)) (fun k => ?_) (Ev.now _)
        simp only [flat_name.l0]
        rw [if_neg (by omega)]
      | cons x xs ihr =>
        intro pre hp
        have hl : (pre.length : Int) < (c.f3.length : Int) := by rw [← hp, List.length_append, List.length_cons]; omega
        have hsum : szL c.f3 = szL pre + (sz x + szL xs) := by rw [← hp, szL_app, szL_cons]
        have hnl : nlvL c.f3 = nlvL pre + (nlv x + nlvL xs) := by
          rw [← hp]
          unfold nlvL nlv leavesC
          rw [allL_app, allL_cons, List.filter_append, List.filter_append, List.length_append, List.length_append]
        have hpre := (name_facts (szL pre)).2 pre (Nat.le_refl _) ids (by omega)
        have hpl : (nameL pre ids).1.length = pre.length := nameL_len pre ids
        have e2 := ihr (pre ++ [x]) (by rw [List.append_assoc]; exact hp)
        have hr : rd_T26 ((nameL pre ids).1 ++ x :: xs) (pre.length : Int) = x := by rw [← hpl]; exact rd26_in _ x xs
        have hu : wrap64 ((pre.length : Int) + 1) = ((pre ++ [x]).length : Int) := up_in pre x xs (by rw [hp]; omega)
        have hx := ih x (by omega) (by omega) (nameL pre ids).2 (by rw [hpre.2.1, List.length_drop]; omega)
        have hll : (pre.length : Int) < (((nameL pre ids).1 ++ x :: xs).length : Int) := by rw [List.length_append, hpl, List.length_cons]; omega
        have hset : ((nameL pre ids).1 ++ x :: xs).set (pre.length : Int).toNat (nameC x (nameL pre ids).2).1 = (nameL (pre ++ [x]) ids).1 ++ xs := by
          rw [nameL_app, Int.toNat_natCast, ← hpl, List.set_append_right _ _ (Nat.le_refl _), Nat.sub_self, List.set_cons_zero]
          simp
        refine Ev.step (f := fun k => (flat_name.f k x.f0 x.f1.f0 x.f1.f1 x.f1.f2 x.f1.f3 x.f2 x.f3 (nameL pre ids).2).bind fun bt => flat_name.l0 k bt.2.2.2.2.2.2.2 (c.f3.length : Int) (wrap64 ((pre.length : Int) + 1)) c.f0 c.f1.f0 c.f1.f1 c.f1.f2 c.f1.f3 d (((nameL pre ids).1 ++ x :: xs).set (pre.length : Int).toNat (⟨bt.1, (⟨bt.2.1, bt.2.2.1, bt.2.2.2.1, bt.2.2.2.2.1⟩ : S23), bt.2.2.2.2.2.1, bt.2.2.2.2.2.2.1⟩ : S26))) (fun k => ?_) (Ev.bind hx ?_)
        · simp only [flat_name.l0]
          rw [if_pos hl, if_pos (by omega), if_pos hll, hr]
        · simp only [nameT, eta26]
          rw [hset, hu]
          rw [nameL_app] at e2 ⊢
          exact e2
    have kj : ∀ (d : Int) (ids : List Int), nlvL c.f3 ≤ ids.length → Ev (fun k => flat_name.j0 k ids c.f0 c.f1.f0 c.f1.f1 c.f1.f2 c.f1.f3 d c.f3) (c.f0, c.f1.f0, c.f1.f1, c.f1.f2, c.f1.f3, d, (nameL c.f3 ids).1, (nameL c.f3 ids).2) := by
      intro d ids hids
      have e := key d ids hids c.f3 [] rfl
      rw [nameL_nil] at e
      refine Ev.step (f := fun k => (api_Cell_137.f c.f3).bind fun t => flat_name.l0 k ids (t.length : Int) 0 c.f0 c.f1.f0 c.f1.f1 c.f1.f2 c.f1.f3 d t) (fun k => ?_) (Ev.bind (a := c.f3) (ev_some fun k => if_pos (by omega)) e)
      simp only [flat_name.j0]
    unfold nameT
    rw [nameC_eq]
    by_cases h1 : c.f0 = 1
    · rw [if_pos h1] at hn
      simp only [if_pos h1]
      have e := kj (ids.headD 0) (ids.drop 1) (by rw [List.length_drop]; omega)
      have hrd : rd ids 0 = ids.headD 0 := by cases ids <;> rfl
      refine Ev.step (fun k => ?_) e
      simp only [flat_name.f]
      rw [if_pos h1, if_pos (by omega), if_pos (by omega), hrd]
    · rw [if_neg h1] at hn
      simp only [if_neg h1]
      refine Ev.step (fun k => ?_) (kj c.f2 ids (by omega))
      simp only [flat_name.f]
      rw [if_neg h1]
end Go.Proofs.Ytfdmfgaiblfbhaa.P
/- The leaves' numbers, by the code: plain data. -/
namespace Go.Proofs.Ytfdmfgaiblfbhaa.P
open Go.RowKit Go.Proofs.YtfdmfgaiblfbhaaW.PrintWords Go.Proofs.YtfdmfgaiblfbhaaW.PrintLast Go.Proofs.YtfdmfgaiblfbhaaW.PrintMore

def idsL (l : List S26) : List Int := ((allL l).filter fun x => decide (x.f0 = 1)).map (·.f2)
theorem idsL_app (a b : List S26) : idsL (a ++ b) = idsL a ++ idsL b := by
  unfold idsL
  rw [allL_app, List.filter_append, List.map_append]
theorem idsL_one (x : S26) : idsL [x] = (if x.f0 = 1 then [x.f2] else []) ++ idsL x.f3 := by
  unfold idsL
  rw [allL_cons, allL_nil, List.append_nil, allC_eq]
  by_cases h : x.f0 = 1
  · rw [if_pos h, List.filter_cons_of_pos (by simpa using h)]
    rfl
  · rw [if_neg h, List.filter_cons_of_neg (by simpa using h)]
    rfl
theorem idsL_len (l : List S26) : (idsL l).length ≤ szL l := by unfold idsL; rw [List.length_map]; exact List.length_filter_le _ _
theorem cell_leaves_ev : ∀ (N : Nat) (l : List S26), szL l ≤ N → N ≤ 1048576 → Ev (fun k => cell_Leaves.f k l) (idsL l) := by
  intro N
  induction N with
  | zero =>
    intro l h _
    cases l with
    | nil =>
      refine ⟨2, fun k hk => ?_⟩
      obtain ⟨m, rfl⟩ : ∃ m, k = m + 2 := ⟨k - 2, by omega⟩
      simp [cell_Leaves.f, cell_Leaves.l0, idsL, allL_nil]
    | cons x xs => rw [szL_cons, sz_eq] at h; omega
  | succ N ih =>
    intro l hl hN
    have hlen := szL_len l
    have key : ∀ (rest pre : List S26), pre ++ rest = l → Ev (fun k => cell_Leaves.l0 k (idsL pre) l (l.length : Int) (pre.length : Int)) (idsL l) := by
      intro rest
      induction rest with
      | nil =>
        intro pre hp
        rw [List.append_nil] at hp
        refine Ev.step (f := fun _ => some (idsL l)) (fun k => ?_) (Ev.now _)
        simp only [cell_Leaves.l0]
        rw [if_neg (by rw [hp]; omega), hp]
      | cons x xs ihr =>
        intro pre hp
        have hs := sz_eq x
        have hlt : (pre.length : Int) < (l.length : Int) := by rw [← hp, List.length_append, List.length_cons]; omega
        have hsum : szL l = szL pre + (sz x + szL xs) := by rw [← hp, szL_app, szL_cons]
        have e2 := ihr (pre ++ [x]) (by rw [List.append_assoc]; exact hp)
        have hr : rd_T26 l (pre.length : Int) = x := by rw [← hp]; exact rd26_in pre x xs
        have hu : wrap64 ((pre.length : Int) + 1) = ((pre ++ [x]).length : Int) := up_in pre x xs (by rw [hp]; omega)
        have h1 := idsL_len pre
        have h2 := idsL_len x.f3
        rw [idsL_app, idsL_one] at e2
        have hx := ih x.f3 (by omega) (by omega)
        by_cases hk : x.f0 = 1
        · rw [if_pos hk, ← List.append_assoc] at e2
          have hb : (idsL pre ++ [x.f2]).length + (idsL x.f3).length < 17592186044416 := by rw [List.length_append, List.length_singleton]; omega
          refine Ev.step (f := fun k => (cell_Leaves.f k x.f3).bind fun t => (if (idsL pre ++ [x.f2]).length + t.length < 17592186044416 then (cell_Leaves.l0 k ((idsL pre ++ [x.f2]) ++ t) l (l.length : Int) ((pre ++ [x]).length : Int)) else none)) (fun k => ?_) (Ev.bind hx (ev_pos hb e2))
          simp only [cell_Leaves.l0]
          rw [if_pos hlt, if_pos (by omega), if_pos hlt, hr, if_pos hk, if_pos (by omega), Option.bind_some, hu]
        · rw [if_neg hk, List.nil_append] at e2
          refine Ev.step (f := fun k => (cell_Leaves.f k x.f3).bind fun t => (if (idsL pre).length + t.length < 17592186044416 then (cell_Leaves.l0 k (idsL pre ++ t) l (l.length : Int) ((pre ++ [x]).length : Int)) else none)) (fun k => ?_) (Ev.bind hx (ev_pos (by omega) e2))
          simp only [cell_Leaves.l0]
          rw [if_pos hlt, if_pos (by omega), if_pos hlt, hr, if_neg hk, hu]
    refine Ev.step (fun k => ?_) (key l [] rfl)
    simp only [cell_Leaves.f]
    unfold idsL
    rw [allL_nil]
    rfl
end Go.Proofs.Ytfdmfgaiblfbhaa.P
namespace Go.Proofs.Ytfdmfgaiblfbhaa.P
open Go.RowKit Go.Proofs.YtfdmfgaiblfbhaaW.PrintWords Go.Proofs.YtfdmfgaiblfbhaaW.PrintLast Go.Proofs.YtfdmfgaiblfbhaaW.PrintMore
attribute [local go_sem] max2_int min2_int max_two min_two max_three min_three max_four min_four   -- for this text's walks alone
set_option linter.unusedVariables false
set_option linter.unusedSimpArgs false

/-! ### sashref07_Changed: function 56 -/
def sashref07_Changed.l0 : Nat → List (S35) → List (S35) → List (S35) → Int → Int → Option ((List (S35)))
  | 0, _, _, _, _, _ => none
  | k + 1, x0, x1, x5, x10, x11 => if x11 < x10 then (if 0 ≤ x11 then (if x11 < (x1.length : Int) then ((sashref07_Find.f k x0 ((rd_T35 x1 x11).f0)).bind fun t476 => (if t476 < 0 then (if x5.length < 3518437208883 then (sashref07_Changed.l0 k x0 x1 (x5 ++ [(⟨(rd_T35 x1 x11).f0, (⟨(rd_T35 x1 x11).f1.f0, (rd_T35 x1 x11).f1.f1, (rd_T35 x1 x11).f1.f2, (rd_T35 x1 x11).f1.f3⟩ : S23)⟩ : S35)]) x10 (wrap64 (x11 + 1))) else (none)) else (if 0 ≤ t476 then (if t476 < (x0.length : Int) then (if ((rd_T35 x0 t476).f1.f2) = ((rd_T35 x1 x11).f1.f2) then (if ((rd_T35 x0 t476).f1.f3) = ((rd_T35 x1 x11).f1.f3) then (sashref07_Changed.l0 k x0 x1 x5 x10 (wrap64 (x11 + 1))) else (if x5.length < 3518437208883 then (sashref07_Changed.l0 k x0 x1 (x5 ++ [(⟨(rd_T35 x1 x11).f0, (⟨(rd_T35 x1 x11).f1.f0, (rd_T35 x1 x11).f1.f1, (rd_T35 x1 x11).f1.f2, (rd_T35 x1 x11).f1.f3⟩ : S23)⟩ : S35)]) x10 (wrap64 (x11 + 1))) else (none))) else (if x5.length < 3518437208883 then (sashref07_Changed.l0 k x0 x1 (x5 ++ [(⟨(rd_T35 x1 x11).f0, (⟨(rd_T35 x1 x11).f1.f0, (rd_T35 x1 x11).f1.f1, (rd_T35 x1 x11).f1.f2, (rd_T35 x1 x11).f1.f3⟩ : S23)⟩ : S35)]) x10 (wrap64 (x11 + 1))) else (none))) else (none)) else (none)))) else (none)) else (none)) else (some x5)
def sashref07_Changed.f (k : Nat) (l0 : List (S35)) (l1 : List (S35)) : Option ((List (S35))) := sashref07_Changed.l0 k l0 l1 (([] : List (S35))) (l1.length : Int) 0
theorem sashref07_Changed.mono_l : ∀ k, (∀ y0 y1 y2 y3 y4, LeO (sashref07_Changed.l0 k y0 y1 y2 y3 y4) (sashref07_Changed.l0 (k + 1) y0 y1 y2 y3 y4))
  | 0 => fun _ _ _ _ _ r h => by simp [sashref07_Changed.l0] at h
  | k + 1 => by
    have ih0 := sashref07_Changed.mono_l k
    · intro y0 y1 y2 y3 y4
      unfold sashref07_Changed.l0
      repeat' first
      | (with_reducible exact ih0 _ _ _ _ _)
      | (with_reducible exact sashref07_Find.mono _ _ _)
      | (with_reducible exact LeO.refl _)
      | (with_reducible exact LeO.none _)
      | (with_reducible refine LeO.ite ?_ ?_)
      | (with_reducible refine LeO.bind ?_ (fun _ => ?_))
      | exact ih0 _ _ _ _ _
      | exact sashref07_Find.mono _ _ _
      | exact LeO.none _
      | refine LeO.ite ?_ ?_
      | refine LeO.bind ?_ (fun _ => ?_)
theorem sashref07_Changed.mono : ∀ a0 a1 k, LeO (sashref07_Changed.f k a0 a1) (sashref07_Changed.f (k + 1) a0 a1) := by
  intro a0 a1 k
  have ih0 := sashref07_Changed.mono_l k
  unfold sashref07_Changed.f
  repeat' first
      | (with_reducible exact ih0 _ _ _ _ _)
      | (with_reducible exact sashref07_Find.mono _ _ _)
      | (with_reducible exact LeO.refl _)
      | (with_reducible exact LeO.none _)
      | (with_reducible refine LeO.ite ?_ ?_)
      | (with_reducible refine LeO.bind ?_ (fun _ => ?_))
      | exact ih0 _ _ _ _ _
      | exact sashref07_Find.mono _ _ _
      | exact LeO.none _
      | refine LeO.ite ?_ ?_
      | refine LeO.bind ?_ (fun _ => ?_)
set_option maxHeartbeats 8000000 in
set_option maxRecDepth 100000 in
theorem sashref07_Changed.calls (k : Nat) (A0 : Option Addr) (c0 : Nat) (l0 : List (S35)) (A1 : Option Addr) (c1 : Nat) (l1 : List (S35)) (r : List (S35)) (w : World) (hr0 : Kd.C k35 w A0 l0.length l0) (hc0 : l0.length ≤ c0) (hr1 : Kd.C k35 w A1 l1.length l1) (hc1 : l1.length ≤ c1) (h : sashref07_Changed.f k l0 l1 = some r) :
    Calls Try.prog 56 #[.slice A0 l0.length c0, .slice A1 l1.length c1] w fun e w' => ∃ v0_ : Value, e = .returned (v0_) ∧ Kd.R k35 35 w' w.heap.size (fun _ => True) v0_ r ∧ Below w.heap.size w w' := by
  have hu35 := Try.underlying35
  have HR0 := Aside0.mk hr0
  have HC0 := Aside0.mk hc0
  clear hr0 hc0
  have HR1 := Aside0.mk hr1
  have HC1 := Aside0.mk hc1
  clear hr1 hc1
  have HB := Aside0.mk (Below.refl w.heap.size w)
  have H : (sashref07_Changed.l0 k l0 l1 (([] : List (S35))) (l1.length : Int) 0) = some r := h
  clear h
  obtain ⟨y472, hy472⟩ : ∃ y_ : List (S35), y_ = (([] : List (S35))) := ⟨_, rfl⟩
  replace H : (sashref07_Changed.l0 k l0 l1 y472 (l1.length : Int) 0) = some r := by first | (rw [hy472]; with_reducible exact H) | (have H2_ := (Option.bind_some _ _).symm.trans H; rw [hy472]; with_reducible exact H2_) | (have H2_ := (Option.bind_some _ _).symm.trans H; with_reducible exact H2_) | with_reducible exact H | (rw [hy472]; exact H) | exact H
  have Ny472 := Aside0.mk hy472
  clear hy472
  have H' := Aside0.mk H
  clear H
  go_enter Try.func56, Try.ntmps56
  go_wp2_with (first | ((with_reducible refine gate_dst (N := 8) rfl ?_); refine Kd.R_lit k35 _ 35 ?hg (N := 8) ?hd (xs := ([] : List (S35))) (inner := []) (ok := fun _ => True) (okp := fun _ => True) ?hr ?hp (fun _ hk => hk) trivial (Below.refl _ _) (Nat.le_refl _) (by simp) ?_; (case hd => rfl); (case hg => rfl); (case hr => first | (go_simp; done) | (go_simp; rfl)); (case hp => exact (Reps.none _ _)); intro v473 w3 ho4 hb hg_ hnew_; clear hg_ hnew_; (first | rw [← Ny472.out] at ho4 | (simp only [Int.reduceToNat] at ho4; rw [← Ny472.out] at ho4)); have n0_ := Aside0.mk (Kd.R_lower ho4 (below_size (by repeat (first | (with_reducible first | exact HB.out | apply below_alloc | apply pw_below_drewN | apply below_drew1) | exact HB.out)))); have n1_ := Aside0.mk (below_step (by repeat (first | (with_reducible first | exact HB.out | apply below_alloc | apply pw_below_drewN | apply below_drew1) | exact HB.out)) hb); clear HB; have HO474 := n0_; have HB := n1_; clear n0_ n1_; clear hb ho4))
  repeat (go_quiet (first | ((with_reducible refine gate_dst (N := 8) rfl ?_); refine Kd.R_lit k35 _ 35 ?hg (N := 8) ?hd (xs := ([] : List (S35))) (inner := []) (ok := fun _ => True) (okp := fun _ => True) ?hr ?hp (fun _ hk => hk) trivial (Below.refl _ _) (Nat.le_refl _) (by simp) ?_; (case hd => rfl); (case hg => rfl); (case hr => first | (go_simp; done) | (go_simp; rfl)); (case hp => exact (Reps.none _ _)); intro v473 w3 ho4 hb hg_ hnew_; clear hg_ hnew_; (first | rw [← Ny472.out] at ho4 | (simp only [Int.reduceToNat] at ho4; rw [← Ny472.out] at ho4)); have n0_ := Aside0.mk (Kd.R_lower ho4 (below_size (by repeat (first | (with_reducible first | exact HB.out | apply below_alloc | apply pw_below_drewN | apply below_drew1) | exact HB.out)))); have n1_ := Aside0.mk (below_step (by repeat (first | (with_reducible first | exact HB.out | apply below_alloc | apply pw_below_drewN | apply below_drew1) | exact HB.out)) hb); clear HB; have HO474 := n0_; have HB := n1_; clear n0_ n1_; clear hb ho4)); try go_wp2_with (first | ((with_reducible refine gate_dst (N := 8) rfl ?_); refine Kd.R_lit k35 _ 35 ?hg (N := 8) ?hd (xs := ([] : List (S35))) (inner := []) (ok := fun _ => True) (okp := fun _ => True) ?hr ?hp (fun _ hk => hk) trivial (Below.refl _ _) (Nat.le_refl _) (by simp) ?_; (case hd => rfl); (case hg => rfl); (case hr => first | (go_simp; done) | (go_simp; rfl)); (case hp => exact (Reps.none _ _)); intro v473 w3 ho4 hb hg_ hnew_; clear hg_ hnew_; (first | rw [← Ny472.out] at ho4 | (simp only [Int.reduceToNat] at ho4; rw [← Ny472.out] at ho4)); have n0_ := Aside0.mk (Kd.R_lower ho4 (below_size (by repeat (first | (with_reducible first | exact HB.out | apply below_alloc | apply pw_below_drewN | apply below_drew1) | exact HB.out)))); have n1_ := Aside0.mk (below_step (by repeat (first | (with_reducible first | exact HB.out | apply below_alloc | apply pw_below_drewN | apply below_drew1) | exact HB.out)) hb); clear HB; have HO474 := n0_; have HB := n1_; clear n0_ n1_; clear hb ho4)))
  go_loopg [5, 11] k (fun kq v5 v11 w' => ∃ (x5_1 : List (S35)) (x11_1 : Int), v11 = .int .i64 x11_1 ∧ Aside0 (sashref07_Changed.l0 kq l0 l1 x5_1 (l1.length : Int) x11_1 = some r) ∧ Aside0 (kq ≤ k) ∧ Aside0 (Kd.R k35 35 w' w.heap.size (fun _ => True) v5 x5_1) ∧ Aside0 (Below w.heap.size w w'))
  case atStart => exact ⟨(y472), (0), (by first | rfl | (simp; done) | (simp [*]; done)), H', ⟨Nat.le_refl _⟩, ⟨by (with_reducible repeat (first | apply Kd.R_alloc | apply Kd.R_drewN | apply Kd.R_drew)); exact HO474.out⟩, ⟨by repeat (first | (with_reducible first | exact HB.out | apply below_alloc | apply pw_below_drewN | apply below_drew1) | exact HB.out)⟩⟩
  case round =>
    clear H'
    try clear c1
    try clear p2
    obtain ⟨x5_1, x11_1, rfl, HA, HK1, HO_5, HB⟩ := hrel
    cases gk with
    | zero => exact absurd HA.out (by simp [sashref07_Changed.l0])
    | succ k1 =>
      have H := HA.out
      clear HA
      simp only [sashref07_Changed.l0] at H
      by_cases c5 : x11_1 < (l1.length : Int)
      · rw [if_pos c5] at H
        have c5b0 : decide (x11_1 < (l1.length : Int)) = true := decide_eq_true c5
        clear c5
        by_cases c6 : 0 ≤ x11_1
        · rw [if_pos c6] at H
          have c6b0 : decide (0 ≤ x11_1) = true := decide_eq_true c6
          clear c6
          by_cases c7 : x11_1 < (l1.length : Int)
          · rw [if_pos c7] at H
            have c7b0 : decide (x11_1 < (l1.length : Int)) = true := decide_eq_true c7
            clear c7
            replace H := Option.bind_eq_some_iff.mp H
            obtain ⟨t476, A80, H⟩ := H
            replace H : (if t476 < 0 then (if x5_1.length < 3518437208883 then (sashref07_Changed.l0 k1 l0 l1 (x5_1 ++ [(⟨(rd_T35 l1 x11_1).f0, (⟨(rd_T35 l1 x11_1).f1.f0, (rd_T35 l1 x11_1).f1.f1, (rd_T35 l1 x11_1).f1.f2, (rd_T35 l1 x11_1).f1.f3⟩ : S23)⟩ : S35)]) (l1.length : Int) (wrap64 (x11_1 + 1))) else (none)) else (if 0 ≤ t476 then (if t476 < (l0.length : Int) then (if ((rd_T35 l0 t476).f1.f2) = ((rd_T35 l1 x11_1).f1.f2) then (if ((rd_T35 l0 t476).f1.f3) = ((rd_T35 l1 x11_1).f1.f3) then (sashref07_Changed.l0 k1 l0 l1 x5_1 (l1.length : Int) (wrap64 (x11_1 + 1))) else (if x5_1.length < 3518437208883 then (sashref07_Changed.l0 k1 l0 l1 (x5_1 ++ [(⟨(rd_T35 l1 x11_1).f0, (⟨(rd_T35 l1 x11_1).f1.f0, (rd_T35 l1 x11_1).f1.f1, (rd_T35 l1 x11_1).f1.f2, (rd_T35 l1 x11_1).f1.f3⟩ : S23)⟩ : S35)]) (l1.length : Int) (wrap64 (x11_1 + 1))) else (none))) else (if x5_1.length < 3518437208883 then (sashref07_Changed.l0 k1 l0 l1 (x5_1 ++ [(⟨(rd_T35 l1 x11_1).f0, (⟨(rd_T35 l1 x11_1).f1.f0, (rd_T35 l1 x11_1).f1.f1, (rd_T35 l1 x11_1).f1.f2, (rd_T35 l1 x11_1).f1.f3⟩ : S23)⟩ : S35)]) (l1.length : Int) (wrap64 (x11_1 + 1))) else (none))) else (none)) else (none))) = some r := H
            have A8 := Aside0.mk A80
            clear A80
            by_cases c9 : t476 < 0
            · rw [if_pos c9] at H
              have c9b0 : decide (t476 < 0) = true := decide_eq_true c9
              clear c9
              by_cases c10 : x5_1.length < 3518437208883
              · rw [if_pos c10] at H
                have LMc10 := Aside0.mk c10
                clear c10
                obtain ⟨y478, hy478⟩ : ∃ y_ : List (S35), y_ = (x5_1 ++ [(⟨(rd_T35 l1 x11_1).f0, (⟨(rd_T35 l1 x11_1).f1.f0, (rd_T35 l1 x11_1).f1.f1, (rd_T35 l1 x11_1).f1.f2, (rd_T35 l1 x11_1).f1.f3⟩ : S23)⟩ : S35)]) := ⟨_, rfl⟩
                replace H : (sashref07_Changed.l0 k1 l0 l1 y478 (l1.length : Int) (wrap64 (x11_1 + 1))) = some r := by first | (rw [hy478]; with_reducible exact H) | (have H2_ := (Option.bind_some _ _).symm.trans H; rw [hy478]; with_reducible exact H2_) | (have H2_ := (Option.bind_some _ _).symm.trans H; with_reducible exact H2_) | with_reducible exact H | (rw [hy478]; exact H) | exact H
                have Ny478 := Aside0.mk hy478
                clear hy478
                have H' := Aside0.mk H
                clear H
                have p475 : 0 ≤ (x11_1 : Int) := of_decide_eq_true (by first | (with_reducible assumption) | assumption)
                have q475 : x11_1 < (l1.length : Int) := of_decide_eq_true (by first | (with_reducible assumption) | assumption)
                obtain ⟨ad475, e475, hx475_0, hx475_1, hx475_2, hx475_3, hx475_4⟩ := at_T35 HR1.out x11_1 p475 q475
                cases e475
                replace hx475_0 := (HB.out.cell (World.block_lt_of_cell? w _ hx475_0)).trans hx475_0
                replace hx475_1 := (HB.out.cell (World.block_lt_of_cell? w _ hx475_1)).trans hx475_1
                replace hx475_2 := (HB.out.cell (World.block_lt_of_cell? w _ hx475_2)).trans hx475_2
                replace hx475_3 := (HB.out.cell (World.block_lt_of_cell? w _ hx475_3)).trans hx475_3
                replace hx475_4 := (HB.out.cell (World.block_lt_of_cell? w _ hx475_4)).trans hx475_4
                replace p475 := eq_true p475
                replace q475 := eq_true q475
                go_wp2_with (first | (go_at_call 41; (with_reducible refine (sashref07_Find.calls k1 _ _ l0 ((rd_T35 l1 x11_1).f0) t476 _ ?side1 ?side2 A8.out).mono ?_); (case side1 => repeat (first | exact (Kd.C_below HR0.out HB.out) | (with_reducible refine Kd.C_alloc ?_ _) | (with_reducible refine Kd.C_drewN ?_ _) | (with_reducible refine Kd.C_drew ?_))); (case side2 => exact HC0.out); rintro e w' ⟨rfl, ⟨nd, rfl⟩⟩; (try first | exact ⟨rfl, _, World.drewN_drewN _ _ _⟩ | exact ⟨rfl, _, Eq.trans (World.drewN_drewN _ _ _) (congrArg (World.drewN _) (Nat.add_assoc _ _ _))⟩); have p477 : 0 ≤ (x11_1 : Int) := of_decide_eq_true (by first | (with_reducible assumption) | assumption); have q477 : x11_1 < (l1.length : Int) := of_decide_eq_true (by first | (with_reducible assumption) | assumption); obtain ⟨ad477, e477, hx477_0, hx477_1, hx477_2, hx477_3, hx477_4⟩ := at_T35 HR1.out x11_1 p477 q477; obtain rfl : ad475 = ad477 := (by injection e477); replace hx477_0 := (HB.out.cell (World.block_lt_of_cell? w _ hx477_0)).trans hx477_0; replace hx477_1 := (HB.out.cell (World.block_lt_of_cell? w _ hx477_1)).trans hx477_1; replace hx477_2 := (HB.out.cell (World.block_lt_of_cell? w _ hx477_2)).trans hx477_2; replace hx477_3 := (HB.out.cell (World.block_lt_of_cell? w _ hx477_3)).trans hx477_3; replace hx477_4 := (HB.out.cell (World.block_lt_of_cell? w _ hx477_4)).trans hx477_4; replace p477 := eq_true p477; replace q477 := eq_true q477) | ((with_reducible refine gate_builtin (b := .append) (xs := #[.tmp 53, .tmp 58]) rfl ?_); at_builtin; refine Kd.R_append k35 (w0 := w) w.heap.size rfl (.tmp 53) (.tmp 58) 32 35 (.agg #[(.int .i64 0), (.int .i64 0), (.int .i64 0), (.int .i64 0), (.int .i64 0)]) 40 rfl Try.underlying32 info35 rfl (by decide) (by omega) u5 x5_1 (⟨(rd_T35 l1 x11_1).f0, (⟨(rd_T35 l1 x11_1).f1.f0, (rd_T35 l1 x11_1).f1.f1, (rd_T35 l1 x11_1).f1.f2, (rd_T35 l1 x11_1).f1.f3⟩ : S23)⟩ : S35) [.int .i64 ((rd_T35 l1 x11_1).f0), .int .i64 ((rd_T35 l1 x11_1).f1.f0), .int .i64 ((rd_T35 l1 x11_1).f1.f1), .int .i64 ((rd_T35 l1 x11_1).f1.f2), .int .i64 ((rd_T35 l1 x11_1).f1.f3)] (fun _ => True) (fun _ => False) rfl rfl ?aP (fun _ hk => hk.elim) ?aF ?aO ?aB ?aS ?aL ?_; (case aP => exact k35_mkM _ _ _ (⟨(rd_T35 l1 x11_1).f0, (⟨(rd_T35 l1 x11_1).f1.f0, (rd_T35 l1 x11_1).f1.f1, (rd_T35 l1 x11_1).f1.f2, (rd_T35 l1 x11_1).f1.f3⟩ : S23)⟩ : S35)); (case aB => exact (by repeat (first | (with_reducible first | exact HB.out | apply below_alloc | apply pw_below_drewN | apply below_drew1) | exact HB.out))); (case aF => exact (fun _ _ => trivial)); (case aO => exact (by (with_reducible repeat (first | apply Kd.R_alloc | apply Kd.R_drewN | apply Kd.R_drew)); exact HO_5.out)); (case aS => exact (below_size (by repeat (first | (with_reducible first | exact HB.out | apply below_alloc | apply pw_below_drewN | apply below_drew1) | exact HB.out)))); (case aL => have := LMc10.out; omega); intro v479 w11 ho hb hg hat; rw [← Ny478.out] at ho; have n0_ := Aside0.mk (hb); have n1_ := Aside0.mk (ho); clear HB; clear HO_5; have HB := n0_; have HO480 := n1_; clear n0_ n1_; clear ho hb hg hat))
                repeat (go_quiet (first | (go_at_call 41; (with_reducible refine (sashref07_Find.calls k1 _ _ l0 ((rd_T35 l1 x11_1).f0) t476 _ ?side1 ?side2 A8.out).mono ?_); (case side1 => repeat (first | exact (Kd.C_below HR0.out HB.out) | (with_reducible refine Kd.C_alloc ?_ _) | (with_reducible refine Kd.C_drewN ?_ _) | (with_reducible refine Kd.C_drew ?_))); (case side2 => exact HC0.out); rintro e w' ⟨rfl, ⟨nd, rfl⟩⟩; (try first | exact ⟨rfl, _, World.drewN_drewN _ _ _⟩ | exact ⟨rfl, _, Eq.trans (World.drewN_drewN _ _ _) (congrArg (World.drewN _) (Nat.add_assoc _ _ _))⟩); have p477 : 0 ≤ (x11_1 : Int) := of_decide_eq_true (by first | (with_reducible assumption) | assumption); have q477 : x11_1 < (l1.length : Int) := of_decide_eq_true (by first | (with_reducible assumption) | assumption); obtain ⟨ad477, e477, hx477_0, hx477_1, hx477_2, hx477_3, hx477_4⟩ := at_T35 HR1.out x11_1 p477 q477; obtain rfl : ad475 = ad477 := (by injection e477); replace hx477_0 := (HB.out.cell (World.block_lt_of_cell? w _ hx477_0)).trans hx477_0; replace hx477_1 := (HB.out.cell (World.block_lt_of_cell? w _ hx477_1)).trans hx477_1; replace hx477_2 := (HB.out.cell (World.block_lt_of_cell? w _ hx477_2)).trans hx477_2; replace hx477_3 := (HB.out.cell (World.block_lt_of_cell? w _ hx477_3)).trans hx477_3; replace hx477_4 := (HB.out.cell (World.block_lt_of_cell? w _ hx477_4)).trans hx477_4; replace p477 := eq_true p477; replace q477 := eq_true q477) | ((with_reducible refine gate_builtin (b := .append) (xs := #[.tmp 53, .tmp 58]) rfl ?_); at_builtin; refine Kd.R_append k35 (w0 := w) w.heap.size rfl (.tmp 53) (.tmp 58) 32 35 (.agg #[(.int .i64 0), (.int .i64 0), (.int .i64 0), (.int .i64 0), (.int .i64 0)]) 40 rfl Try.underlying32 info35 rfl (by decide) (by omega) u5 x5_1 (⟨(rd_T35 l1 x11_1).f0, (⟨(rd_T35 l1 x11_1).f1.f0, (rd_T35 l1 x11_1).f1.f1, (rd_T35 l1 x11_1).f1.f2, (rd_T35 l1 x11_1).f1.f3⟩ : S23)⟩ : S35) [.int .i64 ((rd_T35 l1 x11_1).f0), .int .i64 ((rd_T35 l1 x11_1).f1.f0), .int .i64 ((rd_T35 l1 x11_1).f1.f1), .int .i64 ((rd_T35 l1 x11_1).f1.f2), .int .i64 ((rd_T35 l1 x11_1).f1.f3)] (fun _ => True) (fun _ => False) rfl rfl ?aP (fun _ hk => hk.elim) ?aF ?aO ?aB ?aS ?aL ?_; (case aP => exact k35_mkM _ _ _ (⟨(rd_T35 l1 x11_1).f0, (⟨(rd_T35 l1 x11_1).f1.f0, (rd_T35 l1 x11_1).f1.f1, (rd_T35 l1 x11_1).f1.f2, (rd_T35 l1 x11_1).f1.f3⟩ : S23)⟩ : S35)); (case aB => exact (by repeat (first | (with_reducible first | exact HB.out | apply below_alloc | apply pw_below_drewN | apply below_drew1) | exact HB.out))); (case aF => exact (fun _ _ => trivial)); (case aO => exact (by (with_reducible repeat (first | apply Kd.R_alloc | apply Kd.R_drewN | apply Kd.R_drew)); exact HO_5.out)); (case aS => exact (below_size (by repeat (first | (with_reducible first | exact HB.out | apply below_alloc | apply pw_below_drewN | apply below_drew1) | exact HB.out)))); (case aL => have := LMc10.out; omega); intro v479 w11 ho hb hg hat; rw [← Ny478.out] at ho; have n0_ := Aside0.mk (hb); have n1_ := Aside0.mk (ho); clear HB; clear HO_5; have HB := n0_; have HO480 := n1_; clear n0_ n1_; clear ho hb hg hat)); try go_wp2_with (first | (go_at_call 41; (with_reducible refine (sashref07_Find.calls k1 _ _ l0 ((rd_T35 l1 x11_1).f0) t476 _ ?side1 ?side2 A8.out).mono ?_); (case side1 => repeat (first | exact (Kd.C_below HR0.out HB.out) | (with_reducible refine Kd.C_alloc ?_ _) | (with_reducible refine Kd.C_drewN ?_ _) | (with_reducible refine Kd.C_drew ?_))); (case side2 => exact HC0.out); rintro e w' ⟨rfl, ⟨nd, rfl⟩⟩; (try first | exact ⟨rfl, _, World.drewN_drewN _ _ _⟩ | exact ⟨rfl, _, Eq.trans (World.drewN_drewN _ _ _) (congrArg (World.drewN _) (Nat.add_assoc _ _ _))⟩); have p477 : 0 ≤ (x11_1 : Int) := of_decide_eq_true (by first | (with_reducible assumption) | assumption); have q477 : x11_1 < (l1.length : Int) := of_decide_eq_true (by first | (with_reducible assumption) | assumption); obtain ⟨ad477, e477, hx477_0, hx477_1, hx477_2, hx477_3, hx477_4⟩ := at_T35 HR1.out x11_1 p477 q477; obtain rfl : ad475 = ad477 := (by injection e477); replace hx477_0 := (HB.out.cell (World.block_lt_of_cell? w _ hx477_0)).trans hx477_0; replace hx477_1 := (HB.out.cell (World.block_lt_of_cell? w _ hx477_1)).trans hx477_1; replace hx477_2 := (HB.out.cell (World.block_lt_of_cell? w _ hx477_2)).trans hx477_2; replace hx477_3 := (HB.out.cell (World.block_lt_of_cell? w _ hx477_3)).trans hx477_3; replace hx477_4 := (HB.out.cell (World.block_lt_of_cell? w _ hx477_4)).trans hx477_4; replace p477 := eq_true p477; replace q477 := eq_true q477) | ((with_reducible refine gate_builtin (b := .append) (xs := #[.tmp 53, .tmp 58]) rfl ?_); at_builtin; refine Kd.R_append k35 (w0 := w) w.heap.size rfl (.tmp 53) (.tmp 58) 32 35 (.agg #[(.int .i64 0), (.int .i64 0), (.int .i64 0), (.int .i64 0), (.int .i64 0)]) 40 rfl Try.underlying32 info35 rfl (by decide) (by omega) u5 x5_1 (⟨(rd_T35 l1 x11_1).f0, (⟨(rd_T35 l1 x11_1).f1.f0, (rd_T35 l1 x11_1).f1.f1, (rd_T35 l1 x11_1).f1.f2, (rd_T35 l1 x11_1).f1.f3⟩ : S23)⟩ : S35) [.int .i64 ((rd_T35 l1 x11_1).f0), .int .i64 ((rd_T35 l1 x11_1).f1.f0), .int .i64 ((rd_T35 l1 x11_1).f1.f1), .int .i64 ((rd_T35 l1 x11_1).f1.f2), .int .i64 ((rd_T35 l1 x11_1).f1.f3)] (fun _ => True) (fun _ => False) rfl rfl ?aP (fun _ hk => hk.elim) ?aF ?aO ?aB ?aS ?aL ?_; (case aP => exact k35_mkM _ _ _ (⟨(rd_T35 l1 x11_1).f0, (⟨(rd_T35 l1 x11_1).f1.f0, (rd_T35 l1 x11_1).f1.f1, (rd_T35 l1 x11_1).f1.f2, (rd_T35 l1 x11_1).f1.f3⟩ : S23)⟩ : S35)); (case aB => exact (by repeat (first | (with_reducible first | exact HB.out | apply below_alloc | apply pw_below_drewN | apply below_drew1) | exact HB.out))); (case aF => exact (fun _ _ => trivial)); (case aO => exact (by (with_reducible repeat (first | apply Kd.R_alloc | apply Kd.R_drewN | apply Kd.R_drew)); exact HO_5.out)); (case aS => exact (below_size (by repeat (first | (with_reducible first | exact HB.out | apply below_alloc | apply pw_below_drewN | apply below_drew1) | exact HB.out)))); (case aL => have := LMc10.out; omega); intro v479 w11 ho hb hg hat; rw [← Ny478.out] at ho; have n0_ := Aside0.mk (hb); have n1_ := Aside0.mk (ho); clear HB; clear HO_5; have HB := n0_; have HO480 := n1_; clear n0_ n1_; clear ho hb hg hat)))
                go_roundg k1
                case measure => have := HK1.out; omega
                case rel => exact ⟨(y478), (wrap64 (x11_1 + 1)), (by first | rfl | (simp; done) | (simp [*]; done)), H', ⟨by have := HK1.out; omega⟩, ⟨by (with_reducible repeat (first | apply Kd.R_alloc | apply Kd.R_drewN | apply Kd.R_drew)); exact HO480.out⟩, ⟨by repeat (first | (with_reducible first | exact HB.out | apply below_alloc | apply pw_below_drewN | apply below_drew1) | exact HB.out)⟩⟩
              · rw [if_neg c10] at H
                exact absurd H (by simp)
            · rw [if_neg c9] at H
              have c9b0 : decide (t476 < 0) = false := decide_eq_false c9
              clear c9
              by_cases c12 : 0 ≤ t476
              · rw [if_pos c12] at H
                have c12b0 : decide (0 ≤ t476) = true := decide_eq_true c12
                clear c12
                by_cases c13 : t476 < (l0.length : Int)
                · rw [if_pos c13] at H
                  have c13b0 : decide (t476 < (l0.length : Int)) = true := decide_eq_true c13
                  clear c13
                  by_cases c14 : ((rd_T35 l0 t476).f1.f2) = ((rd_T35 l1 x11_1).f1.f2)
                  · rw [if_pos c14] at H
                    have c14b0 : (((rd_T35 l0 t476).f1.f2) == ((rd_T35 l1 x11_1).f1.f2)) = true := beq_iff_eq.mpr c14
                    have c14b1 : (((rd_T35 l0 t476).f1.f2) != ((rd_T35 l1 x11_1).f1.f2)) = false := bne_eq_false_iff_eq.mpr c14
                    clear c14
                    by_cases c15 : ((rd_T35 l0 t476).f1.f3) = ((rd_T35 l1 x11_1).f1.f3)
                    · rw [if_pos c15] at H
                      have c15b0 : (((rd_T35 l0 t476).f1.f3) == ((rd_T35 l1 x11_1).f1.f3)) = true := beq_iff_eq.mpr c15
                      have c15b1 : (((rd_T35 l0 t476).f1.f3) != ((rd_T35 l1 x11_1).f1.f3)) = false := bne_eq_false_iff_eq.mpr c15
                      clear c15
                      have H' := Aside0.mk H
                      clear H
                      have p475 : 0 ≤ (x11_1 : Int) := of_decide_eq_true (by first | (with_reducible assumption) | assumption)
                      have q475 : x11_1 < (l1.length : Int) := of_decide_eq_true (by first | (with_reducible assumption) | assumption)
                      obtain ⟨ad475, e475, hx475_0, hx475_1, hx475_2, hx475_3, hx475_4⟩ := at_T35 HR1.out x11_1 p475 q475
                      cases e475
                      replace hx475_0 := (HB.out.cell (World.block_lt_of_cell? w _ hx475_0)).trans hx475_0
                      replace hx475_1 := (HB.out.cell (World.block_lt_of_cell? w _ hx475_1)).trans hx475_1
                      replace hx475_2 := (HB.out.cell (World.block_lt_of_cell? w _ hx475_2)).trans hx475_2
                      replace hx475_3 := (HB.out.cell (World.block_lt_of_cell? w _ hx475_3)).trans hx475_3
                      replace hx475_4 := (HB.out.cell (World.block_lt_of_cell? w _ hx475_4)).trans hx475_4
                      replace p475 := eq_true p475
                      replace q475 := eq_true q475
                      go_wp2_with (first | (go_at_call 41; (with_reducible refine (sashref07_Find.calls k1 _ _ l0 ((rd_T35 l1 x11_1).f0) t476 _ ?side1 ?side2 A8.out).mono ?_); (case side1 => repeat (first | exact (Kd.C_below HR0.out HB.out) | (with_reducible refine Kd.C_alloc ?_ _) | (with_reducible refine Kd.C_drewN ?_ _) | (with_reducible refine Kd.C_drew ?_))); (case side2 => exact HC0.out); rintro e w' ⟨rfl, ⟨nd, rfl⟩⟩; (try first | exact ⟨rfl, _, World.drewN_drewN _ _ _⟩ | exact ⟨rfl, _, Eq.trans (World.drewN_drewN _ _ _) (congrArg (World.drewN _) (Nat.add_assoc _ _ _))⟩); have p481 : 0 ≤ (t476 : Int) := of_decide_eq_true (by first | (with_reducible assumption) | assumption); have q481 : t476 < (l0.length : Int) := of_decide_eq_true (by first | (with_reducible assumption) | assumption); obtain ⟨ad481, e481, hx481_0, hx481_1, hx481_2, hx481_3, hx481_4⟩ := at_T35 HR0.out t476 p481 q481; cases e481; replace hx481_0 := (HB.out.cell (World.block_lt_of_cell? w _ hx481_0)).trans hx481_0; replace hx481_1 := (HB.out.cell (World.block_lt_of_cell? w _ hx481_1)).trans hx481_1; replace hx481_2 := (HB.out.cell (World.block_lt_of_cell? w _ hx481_2)).trans hx481_2; replace hx481_3 := (HB.out.cell (World.block_lt_of_cell? w _ hx481_3)).trans hx481_3; replace hx481_4 := (HB.out.cell (World.block_lt_of_cell? w _ hx481_4)).trans hx481_4; replace p481 := eq_true p481; replace q481 := eq_true q481; have p482 : 0 ≤ (x11_1 : Int) := of_decide_eq_true (by first | (with_reducible assumption) | assumption); have q482 : x11_1 < (l1.length : Int) := of_decide_eq_true (by first | (with_reducible assumption) | assumption); obtain ⟨ad482, e482, hx482_0, hx482_1, hx482_2, hx482_3, hx482_4⟩ := at_T35 HR1.out x11_1 p482 q482; obtain rfl : ad475 = ad482 := (by injection e482); replace hx482_0 := (HB.out.cell (World.block_lt_of_cell? w _ hx482_0)).trans hx482_0; replace hx482_1 := (HB.out.cell (World.block_lt_of_cell? w _ hx482_1)).trans hx482_1; replace hx482_2 := (HB.out.cell (World.block_lt_of_cell? w _ hx482_2)).trans hx482_2; replace hx482_3 := (HB.out.cell (World.block_lt_of_cell? w _ hx482_3)).trans hx482_3; replace hx482_4 := (HB.out.cell (World.block_lt_of_cell? w _ hx482_4)).trans hx482_4; replace p482 := eq_true p482; replace q482 := eq_true q482; have p483 : 0 ≤ (t476 : Int) := of_decide_eq_true (by first | (with_reducible assumption) | assumption); have q483 : t476 < (l0.length : Int) := of_decide_eq_true (by first | (with_reducible assumption) | assumption); obtain ⟨ad483, e483, hx483_0, hx483_1, hx483_2, hx483_3, hx483_4⟩ := at_T35 HR0.out t476 p483 q483; obtain rfl : ad481 = ad483 := (by injection e483); replace hx483_0 := (HB.out.cell (World.block_lt_of_cell? w _ hx483_0)).trans hx483_0; replace hx483_1 := (HB.out.cell (World.block_lt_of_cell? w _ hx483_1)).trans hx483_1; replace hx483_2 := (HB.out.cell (World.block_lt_of_cell? w _ hx483_2)).trans hx483_2; replace hx483_3 := (HB.out.cell (World.block_lt_of_cell? w _ hx483_3)).trans hx483_3; replace hx483_4 := (HB.out.cell (World.block_lt_of_cell? w _ hx483_4)).trans hx483_4; replace p483 := eq_true p483; replace q483 := eq_true q483; have p484 : 0 ≤ (x11_1 : Int) := of_decide_eq_true (by first | (with_reducible assumption) | assumption); have q484 : x11_1 < (l1.length : Int) := of_decide_eq_true (by first | (with_reducible assumption) | assumption); obtain ⟨ad484, e484, hx484_0, hx484_1, hx484_2, hx484_3, hx484_4⟩ := at_T35 HR1.out x11_1 p484 q484; obtain rfl : ad475 = ad484 := (by injection e484); replace hx484_0 := (HB.out.cell (World.block_lt_of_cell? w _ hx484_0)).trans hx484_0; replace hx484_1 := (HB.out.cell (World.block_lt_of_cell? w _ hx484_1)).trans hx484_1; replace hx484_2 := (HB.out.cell (World.block_lt_of_cell? w _ hx484_2)).trans hx484_2; replace hx484_3 := (HB.out.cell (World.block_lt_of_cell? w _ hx484_3)).trans hx484_3; replace hx484_4 := (HB.out.cell (World.block_lt_of_cell? w _ hx484_4)).trans hx484_4; replace p484 := eq_true p484; replace q484 := eq_true q484))
                      repeat (go_quiet (first | (go_at_call 41; (with_reducible refine (sashref07_Find.calls k1 _ _ l0 ((rd_T35 l1 x11_1).f0) t476 _ ?side1 ?side2 A8.out).mono ?_); (case side1 => repeat (first | exact (Kd.C_below HR0.out HB.out) | (with_reducible refine Kd.C_alloc ?_ _) | (with_reducible refine Kd.C_drewN ?_ _) | (with_reducible refine Kd.C_drew ?_))); (case side2 => exact HC0.out); rintro e w' ⟨rfl, ⟨nd, rfl⟩⟩; (try first | exact ⟨rfl, _, World.drewN_drewN _ _ _⟩ | exact ⟨rfl, _, Eq.trans (World.drewN_drewN _ _ _) (congrArg (World.drewN _) (Nat.add_assoc _ _ _))⟩); have p481 : 0 ≤ (t476 : Int) := of_decide_eq_true (by first | (with_reducible assumption) | assumption); have q481 : t476 < (l0.length : Int) := of_decide_eq_true (by first | (with_reducible assumption) | assumption); obtain ⟨ad481, e481, hx481_0, hx481_1, hx481_2, hx481_3, hx481_4⟩ := at_T35 HR0.out t476 p481 q481; cases e481; replace hx481_0 := (HB.out.cell (World.block_lt_of_cell? w _ hx481_0)).trans hx481_0; replace hx481_1 := (HB.out.cell (World.block_lt_of_cell? w _ hx481_1)).trans hx481_1; replace hx481_2 := (HB.out.cell (World.block_lt_of_cell? w _ hx481_2)).trans hx481_2; replace hx481_3 := (HB.out.cell (World.block_lt_of_cell? w _ hx481_3)).trans hx481_3; replace hx481_4 := (HB.out.cell (World.block_lt_of_cell? w _ hx481_4)).trans hx481_4; replace p481 := eq_true p481; replace q481 := eq_true q481; have p482 : 0 ≤ (x11_1 : Int) := of_decide_eq_true (by first | (with_reducible assumption) | assumption); have q482 : x11_1 < (l1.length : Int) := of_decide_eq_true (by first | (with_reducible assumption) | assumption); obtain ⟨ad482, e482, hx482_0, hx482_1, hx482_2, hx482_3, hx482_4⟩ := at_T35 HR1.out x11_1 p482 q482; obtain rfl : ad475 = ad482 := (by injection e482); replace hx482_0 := (HB.out.cell (World.block_lt_of_cell? w _ hx482_0)).trans hx482_0; replace hx482_1 := (HB.out.cell (World.block_lt_of_cell? w _ hx482_1)).trans hx482_1; replace hx482_2 := (HB.out.cell (World.block_lt_of_cell? w _ hx482_2)).trans hx482_2; replace hx482_3 := (HB.out.cell (World.block_lt_of_cell? w _ hx482_3)).trans hx482_3; replace hx482_4 := (HB.out.cell (World.block_lt_of_cell? w _ hx482_4)).trans hx482_4; replace p482 := eq_true p482; replace q482 := eq_true q482; have p483 : 0 ≤ (t476 : Int) := of_decide_eq_true (by first | (with_reducible assumption) | assumption); have q483 : t476 < (l0.length : Int) := of_decide_eq_true (by first | (with_reducible assumption) | assumption); obtain ⟨ad483, e483, hx483_0, hx483_1, hx483_2, hx483_3, hx483_4⟩ := at_T35 HR0.out t476 p483 q483; obtain rfl : ad481 = ad483 := (by injection e483); replace hx483_0 := (HB.out.cell (World.block_lt_of_cell? w _ hx483_0)).trans hx483_0; replace hx483_1 := (HB.out.cell (World.block_lt_of_cell? w _ hx483_1)).trans hx483_1; replace hx483_2 := (HB.out.cell (World.block_lt_of_cell? w _ hx483_2)).trans hx483_2; replace hx483_3 := (HB.out.cell (World.block_lt_of_cell? w _ hx483_3)).trans hx483_3; replace hx483_4 := (HB.out.cell (World.block_lt_of_cell? w _ hx483_4)).trans hx483_4; replace p483 := eq_true p483; replace q483 := eq_true q483; have p484 : 0 ≤ (x11_1 : Int) := of_decide_eq_true (by first | (with_reducible assumption) | assumption); have q484 : x11_1 < (l1.length : Int) := of_decide_eq_true (by first | (with_reducible assumption) | assumption); obtain ⟨ad484, e484, hx484_0, hx484_1, hx484_2, hx484_3, hx484_4⟩ := at_T35 HR1.out x11_1 p484 q484; obtain rfl : ad475 = ad484 := (by injection e484); replace hx484_0 := (HB.out.cell (World.block_lt_of_cell? w _ hx484_0)).trans hx484_0; replace hx484_1 := (HB.out.cell (World.block_lt_of_cell? w _ hx484_1)).trans hx484_1; replace hx484_2 := (HB.out.cell (World.block_lt_of_cell? w _ hx484_2)).trans hx484_2; replace hx484_3 := (HB.out.cell (World.block_lt_of_cell? w _ hx484_3)).trans hx484_3; replace hx484_4 := (HB.out.cell (World.block_lt_of_cell? w _ hx484_4)).trans hx484_4; replace p484 := eq_true p484; replace q484 := eq_true q484)); try go_wp2_with (first | (go_at_call 41; (with_reducible refine (sashref07_Find.calls k1 _ _ l0 ((rd_T35 l1 x11_1).f0) t476 _ ?side1 ?side2 A8.out).mono ?_); (case side1 => repeat (first | exact (Kd.C_below HR0.out HB.out) | (with_reducible refine Kd.C_alloc ?_ _) | (with_reducible refine Kd.C_drewN ?_ _) | (with_reducible refine Kd.C_drew ?_))); (case side2 => exact HC0.out); rintro e w' ⟨rfl, ⟨nd, rfl⟩⟩; (try first | exact ⟨rfl, _, World.drewN_drewN _ _ _⟩ | exact ⟨rfl, _, Eq.trans (World.drewN_drewN _ _ _) (congrArg (World.drewN _) (Nat.add_assoc _ _ _))⟩); have p481 : 0 ≤ (t476 : Int) := of_decide_eq_true (by first | (with_reducible assumption) | assumption); have q481 : t476 < (l0.length : Int) := of_decide_eq_true (by first | (with_reducible assumption) | assumption); obtain ⟨ad481, e481, hx481_0, hx481_1, hx481_2, hx481_3, hx481_4⟩ := at_T35 HR0.out t476 p481 q481; cases e481; replace hx481_0 := (HB.out.cell (World.block_lt_of_cell? w _ hx481_0)).trans hx481_0; replace hx481_1 := (HB.out.cell (World.block_lt_of_cell? w _ hx481_1)).trans hx481_1; replace hx481_2 := (HB.out.cell (World.block_lt_of_cell? w _ hx481_2)).trans hx481_2; replace hx481_3 := (HB.out.cell (World.block_lt_of_cell? w _ hx481_3)).trans hx481_3; replace hx481_4 := (HB.out.cell (World.block_lt_of_cell? w _ hx481_4)).trans hx481_4; replace p481 := eq_true p481; replace q481 := eq_true q481; have p482 : 0 ≤ (x11_1 : Int) := of_decide_eq_true (by first | (with_reducible assumption) | assumption); have q482 : x11_1 < (l1.length : Int) := of_decide_eq_true (by first | (with_reducible assumption) | assumption); obtain ⟨ad482, e482, hx482_0, hx482_1, hx482_2, hx482_3, hx482_4⟩ := at_T35 HR1.out x11_1 p482 q482; obtain rfl : ad475 = ad482 := (by injection e482); replace hx482_0 := (HB.out.cell (World.block_lt_of_cell? w _ hx482_0)).trans hx482_0; replace hx482_1 := (HB.out.cell (World.block_lt_of_cell? w _ hx482_1)).trans hx482_1; replace hx482_2 := (HB.out.cell (World.block_lt_of_cell? w _ hx482_2)).trans hx482_2; replace hx482_3 := (HB.out.cell (World.block_lt_of_cell? w _ hx482_3)).trans hx482_3; replace hx482_4 := (HB.out.cell (World.block_lt_of_cell? w _ hx482_4)).trans hx482_4; replace p482 := eq_true p482; replace q482 := eq_true q482; have p483 : 0 ≤ (t476 : Int) := of_decide_eq_true (by first | (with_reducible assumption) | assumption); have q483 : t476 < (l0.length : Int) := of_decide_eq_true (by first | (with_reducible assumption) | assumption); obtain ⟨ad483, e483, hx483_0, hx483_1, hx483_2, hx483_3, hx483_4⟩ := at_T35 HR0.out t476 p483 q483; obtain rfl : ad481 = ad483 := (by injection e483); replace hx483_0 := (HB.out.cell (World.block_lt_of_cell? w _ hx483_0)).trans hx483_0; replace hx483_1 := (HB.out.cell (World.block_lt_of_cell? w _ hx483_1)).trans hx483_1; replace hx483_2 := (HB.out.cell (World.block_lt_of_cell? w _ hx483_2)).trans hx483_2; replace hx483_3 := (HB.out.cell (World.block_lt_of_cell? w _ hx483_3)).trans hx483_3; replace hx483_4 := (HB.out.cell (World.block_lt_of_cell? w _ hx483_4)).trans hx483_4; replace p483 := eq_true p483; replace q483 := eq_true q483; have p484 : 0 ≤ (x11_1 : Int) := of_decide_eq_true (by first | (with_reducible assumption) | assumption); have q484 : x11_1 < (l1.length : Int) := of_decide_eq_true (by first | (with_reducible assumption) | assumption); obtain ⟨ad484, e484, hx484_0, hx484_1, hx484_2, hx484_3, hx484_4⟩ := at_T35 HR1.out x11_1 p484 q484; obtain rfl : ad475 = ad484 := (by injection e484); replace hx484_0 := (HB.out.cell (World.block_lt_of_cell? w _ hx484_0)).trans hx484_0; replace hx484_1 := (HB.out.cell (World.block_lt_of_cell? w _ hx484_1)).trans hx484_1; replace hx484_2 := (HB.out.cell (World.block_lt_of_cell? w _ hx484_2)).trans hx484_2; replace hx484_3 := (HB.out.cell (World.block_lt_of_cell? w _ hx484_3)).trans hx484_3; replace hx484_4 := (HB.out.cell (World.block_lt_of_cell? w _ hx484_4)).trans hx484_4; replace p484 := eq_true p484; replace q484 := eq_true q484)))
                      go_roundg k1
                      case measure => have := HK1.out; omega
                      case rel => exact ⟨(x5_1), (wrap64 (x11_1 + 1)), (by first | rfl | (simp; done) | (simp [*]; done)), H', ⟨by have := HK1.out; omega⟩, ⟨by (with_reducible repeat (first | apply Kd.R_alloc | apply Kd.R_drewN | apply Kd.R_drew)); exact HO_5.out⟩, ⟨by repeat (first | (with_reducible first | exact HB.out | apply below_alloc | apply pw_below_drewN | apply below_drew1) | exact HB.out)⟩⟩
                    · rw [if_neg c15] at H
                      have c15b0 : (((rd_T35 l0 t476).f1.f3) == ((rd_T35 l1 x11_1).f1.f3)) = false := beq_eq_false_iff_ne.mpr c15
                      have c15b1 : (((rd_T35 l0 t476).f1.f3) != ((rd_T35 l1 x11_1).f1.f3)) = true := bne_iff_ne.mpr c15
                      by_cases c16 : x5_1.length < 3518437208883
                      · rw [if_pos c16] at H
                        have LMc16 := Aside0.mk c16
                        clear c16
                        obtain ⟨y486, hy486⟩ : ∃ y_ : List (S35), y_ = (x5_1 ++ [(⟨(rd_T35 l1 x11_1).f0, (⟨(rd_T35 l1 x11_1).f1.f0, (rd_T35 l1 x11_1).f1.f1, (rd_T35 l1 x11_1).f1.f2, (rd_T35 l1 x11_1).f1.f3⟩ : S23)⟩ : S35)]) := ⟨_, rfl⟩
                        replace H : (sashref07_Changed.l0 k1 l0 l1 y486 (l1.length : Int) (wrap64 (x11_1 + 1))) = some r := by first | (rw [hy486]; with_reducible exact H) | (have H2_ := (Option.bind_some _ _).symm.trans H; rw [hy486]; with_reducible exact H2_) | (have H2_ := (Option.bind_some _ _).symm.trans H; with_reducible exact H2_) | with_reducible exact H | (rw [hy486]; exact H) | exact H
                        have Ny486 := Aside0.mk hy486
                        clear hy486
                        have H' := Aside0.mk H
                        clear H
                        have p475 : 0 ≤ (x11_1 : Int) := of_decide_eq_true (by first | (with_reducible assumption) | assumption)
                        have q475 : x11_1 < (l1.length : Int) := of_decide_eq_true (by first | (with_reducible assumption) | assumption)
                        obtain ⟨ad475, e475, hx475_0, hx475_1, hx475_2, hx475_3, hx475_4⟩ := at_T35 HR1.out x11_1 p475 q475
                        cases e475
                        replace hx475_0 := (HB.out.cell (World.block_lt_of_cell? w _ hx475_0)).trans hx475_0
                        replace hx475_1 := (HB.out.cell (World.block_lt_of_cell? w _ hx475_1)).trans hx475_1
                        replace hx475_2 := (HB.out.cell (World.block_lt_of_cell? w _ hx475_2)).trans hx475_2
                        replace hx475_3 := (HB.out.cell (World.block_lt_of_cell? w _ hx475_3)).trans hx475_3
                        replace hx475_4 := (HB.out.cell (World.block_lt_of_cell? w _ hx475_4)).trans hx475_4
                        replace p475 := eq_true p475
                        replace q475 := eq_true q475
                        go_wp2_with (first | (go_at_call 41; (with_reducible refine (sashref07_Find.calls k1 _ _ l0 ((rd_T35 l1 x11_1).f0) t476 _ ?side1 ?side2 A8.out).mono ?_); (case side1 => repeat (first | exact (Kd.C_below HR0.out HB.out) | (with_reducible refine Kd.C_alloc ?_ _) | (with_reducible refine Kd.C_drewN ?_ _) | (with_reducible refine Kd.C_drew ?_))); (case side2 => exact HC0.out); rintro e w' ⟨rfl, ⟨nd, rfl⟩⟩; (try first | exact ⟨rfl, _, World.drewN_drewN _ _ _⟩ | exact ⟨rfl, _, Eq.trans (World.drewN_drewN _ _ _) (congrArg (World.drewN _) (Nat.add_assoc _ _ _))⟩); have p481 : 0 ≤ (t476 : Int) := of_decide_eq_true (by first | (with_reducible assumption) | assumption); have q481 : t476 < (l0.length : Int) := of_decide_eq_true (by first | (with_reducible assumption) | assumption); obtain ⟨ad481, e481, hx481_0, hx481_1, hx481_2, hx481_3, hx481_4⟩ := at_T35 HR0.out t476 p481 q481; cases e481; replace hx481_0 := (HB.out.cell (World.block_lt_of_cell? w _ hx481_0)).trans hx481_0; replace hx481_1 := (HB.out.cell (World.block_lt_of_cell? w _ hx481_1)).trans hx481_1; replace hx481_2 := (HB.out.cell (World.block_lt_of_cell? w _ hx481_2)).trans hx481_2; replace hx481_3 := (HB.out.cell (World.block_lt_of_cell? w _ hx481_3)).trans hx481_3; replace hx481_4 := (HB.out.cell (World.block_lt_of_cell? w _ hx481_4)).trans hx481_4; replace p481 := eq_true p481; replace q481 := eq_true q481; have p482 : 0 ≤ (x11_1 : Int) := of_decide_eq_true (by first | (with_reducible assumption) | assumption); have q482 : x11_1 < (l1.length : Int) := of_decide_eq_true (by first | (with_reducible assumption) | assumption); obtain ⟨ad482, e482, hx482_0, hx482_1, hx482_2, hx482_3, hx482_4⟩ := at_T35 HR1.out x11_1 p482 q482; obtain rfl : ad475 = ad482 := (by injection e482); replace hx482_0 := (HB.out.cell (World.block_lt_of_cell? w _ hx482_0)).trans hx482_0; replace hx482_1 := (HB.out.cell (World.block_lt_of_cell? w _ hx482_1)).trans hx482_1; replace hx482_2 := (HB.out.cell (World.block_lt_of_cell? w _ hx482_2)).trans hx482_2; replace hx482_3 := (HB.out.cell (World.block_lt_of_cell? w _ hx482_3)).trans hx482_3; replace hx482_4 := (HB.out.cell (World.block_lt_of_cell? w _ hx482_4)).trans hx482_4; replace p482 := eq_true p482; replace q482 := eq_true q482; have p483 : 0 ≤ (t476 : Int) := of_decide_eq_true (by first | (with_reducible assumption) | assumption); have q483 : t476 < (l0.length : Int) := of_decide_eq_true (by first | (with_reducible assumption) | assumption); obtain ⟨ad483, e483, hx483_0, hx483_1, hx483_2, hx483_3, hx483_4⟩ := at_T35 HR0.out t476 p483 q483; obtain rfl : ad481 = ad483 := (by injection e483); replace hx483_0 := (HB.out.cell (World.block_lt_of_cell? w _ hx483_0)).trans hx483_0; replace hx483_1 := (HB.out.cell (World.block_lt_of_cell? w _ hx483_1)).trans hx483_1; replace hx483_2 := (HB.out.cell (World.block_lt_of_cell? w _ hx483_2)).trans hx483_2; replace hx483_3 := (HB.out.cell (World.block_lt_of_cell? w _ hx483_3)).trans hx483_3; replace hx483_4 := (HB.out.cell (World.block_lt_of_cell? w _ hx483_4)).trans hx483_4; replace p483 := eq_true p483; replace q483 := eq_true q483; have p484 : 0 ≤ (x11_1 : Int) := of_decide_eq_true (by first | (with_reducible assumption) | assumption); have q484 : x11_1 < (l1.length : Int) := of_decide_eq_true (by first | (with_reducible assumption) | assumption); obtain ⟨ad484, e484, hx484_0, hx484_1, hx484_2, hx484_3, hx484_4⟩ := at_T35 HR1.out x11_1 p484 q484; obtain rfl : ad475 = ad484 := (by injection e484); replace hx484_0 := (HB.out.cell (World.block_lt_of_cell? w _ hx484_0)).trans hx484_0; replace hx484_1 := (HB.out.cell (World.block_lt_of_cell? w _ hx484_1)).trans hx484_1; replace hx484_2 := (HB.out.cell (World.block_lt_of_cell? w _ hx484_2)).trans hx484_2; replace hx484_3 := (HB.out.cell (World.block_lt_of_cell? w _ hx484_3)).trans hx484_3; replace hx484_4 := (HB.out.cell (World.block_lt_of_cell? w _ hx484_4)).trans hx484_4; replace p484 := eq_true p484; replace q484 := eq_true q484; have p485 : 0 ≤ (x11_1 : Int) := of_decide_eq_true (by first | (with_reducible assumption) | assumption); have q485 : x11_1 < (l1.length : Int) := of_decide_eq_true (by first | (with_reducible assumption) | assumption); obtain ⟨ad485, e485, hx485_0, hx485_1, hx485_2, hx485_3, hx485_4⟩ := at_T35 HR1.out x11_1 p485 q485; obtain rfl : ad475 = ad485 := (by injection e485); replace hx485_0 := (HB.out.cell (World.block_lt_of_cell? w _ hx485_0)).trans hx485_0; replace hx485_1 := (HB.out.cell (World.block_lt_of_cell? w _ hx485_1)).trans hx485_1; replace hx485_2 := (HB.out.cell (World.block_lt_of_cell? w _ hx485_2)).trans hx485_2; replace hx485_3 := (HB.out.cell (World.block_lt_of_cell? w _ hx485_3)).trans hx485_3; replace hx485_4 := (HB.out.cell (World.block_lt_of_cell? w _ hx485_4)).trans hx485_4; replace p485 := eq_true p485; replace q485 := eq_true q485) | ((with_reducible refine gate_builtin (b := .append) (xs := #[.tmp 53, .tmp 58]) rfl ?_); at_builtin; refine Kd.R_append k35 (w0 := w) w.heap.size rfl (.tmp 53) (.tmp 58) 32 35 (.agg #[(.int .i64 0), (.int .i64 0), (.int .i64 0), (.int .i64 0), (.int .i64 0)]) 40 rfl Try.underlying32 info35 rfl (by decide) (by omega) u5 x5_1 (⟨(rd_T35 l1 x11_1).f0, (⟨(rd_T35 l1 x11_1).f1.f0, (rd_T35 l1 x11_1).f1.f1, (rd_T35 l1 x11_1).f1.f2, (rd_T35 l1 x11_1).f1.f3⟩ : S23)⟩ : S35) [.int .i64 ((rd_T35 l1 x11_1).f0), .int .i64 ((rd_T35 l1 x11_1).f1.f0), .int .i64 ((rd_T35 l1 x11_1).f1.f1), .int .i64 ((rd_T35 l1 x11_1).f1.f2), .int .i64 ((rd_T35 l1 x11_1).f1.f3)] (fun _ => True) (fun _ => False) rfl rfl ?aP (fun _ hk => hk.elim) ?aF ?aO ?aB ?aS ?aL ?_; (case aP => exact k35_mkM _ _ _ (⟨(rd_T35 l1 x11_1).f0, (⟨(rd_T35 l1 x11_1).f1.f0, (rd_T35 l1 x11_1).f1.f1, (rd_T35 l1 x11_1).f1.f2, (rd_T35 l1 x11_1).f1.f3⟩ : S23)⟩ : S35)); (case aB => exact (by repeat (first | (with_reducible first | exact HB.out | apply below_alloc | apply pw_below_drewN | apply below_drew1) | exact HB.out))); (case aF => exact (fun _ _ => trivial)); (case aO => exact (by (with_reducible repeat (first | apply Kd.R_alloc | apply Kd.R_drewN | apply Kd.R_drew)); exact HO_5.out)); (case aS => exact (below_size (by repeat (first | (with_reducible first | exact HB.out | apply below_alloc | apply pw_below_drewN | apply below_drew1) | exact HB.out)))); (case aL => have := LMc16.out; omega); intro v487 w17 ho hb hg hat; rw [← Ny486.out] at ho; have n0_ := Aside0.mk (hb); have n1_ := Aside0.mk (ho); clear HB; clear HO_5; have HB := n0_; have HO488 := n1_; clear n0_ n1_; clear ho hb hg hat))
                        repeat (go_quiet (first | (go_at_call 41; (with_reducible refine (sashref07_Find.calls k1 _ _ l0 ((rd_T35 l1 x11_1).f0) t476 _ ?side1 ?side2 A8.out).mono ?_); (case side1 => repeat (first | exact (Kd.C_below HR0.out HB.out) | (with_reducible refine Kd.C_alloc ?_ _) | (with_reducible refine Kd.C_drewN ?_ _) | (with_reducible refine Kd.C_drew ?_))); (case side2 => exact HC0.out); rintro e w' ⟨rfl, ⟨nd, rfl⟩⟩; (try first | exact ⟨rfl, _, World.drewN_drewN _ _ _⟩ | exact ⟨rfl, _, Eq.trans (World.drewN_drewN _ _ _) (congrArg (World.drewN _) (Nat.add_assoc _ _ _))⟩); have p481 : 0 ≤ (t476 : Int) := of_decide_eq_true (by first | (with_reducible assumption) | assumption); have q481 : t476 < (l0.length : Int) := of_decide_eq_true (by first | (with_reducible assumption) | assumption); obtain ⟨ad481, e481, hx481_0, hx481_1, hx481_2, hx481_3, hx481_4⟩ := at_T35 HR0.out t476 p481 q481; cases e481; replace hx481_0 := (HB.out.cell (World.block_lt_of_cell? w _ hx481_0)).trans hx481_0; replace hx481_1 := (HB.out.cell (World.block_lt_of_cell? w _ hx481_1)).trans hx481_1; replace hx481_2 := (HB.out.cell (World.block_lt_of_cell? w _ hx481_2)).trans hx481_2; replace hx481_3 := (HB.out.cell (World.block_lt_of_cell? w _ hx481_3)).trans hx481_3; replace hx481_4 := (HB.out.cell (World.block_lt_of_cell? w _ hx481_4)).trans hx481_4; replace p481 := eq_true p481; replace q481 := eq_true q481; have p482 : 0 ≤ (x11_1 : Int) := of_decide_eq_true (by first | (with_reducible assumption) | assumption); have q482 : x11_1 < (l1.length : Int) := of_decide_eq_true (by first | (with_reducible assumption) | assumption); obtain ⟨ad482, e482, hx482_0, hx482_1, hx482_2, hx482_3, hx482_4⟩ := at_T35 HR1.out x11_1 p482 q482; obtain rfl : ad475 = ad482 := (by injection e482); replace hx482_0 := (HB.out.cell (World.block_lt_of_cell? w _ hx482_0)).trans hx482_0; replace hx482_1 := (HB.out.cell (World.block_lt_of_cell? w _ hx482_1)).trans hx482_1; replace hx482_2 := (HB.out.cell (World.block_lt_of_cell? w _ hx482_2)).trans hx482_2; replace hx482_3 := (HB.out.cell (World.block_lt_of_cell? w _ hx482_3)).trans hx482_3; replace hx482_4 := (HB.out.cell (World.block_lt_of_cell? w _ hx482_4)).trans hx482_4; replace p482 := eq_true p482; replace q482 := eq_true q482; have p483 : 0 ≤ (t476 : Int) := of_decide_eq_true (by first | (with_reducible assumption) | assumption); have q483 : t476 < (l0.length : Int) := of_decide_eq_true (by first | (with_reducible assumption) | assumption); obtain ⟨ad483, e483, hx483_0, hx483_1, hx483_2, hx483_3, hx483_4⟩ := at_T35 HR0.out t476 p483 q483; obtain rfl : ad481 = ad483 := (by injection e483); replace hx483_0 := (HB.out.cell (World.block_lt_of_cell? w _ hx483_0)).trans hx483_0; replace hx483_1 := (HB.out.cell (World.block_lt_of_cell? w _ hx483_1)).trans hx483_1; replace hx483_2 := (HB.out.cell (World.block_lt_of_cell? w _ hx483_2)).trans hx483_2; replace hx483_3 := (HB.out.cell (World.block_lt_of_cell? w _ hx483_3)).trans hx483_3; replace hx483_4 := (HB.out.cell (World.block_lt_of_cell? w _ hx483_4)).trans hx483_4; replace p483 := eq_true p483; replace q483 := eq_true q483; have p484 : 0 ≤ (x11_1 : Int) := of_decide_eq_true (by first | (with_reducible assumption) | assumption); have q484 : x11_1 < (l1.length : Int) := of_decide_eq_true (by first | (with_reducible assumption) | assumption); obtain ⟨ad484, e484, hx484_0, hx484_1, hx484_2, hx484_3, hx484_4⟩ := at_T35 HR1.out x11_1 p484 q484; obtain rfl : ad475 = ad484 := (by injection e484); replace hx484_0 := (HB.out.cell (World.block_lt_of_cell? w _ hx484_0)).trans hx484_0; replace hx484_1 := (HB.out.cell (World.block_lt_of_cell? w _ hx484_1)).trans hx484_1; replace hx484_2 := (HB.out.cell (World.block_lt_of_cell? w _ hx484_2)).trans hx484_2; replace hx484_3 := (HB.out.cell (World.block_lt_of_cell? w _ hx484_3)).trans hx484_3; replace hx484_4 := (HB.out.cell (World.block_lt_of_cell? w _ hx484_4)).trans hx484_4; replace p484 := eq_true p484; replace q484 := eq_true q484; have p485 : 0 ≤ (x11_1 : Int) := of_decide_eq_true (by first | (with_reducible assumption) | assumption); have q485 : x11_1 < (l1.length : Int) := of_decide_eq_true (by first | (with_reducible assumption) | assumption); obtain ⟨ad485, e485, hx485_0, hx485_1, hx485_2, hx485_3, hx485_4⟩ := at_T35 HR1.out x11_1 p485 q485; obtain rfl : ad475 = ad485 := (by injection e485); replace hx485_0 := (HB.out.cell (World.block_lt_of_cell? w _ hx485_0)).trans hx485_0; replace hx485_1 := (HB.out.cell (World.block_lt_of_cell? w _ hx485_1)).trans hx485_1; replace hx485_2 := (HB.out.cell (World.block_lt_of_cell? w _ hx485_2)).trans hx485_2; replace hx485_3 := (HB.out.cell (World.block_lt_of_cell? w _ hx485_3)).trans hx485_3; replace hx485_4 := (HB.out.cell (World.block_lt_of_cell? w _ hx485_4)).trans hx485_4; replace p485 := eq_true p485; replace q485 := eq_true q485) | ((with_reducible refine gate_builtin (b := .append) (xs := #[.tmp 53, .tmp 58]) rfl ?_); at_builtin; refine Kd.R_append k35 (w0 := w) w.heap.size rfl (.tmp 53) (.tmp 58) 32 35 (.agg #[(.int .i64 0), (.int .i64 0), (.int .i64 0), (.int .i64 0), (.int .i64 0)]) 40 rfl Try.underlying32 info35 rfl (by decide) (by omega) u5 x5_1 (⟨(rd_T35 l1 x11_1).f0, (⟨(rd_T35 l1 x11_1).f1.f0, (rd_T35 l1 x11_1).f1.f1, (rd_T35 l1 x11_1).f1.f2, (rd_T35 l1 x11_1).f1.f3⟩ : S23)⟩ : S35) [.int .i64 ((rd_T35 l1 x11_1).f0), .int .i64 ((rd_T35 l1 x11_1).f1.f0), .int .i64 ((rd_T35 l1 x11_1).f1.f1), .int .i64 ((rd_T35 l1 x11_1).f1.f2), .int .i64 ((rd_T35 l1 x11_1).f1.f3)] (fun _ => True) (fun _ => False) rfl rfl ?aP (fun _ hk => hk.elim) ?aF ?aO ?aB ?aS ?aL ?_; (case aP => exact k35_mkM _ _ _ (⟨(rd_T35 l1 x11_1).f0, (⟨(rd_T35 l1 x11_1).f1.f0, (rd_T35 l1 x11_1).f1.f1, (rd_T35 l1 x11_1).f1.f2, (rd_T35 l1 x11_1).f1.f3⟩ : S23)⟩ : S35)); (case aB => exact (by repeat (first | (with_reducible first | exact HB.out | apply below_alloc | apply pw_below_drewN | apply below_drew1) | exact HB.out))); (case aF => exact (fun _ _ => trivial)); (case aO => exact (by (with_reducible repeat (first | apply Kd.R_alloc | apply Kd.R_drewN | apply Kd.R_drew)); exact HO_5.out)); (case aS => exact (below_size (by repeat (first | (with_reducible first | exact HB.out | apply below_alloc | apply pw_below_drewN | apply below_drew1) | exact HB.out)))); (case aL => have := LMc16.out; omega); intro v487 w17 ho hb hg hat; rw [← Ny486.out] at ho; have n0_ := Aside0.mk (hb); have n1_ := Aside0.mk (ho); clear HB; clear HO_5; have HB := n0_; have HO488 := n1_; clear n0_ n1_; clear ho hb hg hat)); try go_wp2_with (first | (go_at_call 41; (with_reducible refine (sashref07_Find.calls k1 _ _ l0 ((rd_T35 l1 x11_1).f0) t476 _ ?side1 ?side2 A8.out).mono ?_); (case side1 => repeat (first | exact (Kd.C_below HR0.out HB.out) | (with_reducible refine Kd.C_alloc ?_ _) | (with_reducible refine Kd.C_drewN ?_ _) | (with_reducible refine Kd.C_drew ?_))); (case side2 => exact HC0.out); rintro e w' ⟨rfl, ⟨nd, rfl⟩⟩; (try first | exact ⟨rfl, _, World.drewN_drewN _ _ _⟩ | exact ⟨rfl, _, Eq.trans (World.drewN_drewN _ _ _) (congrArg (World.drewN _) (Nat.add_assoc _ _ _))⟩); have p481 : 0 ≤ (t476 : Int) := of_decide_eq_true (by first | (with_reducible assumption) | assumption); have q481 : t476 < (l0.length : Int) := of_decide_eq_true (by first | (with_reducible assumption) | assumption); obtain ⟨ad481, e481, hx481_0, hx481_1, hx481_2, hx481_3, hx481_4⟩ := at_T35 HR0.out t476 p481 q481; cases e481; replace hx481_0 := (HB.out.cell (World.block_lt_of_cell? w _ hx481_0)).trans hx481_0; replace hx481_1 := (HB.out.cell (World.block_lt_of_cell? w _ hx481_1)).trans hx481_1; replace hx481_2 := (HB.out.cell (World.block_lt_of_cell? w _ hx481_2)).trans hx481_2; replace hx481_3 := (HB.out.cell (World.block_lt_of_cell? w _ hx481_3)).trans hx481_3; replace hx481_4 := (HB.out.cell (World.block_lt_of_cell? w _ hx481_4)).trans hx481_4; replace p481 := eq_true p481; replace q481 := eq_true q481; have p482 : 0 ≤ (x11_1 : Int) := of_decide_eq_true (by first | (with_reducible assumption) | assumption); have q482 : x11_1 < (l1.length : Int) := of_decide_eq_true (by first | (with_reducible assumption) | assumption); obtain ⟨ad482, e482, hx482_0, hx482_1, hx482_2, hx482_3, hx482_4⟩ := at_T35 HR1.out x11_1 p482 q482; obtain rfl : ad475 = ad482 := (by injection e482); replace hx482_0 := (HB.out.cell (World.block_lt_of_cell? w _ hx482_0)).trans hx482_0; replace hx482_1 := (HB.out.cell (World.block_lt_of_cell? w _ hx482_1)).trans hx482_1; replace hx482_2 := (HB.out.cell (World.block_lt_of_cell? w _ hx482_2)).trans hx482_2; replace hx482_3 := (HB.out.cell (World.block_lt_of_cell? w _ hx482_3)).trans hx482_3; replace hx482_4 := (HB.out.cell (World.block_lt_of_cell? w _ hx482_4)).trans hx482_4; replace p482 := eq_true p482; replace q482 := eq_true q482; have p483 : 0 ≤ (t476 : Int) := of_decide_eq_true (by first | (with_reducible assumption) | assumption); have q483 : t476 < (l0.length : Int) := of_decide_eq_true (by first | (with_reducible assumption) | assumption); obtain ⟨ad483, e483, hx483_0, hx483_1, hx483_2, hx483_3, hx483_4⟩ := at_T35 HR0.out t476 p483 q483; obtain rfl : ad481 = ad483 := (by injection e483); replace hx483_0 := (HB.out.cell (World.block_lt_of_cell? w _ hx483_0)).trans hx483_0; replace hx483_1 := (HB.out.cell (World.block_lt_of_cell? w _ hx483_1)).trans hx483_1; replace hx483_2 := (HB.out.cell (World.block_lt_of_cell? w _ hx483_2)).trans hx483_2; replace hx483_3 := (HB.out.cell (World.block_lt_of_cell? w _ hx483_3)).trans hx483_3; replace hx483_4 := (HB.out.cell (World.block_lt_of_cell? w _ hx483_4)).trans hx483_4; replace p483 := eq_true p483; replace q483 := eq_true q483; have p484 : 0 ≤ (x11_1 : Int) := of_decide_eq_true (by first | (with_reducible assumption) | assumption); have q484 : x11_1 < (l1.length : Int) := of_decide_eq_true (by first | (with_reducible assumption) | assumption); obtain ⟨ad484, e484, hx484_0, hx484_1, hx484_2, hx484_3, hx484_4⟩ := at_T35 HR1.out x11_1 p484 q484; obtain rfl : ad475 = ad484 := (by injection e484); replace hx484_0 := (HB.out.cell (World.block_lt_of_cell? w _ hx484_0)).trans hx484_0; replace hx484_1 := (HB.out.cell (World.block_lt_of_cell? w _ hx484_1)).trans hx484_1; replace hx484_2 := (HB.out.cell (World.block_lt_of_cell? w _ hx484_2)).trans hx484_2; replace hx484_3 := (HB.out.cell (World.block_lt_of_cell? w _ hx484_3)).trans hx484_3; replace hx484_4 := (HB.out.cell (World.block_lt_of_cell? w _ hx484_4)).trans hx484_4; replace p484 := eq_true p484; replace q484 := eq_true q484; have p485 : 0 ≤ (x11_1 : Int) := of_decide_eq_true (by first | (with_reducible assumption) | assumption); have q485 : x11_1 < (l1.length : Int) := of_decide_eq_true (by first | (with_reducible assumption) | assumption); obtain ⟨ad485, e485, hx485_0, hx485_1, hx485_2, hx485_3, hx485_4⟩ := at_T35 HR1.out x11_1 p485 q485; obtain rfl : ad475 = ad485 := (by injection e485); replace hx485_0 := (HB.out.cell (World.block_lt_of_cell? w _ hx485_0)).trans hx485_0; replace hx485_1 := (HB.out.cell (World.block_lt_of_cell? w _ hx485_1)).trans hx485_1; replace hx485_2 := (HB.out.cell (World.block_lt_of_cell? w _ hx485_2)).trans hx485_2; replace hx485_3 := (HB.out.cell (World.block_lt_of_cell? w _ hx485_3)).trans hx485_3; replace hx485_4 := (HB.out.cell (World.block_lt_of_cell? w _ hx485_4)).trans hx485_4; replace p485 := eq_true p485; replace q485 := eq_true q485) | ((with_reducible refine gate_builtin (b := .append) (xs := #[.tmp 53, .tmp 58]) rfl ?_); at_builtin; refine Kd.R_append k35 (w0 := w) w.heap.size rfl (.tmp 53) (.tmp 58) 32 35 (.agg #[(.int .i64 0), (.int .i64 0), (.int .i64 0), (.int .i64 0), (.int .i64 0)]) 40 rfl Try.underlying32 info35 rfl (by decide) (by omega) u5 x5_1 (⟨(rd_T35 l1 x11_1).f0, (⟨(rd_T35 l1 x11_1).f1.f0, (rd_T35 l1 x11_1).f1.f1, (rd_T35 l1 x11_1).f1.f2, (rd_T35 l1 x11_1).f1.f3⟩ : S23)⟩ : S35) [.int .i64 ((rd_T35 l1 x11_1).f0), .int .i64 ((rd_T35 l1 x11_1).f1.f0), .int .i64 ((rd_T35 l1 x11_1).f1.f1), .int .i64 ((rd_T35 l1 x11_1).f1.f2), .int .i64 ((rd_T35 l1 x11_1).f1.f3)] (fun _ => True) (fun _ => False) rfl rfl ?aP (fun _ hk => hk.elim) ?aF ?aO ?aB ?aS ?aL ?_; (case aP => exact k35_mkM _ _ _ (⟨(rd_T35 l1 x11_1).f0, (⟨(rd_T35 l1 x11_1).f1.f0, (rd_T35 l1 x11_1).f1.f1, (rd_T35 l1 x11_1).f1.f2, (rd_T35 l1 x11_1).f1.f3⟩ : S23)⟩ : S35)); (case aB => exact (by repeat (first | (with_reducible first | exact HB.out | apply below_alloc | apply pw_below_drewN | apply below_drew1) | exact HB.out))); (case aF => exact (fun _ _ => trivial)); (case aO => exact (by (with_reducible repeat (first | apply Kd.R_alloc | apply Kd.R_drewN | apply Kd.R_drew)); exact HO_5.out)); (case aS => exact (below_size (by repeat (first | (with_reducible first | exact HB.out | apply below_alloc | apply pw_below_drewN | apply below_drew1) | exact HB.out)))); (case aL => have := LMc16.out; omega); intro v487 w17 ho hb hg hat; rw [← Ny486.out] at ho; have n0_ := Aside0.mk (hb); have n1_ := Aside0.mk (ho); clear HB; clear HO_5; have HB := n0_; have HO488 := n1_; clear n0_ n1_; clear ho hb hg hat)))
                        go_roundg k1
                        case measure => have := HK1.out; omega
                        case rel => exact ⟨(y486), (wrap64 (x11_1 + 1)), (by first | rfl | (simp; done) | (simp [*]; done)), H', ⟨by have := HK1.out; omega⟩, ⟨by (with_reducible repeat (first | apply Kd.R_alloc | apply Kd.R_drewN | apply Kd.R_drew)); exact HO488.out⟩, ⟨by repeat (first | (with_reducible first | exact HB.out | apply below_alloc | apply pw_below_drewN | apply below_drew1) | exact HB.out)⟩⟩
                      · rw [if_neg c16] at H
                        exact absurd H (by simp)
                  · rw [if_neg c14] at H
                    have c14b0 : (((rd_T35 l0 t476).f1.f2) == ((rd_T35 l1 x11_1).f1.f2)) = false := beq_eq_false_iff_ne.mpr c14
                    have c14b1 : (((rd_T35 l0 t476).f1.f2) != ((rd_T35 l1 x11_1).f1.f2)) = true := bne_iff_ne.mpr c14
                    by_cases c18 : x5_1.length < 3518437208883
                    · rw [if_pos c18] at H
                      have LMc18 := Aside0.mk c18
                      clear c18
                      obtain ⟨y490, hy490⟩ : ∃ y_ : List (S35), y_ = (x5_1 ++ [(⟨(rd_T35 l1 x11_1).f0, (⟨(rd_T35 l1 x11_1).f1.f0, (rd_T35 l1 x11_1).f1.f1, (rd_T35 l1 x11_1).f1.f2, (rd_T35 l1 x11_1).f1.f3⟩ : S23)⟩ : S35)]) := ⟨_, rfl⟩
                      replace H : (sashref07_Changed.l0 k1 l0 l1 y490 (l1.length : Int) (wrap64 (x11_1 + 1))) = some r := by first | (rw [hy490]; with_reducible exact H) | (have H2_ := (Option.bind_some _ _).symm.trans H; rw [hy490]; with_reducible exact H2_) | (have H2_ := (Option.bind_some _ _).symm.trans H; with_reducible exact H2_) | with_reducible exact H | (rw [hy490]; exact H) | exact H
                      have Ny490 := Aside0.mk hy490
                      clear hy490
                      have H' := Aside0.mk H
                      clear H
                      have p475 : 0 ≤ (x11_1 : Int) := of_decide_eq_true (by first | (with_reducible assumption) | assumption)
                      have q475 : x11_1 < (l1.length : Int) := of_decide_eq_true (by first | (with_reducible assumption) | assumption)
                      obtain ⟨ad475, e475, hx475_0, hx475_1, hx475_2, hx475_3, hx475_4⟩ := at_T35 HR1.out x11_1 p475 q475
                      cases e475
                      replace hx475_0 := (HB.out.cell (World.block_lt_of_cell? w _ hx475_0)).trans hx475_0
                      replace hx475_1 := (HB.out.cell (World.block_lt_of_cell? w _ hx475_1)).trans hx475_1
                      replace hx475_2 := (HB.out.cell (World.block_lt_of_cell? w _ hx475_2)).trans hx475_2
                      replace hx475_3 := (HB.out.cell (World.block_lt_of_cell? w _ hx475_3)).trans hx475_3
                      replace hx475_4 := (HB.out.cell (World.block_lt_of_cell? w _ hx475_4)).trans hx475_4
                      replace p475 := eq_true p475
                      replace q475 := eq_true q475
                      go_wp2_with (first | (go_at_call 41; (with_reducible refine (sashref07_Find.calls k1 _ _ l0 ((rd_T35 l1 x11_1).f0) t476 _ ?side1 ?side2 A8.out).mono ?_); (case side1 => repeat (first | exact (Kd.C_below HR0.out HB.out) | (with_reducible refine Kd.C_alloc ?_ _) | (with_reducible refine Kd.C_drewN ?_ _) | (with_reducible refine Kd.C_drew ?_))); (case side2 => exact HC0.out); rintro e w' ⟨rfl, ⟨nd, rfl⟩⟩; (try first | exact ⟨rfl, _, World.drewN_drewN _ _ _⟩ | exact ⟨rfl, _, Eq.trans (World.drewN_drewN _ _ _) (congrArg (World.drewN _) (Nat.add_assoc _ _ _))⟩); have p481 : 0 ≤ (t476 : Int) := of_decide_eq_true (by first | (with_reducible assumption) | assumption); have q481 : t476 < (l0.length : Int) := of_decide_eq_true (by first | (with_reducible assumption) | assumption); obtain ⟨ad481, e481, hx481_0, hx481_1, hx481_2, hx481_3, hx481_4⟩ := at_T35 HR0.out t476 p481 q481; cases e481; replace hx481_0 := (HB.out.cell (World.block_lt_of_cell? w _ hx481_0)).trans hx481_0; replace hx481_1 := (HB.out.cell (World.block_lt_of_cell? w _ hx481_1)).trans hx481_1; replace hx481_2 := (HB.out.cell (World.block_lt_of_cell? w _ hx481_2)).trans hx481_2; replace hx481_3 := (HB.out.cell (World.block_lt_of_cell? w _ hx481_3)).trans hx481_3; replace hx481_4 := (HB.out.cell (World.block_lt_of_cell? w _ hx481_4)).trans hx481_4; replace p481 := eq_true p481; replace q481 := eq_true q481; have p482 : 0 ≤ (x11_1 : Int) := of_decide_eq_true (by first | (with_reducible assumption) | assumption); have q482 : x11_1 < (l1.length : Int) := of_decide_eq_true (by first | (with_reducible assumption) | assumption); obtain ⟨ad482, e482, hx482_0, hx482_1, hx482_2, hx482_3, hx482_4⟩ := at_T35 HR1.out x11_1 p482 q482; obtain rfl : ad475 = ad482 := (by injection e482); replace hx482_0 := (HB.out.cell (World.block_lt_of_cell? w _ hx482_0)).trans hx482_0; replace hx482_1 := (HB.out.cell (World.block_lt_of_cell? w _ hx482_1)).trans hx482_1; replace hx482_2 := (HB.out.cell (World.block_lt_of_cell? w _ hx482_2)).trans hx482_2; replace hx482_3 := (HB.out.cell (World.block_lt_of_cell? w _ hx482_3)).trans hx482_3; replace hx482_4 := (HB.out.cell (World.block_lt_of_cell? w _ hx482_4)).trans hx482_4; replace p482 := eq_true p482; replace q482 := eq_true q482; have p489 : 0 ≤ (x11_1 : Int) := of_decide_eq_true (by first | (with_reducible assumption) | assumption); have q489 : x11_1 < (l1.length : Int) := of_decide_eq_true (by first | (with_reducible assumption) | assumption); obtain ⟨ad489, e489, hx489_0, hx489_1, hx489_2, hx489_3, hx489_4⟩ := at_T35 HR1.out x11_1 p489 q489; obtain rfl : ad475 = ad489 := (by injection e489); replace hx489_0 := (HB.out.cell (World.block_lt_of_cell? w _ hx489_0)).trans hx489_0; replace hx489_1 := (HB.out.cell (World.block_lt_of_cell? w _ hx489_1)).trans hx489_1; replace hx489_2 := (HB.out.cell (World.block_lt_of_cell? w _ hx489_2)).trans hx489_2; replace hx489_3 := (HB.out.cell (World.block_lt_of_cell? w _ hx489_3)).trans hx489_3; replace hx489_4 := (HB.out.cell (World.block_lt_of_cell? w _ hx489_4)).trans hx489_4; replace p489 := eq_true p489; replace q489 := eq_true q489) | ((with_reducible refine gate_builtin (b := .append) (xs := #[.tmp 53, .tmp 58]) rfl ?_); at_builtin; refine Kd.R_append k35 (w0 := w) w.heap.size rfl (.tmp 53) (.tmp 58) 32 35 (.agg #[(.int .i64 0), (.int .i64 0), (.int .i64 0), (.int .i64 0), (.int .i64 0)]) 40 rfl Try.underlying32 info35 rfl (by decide) (by omega) u5 x5_1 (⟨(rd_T35 l1 x11_1).f0, (⟨(rd_T35 l1 x11_1).f1.f0, (rd_T35 l1 x11_1).f1.f1, (rd_T35 l1 x11_1).f1.f2, (rd_T35 l1 x11_1).f1.f3⟩ : S23)⟩ : S35) [.int .i64 ((rd_T35 l1 x11_1).f0), .int .i64 ((rd_T35 l1 x11_1).f1.f0), .int .i64 ((rd_T35 l1 x11_1).f1.f1), .int .i64 ((rd_T35 l1 x11_1).f1.f2), .int .i64 ((rd_T35 l1 x11_1).f1.f3)] (fun _ => True) (fun _ => False) rfl rfl ?aP (fun _ hk => hk.elim) ?aF ?aO ?aB ?aS ?aL ?_; (case aP => exact k35_mkM _ _ _ (⟨(rd_T35 l1 x11_1).f0, (⟨(rd_T35 l1 x11_1).f1.f0, (rd_T35 l1 x11_1).f1.f1, (rd_T35 l1 x11_1).f1.f2, (rd_T35 l1 x11_1).f1.f3⟩ : S23)⟩ : S35)); (case aB => exact (by repeat (first | (with_reducible first | exact HB.out | apply below_alloc | apply pw_below_drewN | apply below_drew1) | exact HB.out))); (case aF => exact (fun _ _ => trivial)); (case aO => exact (by (with_reducible repeat (first | apply Kd.R_alloc | apply Kd.R_drewN | apply Kd.R_drew)); exact HO_5.out)); (case aS => exact (below_size (by repeat (first | (with_reducible first | exact HB.out | apply below_alloc | apply pw_below_drewN | apply below_drew1) | exact HB.out)))); (case aL => have := LMc18.out; omega); intro v491 w19 ho hb hg hat; rw [← Ny490.out] at ho; have n0_ := Aside0.mk (hb); have n1_ := Aside0.mk (ho); clear HB; clear HO_5; have HB := n0_; have HO492 := n1_; clear n0_ n1_; clear ho hb hg hat))
                      repeat (go_quiet (first | (go_at_call 41; (with_reducible refine (sashref07_Find.calls k1 _ _ l0 ((rd_T35 l1 x11_1).f0) t476 _ ?side1 ?side2 A8.out).mono ?_); (case side1 => repeat (first | exact (Kd.C_below HR0.out HB.out) | (with_reducible refine Kd.C_alloc ?_ _) | (with_reducible refine Kd.C_drewN ?_ _) | (with_reducible refine Kd.C_drew ?_))); (case side2 => exact HC0.out); rintro e w' ⟨rfl, ⟨nd, rfl⟩⟩; (try first | exact ⟨rfl, _, World.drewN_drewN _ _ _⟩ | exact ⟨rfl, _, Eq.trans (World.drewN_drewN _ _ _) (congrArg (World.drewN _) (Nat.add_assoc _ _ _))⟩); have p481 : 0 ≤ (t476 : Int) := of_decide_eq_true (by first | (with_reducible assumption) | assumption); have q481 : t476 < (l0.length : Int) := of_decide_eq_true (by first | (with_reducible assumption) | assumption); obtain ⟨ad481, e481, hx481_0, hx481_1, hx481_2, hx481_3, hx481_4⟩ := at_T35 HR0.out t476 p481 q481; cases e481; replace hx481_0 := (HB.out.cell (World.block_lt_of_cell? w _ hx481_0)).trans hx481_0; replace hx481_1 := (HB.out.cell (World.block_lt_of_cell? w _ hx481_1)).trans hx481_1; replace hx481_2 := (HB.out.cell (World.block_lt_of_cell? w _ hx481_2)).trans hx481_2; replace hx481_3 := (HB.out.cell (World.block_lt_of_cell? w _ hx481_3)).trans hx481_3; replace hx481_4 := (HB.out.cell (World.block_lt_of_cell? w _ hx481_4)).trans hx481_4; replace p481 := eq_true p481; replace q481 := eq_true q481; have p482 : 0 ≤ (x11_1 : Int) := of_decide_eq_true (by first | (with_reducible assumption) | assumption); have q482 : x11_1 < (l1.length : Int) := of_decide_eq_true (by first | (with_reducible assumption) | assumption); obtain ⟨ad482, e482, hx482_0, hx482_1, hx482_2, hx482_3, hx482_4⟩ := at_T35 HR1.out x11_1 p482 q482; obtain rfl : ad475 = ad482 := (by injection e482); replace hx482_0 := (HB.out.cell (World.block_lt_of_cell? w _ hx482_0)).trans hx482_0; replace hx482_1 := (HB.out.cell (World.block_lt_of_cell? w _ hx482_1)).trans hx482_1; replace hx482_2 := (HB.out.cell (World.block_lt_of_cell? w _ hx482_2)).trans hx482_2; replace hx482_3 := (HB.out.cell (World.block_lt_of_cell? w _ hx482_3)).trans hx482_3; replace hx482_4 := (HB.out.cell (World.block_lt_of_cell? w _ hx482_4)).trans hx482_4; replace p482 := eq_true p482; replace q482 := eq_true q482; have p489 : 0 ≤ (x11_1 : Int) := of_decide_eq_true (by first | (with_reducible assumption) | assumption); have q489 : x11_1 < (l1.length : Int) := of_decide_eq_true (by first | (with_reducible assumption) | assumption); obtain ⟨ad489, e489, hx489_0, hx489_1, hx489_2, hx489_3, hx489_4⟩ := at_T35 HR1.out x11_1 p489 q489; obtain rfl : ad475 = ad489 := (by injection e489); replace hx489_0 := (HB.out.cell (World.block_lt_of_cell? w _ hx489_0)).trans hx489_0; replace hx489_1 := (HB.out.cell (World.block_lt_of_cell? w _ hx489_1)).trans hx489_1; replace hx489_2 := (HB.out.cell (World.block_lt_of_cell? w _ hx489_2)).trans hx489_2; replace hx489_3 := (HB.out.cell (World.block_lt_of_cell? w _ hx489_3)).trans hx489_3; replace hx489_4 := (HB.out.cell (World.block_lt_of_cell? w _ hx489_4)).trans hx489_4; replace p489 := eq_true p489; replace q489 := eq_true q489) | ((with_reducible refine gate_builtin (b := .append) (xs := #[.tmp 53, .tmp 58]) rfl ?_); at_builtin; refine Kd.R_append k35 (w0 := w) w.heap.size rfl (.tmp 53) (.tmp 58) 32 35 (.agg #[(.int .i64 0), (.int .i64 0), (.int .i64 0), (.int .i64 0), (.int .i64 0)]) 40 rfl Try.underlying32 info35 rfl (by decide) (by omega) u5 x5_1 (⟨(rd_T35 l1 x11_1).f0, (⟨(rd_T35 l1 x11_1).f1.f0, (rd_T35 l1 x11_1).f1.f1, (rd_T35 l1 x11_1).f1.f2, (rd_T35 l1 x11_1).f1.f3⟩ : S23)⟩ : S35) [.int .i64 ((rd_T35 l1 x11_1).f0), .int .i64 ((rd_T35 l1 x11_1).f1.f0), .int .i64 ((rd_T35 l1 x11_1).f1.f1), .int .i64 ((rd_T35 l1 x11_1).f1.f2), .int .i64 ((rd_T35 l1 x11_1).f1.f3)] (fun _ => True) (fun _ => False) rfl rfl ?aP (fun _ hk => hk.elim) ?aF ?aO ?aB ?aS ?aL ?_; (case aP => exact k35_mkM _ _ _ (⟨(rd_T35 l1 x11_1).f0, (⟨(rd_T35 l1 x11_1).f1.f0, (rd_T35 l1 x11_1).f1.f1, (rd_T35 l1 x11_1).f1.f2, (rd_T35 l1 x11_1).f1.f3⟩ : S23)⟩ : S35)); (case aB => exact (by repeat (first | (with_reducible first | exact HB.out | apply below_alloc | apply pw_below_drewN | apply below_drew1) | exact HB.out))); (case aF => exact (fun _ _ => trivial)); (case aO => exact (by (with_reducible repeat (first | apply Kd.R_alloc | apply Kd.R_drewN | apply Kd.R_drew)); exact HO_5.out)); (case aS => exact (below_size (by repeat (first | (with_reducible first | exact HB.out | apply below_alloc | apply pw_below_drewN | apply below_drew1) | exact HB.out)))); (case aL => have := LMc18.out; omega); intro v491 w19 ho hb hg hat; rw [← Ny490.out] at ho; have n0_ := Aside0.mk (hb); have n1_ := Aside0.mk (ho); clear HB; clear HO_5; have HB := n0_; have HO492 := n1_; clear n0_ n1_; clear ho hb hg hat)); try go_wp2_with (first | (go_at_call 41; (with_reducible refine (sashref07_Find.calls k1 _ _ l0 ((rd_T35 l1 x11_1).f0) t476 _ ?side1 ?side2 A8.out).mono ?_); (case side1 => repeat (first | exact (Kd.C_below HR0.out HB.out) | (with_reducible refine Kd.C_alloc ?_ _) | (with_reducible refine Kd.C_drewN ?_ _) | (with_reducible refine Kd.C_drew ?_))); (case side2 => exact HC0.out); rintro e w' ⟨rfl, ⟨nd, rfl⟩⟩; (try first | exact ⟨rfl, _, World.drewN_drewN _ _ _⟩ | exact ⟨rfl, _, Eq.trans (World.drewN_drewN _ _ _) (congrArg (World.drewN _) (Nat.add_assoc _ _ _))⟩); have p481 : 0 ≤ (t476 : Int) := of_decide_eq_true (by first | (with_reducible assumption) | assumption); have q481 : t476 < (l0.length : Int) := of_decide_eq_true (by first | (with_reducible assumption) | assumption); obtain ⟨ad481, e481, hx481_0, hx481_1, hx481_2, hx481_3, hx481_4⟩ := at_T35 HR0.out t476 p481 q481; cases e481; replace hx481_0 := (HB.out.cell (World.block_lt_of_cell? w _ hx481_0)).trans hx481_0; replace hx481_1 := (HB.out.cell (World.block_lt_of_cell? w _ hx481_1)).trans hx481_1; replace hx481_2 := (HB.out.cell (World.block_lt_of_cell? w _ hx481_2)).trans hx481_2; replace hx481_3 := (HB.out.cell (World.block_lt_of_cell? w _ hx481_3)).trans hx481_3; replace hx481_4 := (HB.out.cell (World.block_lt_of_cell? w _ hx481_4)).trans hx481_4; replace p481 := eq_true p481; replace q481 := eq_true q481; have p482 : 0 ≤ (x11_1 : Int) := of_decide_eq_true (by first | (with_reducible assumption) | assumption); have q482 : x11_1 < (l1.length : Int) := of_decide_eq_true (by first | (with_reducible assumption) | assumption); obtain ⟨ad482, e482, hx482_0, hx482_1, hx482_2, hx482_3, hx482_4⟩ := at_T35 HR1.out x11_1 p482 q482; obtain rfl : ad475 = ad482 := (by injection e482); replace hx482_0 := (HB.out.cell (World.block_lt_of_cell? w _ hx482_0)).trans hx482_0; replace hx482_1 := (HB.out.cell (World.block_lt_of_cell? w _ hx482_1)).trans hx482_1; replace hx482_2 := (HB.out.cell (World.block_lt_of_cell? w _ hx482_2)).trans hx482_2; replace hx482_3 := (HB.out.cell (World.block_lt_of_cell? w _ hx482_3)).trans hx482_3; replace hx482_4 := (HB.out.cell (World.block_lt_of_cell? w _ hx482_4)).trans hx482_4; replace p482 := eq_true p482; replace q482 := eq_true q482; have p489 : 0 ≤ (x11_1 : Int) := of_decide_eq_true (by first | (with_reducible assumption) | assumption); have q489 : x11_1 < (l1.length : Int) := of_decide_eq_true (by first | (with_reducible assumption) | assumption); obtain ⟨ad489, e489, hx489_0, hx489_1, hx489_2, hx489_3, hx489_4⟩ := at_T35 HR1.out x11_1 p489 q489; obtain rfl : ad475 = ad489 := (by injection e489); replace hx489_0 := (HB.out.cell (World.block_lt_of_cell? w _ hx489_0)).trans hx489_0; replace hx489_1 := (HB.out.cell (World.block_lt_of_cell? w _ hx489_1)).trans hx489_1; replace hx489_2 := (HB.out.cell (World.block_lt_of_cell? w _ hx489_2)).trans hx489_2; replace hx489_3 := (HB.out.cell (World.block_lt_of_cell? w _ hx489_3)).trans hx489_3; replace hx489_4 := (HB.out.cell (World.block_lt_of_cell? w _ hx489_4)).trans hx489_4; replace p489 := eq_true p489; replace q489 := eq_true q489) | ((with_reducible refine gate_builtin (b := .append) (xs := #[.tmp 53, .tmp 58]) rfl ?_); at_builtin; refine Kd.R_append k35 (w0 := w) w.heap.size rfl (.tmp 53) (.tmp 58) 32 35 (.agg #[(.int .i64 0), (.int .i64 0), (.int .i64 0), (.int .i64 0), (.int .i64 0)]) 40 rfl Try.underlying32 info35 rfl (by decide) (by omega) u5 x5_1 (⟨(rd_T35 l1 x11_1).f0, (⟨(rd_T35 l1 x11_1).f1.f0, (rd_T35 l1 x11_1).f1.f1, (rd_T35 l1 x11_1).f1.f2, (rd_T35 l1 x11_1).f1.f3⟩ : S23)⟩ : S35) [.int .i64 ((rd_T35 l1 x11_1).f0), .int .i64 ((rd_T35 l1 x11_1).f1.f0), .int .i64 ((rd_T35 l1 x11_1).f1.f1), .int .i64 ((rd_T35 l1 x11_1).f1.f2), .int .i64 ((rd_T35 l1 x11_1).f1.f3)] (fun _ => True) (fun _ => False) rfl rfl ?aP (fun _ hk => hk.elim) ?aF ?aO ?aB ?aS ?aL ?_; (case aP => exact k35_mkM _ _ _ (⟨(rd_T35 l1 x11_1).f0, (⟨(rd_T35 l1 x11_1).f1.f0, (rd_T35 l1 x11_1).f1.f1, (rd_T35 l1 x11_1).f1.f2, (rd_T35 l1 x11_1).f1.f3⟩ : S23)⟩ : S35)); (case aB => exact (by repeat (first | (with_reducible first | exact HB.out | apply below_alloc | apply pw_below_drewN | apply below_drew1) | exact HB.out))); (case aF => exact (fun _ _ => trivial)); (case aO => exact (by (with_reducible repeat (first | apply Kd.R_alloc | apply Kd.R_drewN | apply Kd.R_drew)); exact HO_5.out)); (case aS => exact (below_size (by repeat (first | (with_reducible first | exact HB.out | apply below_alloc | apply pw_below_drewN | apply below_drew1) | exact HB.out)))); (case aL => have := LMc18.out; omega); intro v491 w19 ho hb hg hat; rw [← Ny490.out] at ho; have n0_ := Aside0.mk (hb); have n1_ := Aside0.mk (ho); clear HB; clear HO_5; have HB := n0_; have HO492 := n1_; clear n0_ n1_; clear ho hb hg hat)))
                      go_roundg k1
                      case measure => have := HK1.out; omega
                      case rel => exact ⟨(y490), (wrap64 (x11_1 + 1)), (by first | rfl | (simp; done) | (simp [*]; done)), H', ⟨by have := HK1.out; omega⟩, ⟨by (with_reducible repeat (first | apply Kd.R_alloc | apply Kd.R_drewN | apply Kd.R_drew)); exact HO492.out⟩, ⟨by repeat (first | (with_reducible first | exact HB.out | apply below_alloc | apply pw_below_drewN | apply below_drew1) | exact HB.out)⟩⟩
                    · rw [if_neg c18] at H
                      exact absurd H (by simp)
                · rw [if_neg c13] at H
                  exact absurd H (by simp)
              · rw [if_neg c12] at H
                exact absurd H (by simp)
          · rw [if_neg c7] at H
            exact absurd H (by simp)
        · rw [if_neg c6] at H
          exact absurd H (by simp)
      · rw [if_neg c5] at H
        have c5b0 : decide (x11_1 < (l1.length : Int)) = false := decide_eq_false c5
        clear c5
        obtain rfl := Option.some.inj H
        go_wp2
        repeat (go_quiet (fail); try go_wp2)
        go_ret
        exact ⟨_, by first | rfl | (simp [errW_none, errW_some] <;> rfl) | (simp [*, errW_none, errW_some] <;> rfl), by (with_reducible repeat (first | apply Kd.R_alloc | apply Kd.R_drewN | apply Kd.R_drew)); exact HO_5.out, by repeat (first | (with_reducible first | exact HB.out | apply below_alloc | apply pw_below_drewN | apply below_drew1) | exact HB.out)⟩

end Go.Proofs.Ytfdmfgaiblfbhaa.P
/- The reference's changed panes, and rows of panes that are the same: plain data. -/
namespace Go.Proofs.Ytfdmfgaiblfbhaa.P
open Go.RowKit Go.Proofs.YtfdmfgaiblfbhaaW.PrintWords Go.Proofs.YtfdmfgaiblfbhaaW.PrintLast Go.Proofs.YtfdmfgaiblfbhaaW.PrintMore

theorem same35_ev (l : List S35) (h : l.length ≤ 1048576) : Ev (fun k => sashref07_Same.f k l l) true := by
  unfold sashref07_Same.f
  refine ev_pos rfl ?_
  have key : ∀ (rest pre : List S35), pre ++ rest = l → Ev (fun k => sashref07_Same.l0 k l l (l.length : Int) (pre.length : Int)) true := by
    intro rest
    induction rest with
    | nil =>
      intro pre hp
      rw [List.append_nil] at hp
      refine Ev.step (f := fun _ => some true) (fun k => ?_) (Ev.now _)
      simp only [sashref07_Same.l0]
      rw [if_neg (by rw [hp]; omega)]
    | cons x xs ihr =>
      intro pre hp
      have hl : (pre.length : Int) < (l.length : Int) := by rw [← hp, List.length_append, List.length_cons]; omega
      have e2 := ihr (pre ++ [x]) (by rw [List.append_assoc]; exact hp)
      have hu : wrap64 ((pre.length : Int) + 1) = ((pre ++ [x]).length : Int) := up_in pre x xs (by rw [hp]; omega)
      refine Ev.step (fun k => ?_) e2
      simp only [sashref07_Same.l0]
      rw [if_pos hl, if_pos (by omega), if_pos hl, if_pos hl, if_neg (by simp), hu]
  exact key l [] rfl
theorem changed_some (a l : List S35) (h : l.length ≤ 1000000) : flat_Changed.f a l = some (keepL a l) := if_pos h
end Go.Proofs.Ytfdmfgaiblfbhaa.P
/- How a law's arguments read: cells, rectangles, panes, and rows of these, as plain data. -/
namespace Go.Proofs.Ytfdmfgaiblfbhaa.P
open Go.RowKit Go.Proofs.YtfdmfgaiblfbhaaW.PrintWords Go.Proofs.YtfdmfgaiblfbhaaW.PrintLast Go.Proofs.YtfdmfgaiblfbhaaW.PrintMore
open Go.ChangeShapes Go.WideShapes Go.ChangeAt Go.Joins Go.Deep

/-! ### What is known of the numbers -/
def I64 (n : Int) : Prop := -9223372036854775808 ≤ n ∧ n ≤ 9223372036854775807
def U8 (n : Int) : Prop := 0 ≤ n ∧ n ≤ 255
def U16 (n : Int) : Prop := 0 ≤ n ∧ n ≤ 65535
def wf23 (r : S23) : Prop := I64 r.f0 ∧ I64 r.f1 ∧ I64 r.f2 ∧ I64 r.f3
def wf35 (p : S35) : Prop := I64 p.f0 ∧ wf23 p.f1
def wfn26 : Nat → S26 → Prop
  | 0, _ => False
  | n + 1, c => U8 c.f0 ∧ wf23 c.f1 ∧ I64 c.f2 ∧ c.f3.length ≤ 9223372036854775807 ∧ ∀ k, k ∈ c.f3 → wfn26 n k
def wf26 (c : S26) : Prop := ∃ n, wfn26 n c
theorem wfn26_le : ∀ {n m : Nat} (_ : n ≤ m) {c : S26}, wfn26 n c → wfn26 m c
  | 0, _, _, _, h => h.elim
  | n + 1, 0, hm, _, _ => absurd hm (by omega)
  | n + 1, m + 1, hm, _, h => ⟨h.1, h.2.1, h.2.2.1, h.2.2.2.1, fun k hk => wfn26_le (by omega) (h.2.2.2.2 k hk)⟩

section
variable {H : Type} {enc : TypeId × Value → H} {P : Program} {w : World} {base : Nat} {spare : Nat → Bool} {held : Bool}
theorem row_of {α : Type} {Q : Nat → α → Prop} : ∀ (n : Nat), (∀ i, i < n → ∃ p, Q i p) → ∃ l : List α, l.length = n ∧ ∀ i p, l[i]? = some p → Q i p
  | 0, _ => ⟨[], rfl, fun i p h => by simp at h⟩
  | n + 1, h => by
    obtain ⟨l, hl, hq⟩ := row_of n fun i hi => h i (by omega)
    obtain ⟨p, hp⟩ := h n (by omega)
    refine ⟨l ++ [p], by simp [hl], fun i q hi => ?_⟩
    rcases Nat.lt_trichotomy i n with h1 | h1 | h1
    · rw [List.getElem?_append_left (by omega)] at hi
      exact hq i q hi
    · subst h1
      rw [List.getElem?_append_right (by omega), hl, Nat.sub_self] at hi
      obtain rfl : p = q := by simpa using hi
      exact hp
    · rw [List.getElem?_eq_none (by simp; omega)] at hi
      cases hi
theorem cells_at {a : Addr} {n : Nat} {cs : List Value} (h : w.cells? base a n = some cs) : cs.length = n ∧ ∀ i u, cs[i]? = some u → w.cell? (a.add i) = some u := by
  obtain ⟨_, h1, h2⟩ := World.cells?_some h
  exact ⟨h1, fun i u hi => by
    have hlt : i < n := by rw [← h1]; exact (List.getElem?_eq_some_iff.1 hi).1
    rw [h2 i hlt, hi]⟩

end
section
variable {H : Type} {enc : TypeId × Value → H} {w : World} {base : Nat} {spare : Nat → Bool} {held : Bool}
theorem i64_of {n : Int} (h : (Lit.int .i64 n).wf = true) : I64 n := by
  have := bounds_i64 h
  unfold I64
  omega
theorem u8_of {n : Int} (h : (Lit.int .u8 n).wf = true) : U8 n := bounds_u8 h
theorem agg_of {a : Array Value} {l : List Value} (h : (Value.agg a).cells.toList = l) : a = l.toArray := by
  subst h
  simp [Value.cells]
theorem cells23 : Try.prog.cellsOf 23 = 4 := by kernel_rfl
theorem cells26 : Try.prog.cellsOf 26 = 7 := by kernel_rfl
theorem cells3 : Try.prog.cellsOf 3 = 1 := by kernel_rfl
theorem cells5 : Try.prog.cellsOf 5 = 1 := by kernel_rfl
theorem cells24 : Try.prog.cellsOf 24 = 1 := by kernel_rfl
set_option maxRecDepth 100000 in
theorem read23 {fuel : Nat} {cs : List Value} {x : DataW H × List MemPlace} (h : DataW.trod enc Try.prog w base spare held fuel 23 cs = some x) : ∃ r : S23, k23.K w r cs ∧ wf23 r := by
  obtain ⟨y0, y1, y2, y3, n, _, hl, h0, h1, h2, h3⟩ := trod_struct4 Try.underlying23 h
  rw [cells23] at hl
  match cs, hl with
  | [c0, c1, c2, c3], _ =>
    simp only [cells3, List.drop_zero, List.take_succ_cons, List.take_zero, List.drop_succ_cons] at h0 h1 h2 h3
    obtain ⟨n0, e0, _, w0⟩ := DataW.trod_int Try.underlying3 h0
    obtain ⟨n1, e1, _, w1⟩ := DataW.trod_int Try.underlying3 h1
    obtain ⟨n2, e2, _, w2⟩ := DataW.trod_int Try.underlying3 h2
    obtain ⟨n3, e3, _, w3⟩ := DataW.trod_int Try.underlying3 h3
    simp only [List.cons.injEq, and_true] at e0 e1 e2 e3
    subst e0 e1 e2 e3
    exact ⟨⟨n0, n1, n2, n3⟩, k23_mk w ⟨n0, n1, n2, n3⟩, i64_of w0, i64_of w1, i64_of w2, i64_of w3⟩
end
end Go.Proofs.Ytfdmfgaiblfbhaa.P
/- FlatStill, the plain law: of a tree's panes none is changed against themselves; with other numbers all are. Condition: the tree has at most 1048576 cells. -/
namespace Go.Proofs.Ytfdmfgaiblfbhaa.Pure
open Go.RowKit Go.Proofs.Ytfdmfgaiblfbhaa.P Go.Proofs.YtfdmfgaiblfbhaaW.PrintWords Go.Proofs.YtfdmfgaiblfbhaaW.PrintLast Go.Proofs.YtfdmfgaiblfbhaaW.PrintMore

def negs (n : Nat) : List Int := (List.range n).map fun (i : Nat) => -1 - (i : Int)
theorem negs_len (n : Nat) : (negs n).length = n := by simp [negs]
theorem negs_succ (n : Nat) : negs (n + 1) = negs n ++ [-1 - (n : Int)] := by simp [negs, List.range_succ]
theorem findP_none (id : Int) : ∀ (l : List S35) (i : Int), (∀ q, q ∈ l → q.f0 ≠ id) → findP id i l = -1 := by
  intro l
  induction l with
  | nil => intro i _; rfl
  | cons x xs ih =>
    intro i h
    simp only [findP]
    rw [if_neg (h x (by simp)), ih (i + 1) (fun q hq => h q (by simp [hq]))]
theorem keepL_self (c : S26) (hd : distinctC (leavesC c) = true) : keepL (panes c) (panes c) = [] := by
  unfold keepL
  rw [List.filter_eq_nil_iff]
  intro p hp
  obtain ⟨j, hj, rfl⟩ := List.getElem_of_mem hp
  have e : rd_T35 (panes c) (j : Int) = (panes c)[j] := by simp [rd_T35, List.getD_eq_getElem?_getD, hj]
  have hf := find_there c hd (j : Int) (by omega) (by omega)
  rw [e] at hf
  have : delB (panes c) (panes c)[j] = true := by
    unfold delB
    rw [hf, e, decide_eq_true (by omega)]
    simp
  simp [this]
theorem keepL_all (l m : List S35) (hl : ∀ q, q ∈ l → 0 ≤ q.f0) (hm : ∀ q, q ∈ m → q.f0 < 0) : keepL l m = m := by
  unfold keepL
  rw [List.filter_eq_self]
  intro p hp
  have : delB l p = false := by
    unfold delB
    rw [findP_none p.f0 l 0 (fun q hq => by have := hl q hq; have := hm p hp; omega)]
    rfl
  simp [this]
theorem panes_pos (c : S26) (h : mayC c = true) : ∀ q, q ∈ panes c → 0 ≤ q.f0 := by
  intro q hq
  obtain ⟨y, hy, rfl⟩ := List.mem_map.1 hq
  obtain ⟨h1, h2⟩ := List.mem_filter.1 hy
  unfold mayC at h
  simp only [Bool.and_eq_true] at h
  have := List.all_eq_true.1 h.2.1 y h1
  unfold okC at this
  simp only [Bool.and_eq_true] at this
  have h3 := of_decide_eq_true this.1.2
  exact (h3 (of_decide_eq_true h2)).2.1
theorem zip_neg : ∀ (l : List S35) (ids : List Int), (∀ i, i ∈ ids → i < 0) → ∀ q, q ∈ List.zipWith named l ids → q.f0 < 0 := by
  intro l
  induction l with
  | nil => intro ids _ q hq; simp at hq
  | cons x xs ih =>
    intro ids h q hq
    cases ids with
    | nil => simp at hq
    | cons y ys =>
      rw [List.zipWith_cons_cons, List.mem_cons] at hq
      rcases hq with rfl | hq
      · exact h y (by simp)
      · exact ih ys (fun i hi => h i (by simp [hi])) q hq
theorem FlatStill : ∀ (a0 : S26), wf26 a0 → sz a0 ≤ 1048576 → ∃ k, sashlaw07_FlatStill.f k a0.f0 a0.f1.f0 a0.f1.f1 a0.f1.f2 a0.f1.f3 a0.f2 a0.f3 = some true := by
  intro c _ hz
  refine Ev.rounds (g := fun k => sashlaw07_FlatStill.f k c.f0 c.f1.f0 c.f1.f1 c.f1.f2 c.f1.f3 c.f2 c.f3) ?_
  unfold sashlaw07_FlatStill.f
  have aw : Ev (fun k => (sashlaw07_awake.f k).bind fun t => some t) true := Ev.bind awake07 (Ev.now _)
  have jt : Ev (fun k => sashlaw07_FlatStill.j0 k true c.f0 c.f1.f0 c.f1.f1 c.f1.f2 c.f1.f3 c.f2 c.f3) true := by
    refine Ev.step (fun k => ?_) aw
    simp only [sashlaw07_FlatStill.j0]
    rw [if_pos trivial]
  obtain ⟨g, eg, hg⟩ := great_ev c hz
  refine Ev.bind eg ?_
  cases g with
  | true => exact ev_pos rfl jt
  | false =>
    have hz2 := hg rfl
    refine ev_neg (by simp) (Ev.bind (may_ev c hz) ?_)
    cases hm : mayC c with
    | false => exact jt
    | true =>
      have hd : distinctC (leavesC c) = true := by
        have h := hm
        unfold mayC at h
        simp only [Bool.and_eq_true] at h
        exact h.2.2
      have hlen : (panes c).length ≤ 200 := by have := panes_len c; omega
      have hnl : nlv c = (panes c).length := by unfold nlv panes; rw [List.length_map]
      have hids : nlv c ≤ (negs (panes c).length).length := by rw [negs_len, hnl]; exact Nat.le_refl _
      obtain ⟨x1, x2, x3⟩ := (name_facts (sz c)).1 c (Nat.le_refl _) (negs (panes c).length) hids
      have ename := name_ev (sz c) c (Nat.le_refl _) (by omega) (negs (panes c).length) hids
      have hlv : (idsL [c]).length = (negs (panes c).length).length := by
        rw [negs_len]
        unfold idsL
        rw [List.length_map, allL_cons, allL_nil, List.append_nil, ← hnl]
        rfl
      have eName : Ev (fun k => flat_Name.f k c.f0 c.f1.f0 c.f1.f1 c.f1.f2 c.f1.f3 c.f2 c.f3 (negs (panes c).length)) ((nameC c (negs (panes c).length)).1.f0, (nameC c (negs (panes c).length)).1.f1.f0, (nameC c (negs (panes c).length)).1.f1.f1, (nameC c (negs (panes c).length)).1.f1.f2, (nameC c (negs (panes c).length)).1.f1.f3, (nameC c (negs (panes c).length)).1.f2, (nameC c (negs (panes c).length)).1.f3, true) := by
        unfold flat_Name.f
        simp only [eta26]
        have e1 := cell_leaves_ev (szL [c]) [c] (Nat.le_refl _) (by rw [szL_cons, szL_nil]; omega)
        refine Ev.bind e1 (ev_pos (by rw [hlv]) (Ev.bind ename ?_))
        exact Ev.now _
      have hx := list_ev (sz c) (nameC c (negs (panes c).length)).1 (by rw [x1]; exact Nat.le_refl _) hz
      have hxr := reflist_ev (nameC c (negs (panes c).length)).1 (by rw [x1]; exact hz)
      have hkeep : keepL (panes c) (panes (nameC c (negs (panes c).length)).1) = panes (nameC c (negs (panes c).length)).1 := by
        refine keepL_all _ _ (panes_pos c hm) ?_
        rw [x3]
        refine zip_neg _ _ fun i hi => ?_
        obtain ⟨j, _, rfl⟩ := List.mem_map.1 hi
        omega
      have hxl : (panes (nameC c (negs (panes c).length)).1).length ≤ 200 := by have := panes_len (nameC c (negs (panes c).length)).1; omega
      have fin : Ev (fun k => sashlaw07_FlatStill.l0 k (panes c) (negs (panes c).length) ((panes c).length : Int) c.f0 c.f1.f0 c.f1.f1 c.f1.f2 c.f1.f3 c.f2 c.f3) true := by
        refine Ev.step (f := fun k => (flat_Name.f k c.f0 c.f1.f0 c.f1.f1 c.f1.f2 c.f1.f3 c.f2 c.f3 (negs (panes c).length)).bind fun bt796 => (if bt796.2.2.2.2.2.2.2 = true then ((flat_Changed.f (panes c) (panes c)).bind fun t807 => (if (t807.length : Int) = 0 then ((flat_List.f k bt796.1 bt796.2.1 bt796.2.2.1 bt796.2.2.2.1 bt796.2.2.2.2.1 bt796.2.2.2.2.2.1 bt796.2.2.2.2.2.2.1).bind fun t810 => ((flat_Changed.f (panes c) t810).bind fun t813 => ((sashref07_List.f k bt796.1 bt796.2.1 bt796.2.2.1 bt796.2.2.2.1 bt796.2.2.2.2.1 bt796.2.2.2.2.2.1 bt796.2.2.2.2.2.2.1).bind fun t816 => ((sashref07_Same.f k t813 t816).bind fun t819 => (if t819 = true then ((sashlaw07_awake.f k).bind fun t820 => (some t820)) else (some false)))))) else (some false))) else (some false))) (fun k => ?_) ?_
        · simp only [sashlaw07_FlatStill.l0]
          rw [if_neg (by omega)]
        · refine Ev.bind eName (ev_pos rfl (Ev.bind (a := keepL (panes c) (panes c)) (ev_some fun k => changed_some _ _ (by omega)) (ev_pos (by rw [keepL_self c hd]; rfl) (Ev.bind hx (Ev.bind (a := keepL (panes c) (panes (nameC c (negs (panes c).length)).1)) (ev_some fun k => changed_some _ _ (by omega)) (Ev.bind hxr ?_))))))
          rw [hkeep]
          exact Ev.bind (same35_ev _ (by omega)) (ev_pos rfl aw)
      have loop : ∀ d i, i + d = (panes c).length → Ev (fun k => sashlaw07_FlatStill.l0 k (panes c) (negs i) (i : Int) c.f0 c.f1.f0 c.f1.f1 c.f1.f2 c.f1.f3 c.f2 c.f3) true := by
        intro d
        induction d with
        | zero => intro i hi; rw [show i = (panes c).length by omega]; exact fin
        | succ d ih =>
          intro i hi
          have e := ih (i + 1) (by omega)
          rw [negs_succ] at e
          have w1 : wrap64 ((i : Int) + 1) = ((i + 1 : Nat) : Int) := (wq (by omega) (by omega)).trans (by omega)
          have w2 : wrap64 (-1 - (i : Int)) = -1 - (i : Int) := wq (by omega) (by omega)
          refine Ev.step (fun k => ?_) e
          simp only [sashlaw07_FlatStill.l0]
          rw [if_pos (by omega), if_pos (by rw [negs_len]; omega), w1, w2]
      refine Ev.step (f := fun k => (flat_List.f k c.f0 c.f1.f0 c.f1.f1 c.f1.f2 c.f1.f3 c.f2 c.f3).bind fun t => sashlaw07_FlatStill.l0 k t ([] : List Int) 0 c.f0 c.f1.f0 c.f1.f1 c.f1.f2 c.f1.f3 c.f2 c.f3) (fun k => ?_) (Ev.bind (list_ev _ c hz (Nat.le_refl _)) (loop (panes c).length 0 (by omega)))
      simp only [sashlaw07_FlatStill.j0]
      rw [Bool.not_true, if_neg (by simp)]
end Go.Proofs.Ytfdmfgaiblfbhaa.Pure
/- Facts on the program's head, each once: the head's text as a row of signs, its words; what follows of them. -/
namespace Go.Proofs.Ytfdmfgaiblfbhaa.P
open Go.RowKit
def headSigns : List Char := [104, 97, 114, 110, 101, 115, 115, 32, 57, 48, 98, 52, 50, 100, 98, 100, 99, 50, 52, 54, 55, 51, 50, 51, 56, 57, 50, 48, 100, 50, 50, 98, 56, 57, 53, 102, 48, 48, 55, 48, 53, 101, 102, 48, 53, 53, 102, 54, 54, 55, 97, 57, 54, 56, 100, 50, 56, 97, 57, 52, 55, 52, 56, 57, 49, 49, 48, 97, 48, 101, 53, 55, 32, 99, 117, 116, 32, 97, 116, 32, 115, 97, 115, 104, 47, 115, 97, 115, 104, 108, 97, 119, 48, 55, 46, 70, 108, 97, 116, 78, 101, 120, 116, 115, 32, 115, 97, 115, 104, 47, 115, 97, 115, 104, 108, 97, 119, 48, 55, 46, 70, 108, 97, 116, 76, 105, 115, 116, 115, 32, 115, 97, 115, 104, 47, 115, 97, 115, 104, 108, 97, 119, 48, 52, 46, 82, 101, 99, 116, 67, 117, 116, 115, 32, 115, 97, 115, 104, 47, 115, 97, 115, 104, 108, 97, 119, 48, 57, 46, 65, 100, 106, 117, 115, 116, 83, 104, 97, 114, 101, 115, 32, 115, 97, 115, 104, 47, 115, 97, 115, 104, 108, 97, 119, 48, 57, 46, 65, 100, 106, 117, 115, 116, 69, 118, 101, 110, 115, 32, 115, 97, 115, 104, 47, 115, 97, 115, 104, 108, 97, 119, 49, 54, 46, 83, 112, 114, 101, 97, 100, 83, 105, 122, 101, 115, 32, 115, 97, 115, 104, 47, 115, 97, 115, 104, 108, 97, 119, 48, 55, 46, 70, 108, 97, 116, 67, 104, 97, 110, 103, 101, 115, 32, 115, 97, 115, 104, 47, 115, 97, 115, 104, 108, 97, 119, 48, 52, 46, 82, 101, 99, 116, 73, 110, 115, 105, 100, 101, 32, 115, 97, 115, 104, 47, 115, 97, 115, 104, 108, 97, 119, 48, 55, 46, 70, 108, 97, 116, 78, 97, 109, 101, 115, 32, 115, 97, 115, 104, 47, 115, 97, 115, 104, 108, 97, 119, 48, 57, 46, 65, 100, 106, 117, 115, 116, 83, 101, 116, 115, 32, 115, 97, 115, 104, 47, 115, 97, 115, 104, 108, 97, 119, 48, 52, 46, 82, 101, 99, 116, 77, 101, 101, 116, 115, 32, 115, 97, 115, 104, 47, 115, 97, 115, 104, 108, 97, 119, 48, 52, 46, 82, 101, 99, 116, 77, 97, 121, 115, 32, 115, 97, 115, 104, 47, 115, 97, 115, 104, 108, 97, 119, 48, 55, 46, 70, 108, 97, 116, 83, 116, 105, 108, 108, 32, 115, 97, 115, 104, 47, 115, 97, 115, 104, 108, 97, 119, 48, 53, 46, 67, 101, 108, 108, 77, 97, 121, 115, 32, 115, 97, 115, 104, 47, 115, 97, 115, 104, 108, 97, 119, 48, 53, 46, 67, 101, 108, 108, 83, 97, 109, 101, 32, 115, 97, 115, 104, 47, 115, 97, 115, 104, 108, 97, 119, 48, 53, 46, 67, 101, 108, 108, 67, 111, 117, 110, 116, 115, 32, 115, 97, 115, 104, 47, 115, 97, 115, 104, 108, 97, 119, 48, 56, 46, 76, 101, 97, 115, 116, 83, 117, 109, 115, 32, 115, 97, 115, 104, 47, 115, 97, 115, 104, 108, 97, 119, 48, 53, 46, 67, 101, 108, 108, 70, 105, 110, 100, 115, 32, 115, 97, 115, 104, 47, 115, 97, 115, 104, 108, 97, 119, 48, 56, 46, 76, 101, 97, 115, 116, 73, 115, 32, 115, 97, 115, 104, 47, 115, 97, 115, 104, 108, 97, 119, 48, 56, 46, 76, 101, 97, 115, 116, 70, 105, 116, 115, 32, 115, 97, 115, 104, 47, 115, 97, 115, 104, 108, 97, 119, 48, 56, 46, 76, 101, 97, 115, 116, 80, 97, 116, 104, 115, 32, 115, 97, 115, 104, 47, 115, 97, 115, 104, 108, 97, 119, 48, 53, 46, 67, 101, 108, 108, 80, 117, 116, 115, 32, 115, 97, 115, 104, 47, 115, 97, 115, 104, 108, 97, 119, 49, 50, 46, 83, 112, 108, 105, 116, 83, 105, 122, 101, 115, 32, 115, 97, 115, 104, 47, 115, 97, 115, 104, 108, 97, 119, 49, 54, 46, 83, 112, 114, 101, 97, 100, 65, 108, 108, 32, 115, 97, 115, 104, 47, 115, 97, 115, 104, 108, 97, 119, 49, 54, 46, 83, 112, 114, 101, 97, 100, 65, 116, 32, 115, 97, 115, 104, 47, 115, 97, 115, 104, 108, 97, 119, 49, 52, 46, 80, 117, 115, 104, 73, 115, 32, 115, 97, 115, 104, 47, 115, 97, 115, 104, 108, 97, 119, 49, 52, 46, 80, 117, 115, 104, 79, 110, 101, 32, 115, 97, 115, 104, 47, 115, 97, 115, 104, 108, 97, 119, 49, 52, 46, 80, 117, 115, 104, 70, 114, 97, 109, 101, 115, 32, 115, 97, 115, 104, 47, 115, 97, 115, 104, 108, 97, 119, 49, 52, 46, 80, 117, 115, 104, 67, 97, 110, 32, 115, 97, 115, 104, 47, 115, 97, 115, 104, 108, 97, 119, 49, 50, 46, 83, 112, 108, 105, 116, 73, 115, 32, 115, 97, 115, 104, 47, 115, 97, 115, 104, 108, 97, 119, 49, 50, 46, 83, 112, 108, 105, 116, 67, 97, 110].map Char.ofNat
def headWords : List (List Char) := [[104, 97, 114, 110, 101, 115, 115].map Char.ofNat,
  [57, 48, 98, 52, 50, 100, 98, 100, 99, 50, 52, 54, 55, 51, 50, 51, 56, 57, 50, 48, 100, 50, 50, 98, 56, 57, 53, 102, 48, 48, 55, 48, 53, 101, 102, 48, 53, 53, 102, 54, 54, 55, 97, 57, 54, 56, 100, 50, 56, 97, 57, 52, 55, 52, 56, 57, 49, 49, 48, 97, 48, 101, 53, 55].map Char.ofNat,
  [99, 117, 116].map Char.ofNat,
  [97, 116].map Char.ofNat,
  [115, 97, 115, 104, 47, 115, 97, 115, 104, 108, 97, 119, 48, 55, 46, 70, 108, 97, 116, 78, 101, 120, 116, 115].map Char.ofNat,
  [115, 97, 115, 104, 47, 115, 97, 115, 104, 108, 97, 119, 48, 55, 46, 70, 108, 97, 116, 76, 105, 115, 116, 115].map Char.ofNat,
  [115, 97, 115, 104, 47, 115, 97, 115, 104, 108, 97, 119, 48, 52, 46, 82, 101, 99, 116, 67, 117, 116, 115].map Char.ofNat,
  [115, 97, 115, 104, 47, 115, 97, 115, 104, 108, 97, 119, 48, 57, 46, 65, 100, 106, 117, 115, 116, 83, 104, 97, 114, 101, 115].map Char.ofNat,
  [115, 97, 115, 104, 47, 115, 97, 115, 104, 108, 97, 119, 48, 57, 46, 65, 100, 106, 117, 115, 116, 69, 118, 101, 110, 115].map Char.ofNat,
  [115, 97, 115, 104, 47, 115, 97, 115, 104, 108, 97, 119, 49, 54, 46, 83, 112, 114, 101, 97, 100, 83, 105, 122, 101, 115].map Char.ofNat,
  [115, 97, 115, 104, 47, 115, 97, 115, 104, 108, 97, 119, 48, 55, 46, 70, 108, 97, 116, 67, 104, 97, 110, 103, 101, 115].map Char.ofNat,
  [115, 97, 115, 104, 47, 115, 97, 115, 104, 108, 97, 119, 48, 52, 46, 82, 101, 99, 116, 73, 110, 115, 105, 100, 101].map Char.ofNat,
  [115, 97, 115, 104, 47, 115, 97, 115, 104, 108, 97, 119, 48, 55, 46, 70, 108, 97, 116, 78, 97, 109, 101, 115].map Char.ofNat,
  [115, 97, 115, 104, 47, 115, 97, 115, 104, 108, 97, 119, 48, 57, 46, 65, 100, 106, 117, 115, 116, 83, 101, 116, 115].map Char.ofNat,
  [115, 97, 115, 104, 47, 115, 97, 115, 104, 108, 97, 119, 48, 52, 46, 82, 101, 99, 116, 77, 101, 101, 116, 115].map Char.ofNat,
  [115, 97, 115, 104, 47, 115, 97, 115, 104, 108, 97, 119, 48, 52, 46, 82, 101, 99, 116, 77, 97, 121, 115].map Char.ofNat,
  [115, 97, 115, 104, 47, 115, 97, 115, 104, 108, 97, 119, 48, 55, 46, 70, 108, 97, 116, 83, 116, 105, 108, 108].map Char.ofNat,
  [115, 97, 115, 104, 47, 115, 97, 115, 104, 108, 97, 119, 48, 53, 46, 67, 101, 108, 108, 77, 97, 121, 115].map Char.ofNat,
  [115, 97, 115, 104, 47, 115, 97, 115, 104, 108, 97, 119, 48, 53, 46, 67, 101, 108, 108, 83, 97, 109, 101].map Char.ofNat,
  [115, 97, 115, 104, 47, 115, 97, 115, 104, 108, 97, 119, 48, 53, 46, 67, 101, 108, 108, 67, 111, 117, 110, 116, 115].map Char.ofNat,
  [115, 97, 115, 104, 47, 115, 97, 115, 104, 108, 97, 119, 48, 56, 46, 76, 101, 97, 115, 116, 83, 117, 109, 115].map Char.ofNat,
  [115, 97, 115, 104, 47, 115, 97, 115, 104, 108, 97, 119, 48, 53, 46, 67, 101, 108, 108, 70, 105, 110, 100, 115].map Char.ofNat,
  [115, 97, 115, 104, 47, 115, 97, 115, 104, 108, 97, 119, 48, 56, 46, 76, 101, 97, 115, 116, 73, 115].map Char.ofNat,
  [115, 97, 115, 104, 47, 115, 97, 115, 104, 108, 97, 119, 48, 56, 46, 76, 101, 97, 115, 116, 70, 105, 116, 115].map Char.ofNat,
  [115, 97, 115, 104, 47, 115, 97, 115, 104, 108, 97, 119, 48, 56, 46, 76, 101, 97, 115, 116, 80, 97, 116, 104, 115].map Char.ofNat,
  [115, 97, 115, 104, 47, 115, 97, 115, 104, 108, 97, 119, 48, 53, 46, 67, 101, 108, 108, 80, 117, 116, 115].map Char.ofNat,
  [115, 97, 115, 104, 47, 115, 97, 115, 104, 108, 97, 119, 49, 50, 46, 83, 112, 108, 105, 116, 83, 105, 122, 101, 115].map Char.ofNat,
  [115, 97, 115, 104, 47, 115, 97, 115, 104, 108, 97, 119, 49, 54, 46, 83, 112, 114, 101, 97, 100, 65, 108, 108].map Char.ofNat,
  [115, 97, 115, 104, 47, 115, 97, 115, 104, 108, 97, 119, 49, 54, 46, 83, 112, 114, 101, 97, 100, 65, 116].map Char.ofNat,
  [115, 97, 115, 104, 47, 115, 97, 115, 104, 108, 97, 119, 49, 52, 46, 80, 117, 115, 104, 73, 115].map Char.ofNat,
  [115, 97, 115, 104, 47, 115, 97, 115, 104, 108, 97, 119, 49, 52, 46, 80, 117, 115, 104, 79, 110, 101].map Char.ofNat,
  [115, 97, 115, 104, 47, 115, 97, 115, 104, 108, 97, 119, 49, 52, 46, 80, 117, 115, 104, 70, 114, 97, 109, 101, 115].map Char.ofNat,
  [115, 97, 115, 104, 47, 115, 97, 115, 104, 108, 97, 119, 49, 52, 46, 80, 117, 115, 104, 67, 97, 110].map Char.ofNat,
  [115, 97, 115, 104, 47, 115, 97, 115, 104, 108, 97, 119, 49, 50, 46, 83, 112, 108, 105, 116, 73, 115].map Char.ofNat,
  [115, 97, 115, 104, 47, 115, 97, 115, 104, 108, 97, 119, 49, 50, 46, 83, 112, 108, 105, 116, 67, 97, 110].map Char.ofNat]
theorem head_list : Try.prog.initOrder.toList = headSigns := by
  have e : Try.prog.initOrder = String.ofList headSigns := by kernel_rfl
  rw [e, String.toList_ofList]
theorem head_words : wordsSigns Try.prog.initOrder.toList = headWords := by
  rw [head_list]
  kernel_rfl
def headRest : List (List Char) := headWords.drop 3
theorem head_behind : behindMainWord (wordsSigns Try.prog.initOrder.toList) = ([99, 117, 116].map Char.ofNat) :: headRest := by
  rw [head_words]
  kernel_rfl
theorem cut_eq : ([99, 117, 116].map Char.ofNat : List Char) = "cut".toList := by decide +kernel
theorem head_behind' : behindMainWord (wordsSigns Try.prog.initOrder.toList) = "cut".toList :: headRest := head_behind.trans (congrArg (fun c => c :: headRest) cut_eq)
theorem strip_none (rest : List (List Char)) : stripLifts liftWords ("cut".toList :: rest) = ([], "cut".toList :: rest) := by
  have key : ∀ (l : List String), (l.all fun o => !("cut".toList == o.toList)) = true → stripLifts l ("cut".toList :: rest) = ([], "cut".toList :: rest) := by
    intro l
    induction l with
    | nil => intro _; rfl
    | cons o l ih =>
      intro h
      simp only [List.all_cons, Bool.and_eq_true] at h
      unfold stripLifts
      rw [if_neg (by simpa using h.1)]
      exact ih h.2
  exact key _ (by decide +kernel)
theorem make_of (P : Program) (rest : List (List Char)) (h : behindMainWord (wordsSigns P.initOrder.toList) = "cut".toList :: rest) : P.make = some .cut := by
  unfold Program.make
  rw [h]
  simp only
  have h1 : ("cut".toList == "gc".toList) = false := by decide +kernel
  have h2 : ("cut".toList == "spec".toList) = false := by decide +kernel
  rw [h1, h2, if_neg (by simp), if_pos (by simp)]
theorem lifts_of (P : Program) (rest : List (List Char)) (h : behindMainWord (wordsSigns P.initOrder.toList) = "cut".toList :: rest) : P.headLifts = [] := by
  unfold Program.headLifts
  simp only [h, strip_none]
  simp
theorem final_of (P : Program) (rest : List (List Char)) (h : behindMainWord (wordsSigns P.initOrder.toList) = "cut".toList :: rest) : P.liftsFinal = false := by
  have h1 : (some "cut".toList == some "carried".toList) = false := by decide +kernel
  unfold Program.liftsFinal
  simp only [h, lifts_of P rest h, List.head?_cons, h1, Bool.false_and, List.contains_nil, Bool.or_false]
theorem enter_of (P : Program) (rest : List (List Char)) (h : behindMainWord (wordsSigns P.initOrder.toList) = "cut".toList :: rest) (h1 : P.laysLater = false) (h2 : P.bearsReflect = false) (h3 : P.doorFits [] = true) : P.mayEnter = true := by
  unfold Program.mayEnter
  rw [h]
  simp only [strip_none]
  rw [h1, h2, h3]
  simp
theorem head_make : Try.prog.make = some .cut := make_of Try.prog headRest head_behind'
theorem head_final : Try.prog.liftsFinal = false := final_of Try.prog headRest head_behind'
theorem head_later : Try.prog.laysLater = false := by kernel_rfl
theorem head_reflect : Try.prog.bearsReflect = false := by kernel_rfl
theorem head_door : Try.prog.doorFits [] = true := by kernel_rfl
theorem head_enter : Try.prog.mayEnter = true := enter_of Try.prog headRest head_behind' head_later head_reflect head_door
theorem head_keys : (true == Try.prog.plainKeys) = true := by kernel_rfl
theorem head_heard : Try.prog.stopsHeard = true := by kernel_rfl
end Go.Proofs.Ytfdmfgaiblfbhaa.P
/- joinedFacts out of its parts, over any program. -/
namespace Go.Proofs.Ytfdmfgaiblfbhaa.P
open Go.RowKit
theorem joined_mk {P : Program} {f : FuncId} {fn : Func} {s : ChangeSpec} {c : OpenClaim}
    (h0 : (c.wf (OpenSpec.ofChange s)) = true)
    (h1 : (laidOutB P) = true)
    (h2 : (mapsRowed P) = true)
    (h3 : (fn.params.all (P.readableRec ·)) = true)
    (h4 : (namedTie P c.named s.vars) = true)
    (h5 : ((c.stops == [])) = true)
    (h6 : ((P.stops == [])) = true)
    (h7 : ((c.knobs == [])) = true)
    (h8 : ((P.stopKnobs == [])) = true)
    (h9 : ((c.inPlace == P.inPlace f)) = true)
    (h10 : ((c.unfollowed == P.unfollowed f)) = true)
    (h11 : ((c.recurses == P.recurses f)) = true)
    (h12 : ((c.named == P.varsNamed f)) = true)
    (h13 : ((c.maps == (fn.params.toList ++ s.plain.varTypes P).any (P.mapsRec ·))) = true)
    (h14 : ((c.ifaces == (fn.params.toList ++ s.plain.varTypes P).any (P.ifacesRec ·))) = true)
    (h15 : ((c.mapsOut == P.mapsAmong fn.resultTypes.toList)) = true)
    (h16 : ((c.loops == (fn.params.toList ++ s.plain.varTypes P).any (P.loopsFrom ·))) = true)
    (h17 : ((c.wideKeys == (fn.params.toList ++ s.plain.varTypes P ++ fn.resultTypes.toList).any (P.wideKeysFrom ·))) = true)
    (h18 : (s.vars.all (P.varReadable ·)) = true)
    (h19 : (fn.resultTypes.all (fun t => P.readableRec t && decide (t < P.types.size))) = true)
    (h20 : ((c.ifacesOut == fn.resultTypes.toList.any (P.ifacesRec ·))) = true)
    (h21 : ((c.loopsOut == fn.resultTypes.toList.any (P.loopsFrom ·))) = true)
    (h22 : ((c.plainKeys == P.plainKeys)) = true)
    (h23 : (c.shortTexts.isNone) = true)
    (h24 : (P.stopsHeard) = true)
    (h25 : (P.mayEnter) = true)
    (h26 : ((c.lifted == P.liftsFinal)) = true)
    (h27 : ((P.make == some c.make)) = true)
    (hd : c.domain.isEmpty = true) (hk : c.kinds = [])
    (h29 : ((c.pinned == c.pinnedBy)) = true)
    (h30 : ((c.veiled == (fn.params.toList ++ s.plain.varTypes P ++ fn.resultTypes.toList).any (P.veiledRec ·))) = true)
    (h31 : (c.veiledFits P fn.params.toList (fn.params.toList ++ s.plain.varTypes P ++ fn.resultTypes.toList)) = true)
    : joinedFacts P f fn s c = true := by
  unfold joinedFacts
  rw [h0, h1, h2, h3, h4, h5, h6, h7, h8, h9, h10, h11, h12, h13, h14, h15, h16, h17, h18, h19, h20, h21, h22, h23, h24, h25, h26, h27, if_pos hd, hk, h29, h30, h31]
  rfl
end Go.Proofs.Ytfdmfgaiblfbhaa.P
/- How a law's arguments read, with their bulk: a tree has no more cells than its reading has bulk. -/
namespace Go.Proofs.Ytfdmfgaiblfbhaa.P
open Go.RowKit Go.Proofs.YtfdmfgaiblfbhaaW.PrintWords Go.Proofs.YtfdmfgaiblfbhaaW.PrintLast Go.Proofs.YtfdmfgaiblfbhaaW.PrintMore
open Go.ChangeShapes Go.WideShapes Go.ChangeAt Go.Joins Go.Deep

section
variable {H : Type} {enc : TypeId × Value → H} {P : Program} {w : World} {base : Nat} {spare : Nat → Bool} {held : Bool}
theorem bulk_pos (d : DataW H) : 1 ≤ Rows.uptoBulk d := by
  cases d with
  | lit l => cases l <;> simp [Rows.uptoBulk]
  | _ => simp [Rows.uptoBulk]
theorem bulk_len (l : List (DataW H)) : l.length ≤ Rows.uptoBulkAll l := by
  induction l with
  | nil => simp
  | cons x xs ih =>
    have := bulk_pos x
    simp only [Rows.uptoBulkAll, List.length_cons]
    omega
theorem bulk_sum {α : Type} (m : α → Nat) : ∀ (l : List α) (es : List (DataW H)), l.length = es.length → (∀ (i : Nat) (p : α) (e : DataW H), l[i]? = some p → es[i]? = some e → m p ≤ Rows.uptoBulk e) → (l.map m).sum ≤ Rows.uptoBulkAll es := by
  intro l
  induction l with
  | nil => intro es _ _; simp
  | cons x xs ih =>
    intro es hl h
    cases es with
    | nil => simp at hl
    | cons e es =>
      have h0 := h 0 x e rfl rfl
      have h1 := ih es (by simpa using hl) (fun i p e hp he => h (i + 1) p e (by simpa using hp) (by simpa using he))
      simp only [List.map_cons, List.sum_cons, Rows.uptoBulkAll]
      omega
theorem trod_struct4z {t : TypeId} {f0 f1 f2 f3 : Field} {fuel : Nat} {cs : List Value} {x : DataW H × List MemPlace} (ht : P.underlying t = some (.struct #[f0, f1, f2, f3])) (h : DataW.trod enc P w base spare held fuel t cs = some x) :
    ∃ y0 y1 y2 y3 n, fuel = n + 1 ∧ x.1 = .agg [y0.1, y1.1, y2.1, y3.1] ∧ cs.length = P.cellsOf t ∧ DataW.trod enc P w base spare held n f0.type ((cs.drop f0.offset).take (P.cellsOf f0.type)) = some y0 ∧
      DataW.trod enc P w base spare held n f1.type ((cs.drop f1.offset).take (P.cellsOf f1.type)) = some y1 ∧ DataW.trod enc P w base spare held n f2.type ((cs.drop f2.offset).take (P.cellsOf f2.type)) = some y2 ∧
      DataW.trod enc P w base spare held n f3.type ((cs.drop f3.offset).take (P.cellsOf f3.type)) = some y3 := by
  obtain ⟨xs, n, hn, rfl, hl, hlen, hf⟩ := DataW.trod_struct ht h
  match xs, hlen with
  | [y0, y1, y2, y3], _ => exact ⟨y0, y1, y2, y3, n, hn, rfl, hl, by simpa using hf 0 f0 rfl, by simpa using hf 1 f1 rfl, by simpa using hf 2 f2 rfl, by simpa using hf 3 f3 rfl⟩
/-- A row whose elements read: so many, and of such a bulk. -/
theorem open_rowz {α : Type} {k : Kd α} {ok : α → Prop} (m : α → Nat) {t e : TypeId} {fuel : Nat} {cs : List Value} {x : DataW H × List MemPlace} (ht : P.underlying t = some (.slice e)) (hs : k.sz = P.cellsOf e)
    (hE : ∀ n, n < fuel → ∀ cs y, DataW.trod enc P w base spare held n e cs = some y → ∃ p, k.K w p cs ∧ ok p ∧ m p ≤ Rows.uptoBulk y.1) (h : DataW.trod enc P w base spare held fuel t cs = some x) :
    ∃ A c l, cs = [.slice A (l : List α).length c] ∧ l.length ≤ c ∧ k.C w A l.length l ∧ (∀ p, p ∈ l → ok p) ∧ (l.map m).sum < Rows.uptoBulk x.1 ∧ l.length < Rows.uptoBulk x.1 := by
  rcases DataW.trod_slice ht h with ⟨rfl, rfl⟩ | ⟨a, len, cap, elems, rest, n, hn, rfl, rfl, hb, hl, hm, hlen, hel, hsp, hns⟩
  · exact ⟨none, 0, [], rfl, Nat.le_refl _, ⟨rfl, by simp, fun h => absurd h (by simp)⟩, (fun p hp => by cases hp), (by simp [Rows.uptoBulk]), (by simp [Rows.uptoBulk])⟩
  · obtain ⟨l, hl2, hq⟩ := row_of (α := α) (Q := fun i p => ok p ∧ (∃ c, c.length = k.sz ∧ k.K w p c ∧ ∀ j u, c[j]? = some u → w.cell? (a.add (i * k.sz + j)) = some u) ∧ ∀ e, elems[i]? = some e → m p ≤ Rows.uptoBulk e.1) len (fun i hi => by
      have key := hel i hi
      rw [List.getElem?_eq_getElem (by omega)] at key
      obtain ⟨cs', h1, h2⟩ := Option.bind_eq_some_iff.1 key
      obtain ⟨p, hp, hok, hm⟩ := hE n (by omega) cs' _ h2
      obtain ⟨h3, h4⟩ := cells_at h1
      refine ⟨p, hok, ⟨cs', by rw [h3, hs], hp, fun j u hj => ?_⟩, fun e he => ?_⟩
      · rw [hs, ← Deep.add_add]
        exact h4 j u hj
      · rw [List.getElem?_eq_getElem (by omega)] at he
        cases he
        exact hm)
    subst hl2
    refine ⟨some a, cap, l, rfl, hl, ⟨rfl, by unfold maxLen at hm; omega, fun _ => ⟨a, rfl, fun j p hj => ?_⟩⟩, fun p hp => ?_, ?_, ?_⟩
    · obtain ⟨_, ⟨c, h1, h2, h3⟩, _⟩ := hq j p hj
      exact ⟨c, h1, h2, h3⟩
    · obtain ⟨i, hi, rfl⟩ := List.getElem_of_mem hp
      exact (hq i _ (List.getElem?_eq_getElem hi)).1
    · have := bulk_sum m l (elems.map (·.1)) (by simp [hlen]) (fun i p e hp he => by
        rw [List.getElem?_map] at he
        obtain ⟨e', he', rfl⟩ := Option.map_eq_some_iff.1 he
        exact (hq i p hp).2.2 e' he')
      simp only [Rows.uptoBulk]
      omega
    · have := bulk_len (elems.map (·.1))
      simp only [List.length_map] at this
      simp only [Rows.uptoBulk]
      omega
end
section
variable {H : Type} {enc : TypeId × Value → H} {w : World} {base : Nat} {spare : Nat → Bool} {held : Bool}
set_option maxRecDepth 100000 in
theorem read26nz : ∀ (fuel : Nat) {cs : List Value} {x : DataW H × List MemPlace} (_ : DataW.trod enc Try.prog w base spare held fuel 26 cs = some x), ∃ r : S26, (Kd.upto F26 7 [26] fuel).K w r cs ∧ wfn26 fuel r ∧ sz r ≤ Rows.uptoBulk x.1 := by
  intro fuel
  induction fuel using Nat.strongRecOn with
  | _ fuel ih =>
  intro cs x h
  cases fuel with
  | zero => simp [DataW.trod] at h
  | succ fuel =>
    obtain ⟨y0, y1, y2, y3, m, hm, hx, hl, h0, h1, h2, h3⟩ := trod_struct4z Try.underlying26 h
    obtain rfl : fuel = m := by omega
    rw [cells26] at hl
    match cs, hl with
    | [c0, c1, c2, c3, c4, c5, c6], _ =>
        simp only [cells3, cells5, cells23, cells24, List.drop_zero, List.take_succ_cons, List.take_zero, List.drop_succ_cons] at h0 h1 h2 h3
        obtain ⟨n0, e0, _, w0⟩ := DataW.trod_int Try.underlying5 h0
        obtain ⟨n2, e2, _, w2⟩ := DataW.trod_int Try.underlying3 h2
        simp only [List.cons.injEq, and_true] at e0 e2
        subst e0 e2
        obtain ⟨r, hr, hw⟩ := read23 h1
        obtain e1 := k23_open hr
        simp only [List.cons.injEq, and_true] at e1
        obtain ⟨rfl, rfl, rfl, rfl⟩ := e1
        obtain ⟨A, c, l, e3, hlc, hC, hok, hsum, _⟩ := open_rowz (k := Kd.upto F26 7 [26] fuel) (ok := wfn26 fuel) sz Try.underlying24 (by rw [sz26, cells26]) (fun n hn cs y hy => by
          obtain ⟨p, hp, hok, hz⟩ := ih n (by omega) hy
          exact ⟨p, Kd.upto_K_le mono26 sz26 (by omega) hp, wfn26_le (by omega) hok, hz⟩) h3
        simp only [List.cons.injEq, and_true] at e3
        subst e3
        have hlen9 : l.length ≤ 9223372036854775807 := hC.2.1
        refine ⟨⟨n0, r, n2, l⟩, ?_, ⟨u8_of w0, hw, i64_of w2, hlen9, hok⟩, ?_⟩
        · exact ⟨[.int .u8 n0], [.int .i64 r.f0, .int .i64 r.f1, .int .i64 r.f2, .int .i64 r.f3, .int .i64 n2, .slice A l.length c], rfl, rfl, [.int .i64 r.f0, .int .i64 r.f1, .int .i64 r.f2, .int .i64 r.f3], [.int .i64 n2, .slice A l.length c], rfl, k23_mk w r, [.int .i64 n2], [.slice A l.length c], rfl, rfl, A, c, rfl, hlc, hC⟩
        · rw [hx, sz_eq]
          have := szL_sum l
          simp only [Rows.uptoBulk, Rows.uptoBulkAll]
          have h3 := bulk_pos y0.1
          omega
theorem read26z {fuel : Nat} {cs : List Value} {x : DataW H × List MemPlace} (h : DataW.trod enc Try.prog w base spare held fuel 26 cs = some x) : ∃ r : S26, k26.K w r cs ∧ wf26 r ∧ sz r ≤ Rows.uptoBulk x.1 := by
  obtain ⟨r, hr, hw, hz⟩ := read26nz fuel h
  exact ⟨r, ⟨fuel, hr⟩, ⟨fuel, hw⟩, hz⟩
end
end Go.Proofs.Ytfdmfgaiblfbhaa.P
/- The row of the law FlatStill, second form (what it reads is of bulk at most 1048576), out of its plain law and its walk. -/
namespace Go.Proofs.Ytfdmfgaiblfbhaa.flatStillUpto
open Go.ChangeShapes Go.WideShapes Go.ChangeAt Go.RowKit Go.Proofs.Ytfdmfgaiblfbhaa.P Go.Proofs.YtfdmfgaiblfbhaaW.PrintWords
open Go.ChangeMaps (open_string shut_string)
theorem own : ownKnob Try.prog.godebug = none := by kernel_rfl
theorem laidOut : laidOutB Try.prog = true := by kernel_rfl
set_option maxRecDepth 100000 in
theorem lifted (os : Os) (started : os.Started) (H : Type) (enc : TypeId × Value → H) (F : Stop.Interp) :
    ReturnsInHanded {} Try.checked os 15 .any ((Rows.OpenSpec.upto Rows.flatStillSpec).pre6 enc Try.prog Try.f15 Rows.flatStillUptoRow.domain false) (((Rows.OpenSpec.upto Rows.flatStillSpec).at F).post enc Try.prog Try.f15 false true false false) := by
  refine returnsInHanded_of_cond (C := Try.checked) (s := Rows.OpenSpec.upto Rows.flatStillSpec) (k := Rows.uptoSmall) rfl own started (by kernel_rfl) Try.func15
    (OpenSpec.witness (enc := enc) (C := Try.checked) (s := Rows.OpenSpec.upto Rows.flatStillSpec) (k := Rows.uptoSmall) rfl false ⟨#[], #[.agg #[.int .u8 0, .int .i64 0, .int .i64 0, .int .i64 0, .int .i64 0, .int .i64 0, .slice none 0 0]], []⟩ 8 (by kernel_rfl) (by kernel_rfl) (by kernel_rfl)
      (x := ([.agg [.lit (.int .u8 0), .agg [.lit (.int .i64 0), .lit (.int .i64 0), .lit (.int .i64 0), .lit (.int .i64 0)], .lit (.int .i64 0), .nil]], [], [])) (by kernel_rfl) rfl (by kernel_rfl)) ?_
  intro W base args ds gs before hval0 hW hcnd hk0 _
  have hval : ∀ (j : Nat) t v, Try.f15.params[j]? = some t → args[j]? = some v → Value.okWide Try.prog W .any base t v := hval0
  have hW' := hW
  obtain ⟨p, q, hA0, hV, rfl, hfz, hnd⟩ := hW
  have hA : DataW.TrodAll enc Try.prog W 0 (fun _ => true) true Try.f15.params.toList args.toList ds p := hA0
  rw [Try.params15] at hA hval
  obtain ⟨v0, vs0, d0, ds0, p0, q0, hargs, rfl, rfl, h0, r0⟩ := trodAll_cons hA
  obtain ⟨rfl, rfl, rfl⟩ := trodAll_nil r0
  obtain rfl : args = #[v0] := by cases args; simp_all
  obtain ⟨rfl, rfl⟩ := trodVars_none hV
  have hB := of_decide_eq_true hk0
  simp only [List.cons_append, List.nil_append, List.append_nil, Rows.uptoBulkAll] at hB
  have z0 : Rows.uptoBulk d0 ≤ 1048576 := by omega
  have k0 := h0
  have lt0 : ∀ x ∈ p0, x.block < W.heap.size := by obtain ⟨m, hm⟩ := k0; exact DataW.trod_lt m _ _ _ hm
  obtain ⟨fuel0, hf0⟩ := h0
  obtain ⟨cs0, rfl, _⟩ := okWide_struct Try.underlying26 (hval 0 26 v0 rfl rfl)
  obtain ⟨a0, b0, w0, y0⟩ := read26z hf0
  obtain ⟨A0, c0, e0, hc0, hr0⟩ := k26_open b0
  obtain rfl := agg_of e0
  obtain ⟨k, hP⟩ := Pure.FlatStill a0 w0 (Nat.le_trans y0 z0)
  refine (sashlaw07_FlatStill.calls k a0.f0 a0.f1.f0 a0.f1.f1 a0.f1.f2 a0.f1.f3 a0.f2 _ _ a0.f3 true W hr0 hc0 hP).mono fun e W' ⟨he, bel0⟩ => ?_
  have bel : Below W.heap.size W W' := bel0
  subst he
  exact ⟨_, rfl, _, _, _, [], _, [], hW', trodAll_mk1 (shut_bool Try.underlying4 _), (trodAll_cons_mk (Below.trod laidOut (by kernel_rfl) (of_decide_eq_true (by kernel_rfl)) k0 bel lt0) trodAll_mk0), rfl, bel.frame _, fun h => by cases h⟩
theorem j0 : (Rows.flatStillUptoRow.wf (OpenSpec.ofChange (Rows.OpenSpec.upto Rows.flatStillSpec).bare)) = true := by kernel_rfl
theorem j1 : (laidOutB Try.prog) = true := by kernel_rfl
theorem j2 : (mapsRowed Try.prog) = true := by kernel_rfl
theorem j3 : (Try.f15.params.all (Try.prog.readableRec ·)) = true := by kernel_rfl
theorem j4 : (namedTie Try.prog Rows.flatStillUptoRow.named (Rows.OpenSpec.upto Rows.flatStillSpec).bare.vars) = true := by kernel_rfl
theorem j5 : ((Rows.flatStillUptoRow.stops == [])) = true := by kernel_rfl
theorem j6 : ((Try.prog.stops == [])) = true := by kernel_rfl
theorem j7 : ((Rows.flatStillUptoRow.knobs == [])) = true := by kernel_rfl
theorem j8 : ((Try.prog.stopKnobs == [])) = true := by kernel_rfl
theorem j9 : ((Rows.flatStillUptoRow.inPlace == Try.prog.inPlace 15)) = true := by kernel_rfl
theorem j10 : ((Rows.flatStillUptoRow.unfollowed == Try.prog.unfollowed 15)) = true := by kernel_rfl
theorem j11 : ((Rows.flatStillUptoRow.recurses == Try.prog.recurses 15)) = true := by kernel_rfl
theorem j12 : ((Rows.flatStillUptoRow.named == Try.prog.varsNamed 15)) = true := by kernel_rfl
theorem j13 : ((Rows.flatStillUptoRow.maps == (Try.f15.params.toList ++ (Rows.OpenSpec.upto Rows.flatStillSpec).bare.plain.varTypes Try.prog).any (Try.prog.mapsRec ·))) = true := by kernel_rfl
theorem j14 : ((Rows.flatStillUptoRow.ifaces == (Try.f15.params.toList ++ (Rows.OpenSpec.upto Rows.flatStillSpec).bare.plain.varTypes Try.prog).any (Try.prog.ifacesRec ·))) = true := by kernel_rfl
theorem j15 : ((Rows.flatStillUptoRow.mapsOut == Try.prog.mapsAmong Try.f15.resultTypes.toList)) = true := by kernel_rfl
theorem j16 : ((Rows.flatStillUptoRow.loops == (Try.f15.params.toList ++ (Rows.OpenSpec.upto Rows.flatStillSpec).bare.plain.varTypes Try.prog).any (Try.prog.loopsFrom ·))) = true := by kernel_rfl
theorem j17 : ((Rows.flatStillUptoRow.wideKeys == (Try.f15.params.toList ++ (Rows.OpenSpec.upto Rows.flatStillSpec).bare.plain.varTypes Try.prog ++ Try.f15.resultTypes.toList).any (Try.prog.wideKeysFrom ·))) = true := by kernel_rfl
theorem j18 : ((Rows.OpenSpec.upto Rows.flatStillSpec).bare.vars.all (Try.prog.varReadable ·)) = true := by kernel_rfl
theorem j19 : (Try.f15.resultTypes.all (fun t => Try.prog.readableRec t && decide (t < Try.prog.types.size))) = true := by kernel_rfl
theorem j20 : ((Rows.flatStillUptoRow.ifacesOut == Try.f15.resultTypes.toList.any (Try.prog.ifacesRec ·))) = true := by kernel_rfl
theorem j21 : ((Rows.flatStillUptoRow.loopsOut == Try.f15.resultTypes.toList.any (Try.prog.loopsFrom ·))) = true := by kernel_rfl
theorem j23 : (Rows.flatStillUptoRow.shortTexts.isNone) = true := by kernel_rfl
theorem j29 : ((Rows.flatStillUptoRow.pinned == Rows.flatStillUptoRow.pinnedBy)) = true := by kernel_rfl
theorem j30 : ((Rows.flatStillUptoRow.veiled == (Try.f15.params.toList ++ (Rows.OpenSpec.upto Rows.flatStillSpec).bare.plain.varTypes Try.prog ++ Try.f15.resultTypes.toList).any (Try.prog.veiledRec ·))) = true := by kernel_rfl
theorem j31 : (Rows.flatStillUptoRow.veiledFits Try.prog Try.f15.params.toList (Try.f15.params.toList ++ (Rows.OpenSpec.upto Rows.flatStillSpec).bare.plain.varTypes Try.prog ++ Try.f15.resultTypes.toList)) = true := by kernel_rfl
theorem closed : joinedFacts Try.prog 15 Try.f15 (Rows.OpenSpec.upto Rows.flatStillSpec).bare Rows.flatStillUptoRow = true := P.joined_mk j0 j1 j2 j3 j4 j5 j6 j7 j8 j9 j10 j11 j12 j13 j14 j15 j16 j17 j18 j19 j20 j21 P.head_keys j23 P.head_heard P.head_enter (by rw [P.head_final]; rfl) (by rw [P.head_make]; rfl) rfl rfl j29 j30 j31
theorem over : Rows.flatStillUptoRow.holds Try.pinned (Rows.OpenSpec.upto Rows.flatStillSpec) :=
  OpenClaim.holds_of_cond 15 Try.f15 rfl rfl rfl rfl rfl rfl rfl ⟨rfl, rfl, rfl, rfl, rfl⟩ rfl rfl rfl rfl rfl (by kernel_rfl) Try.func15 closed
    (of_decide_eq_true (by kernel_rfl)) (by unfold Func.isWrapper; first | (rw [if_pos (by decide +kernel)]; kernel_rfl) | (rw [if_neg (by decide +kernel)]; exact ⟨rfl, rfl⟩))
    (fun os started H enc _ F => lifted os started H enc F)
theorem proved : Rows.FlatStillUptoSaid := over
#print axioms proved
end Go.Proofs.Ytfdmfgaiblfbhaa.flatStillUpto
namespace Go.Proofs.Ytfdmfgaiblfbhaa
/-- The row, under a short name, for the claim. -/
theorem flatStillUpto_holds : Rows.FlatStillUptoSaid := flatStillUpto.proved
end Go.Proofs.Ytfdmfgaiblfbhaa
