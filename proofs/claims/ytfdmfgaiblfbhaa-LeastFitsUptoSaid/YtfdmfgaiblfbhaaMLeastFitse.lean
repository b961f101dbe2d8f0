/- LeastFits: part 5 of 7 of this claim's texts, one behind the other. The words of the kit's printer stand in it cut down, by a program, to those that are used. -/
import Derived.Test.YtfdmfgaiblfbhaaMLeastFitsd
import Derived.Test.YtfdmfgaiblfbhaaMLeastFitsc
import Derived.Maps.OwnOps
import Derived.Maps.Views
import Derived.ProofKit
import Derived.Deep.Slices
import Derived.Lib.SmallJoins
import Derived.OpenShut
/- Trees of cells: their size, their cells, their leaves, their panes: the reference's functions, as plain data. -/
namespace Go.Proofs.Ytfdmfgaiblfbhaa.P
open Go.RowKit Go.Proofs.YtfdmfgaiblfbhaaW.PrintWords Go.Proofs.YtfdmfgaiblfbhaaW.PrintLast Go.Proofs.YtfdmfgaiblfbhaaW.PrintMore

theorem rd26_in (pre : List S26) (p : S26) (rest : List S26) : rd_T26 (pre ++ p :: rest) (pre.length : Int) = p := by
  simp [rd_T26, List.getD_eq_getElem?_getD]
theorem up_in {α : Type} (pre : List α) (p : α) (rest : List α) (h : (pre ++ p :: rest).length ≤ 9223372036854775807) : wrap64 ((pre.length : Int) + 1) = ((pre ++ [p]).length : Int) := by
  simp only [List.length_append, List.length_cons, List.length_nil] at h ⊢
  rw [wq (by omega) (by omega)]
  omega

/-- THE COUNT, that ends once it is above a bound. -/
theorem count_ev (L : Int) : ∀ (N : Nat) (c : S26), sz c ≤ N → N ≤ 1048576 → ∃ n : Int, Ev (fun k => sashref05_count.f k c.f0 c.f1.f0 c.f1.f1 c.f1.f2 c.f1.f3 c.f2 c.f3 L) n ∧ 1 ≤ n ∧ n ≤ (sz c : Int) ∧ (n > L ∨ n = (sz c : Int)) := by
  intro N
  induction N with
  | zero => intro c h _; rw [sz_eq] at h; omega
  | succ N ih =>
    intro c hc hN
    have hs := sz_eq c
    have key : ∀ (rest pre : List S26), pre ++ rest = c.f3 → ∀ acc : Int, 1 ≤ acc → acc + (szL rest : Int) ≤ 1048576 → (acc > L ∨ acc = 1 + (szL pre : Int)) →
        ∃ n : Int, Ev (fun k => sashref05_count.l0 k L acc (c.f3.length : Int) (pre.length : Int) c.f0 c.f1.f0 c.f1.f1 c.f1.f2 c.f1.f3 c.f2 c.f3) n ∧ acc ≤ n ∧ n ≤ acc + (szL rest : Int) ∧ (n > L ∨ n = 1 + (szL c.f3 : Int)) := by
      intro rest
      induction rest with
      | nil =>
        intro pre hp acc h1 h2 h3
        rw [List.append_nil] at hp
        refine ⟨acc, Ev.step (f := fun _ => some acc) (fun k => ?_) (Ev.now _), by omega, by omega, by rw [← hp]; exact h3⟩
        simp only [sashref05_count.l0]
        rw [if_neg (by rw [hp]; omega)]
      | cons x xs ihr =>
        intro pre hp acc h1 h2 h3
        have hl : (pre.length : Int) < (c.f3.length : Int) := by rw [← hp, List.length_append, List.length_cons]; omega
        have hlen := szL_len c.f3
        by_cases hL : acc > L
        · refine ⟨acc, Ev.step (f := fun _ => some acc) (fun k => ?_) (Ev.now _), by omega, by omega, .inl hL⟩
          simp only [sashref05_count.l0]
          rw [if_pos hl, if_pos hL]
        · have h3' : acc = 1 + (szL pre : Int) := by omega
          have hsum : szL c.f3 = szL pre + (sz x + szL xs) := by rw [← hp, szL_app, szL_cons]
          obtain ⟨n1, e1, a1, b1, c1⟩ := ih x (by omega) (by omega)
          rw [szL_cons] at h2
          obtain ⟨n, e2, a2, b2, c2⟩ := ihr (pre ++ [x]) (by rw [List.append_assoc]; exact hp) (acc + n1) (by omega) (by omega) (by
            rw [szL_app, szL_cons, szL_nil]
            omega)
          refine ⟨n, ?_, by omega, by rw [szL_cons]; omega, c2⟩
          have hw : wrap64 (acc + n1) = acc + n1 := wq (by omega) (by omega)
          have hr : rd_T26 c.f3 (pre.length : Int) = x := by rw [← hp]; exact rd26_in pre x xs
          have hu : wrap64 ((pre.length : Int) + 1) = ((pre ++ [x]).length : Int) := up_in pre x xs (by rw [hp]; omega)
          refine Ev.step (f := fun k => (sashref05_count.f k x.f0 x.f1.f0 x.f1.f1 x.f1.f2 x.f1.f3 x.f2 x.f3 L).bind fun t => sashref05_count.l0 k L (wrap64 (acc + t)) (c.f3.length : Int) (wrap64 ((pre.length : Int) + 1)) c.f0 c.f1.f0 c.f1.f1 c.f1.f2 c.f1.f3 c.f2 c.f3) (fun k => ?_) (Ev.bind e1 ?_)
          · simp only [sashref05_count.l0]
            rw [if_pos hl, if_neg hL, if_pos (by omega), if_pos hl, hr]
          · rw [hw, hu]
            exact e2
    obtain ⟨n, e, a, b, d⟩ := key c.f3 [] rfl 1 (by omega) (by omega) (.inr (by rw [szL_nil]; rfl))
    refine ⟨n, Ev.step (fun k => ?_) e, a, by omega, by omega⟩
    simp only [sashref05_count.f]
    rfl
theorem great_ev (c : S26) (h : sz c ≤ 1048576) : ∃ b : Bool, Ev (fun k => sashref05_Great.f k c.f0 c.f1.f0 c.f1.f1 c.f1.f2 c.f1.f3 c.f2 c.f3) b ∧ (b = false → sz c ≤ 200) := by
  obtain ⟨n, e, h1, h2, h3⟩ := count_ev 200 1048576 c h (Nat.le_refl _)
  refine ⟨decide (n > 200), ?_, fun hb => ?_⟩
  · unfold sashref05_Great.f
    exact Ev.bind e (Ev.now _)
  · have := of_decide_eq_false hb
    omega

/-- ALL CELLS. -/
theorem all_cells : ∀ (N : Nat) (c : S26), sz c ≤ N → N ≤ 1048576 → Ev (fun k => sashref05_All.f k c.f0 c.f1.f0 c.f1.f1 c.f1.f2 c.f1.f3 c.f2 c.f3) (allC c) := by
  intro N
  induction N with
  | zero => intro c h _; rw [sz_eq] at h; omega
  | succ N ih =>
    intro c hc hN
    have hs := sz_eq c
    have key : ∀ (rest pre : List S26), pre ++ rest = c.f3 → Ev (fun k => sashref05_All.l0 k (c :: allL pre) (c.f3.length : Int) (pre.length : Int) c.f0 c.f1.f0 c.f1.f1 c.f1.f2 c.f1.f3 c.f2 c.f3) (allC c) := by
      intro rest
      induction rest with
      | nil =>
        intro pre hp
        rw [List.append_nil] at hp
        refine Ev.step (f := fun _ => some (allC c)) (fun k => ?_) (Ev.now _)
        simp only [sashref05_All.l0]
        rw [if_neg (by rw [hp]; omega), hp, allC_eq]
      | cons x xs ihr =>
        intro pre hp
        have hl : (pre.length : Int) < (c.f3.length : Int) := by rw [← hp, List.length_append, List.length_cons]; omega
        have hlen := szL_len c.f3
        have hsum : szL c.f3 = szL pre + (sz x + szL xs) := by rw [← hp, szL_app, szL_cons]
        have e2 := ihr (pre ++ [x]) (by rw [List.append_assoc]; exact hp)
        have hr : rd_T26 c.f3 (pre.length : Int) = x := by rw [← hp]; exact rd26_in pre x xs
        have hu : wrap64 ((pre.length : Int) + 1) = ((pre ++ [x]).length : Int) := up_in pre x xs (by rw [hp]; omega)
        have ha : c :: allL (pre ++ [x]) = (c :: allL pre) ++ allC x := by rw [allL_app, allL_cons, allL_nil, List.append_nil, List.cons_append]
        have hb : (c :: allL pre).length + (allC x).length < 1954687338268 := by
          have h1 : (allL pre).length = szL pre := rfl
          have h2 : (allC x).length = sz x := rfl
          rw [List.length_cons, h1, h2]
          omega
        rw [ha] at e2
        refine Ev.step (f := fun k => (sashref05_All.f k x.f0 x.f1.f0 x.f1.f1 x.f1.f2 x.f1.f3 x.f2 x.f3).bind fun t => (if (c :: allL pre).length + t.length < 1954687338268 then (sashref05_All.l0 k ((c :: allL pre) ++ t) (c.f3.length : Int) (wrap64 ((pre.length : Int) + 1)) c.f0 c.f1.f0 c.f1.f1 c.f1.f2 c.f1.f3 c.f2 c.f3) else none)) (fun k => ?_) (Ev.bind (ih x (by omega) (by omega)) (ev_pos hb ?_))
        · simp only [sashref05_All.l0]
          rw [if_pos hl, if_pos (by omega), if_pos hl, hr]
        · rw [hu]
          exact e2
    refine Ev.step (fun k => ?_) (key c.f3 [] rfl)
    simp only [sashref05_All.f, allL_nil, eta26]
    rfl

/-- The leaves. -/
def leavesC (c : S26) : List S26 := (allC c).filter fun x => decide (x.f0 = 1)
theorem leaves_len (c : S26) : (leavesC c).length ≤ sz c := List.length_filter_le _ _
theorem leaves_ev (c : S26) (h : sz c ≤ 1048576) : Ev (fun k => sashref05_Leaves.f k c.f0 c.f1.f0 c.f1.f1 c.f1.f2 c.f1.f3 c.f2 c.f3) (leavesC c) := by
  unfold sashref05_Leaves.f
  refine Ev.bind (all_cells _ c h (Nat.le_refl _)) ?_
  have key : ∀ (rest pre : List S26), pre ++ rest = allC c → Ev (fun k => sashref05_Leaves.l0 k (pre.filter fun x => decide (x.f0 = 1)) (allC c) ((allC c).length : Int) (pre.length : Int)) (leavesC c) := by
    intro rest
    induction rest with
    | nil =>
      intro pre hp
      rw [List.append_nil] at hp
      refine Ev.step (f := fun _ => some (leavesC c)) (fun k => ?_) (Ev.now _)
      simp only [sashref05_Leaves.l0]
      rw [if_neg (by rw [hp]; omega), hp]
      rfl
    | cons x xs ihr =>
      intro pre hp
      have hsz : (allC c).length ≤ 1048576 := h
      have hl : (pre.length : Int) < ((allC c).length : Int) := by rw [← hp, List.length_append, List.length_cons]; omega
      have e2 := ihr (pre ++ [x]) (by rw [List.append_assoc]; exact hp)
      have hr : rd_T26 (allC c) (pre.length : Int) = x := by rw [← hp]; exact rd26_in pre x xs
      have hu : wrap64 ((pre.length : Int) + 1) = ((pre ++ [x]).length : Int) := up_in pre x xs (by rw [hp]; omega)
      have hb : (pre.filter fun x => decide (x.f0 = 1)).length < 1954687338268 := by
        have := List.length_filter_le (fun x : S26 => decide (x.f0 = 1)) pre
        omega
      rw [List.filter_append] at e2
      refine Ev.step (fun k => ?_) e2
      simp only [sashref05_Leaves.l0]
      rw [if_pos hl, if_pos (by omega), if_pos hl, hr, hu]
      by_cases h1 : x.f0 = 1
      · rw [if_pos h1, if_pos hb, List.filter_cons_of_pos (by simpa using h1), eta26]
        rfl
      · rw [if_neg h1, List.filter_cons_of_neg (by simpa using h1), List.filter_nil, List.append_nil]
  exact key (allC c) [] rfl
end Go.Proofs.Ytfdmfgaiblfbhaa.P
/- May a tree be: plain words. -/
namespace Go.Proofs.Ytfdmfgaiblfbhaa.P
open Go.RowKit Go.Proofs.YtfdmfgaiblfbhaaW.PrintWords Go.Proofs.YtfdmfgaiblfbhaaW.PrintLast Go.Proofs.YtfdmfgaiblfbhaaW.PrintMore

/-- May one cell be, by itself? -/
def okC (c : S26) : Bool := mayR c.f1 && decide (1 ≤ c.f0 ∧ c.f0 ≤ 3) && decide (c.f0 = 1 → c.f3.length = 0 ∧ 0 ≤ c.f2 ∧ c.f2 ≤ 2147483647) && decide (c.f0 > 1 → 2 ≤ c.f3.length ∧ c.f2 = 0)
/-- No number twice? -/
def distinctC : List S26 → Bool
  | [] => true
  | x :: xs => (xs.all fun y => decide (y.f2 ≠ x.f2)) && distinctC xs
def apartTo (pre : List S26) (x : S26) : Bool := pre.all fun y => decide (x.f2 ≠ y.f2)
theorem distinctC_app (pre : List S26) (x : S26) : distinctC (pre ++ [x]) = (distinctC pre && apartTo pre x) := by
  induction pre with
  | nil => simp [distinctC, apartTo]
  | cons y ys ih =>
    have : (decide (x.f2 ≠ y.f2)) = decide (¬ x.f2 = y.f2) := rfl
    simp only [List.cons_append, distinctC, ih, apartTo, List.all_append, List.all_cons, List.all_nil, Bool.and_true]
    cases (ys.all fun z => decide (z.f2 ≠ y.f2)) <;> cases (decide (x.f2 ≠ y.f2)) <;> cases distinctC ys <;> cases (ys.all fun z => decide (x.f2 ≠ z.f2)) <;> rfl
theorem distinctC_pre : ∀ (pre rest : List S26), distinctC pre = false → distinctC (pre ++ rest) = false := by
  intro pre rest h
  induction rest generalizing pre with
  | nil => rw [List.append_nil]; exact h
  | cons x xs ih =>
    have := ih (pre ++ [x]) (by rw [distinctC_app, h, Bool.false_and])
    rwa [List.append_assoc] at this
def mayC (c : S26) : Bool := decide (sz c ≤ 20000) && ((allC c).all okC && distinctC (leavesC c))
end Go.Proofs.Ytfdmfgaiblfbhaa.P
/- slices.IndexFunc, slices.ContainsFunc at S26: what they answer, with any function value that keeps an invariant of the world. -/
namespace Go.Proofs.Ytfdmfgaiblfbhaa.P
open Go.RowKit Go.Proofs.YtfdmfgaiblfbhaaW.PrintWords Go.Proofs.YtfdmfgaiblfbhaaW.PrintLast Go.Proofs.YtfdmfgaiblfbhaaW.PrintMore

set_option maxHeartbeats 2000000 in
set_option maxRecDepth 100000 in
theorem idx192 {σ : Type} (Inv : σ → World → Prop) (step : σ → S26 → Bool × σ) (g : Nat) (lb : Array Value) (eg : ∀ args w, (callFunc g args).run Try.prog w = .ok (.enter g args) w) (l : List S26) (A : Option Addr) (c : Nat)
    (w0 : World) (hR : Kd.C k26 w0 A l.length l) (hW : ∀ s W, Inv s W → Below w0.heap.size w0 W) (hD : ∀ s W n, Inv s W → Inv s (W.drewN n))
    (hcall : ∀ s W (x : S26) (B : Option Addr) (cb : Nat), x ∈ l → Inv s W → Kd.C k26 w0 B x.f3.length x.f3 → x.f3.length ≤ cb → Calls Try.prog g (#[.agg #[.int .u8 x.f0, .int .i64 x.f1.f0, .int .i64 x.f1.f1, .int .i64 x.f1.f2, .int .i64 x.f1.f3, .int .i64 x.f2, .slice B x.f3.length cb]] ++ lb) W fun e w' => e = .returned (.bool (step s x).1) ∧ Inv (step s x).2 w')
    (s : σ) (w : World) (hI : Inv s w) (hl : l.length ≤ 9223372036854775807) :
    Calls Try.prog 192 #[.slice A l.length c, .func (.func g) #[] lb] w fun e w' => e = .returned (.int .i64 (scanI step 0 s l).1) ∧ Inv (scanI step 0 s l).2 w' := by
  have HR := Aside0.mk hR
  have HW := Aside0.mk hW
  have HI := Aside0.mk hI
  have HCall := Aside0.mk hcall
  clear hR hW hcall hD hI
  go_enter Try.func192, Try.ntmps192
  go_wp2
  go_loopg [5, 8] l.length (fun gg _ v8 wr => ∃ (kk : Nat) (t : σ), kk ≤ l.length ∧ l.length - kk ≤ gg ∧ v8 = .int .i64 kk ∧ Aside0 (Inv t wr) ∧ Aside0 (scanI step 0 s l = scanI step kk t (l.drop kk)))
  case atStart => exact ⟨0, s, Nat.zero_le _, by omega, rfl, HI, ⟨by simp⟩⟩
  case round =>
    clear HI
    obtain ⟨kk, t, hkk, hg, rfl, HI, HS⟩ := hrel
    by_cases hlt : kk < l.length
    · have hltz : (kk : Int) < (l.length : Int) := by omega
      obtain ⟨ad, B, cb, rfl, hc0, hc1, hc2, hc3, hc4, hc5, hc6, hlb, hgb⟩ := at_T26 HR.out (kk : Int) (by omega) (by omega)
      have hbw := HW.out t wr HI.out
      replace hc0 := (hbw.cell (World.block_lt_of_cell? w0 _ hc0)).trans hc0
      replace hc1 := (hbw.cell (World.block_lt_of_cell? w0 _ hc1)).trans hc1
      replace hc2 := (hbw.cell (World.block_lt_of_cell? w0 _ hc2)).trans hc2
      replace hc3 := (hbw.cell (World.block_lt_of_cell? w0 _ hc3)).trans hc3
      replace hc4 := (hbw.cell (World.block_lt_of_cell? w0 _ hc4)).trans hc4
      replace hc5 := (hbw.cell (World.block_lt_of_cell? w0 _ hc5)).trans hc5
      replace hc6 := (hbw.cell (World.block_lt_of_cell? w0 _ hc6)).trans hc6
      clear hbw
      have HX : Aside0 (scanI step kk t (l.drop kk) = if (step t (rd_T26 l (kk : Int))).1 = true then ((kk : Int), (step t (rd_T26 l (kk : Int))).2) else scanI step ((kk + 1 : Nat) : Int) (step t (rd_T26 l (kk : Int))).2 (l.drop (kk + 1))) := ⟨scan_at step z26 l kk hlt t⟩
      have hmem : (rd_T26 l (kk : Int)) ∈ l := scan_mem z26 l kk hlt
      have hcall := HCall.out t wr _ B cb hmem HI.out hgb hlb
      clear hmem hgb hlb
      simp only [Int.toNat_natCast] at hc0 hc1 hc2 hc3 hc4 hc5 hc6
      generalize rd_T26 l (kk : Int) = x at hc0 hc1 hc2 hc3 hc4 hc5 hc6 HX hcall
      have HC := Aside0.mk hcall
      clear hcall
      cases hq : (step t x).1 with
      | true =>
        have h := HC.out
        rw [hq] at h
        have HH := Aside0.mk h
        have HQ := Aside0.mk hq
        clear hq HC h
        go_wp2_with fail
        refine HH.out.mono ?_
        rintro e w' ⟨rfl, hb'⟩
        have HB := Aside0.mk hb'
        clear hb'
        go_wp2
        go_ret
        rw [HS.out, HX.out, if_pos HQ.out]
        exact ⟨rfl, HB.out⟩
      | false =>
        have h := HC.out
        rw [hq] at h
        have HH := Aside0.mk h
        have HQ := Aside0.mk hq
        clear hq HC h
        go_wp2_with fail
        refine HH.out.mono ?_
        rintro e w' ⟨rfl, hb'⟩
        have HB := Aside0.mk hb'
        clear hb'
        go_wp2
        go_roundg (l.length - (kk + 1))
        case measure => omega
        case rel =>
          refine ⟨kk + 1, (step t x).2, by omega, by omega, by go_num, HB, ⟨?_⟩⟩
          rw [HS.out, HX.out, if_neg (by rw [HQ.out]; simp)]
    · have hltz : ¬ (kk : Int) < (l.length : Int) := by omega
      go_wp2
      go_ret
      rw [HS.out, List.drop_eq_nil_of_le (by omega)]
      exact ⟨rfl, HI.out⟩

set_option maxHeartbeats 1000000 in
theorem con174 {σ : Type} (Inv : σ → World → Prop) (step : σ → S26 → Bool × σ) (g : Nat) (lb : Array Value) (eg : ∀ args w, (callFunc g args).run Try.prog w = .ok (.enter g args) w) (l : List S26) (A : Option Addr) (c : Nat)
    (w0 : World) (hR : Kd.C k26 w0 A l.length l) (hW : ∀ s W, Inv s W → Below w0.heap.size w0 W) (hD : ∀ s W n, Inv s W → Inv s (W.drewN n))
    (hcall : ∀ s W (x : S26) (B : Option Addr) (cb : Nat), x ∈ l → Inv s W → Kd.C k26 w0 B x.f3.length x.f3 → x.f3.length ≤ cb → Calls Try.prog g (#[.agg #[.int .u8 x.f0, .int .i64 x.f1.f0, .int .i64 x.f1.f1, .int .i64 x.f1.f2, .int .i64 x.f1.f3, .int .i64 x.f2, .slice B x.f3.length cb]] ++ lb) W fun e w' => e = .returned (.bool (step s x).1) ∧ Inv (step s x).2 w')
    (s : σ) (w : World) (hI : Inv s w) (hl : l.length ≤ 9223372036854775807) :
    Calls Try.prog 174 #[.slice A l.length c, .func (.func g) #[] lb] w fun e w' => e = .returned (.bool (scanB step s l).1) ∧ Inv (scanB step s l).2 w' := by
  have hi := idx192 Inv step g lb eg l A c w0 hR hW hD hcall s w hI hl
  rw [scanB_eq]
  clear hR hW hD hcall hI
  generalize scanI step 0 s l = r at hi
  have HI := Aside0.mk hi
  clear hi
  go_enter Try.func174, Try.ntmps174
  go_wp2_with fail
  refine HI.out.mono ?_
  rintro e w' ⟨rfl, hb'⟩
  have HB := Aside0.mk hb'
  clear hb'
  go_wp2
  go_ret
  exact ⟨rfl, HB.out⟩
end Go.Proofs.Ytfdmfgaiblfbhaa.P
/- A store into a block of one's own, as an event: the world behind it is a letter. -/
namespace Go.Proofs.Ytfdmfgaiblfbhaa.P
open Go.RowKit Go.Proofs.YtfdmfgaiblfbhaaW.PrintWords Go.Proofs.YtfdmfgaiblfbhaaW.PrintLast Go.Proofs.YtfdmfgaiblfbhaaW.PrintMore
section
variable {P : Program} {ops : Array Oper} {rest : List Oper} {o : Oper} {a : Act} {Q : Exit → Act → World → Prop}
theorem grown_below {w0 W w1 : World} {g base : Nat} (HB : Below base w0 W) (hg : W.grownBy w1 (some g)) (hbg : base ≤ g) (hs : base ≤ W.heap.size) : Below base w0 w1 := HB.trans ⟨hg.os, hg.tape, hg.output, hg.size, fun k hk => hg.block k (by omega) (fun he => by injection he with he; omega)⟩
/-- What a store into block g leaves. -/
theorem box_cells {W : World} {g j : Nat} {cs cs' : Array Value} {t0 : TypeId} {seg : List Value} (hb : W.heap[g]? = some (.cells cs t0 (0, 0))) (hj : j + seg.length ≤ cs.size) (he : cs.toList.take j ++ seg ++ cs.toList.drop (j + seg.length) = cs'.toList) :
    (W.setCells g j seg).heap[g]? = some (.cells cs' t0 (0, 0)) ∧ W.grownBy (W.setCells g j seg) (some g) := by
  obtain ⟨cur', h3, h4, h5⟩ := setCells_row seg j W cs hb hj
  obtain ⟨s1, s2, s3, s4⟩ := setCells_same g seg j W
  have hc : cur' = cs' := Array.toList_inj.1 (h5.trans he)
  subst hc
  exact ⟨h3, ⟨s1, s2, s3, by rw [s4]; exact Nat.le_refl _, fun k _ hk => setCells_far seg _ k (fun e => hk (by rw [e]))⟩⟩
theorem box_store {W w0 : World} (hN : o.dst = none) (hgd : o.guard = none) (t : TypeId) (p x : Operand) (ho : o.op = .store t p x) {g j base : Nat} {cs : Array Value} (cs' : Array Value) {t0 : TypeId} {u : Value} {seg : List Value}
    (haddr : a.eval p = .pointer (some ⟨g, j, none⟩)) (hx : a.eval x = u) (hu : u.cells.toList = seg) (ht : (P.info? t).map (·.size) = some seg.length) (h1 : ∀ q ∈ seg, q.oneCell' = true)
    (hb : W.heap[g]? = some (.cells cs t0 (0, 0))) (hj : j + seg.length ≤ cs.size) (he : cs.toList.take j ++ seg ++ cs.toList.drop (j + seg.length) = cs'.toList) (HB : Below base w0 W) (hbs : base ≤ W.heap.size) (hbg : base ≤ g)
    (h : ∀ w1, w1.heap[g]? = some (.cells cs' t0 (0, 0)) → Below base w0 w1 → W.grownBy w1 (some g) → wpList P ops Q rest a w1) : wpList P ops Q (o :: rest) a W := by
  obtain ⟨h2, h3⟩ := box_cells hb hj he
  refine wpList_plain hgd fun K hK => ?_
  have hrun := run_store_run (P := P) t u seg hb hu ht hj h1
  unfold Oper.wp execOp
  simp only [ho, haddr, hx, Sem.run_bind, Sem.run_pure, Result.andThen_ok, hrun]
  show K (a.put o.dst undef) _
  rw [hN]
  exact hK a _ (h _ h2 (grown_below HB h3 hbg hbs) h3)
theorem store_exec {W : World} (t : TypeId) (p x : Operand) (ho : o.op = .store t p x) {g j : Nat} {cs : Array Value} {t0 : TypeId} {u : Value} {seg : List Value}
    (haddr : a.eval p = .pointer (some ⟨g, j, none⟩)) (hx : a.eval x = u) (hu : u.cells.toList = seg) (ht : (P.info? t).map (·.size) = some seg.length) (h1 : ∀ q ∈ seg, q.oneCell' = true)
    (hb : W.heap[g]? = some (.cells cs t0 (0, 0))) (hj : j + seg.length ≤ cs.size) : (execOp a.eval o).run P W = .ok .skip (W.setCells g j seg) := by
  have hrun := run_store_run (P := P) t u seg hb hu ht hj h1
  unfold execOp
  simp only [ho, haddr, hx, Sem.run_bind, Sem.run_pure, Result.andThen_ok, hrun]
end
end Go.Proofs.Ytfdmfgaiblfbhaa.P
/- cell.all, cell.none: what they answer, with any function value that keeps an invariant of the world. -/
namespace Go.Proofs.Ytfdmfgaiblfbhaa.P
open Go.RowKit Go.Proofs.YtfdmfgaiblfbhaaW.PrintWords Go.Proofs.YtfdmfgaiblfbhaaW.PrintLast Go.Proofs.YtfdmfgaiblfbhaaW.PrintMore

set_option maxHeartbeats 1000000 in
/-- cell.none: whether the test says yes of none. -/
theorem none142 (l : List S26) (A : Option Addr) (c : Nat) (g : Nat) (lb : Array Value) (Q : World → Prop) (b : Bool) (w : World)
    (h : Calls Try.prog 174 #[.slice A l.length c, .func (.func g) #[] lb] w fun e w' => e = .returned (.bool b) ∧ Q w') (hD : ∀ W n, Q W → Q (W.drewN n)) :
    Calls Try.prog 142 #[.slice A l.length c, .func (.func g) #[] lb] w fun e w' => e = .returned (.bool (!b)) ∧ Q w' := by
  have H := Aside0.mk h
  clear h hD
  cases b
  all_goals
    go_enter Try.func142, Try.ntmps142
    go_wp2_with fail
    refine H.out.mono ?_
    rintro e w' ⟨rfl, hb⟩
    have HB := Aside0.mk hb
    clear hb
    go_wp2
    go_ret
    exact ⟨rfl, HB.out⟩
/-- Only new blocks, and those of S, may differ. -/
structure Kp (S : Nat → Prop) (W W' : World) : Prop where
  size : W.heap.size ≤ W'.heap.size
  blk : ∀ k, k < W.heap.size → ¬ S k → W'.heap[k]? = W.heap[k]?
theorem Kp.refl (S : Nat → Prop) (W : World) : Kp S W W := ⟨Nat.le_refl _, fun _ _ _ => rfl⟩
theorem Kp.trans {S : Nat → Prop} {W W1 W2 : World} (h : Kp S W W1) (k : Kp S W1 W2) : Kp S W W2 := ⟨Nat.le_trans h.size k.size, fun i hi hs => (k.blk i (Nat.lt_of_lt_of_le hi h.size) hs).trans (h.blk i hi hs)⟩
theorem Kp.below {S : Nat → Prop} {W W1 : World} (h : Below W.heap.size W W1) : Kp S W W1 := ⟨h.size, fun i hi _ => h.block i hi⟩
theorem Kp.at {S : Nat → Prop} {W W1 : World} {g : Nat} {o : Obj} (h : Kp S W W1) (hb : W.heap[g]? = some o) (hs : ¬ S g) : W1.heap[g]? = some o := (h.blk g (blk_lt hb) hs).trans hb
set_option maxHeartbeats 1000000 in
theorem clo193 (x : S26) (B : Option Addr) (cb g : Nat) (lb : Array Value) (b3 : Nat) (r : Bool) (R : World → Prop) (W : World) (hk : W.heap[b3]? = some (.cells #[.func (.func g) #[] lb] 27 (0, 0)))
    (h : ∀ W1, Below W.heap.size W W1 → Calls Try.prog 175 #[.agg #[.int .u8 x.f0, .int .i64 x.f1.f0, .int .i64 x.f1.f1, .int .i64 x.f1.f2, .int .i64 x.f1.f3, .int .i64 x.f2, .slice B x.f3.length cb], .func (.func g) #[] lb] W1 fun e w' => e = .returned (.bool r) ∧ R w') :
    Calls Try.prog 193 (#[.agg #[.int .u8 x.f0, .int .i64 x.f1.f0, .int .i64 x.f1.f1, .int .i64 x.f1.f2, .int .i64 x.f1.f3, .int .i64 x.f2, .slice B x.f3.length cb]] ++ #[.pointer (some ⟨b3, 0, none⟩)]) W fun e w' => e = .returned (.bool (!r)) ∧ R w' := by
  have HK := Aside0.mk hk
  have H := Aside0.mk h
  clear hk h
  simp only [List.append_toArray, List.cons_append, List.nil_append]
  cases r
  all_goals
    go_enter Try.func193, Try.ntmps193
    go_wp2_with (((with_reducible refine gate_dst (N := 2) rfl ?_); refine box_event ?hg (N := 2) ?hd (cs := #[.int .u8 x.f0, .int .i64 x.f1.f0, .int .i64 x.f1.f1, .int .i64 x.f1.f2, .int .i64 x.f1.f3, .int .i64 x.f2, .slice B x.f3.length cb]) (t := 26) ?hr ?_; (case hd => rfl); (case hg => rfl); (case hr => (go_simp; done)); intro b2 hg w2 hbox hb; have HB := Aside0.mk hb; have K2 := Aside0.mk hbox; have K3 := Aside0.mk (blk_below HK.out hb); clear hb hbox hg; have c0 := (blk_cell K2.out 0).trans rfl; have c1 := (blk_cell K2.out 1).trans rfl; have c2 := (blk_cell K2.out 2).trans rfl; have c3 := (blk_cell K2.out 3).trans rfl; have c4 := (blk_cell K2.out 4).trans rfl; have c5 := (blk_cell K2.out 5).trans rfl; have c6 := (blk_cell K2.out 6).trans rfl; have d0 := (blk_cell K3.out 0).trans rfl))
    clear c0 c1 c2 c3 c4 c5 c6 d0
    refine (H.out _ HB.out).mono ?_
    rintro e w' ⟨rfl, hR⟩
    have HR := Aside0.mk hR
    clear hR
    go_wp2
    go_ret
    exact ⟨rfl, HR.out⟩
set_option maxHeartbeats 4000000 in
set_option maxRecDepth 100000 in
theorem all175 {σ : Type} (S : Nat → Prop) (Inv : σ → World → Prop) (step : σ → S26 → Bool × σ) (g : Nat) (lb : Array Value) (eg : ∀ args w, (callFunc g args).run Try.prog w = .ok (.enter g args) w) (w0 : World)
    (hW : ∀ s W, Inv s W → Below w0.heap.size w0 W) (hB : ∀ s W W', Inv s W → Below W.heap.size W W' → Inv s W') (hS : ∀ s W, Inv s W → ∀ k, S k → k < W.heap.size)
    (hcall : ∀ s W (x : S26) (B : Option Addr) (cb : Nat), Inv s W → Kd.C k26 w0 B x.f3.length x.f3 → x.f3.length ≤ cb → Calls Try.prog g (#[.agg #[.int .u8 x.f0, .int .i64 x.f1.f0, .int .i64 x.f1.f1, .int .i64 x.f1.f2, .int .i64 x.f1.f3, .int .i64 x.f2, .slice B x.f3.length cb]] ++ lb) W fun e w' => e = .returned (.bool (step s x).1) ∧ Inv (step s x).2 w' ∧ Kp S W w') :
    ∀ (N : Nat) (c : S26), sz c ≤ N → ∀ (A : Option Addr) (cc : Nat), Kd.C k26 w0 A c.f3.length c.f3 → c.f3.length ≤ cc → ∀ s W, Inv s W →
      Calls Try.prog 175 #[.agg #[.int .u8 c.f0, .int .i64 c.f1.f0, .int .i64 c.f1.f1, .int .i64 c.f1.f2, .int .i64 c.f1.f3, .int .i64 c.f2, .slice A c.f3.length cc], .func (.func g) #[] lb] W fun e w' => e = .returned (.bool (allS step c s).1) ∧ Inv (allS step c s).2 w' ∧ Kp S W w' := by
  intro N
  induction N with
  | zero => intro c h; rw [sz_eq] at h; omega
  | succ N ih =>
    intro c hc A cc hr hlc s W hI
    have hsz := sz_eq c
    -- what the kids' test does
    have hNone : ∀ (b3 : Nat) (s1 : σ) (W1 : World), Inv s1 W1 → W1.heap[b3]? = some (.cells #[.func (.func g) #[] lb] 27 (0, 0)) → ¬ S b3 →
        Calls Try.prog 142 #[.slice A c.f3.length cc, .func (.func 193) #[] #[.pointer (some ⟨b3, 0, none⟩)]] W1 fun e w' => e = .returned (.bool (noneS step c.f3 s1).1) ∧ Inv (noneS step c.f3 s1).2 w' ∧ Kp S W1 w' := by
      intro b3 s1 W1 hI1 hk3 hs3
      have hcon := con174 (fun t w' => Inv t w' ∧ Kp S W1 w') (fun t k => (!(allS step k t).1, (allS step k t).2)) 193 #[.pointer (some ⟨b3, 0, none⟩)] (enters_fn Try.func193 (by decide +kernel) (by kernel_rfl)) c.f3 A cc w0 hr (fun t w' h => hW t w' h.1)
        (fun t w' n h => ⟨hB t w' _ h.1 (pw_below_drewN (Below.refl _ _) n), h.2.trans (Kp.below (pw_below_drewN (Below.refl _ _) n))⟩)
        (fun t w' x B cb hx h hCx hlx => by
          refine clo193 x B cb g lb b3 _ _ w' (h.2.at hk3 hs3) (fun W2 hb2 => ?_)
          refine (ih x ?_ B cb hCx hlx t W2 (hB t w' W2 h.1 hb2)).mono fun e w'' ⟨he, hi, hk⟩ => ⟨he, hi, (h.2.trans (Kp.below hb2)).trans hk⟩
          have : sz x ≤ szL c.f3 := by
            obtain ⟨p, q, e⟩ := List.append_of_mem hx
            rw [e, szL_app, szL_cons]; omega
          omega) s1 W1 ⟨hI1, Kp.refl S W1⟩ hr.2.1
      rw [scan_none] at hcon
      have := none142 c.f3 A cc 193 _ _ _ W1 hcon (fun w' n h => ⟨hB _ w' _ h.1 (pw_below_drewN (Below.refl _ _) n), h.2.trans (Kp.below (pw_below_drewN (Below.refl _ _) n))⟩)
      rw [Bool.not_not] at this
      exact this
    have hHS0 : ∀ k, S k → k < W.heap.size := hS s W hI
    have hE := allS_eq step c s
    have hcl := fun W1 (h : Inv s W1) => hcall s W1 c A cc h hr hlc
    rcases hst : step s c with ⟨q, s1⟩
    rw [hst] at hE hcl
    simp only [] at hE hcl
    rw [hE]
    have HN := Aside0.mk fun b3 W1 => hNone b3 s1 W1
    have HI := Aside0.mk hI
    have HCall := Aside0.mk hcl
    have HBb := Aside0.mk hB
    have HS := Aside0.mk hS
    have HS0 := Aside0.mk hHS0
    have HK := Aside0.mk (Kp.refl S W)
    clear hNone hI hcall hB hS ih hr hlc hsz hc hW hE hcl hst hHS0
    obtain ⟨ck, ⟨cx, cy, cw, ch⟩, cid, l⟩ := c
    simp only [] at HN HCall ⊢
    generalize noneS step l s1 = ns at HN ⊢
    obtain ⟨n1, n2⟩ := ns
    cases q with
    | false =>
      simp only [Bool.false_eq_true, if_false]
      clear HN
      go_enter Try.func175, Try.ntmps175
      go_wp2_with (first | ((with_reducible refine gate_dst (N := 2) rfl ?_); refine box_event ?hg (N := 2) ?hd (cs := #[.int .u8 ck, .int .i64 cx, .int .i64 cy, .int .i64 cw, .int .i64 ch, .int .i64 cid, .slice A l.length cc]) (t := 26) ?hr ?_; (case hd => rfl); (case hg => rfl); (case hr => (go_simp; done)); intro b2 hg wb2 hbox hb; have K2 := Aside0.mk hbox; have HS2 := Aside0.mk (show ¬ b2 < W.heap.size by rw [hg]; exact Nat.lt_irrefl _); have q1_ := Aside0.mk (HBb.out _ _ _ HI.out hb); have q2_ := Aside0.mk (HK.out.trans (Kp.below hb)); clear HI HK; have HI := q1_; have HK := q2_; clear q1_ q2_; clear hb hbox hg) | ((with_reducible refine gate_dst (N := 3) rfl ?_); refine box_event ?hg (N := 3) ?hd (cs := #[.func (.func g) #[] lb]) (t := 27) ?hr ?_; (case hd => rfl); (case hg => rfl); (case hr => (go_simp; done)); intro b3 hg wb3 hbox hb; have K3 := Aside0.mk hbox; have q3_ := Aside0.mk (blk_below K2.out hb); have NS := Aside0.mk (fun h => Nat.lt_irrefl _ (Nat.lt_of_lt_of_le (hg ▸ HS.out _ _ HI.out b3 h) (Nat.le_refl _)) : ¬ S b3); have NS2 := Aside0.mk (fun h => HS2.out (HS0.out b2 h) : ¬ S b2); clear K2; have K2 := q3_; clear q3_; have q1_ := Aside0.mk (HBb.out _ _ _ HI.out hb); have q2_ := Aside0.mk (HK.out.trans (Kp.below hb)); clear HI HK; have HI := q1_; have HK := q2_; clear q1_ q2_; clear hb hbox hg; have c0 := (blk_cell K2.out 0).trans rfl; have c1 := (blk_cell K2.out 1).trans rfl; have c2 := (blk_cell K2.out 2).trans rfl; have c3 := (blk_cell K2.out 3).trans rfl; have c4 := (blk_cell K2.out 4).trans rfl; have c5 := (blk_cell K2.out 5).trans rfl; have c6 := (blk_cell K2.out 6).trans rfl; have d0 := (blk_cell K3.out 0).trans rfl))
      clear c0 c1 c2 c3 c4 c5 c6 d0
      refine (HCall.out _ HI.out).mono ?_
      rintro e w' ⟨rfl, hi, hk⟩
      have HI' := Aside0.mk hi
      have HK' := Aside0.mk (HK.out.trans hk)
      clear hi hk
      go_wp2
      go_ret
      exact ⟨rfl, HI'.out, HK'.out⟩
    | true =>
      simp only [if_true]
      cases n1
      all_goals
        go_enter Try.func175, Try.ntmps175
        go_wp2_with (first | ((with_reducible refine gate_dst (N := 2) rfl ?_); refine box_event ?hg (N := 2) ?hd (cs := #[.int .u8 ck, .int .i64 cx, .int .i64 cy, .int .i64 cw, .int .i64 ch, .int .i64 cid, .slice A l.length cc]) (t := 26) ?hr ?_; (case hd => rfl); (case hg => rfl); (case hr => (go_simp; done)); intro b2 hg wb2 hbox hb; have K2 := Aside0.mk hbox; have HS2 := Aside0.mk (show ¬ b2 < W.heap.size by rw [hg]; exact Nat.lt_irrefl _); have q1_ := Aside0.mk (HBb.out _ _ _ HI.out hb); have q2_ := Aside0.mk (HK.out.trans (Kp.below hb)); clear HI HK; have HI := q1_; have HK := q2_; clear q1_ q2_; clear hb hbox hg) | ((with_reducible refine gate_dst (N := 3) rfl ?_); refine box_event ?hg (N := 3) ?hd (cs := #[.func (.func g) #[] lb]) (t := 27) ?hr ?_; (case hd => rfl); (case hg => rfl); (case hr => (go_simp; done)); intro b3 hg wb3 hbox hb; have K3 := Aside0.mk hbox; have q3_ := Aside0.mk (blk_below K2.out hb); have NS := Aside0.mk (fun h => Nat.lt_irrefl _ (Nat.lt_of_lt_of_le (hg ▸ HS.out _ _ HI.out b3 h) (Nat.le_refl _)) : ¬ S b3); have NS2 := Aside0.mk (fun h => HS2.out (HS0.out b2 h) : ¬ S b2); clear K2; have K2 := q3_; clear q3_; have q1_ := Aside0.mk (HBb.out _ _ _ HI.out hb); have q2_ := Aside0.mk (HK.out.trans (Kp.below hb)); clear HI HK; have HI := q1_; have HK := q2_; clear q1_ q2_; clear hb hbox hg; have c0 := (blk_cell K2.out 0).trans rfl; have c1 := (blk_cell K2.out 1).trans rfl; have c2 := (blk_cell K2.out 2).trans rfl; have c3 := (blk_cell K2.out 3).trans rfl; have c4 := (blk_cell K2.out 4).trans rfl; have c5 := (blk_cell K2.out 5).trans rfl; have c6 := (blk_cell K2.out 6).trans rfl; have d0 := (blk_cell K3.out 0).trans rfl))
        clear c0 c1 c2 c3 c4 c5 c6 d0
        refine (HCall.out _ HI.out).mono ?_
        rintro e w' ⟨rfl, hi, hk⟩
        have HI' := Aside0.mk hi
        have HK' := Aside0.mk (HK.out.trans hk)
        have K3' := Aside0.mk (hk.at K3.out NS.out)
        have K2' := Aside0.mk (hk.at K2.out NS2.out)
        clear hi hk
        have c6 : w'.cell? ⟨b2, 6, none⟩ = some (.slice A l.length cc) := (blk_cell K2'.out 6).trans rfl
        go_wp2_with fail
        clear c6
        refine (HN.out b3 w' HI'.out K3'.out NS.out).mono ?_
        rintro e w'' ⟨rfl, hi, hk⟩
        have HI2 := Aside0.mk hi
        have HK2 := Aside0.mk (HK'.out.trans hk)
        clear hi hk
        go_wp2
        go_ret
        exact ⟨rfl, HI2.out, HK2.out⟩
end Go.Proofs.Ytfdmfgaiblfbhaa.P
/- Whether a tree may be, cell by cell with the numbers met: plain words; and the numbers met as a map of the call's own. -/
namespace Go.Proofs.Ytfdmfgaiblfbhaa.P
open Go.RowKit Go.Proofs.YtfdmfgaiblfbhaaW.PrintWords Go.Proofs.YtfdmfgaiblfbhaaW.PrintLast Go.Proofs.YtfdmfgaiblfbhaaW.PrintMore

def nodeB (x : S26) : Bool := if x.f0 = 1 then decide (x.f3.length = 0) && (decide (0 ≤ x.f2) && decide (x.f2 ≤ 2147483647)) else if x.f0 = 2 ∨ x.f0 = 3 then decide (2 ≤ x.f3.length) && decide (x.f2 = 0) else false
theorem okC_node (x : S26) : okC x = (nodeB x && mayR x.f1) := by
  unfold okC nodeB
  by_cases h1 : x.f0 = 1
  · simp [h1, Bool.and_comm, Bool.and_assoc]
  · by_cases h2 : x.f0 = 2
    · simp [h2, Bool.and_comm]
    · by_cases h3 : x.f0 = 3
      · simp [h3, Bool.and_comm]
      · have : ¬ (1 ≤ x.f0 ∧ x.f0 ≤ 3) := by omega
        simp [h1, h2, h3, this]
/-- One cell: the count, and the numbers met. -/
def mStep (s : Int × List Int) (x : S26) : Bool × (Int × List Int) :=
  if 20000 < wrap64 (s.1 + 1) then (false, (wrap64 (s.1 + 1), s.2))
  else if okC x = false then (false, (wrap64 (s.1 + 1), s.2))
  else if x.f0 = 1 then (if x.f2 ∈ s.2 then (false, (wrap64 (s.1 + 1), s.2)) else (true, (wrap64 (s.1 + 1), x.f2 :: s.2)))
  else (true, (wrap64 (s.1 + 1), s.2))
def lv (l : List S26) : List S26 := l.filter fun x => decide (x.f0 = 1)
theorem mStep_seq : ∀ (rest pre : List S26), (pre ++ rest).length ≤ 1048576 → pre.length ≤ 20000 → distinctC (lv pre) = true →
    (seqS mStep rest ((pre.length : Int), ((lv pre).map (·.f2)).reverse)).1 = (decide (pre.length + rest.length ≤ 20000) && (rest.all okC && distinctC (lv (pre ++ rest)))) := by
  intro rest
  induction rest with
  | nil =>
    intro pre _ h2 h3
    simp [seqS, h3]
    exact h2
  | cons x xs ih =>
    intro pre h1 h2 h3
    have hlen : (pre ++ x :: xs).length = pre.length + xs.length + 1 := by simp; omega
    have hw : wrap64 ((pre.length : Int) + 1) = ((pre.length + 1 : Nat) : Int) := (wq (by omega) (by omega)).trans (by omega)
    have hsp : pre ++ x :: xs = (pre ++ [x]) ++ xs := by simp
    simp only [seqS]
    unfold mStep
    simp only [hw]
    by_cases c1 : (20000 : Int) < ((pre.length + 1 : Nat) : Int)
    · rw [if_pos c1]
      simp
      intro h
      omega
    · rw [if_neg c1]
      cases c2 : okC x with
      | false => simp [c2]
      | true =>
        simp only [Bool.true_eq_false, if_false, List.all_cons, c2, Bool.true_and]
        have hl1 : (pre ++ [x]).length = pre.length + 1 := by simp
        have hcnt : decide (pre.length + (x :: xs).length ≤ 20000) = decide ((pre ++ [x]).length + xs.length ≤ 20000) := by
          rw [hl1, List.length_cons, decide_eq_decide]; omega
        rw [hcnt]
        by_cases c3 : x.f0 = 1
        · rw [if_pos c3]
          have hlv : lv (pre ++ [x]) = lv pre ++ [x] := by simp [lv, c3]
          have hmem : x.f2 ∈ ((lv pre).map (·.f2)).reverse ↔ apartTo (lv pre) x = false := by
            simp [apartTo]
            constructor
            · rintro ⟨y, hy, e⟩; exact ⟨y, hy, e.symm⟩
            · rintro ⟨y, hy, e⟩; exact ⟨y, hy, e.symm⟩
          by_cases c4 : x.f2 ∈ ((lv pre).map (·.f2)).reverse
          · rw [if_pos c4]
            have hd : distinctC (lv (pre ++ x :: xs)) = false := by
              rw [hsp]
              unfold lv
              rw [List.filter_append]
              apply distinctC_pre
              have : List.filter (fun x => decide (x.f0 = 1)) (pre ++ [x]) = lv pre ++ [x] := hlv
              rw [this, distinctC_app, hmem.1 c4, Bool.and_false]
            simp [hd]
          · rw [if_neg c4]
            have ha : apartTo (lv pre) x = true := by
              cases h : apartTo (lv pre) x with
              | true => rfl
              | false => exact absurd (hmem.2 h) c4
            have e := ih (pre ++ [x]) (by rw [← hsp]; exact h1) (by rw [hl1]; omega) (by rw [hlv, distinctC_app, h3, ha]; rfl)
            rw [hlv, List.map_append, List.reverse_append, hl1, ← hsp] at e
            simp only [if_true]
            rw [hl1]
            exact e
        · rw [if_neg c3]
          have hlv : lv (pre ++ [x]) = lv pre := by simp [lv, c3]
          have e := ih (pre ++ [x]) (by rw [← hsp]; exact h1) (by rw [hl1]; omega) (by rw [hlv]; exact h3)
          rw [hlv, hl1, ← hsp] at e
          simp only [if_true]
          rw [hl1]
          exact e
theorem allS_may (c : S26) (h : sz c ≤ 1048576) : (allS mStep c (0, [])).1 = mayC c := by
  rw [(allS_seq mStep (sz c)).1 c (Nat.le_refl _)]
  have e := mStep_seq (allC c) [] (by rw [List.nil_append]; exact h) (by simp) rfl
  have e2 : (seqS mStep (allC c) (0, [])).1 = (decide (0 + (allC c).length ≤ 20000) && ((allC c).all okC && distinctC (lv ([] ++ allC c)))) := e
  rw [e2, Nat.zero_add, List.nil_append]
  rfl
/-- No more numbers than there are. -/
theorem nodup_le : ∀ (N : Nat) (l : List Int), l.Nodup → (∀ i ∈ l, 0 ≤ i ∧ i < (N : Int)) → l.length ≤ N := by
  intro N
  induction N with
  | zero =>
    intro l _ h
    cases l with
    | nil => simp
    | cons x xs => have := h x (by simp); omega
  | succ N ih =>
    intro l hn h
    have h1 := ih (l.filter fun i => decide (i ≠ (N : Int))) (hn.filter _) (fun i hi => by
      have h2 := List.mem_filter.1 hi
      have h3 := h i h2.1
      have h4 := of_decide_eq_true h2.2
      omega)
    have h5 : ∀ (m : List Int), m.Nodup → m.length ≤ (m.filter fun i => decide (i ≠ (N : Int))).length + 1 := by
      intro m
      induction m with
      | nil => intro _; simp
      | cons y ys ihm =>
        intro hm
        rw [List.nodup_cons] at hm
        by_cases hy : y = (N : Int)
        · have : ys.filter (fun i => decide (i ≠ (N : Int))) = ys := by
            rw [List.filter_eq_self]
            intro i hi
            exact decide_eq_true (fun e => hm.1 (by rw [hy, ← e]; exact hi))
          rw [List.filter_cons_of_neg (by simp [hy]), this, List.length_cons]
          exact Nat.le_refl _
        · rw [List.filter_cons_of_pos (by simpa using hy), List.length_cons, List.length_cons]
          have := ihm hm.2
          omega
    have := h5 l hn
    omega
/-- The numbers met, as a map's datum. -/
def setD (ids : List Int) : DataW Unit := ids.foldr (fun i D => D.put (.int .i64 i) (.lit (.bool true))) (.map [])
theorem setD_map : ∀ ids : List Int, Maps.IsMap (setD ids) := by
  intro ids
  induction ids with
  | nil => exact Maps.isMap_empty
  | cons x xs ih => exact Maps.IsMap.put ih _ _
theorem setD_at (i : Int) : ∀ ids : List Int, (setD ids).atKey (.int .i64 i) (.lit (.bool false)) = .lit (.bool (decide (i ∈ ids))) := by
  intro ids
  induction ids with
  | nil => rfl
  | cons x xs ih =>
    show (DataW.put (setD xs) (.int .i64 x) (.lit (.bool true))).atKey (.int .i64 i) (.lit (.bool false)) = _
    by_cases h : i = x
    · subst h
      rw [Maps.atKey_put_same (setD_map xs) (by simp [WideAt.IsKeyLit])]
      simp
    · rw [Maps.atKey_put_other (by intro e; injection e with _ e; exact h e), ih]
      simp [h]
/-- What cell.may holds: the count, the numbers met. -/
structure MayI (w0 : World) (bn bm B : Nat) (s : Int × List Int) (W : World) : Prop where
  hn : W.heap[bn]? = some (.cells #[.int .i64 s.1] 3 (0, 0))
  hm : W.heap[bm]? = some (.cells #[.map (some B)] 161 (0, 0))
  map : W.ownsMap (H := Unit) Try.prog 3 (plainElem Try.prog 4) B s.2.length (setD s.2)
  below : Below w0.heap.size w0 W
  gn : w0.heap.size ≤ bn
  gB : w0.heap.size ≤ B
  nd : s.2.Nodup
  rg : ∀ i ∈ s.2, 0 ≤ i ∧ i ≤ 2147483647
theorem below_grown {W W' : World} (h : Below W.heap.size W W') : W.grownBy W' none := ⟨h.os, h.tape, h.output, h.size, fun k hk _ => h.block k hk⟩
theorem MayI.step {w0 W W' : World} {bn bm B : Nat} {s : Int × List Int} (h : MayI w0 bn bm B s W) (hb : Below W.heap.size W W') : MayI w0 bn bm B s W' :=
  ⟨blk_below h.hn hb, blk_below h.hm hb, h.map.kept (below_grown hb) (by simp), below_step h.below hb, h.gn, h.gB, h.nd, h.rg⟩
theorem MayI.neB {w0 W : World} {bn bm B : Nat} {s : Int × List Int} (h : MayI w0 bn bm B s W) : bn ≠ B ∧ bm ≠ B ∧ bm ≠ bn := by
  obtain ⟨es, cl, hB, _⟩ := h.map
  refine ⟨fun e => ?_, fun e => ?_, blk_ne h.hm h.hn (by decide)⟩
  · have := h.hn; rw [e, hB] at this; cases this
  · have := h.hm; rw [e, hB] at this; cases this
def MayS (bn B : Nat) (k : Nat) : Prop := k = bn ∨ k = B
section
variable {P : Program} {ops : Array Oper} {rest : List Oper} {o : Oper} {a : Act} {Q : Exit → Act → World → Prop}
/-- A look-up in a map of bools of the call's own. -/
theorem lookup_bool (w : World) (hg : o.guard = none) (m x : Operand) (t : TypeId) (hop : o.op = Op.lookup t m x false)
    (k e : TypeId) (K : Maps.Keyed P k) (ht : P.underlying t = some (.map k e)) (he : P.underlying e = some .bool) (hz : (zeroValue e).run P w = .ok (.bool false) w) (b n : Nat) (D : DataW Unit)
    (hm : a.eval m = .map (some b)) (hown : w.ownsMap P k (plainElem P e) b n D) (key : Value) (kl : Lit) (hx : a.eval x = key) (hkey : keyOf P k key = some kl) (r : Bool) (hr : D.atKey kl (.lit (.bool false)) = .lit (.bool r))
    (hK : wpList P ops Q rest (a.put o.dst (.bool r)) w) : wpList P ops Q (o :: rest) a w := by
  refine wpList_plain hg fun K' hK' => ?_
  obtain ⟨v, ps, hrun, hv⟩ := hown.lookup K ht hz (plainElem_bool he false) hkey
  have hv2 : v = .bool r := by
    rw [hr] at hv
    unfold plainElem at hv
    rw [he] at hv
    cases v with
    | bool q =>
      simp only [Option.some.injEq, Prod.mk.injEq, DataW.lit.injEq, Lit.bool.injEq] at hv
      rw [hv.1]
    | _ => cases hv
  subst hv2
  unfold Oper.wp
  simp [execOp, hop, hm, hx, hrun, Result.andThen]
  exact hK' _ _ hK
end
end Go.Proofs.Ytfdmfgaiblfbhaa.P
/- The contract of cell.node: whether a cell alone is right. -/
namespace Go.Proofs.Ytfdmfgaiblfbhaa.P
open Go.RowKit Go.Proofs.YtfdmfgaiblfbhaaW.PrintWords Go.Proofs.YtfdmfgaiblfbhaaW.PrintLast Go.Proofs.YtfdmfgaiblfbhaaW.PrintMore
set_option linter.unusedVariables false
set_option linter.unusedSimpArgs false
set_option maxHeartbeats 2000000 in
set_option maxRecDepth 100000 in
theorem node177 (x : S26) (B : Option Addr) (cb : Nat) (w : World) : Calls Try.prog 177 #[.agg #[.int .u8 x.f0, .int .i64 x.f1.f0, .int .i64 x.f1.f1, .int .i64 x.f1.f2, .int .i64 x.f1.f3, .int .i64 x.f2, .slice B x.f3.length cb]] w fun e w' => e = .returned (.bool (nodeB x)) ∧ Below w.heap.size w w' := by
  unfold nodeB
  by_cases k1 : x.f0 = 1
  · rw [if_pos k1]
    have k1b : (x.f0 == 1) = true := beq_iff_eq.mpr k1
    clear k1
    by_cases l0 : x.f3.length = 0
    · rw [decide_eq_true l0, Bool.true_and]
      have l1 : ((x.f3.length : Int) == 0) = true := by simp [l0]
      have l2 : (x.f3.length == 0) = true := by simp [l0]
      clear l0
      by_cases i0 : 0 ≤ x.f2
      · rw [decide_eq_true i0, Bool.true_and]
        have i0b : decide (0 ≤ x.f2) = true := decide_eq_true i0
        by_cases i1 : x.f2 ≤ 2147483647
        · rw [decide_eq_true i1]
          have i1b : decide (x.f2 ≤ 2147483647) = true := decide_eq_true i1
          go_enter Try.func177, Try.ntmps177
          go_wp2_with (((with_reducible refine gate_dst (N := 1) rfl ?_); refine box_event ?hg (N := 1) ?hd (cs := #[.int .u8 x.f0, .int .i64 x.f1.f0, .int .i64 x.f1.f1, .int .i64 x.f1.f2, .int .i64 x.f1.f3, .int .i64 x.f2, .slice B x.f3.length cb]) (t := 26) ?hr ?_; (case hd => rfl); (case hg => rfl); (case hr => (go_simp; done)); intro b1 hg w1 hbox hb; have HB := Aside0.mk hb; have K1 := Aside0.mk hbox; clear hb hbox hg; have c0 := (blk_cell K1.out 0).trans rfl; have c1 := (blk_cell K1.out 1).trans rfl; have c2 := (blk_cell K1.out 2).trans rfl; have c3 := (blk_cell K1.out 3).trans rfl; have c4 := (blk_cell K1.out 4).trans rfl; have c5 := (blk_cell K1.out 5).trans rfl; have c6 := (blk_cell K1.out 6).trans rfl))
          go_ret
          exact ⟨rfl, HB.out⟩
        · rw [decide_eq_false i1]
          have i1b : decide (x.f2 ≤ 2147483647) = false := decide_eq_false i1
          go_enter Try.func177, Try.ntmps177
          go_wp2_with (((with_reducible refine gate_dst (N := 1) rfl ?_); refine box_event ?hg (N := 1) ?hd (cs := #[.int .u8 x.f0, .int .i64 x.f1.f0, .int .i64 x.f1.f1, .int .i64 x.f1.f2, .int .i64 x.f1.f3, .int .i64 x.f2, .slice B x.f3.length cb]) (t := 26) ?hr ?_; (case hd => rfl); (case hg => rfl); (case hr => (go_simp; done)); intro b1 hg w1 hbox hb; have HB := Aside0.mk hb; have K1 := Aside0.mk hbox; clear hb hbox hg; have c0 := (blk_cell K1.out 0).trans rfl; have c1 := (blk_cell K1.out 1).trans rfl; have c2 := (blk_cell K1.out 2).trans rfl; have c3 := (blk_cell K1.out 3).trans rfl; have c4 := (blk_cell K1.out 4).trans rfl; have c5 := (blk_cell K1.out 5).trans rfl; have c6 := (blk_cell K1.out 6).trans rfl))
          go_ret
          exact ⟨rfl, HB.out⟩
      · rw [decide_eq_false i0, Bool.false_and]
        have i0b : decide (0 ≤ x.f2) = false := decide_eq_false i0
        go_enter Try.func177, Try.ntmps177
        go_wp2_with (((with_reducible refine gate_dst (N := 1) rfl ?_); refine box_event ?hg (N := 1) ?hd (cs := #[.int .u8 x.f0, .int .i64 x.f1.f0, .int .i64 x.f1.f1, .int .i64 x.f1.f2, .int .i64 x.f1.f3, .int .i64 x.f2, .slice B x.f3.length cb]) (t := 26) ?hr ?_; (case hd => rfl); (case hg => rfl); (case hr => (go_simp; done)); intro b1 hg w1 hbox hb; have HB := Aside0.mk hb; have K1 := Aside0.mk hbox; clear hb hbox hg; have c0 := (blk_cell K1.out 0).trans rfl; have c1 := (blk_cell K1.out 1).trans rfl; have c2 := (blk_cell K1.out 2).trans rfl; have c3 := (blk_cell K1.out 3).trans rfl; have c4 := (blk_cell K1.out 4).trans rfl; have c5 := (blk_cell K1.out 5).trans rfl; have c6 := (blk_cell K1.out 6).trans rfl))
        go_ret
        exact ⟨rfl, HB.out⟩
    · rw [decide_eq_false l0, Bool.false_and]
      have l1 : ((x.f3.length : Int) == 0) = false := by simp; intro h; exact l0 (by simp [h])
      have l2 : (x.f3.length == 0) = false := by simpa using l0
      clear l0
      go_enter Try.func177, Try.ntmps177
      go_wp2_with (((with_reducible refine gate_dst (N := 1) rfl ?_); refine box_event ?hg (N := 1) ?hd (cs := #[.int .u8 x.f0, .int .i64 x.f1.f0, .int .i64 x.f1.f1, .int .i64 x.f1.f2, .int .i64 x.f1.f3, .int .i64 x.f2, .slice B x.f3.length cb]) (t := 26) ?hr ?_; (case hd => rfl); (case hg => rfl); (case hr => (go_simp; done)); intro b1 hg w1 hbox hb; have HB := Aside0.mk hb; have K1 := Aside0.mk hbox; clear hb hbox hg; have c0 := (blk_cell K1.out 0).trans rfl; have c1 := (blk_cell K1.out 1).trans rfl; have c2 := (blk_cell K1.out 2).trans rfl; have c3 := (blk_cell K1.out 3).trans rfl; have c4 := (blk_cell K1.out 4).trans rfl; have c5 := (blk_cell K1.out 5).trans rfl; have c6 := (blk_cell K1.out 6).trans rfl))
      go_ret
      exact ⟨rfl, HB.out⟩
  · rw [if_neg k1]
    have k1b : (x.f0 == 1) = false := beq_eq_false_iff_ne.mpr k1
    by_cases k2 : x.f0 = 2
    · rw [if_pos (.inl k2)]
      have k2b : (x.f0 == 2) = true := beq_iff_eq.mpr k2
      clear k2 k1
      by_cases l0 : 2 ≤ x.f3.length
      · rw [decide_eq_true l0, Bool.true_and]
        have l1 : (2 : Int) ≤ (x.f3.length : Int) := by omega
        by_cases i0 : x.f2 = 0
        · rw [decide_eq_true i0]
          have i0b : (x.f2 == 0) = true := beq_iff_eq.mpr i0
          clear i0
          go_enter Try.func177, Try.ntmps177
          go_wp2_with (((with_reducible refine gate_dst (N := 1) rfl ?_); refine box_event ?hg (N := 1) ?hd (cs := #[.int .u8 x.f0, .int .i64 x.f1.f0, .int .i64 x.f1.f1, .int .i64 x.f1.f2, .int .i64 x.f1.f3, .int .i64 x.f2, .slice B x.f3.length cb]) (t := 26) ?hr ?_; (case hd => rfl); (case hg => rfl); (case hr => (go_simp; done)); intro b1 hg w1 hbox hb; have HB := Aside0.mk hb; have K1 := Aside0.mk hbox; clear hb hbox hg; have c0 := (blk_cell K1.out 0).trans rfl; have c1 := (blk_cell K1.out 1).trans rfl; have c2 := (blk_cell K1.out 2).trans rfl; have c3 := (blk_cell K1.out 3).trans rfl; have c4 := (blk_cell K1.out 4).trans rfl; have c5 := (blk_cell K1.out 5).trans rfl; have c6 := (blk_cell K1.out 6).trans rfl))
          go_ret
          exact ⟨rfl, HB.out⟩
        · rw [decide_eq_false i0]
          have i0b : (x.f2 == 0) = false := beq_eq_false_iff_ne.mpr i0
          clear i0
          go_enter Try.func177, Try.ntmps177
          go_wp2_with (((with_reducible refine gate_dst (N := 1) rfl ?_); refine box_event ?hg (N := 1) ?hd (cs := #[.int .u8 x.f0, .int .i64 x.f1.f0, .int .i64 x.f1.f1, .int .i64 x.f1.f2, .int .i64 x.f1.f3, .int .i64 x.f2, .slice B x.f3.length cb]) (t := 26) ?hr ?_; (case hd => rfl); (case hg => rfl); (case hr => (go_simp; done)); intro b1 hg w1 hbox hb; have HB := Aside0.mk hb; have K1 := Aside0.mk hbox; clear hb hbox hg; have c0 := (blk_cell K1.out 0).trans rfl; have c1 := (blk_cell K1.out 1).trans rfl; have c2 := (blk_cell K1.out 2).trans rfl; have c3 := (blk_cell K1.out 3).trans rfl; have c4 := (blk_cell K1.out 4).trans rfl; have c5 := (blk_cell K1.out 5).trans rfl; have c6 := (blk_cell K1.out 6).trans rfl))
          go_ret
          exact ⟨rfl, HB.out⟩
      · rw [decide_eq_false l0, Bool.false_and]
        have l1 : ¬ (2 : Int) ≤ (x.f3.length : Int) := by omega
        go_enter Try.func177, Try.ntmps177
        go_wp2_with (((with_reducible refine gate_dst (N := 1) rfl ?_); refine box_event ?hg (N := 1) ?hd (cs := #[.int .u8 x.f0, .int .i64 x.f1.f0, .int .i64 x.f1.f1, .int .i64 x.f1.f2, .int .i64 x.f1.f3, .int .i64 x.f2, .slice B x.f3.length cb]) (t := 26) ?hr ?_; (case hd => rfl); (case hg => rfl); (case hr => (go_simp; done)); intro b1 hg w1 hbox hb; have HB := Aside0.mk hb; have K1 := Aside0.mk hbox; clear hb hbox hg; have c0 := (blk_cell K1.out 0).trans rfl; have c1 := (blk_cell K1.out 1).trans rfl; have c2 := (blk_cell K1.out 2).trans rfl; have c3 := (blk_cell K1.out 3).trans rfl; have c4 := (blk_cell K1.out 4).trans rfl; have c5 := (blk_cell K1.out 5).trans rfl; have c6 := (blk_cell K1.out 6).trans rfl))
        go_ret
        exact ⟨rfl, HB.out⟩
    · by_cases k3 : x.f0 = 3
      · rw [if_pos (.inr k3)]
        have k2b : (x.f0 == 2) = false := beq_eq_false_iff_ne.mpr k2
        have k3b : (x.f0 == 3) = true := beq_iff_eq.mpr k3
        clear k3 k2 k1
        by_cases l0 : 2 ≤ x.f3.length
        · rw [decide_eq_true l0, Bool.true_and]
          have l1 : (2 : Int) ≤ (x.f3.length : Int) := by omega
          by_cases i0 : x.f2 = 0
          · rw [decide_eq_true i0]
            have i0b : (x.f2 == 0) = true := beq_iff_eq.mpr i0
            clear i0
            go_enter Try.func177, Try.ntmps177
            go_wp2_with (((with_reducible refine gate_dst (N := 1) rfl ?_); refine box_event ?hg (N := 1) ?hd (cs := #[.int .u8 x.f0, .int .i64 x.f1.f0, .int .i64 x.f1.f1, .int .i64 x.f1.f2, .int .i64 x.f1.f3, .int .i64 x.f2, .slice B x.f3.length cb]) (t := 26) ?hr ?_; (case hd => rfl); (case hg => rfl); (case hr => (go_simp; done)); intro b1 hg w1 hbox hb; have HB := Aside0.mk hb; have K1 := Aside0.mk hbox; clear hb hbox hg; have c0 := (blk_cell K1.out 0).trans rfl; have c1 := (blk_cell K1.out 1).trans rfl; have c2 := (blk_cell K1.out 2).trans rfl; have c3 := (blk_cell K1.out 3).trans rfl; have c4 := (blk_cell K1.out 4).trans rfl; have c5 := (blk_cell K1.out 5).trans rfl; have c6 := (blk_cell K1.out 6).trans rfl))
            go_ret
            exact ⟨rfl, HB.out⟩
          · rw [decide_eq_false i0]
            have i0b : (x.f2 == 0) = false := beq_eq_false_iff_ne.mpr i0
            clear i0
            go_enter Try.func177, Try.ntmps177
            go_wp2_with (((with_reducible refine gate_dst (N := 1) rfl ?_); refine box_event ?hg (N := 1) ?hd (cs := #[.int .u8 x.f0, .int .i64 x.f1.f0, .int .i64 x.f1.f1, .int .i64 x.f1.f2, .int .i64 x.f1.f3, .int .i64 x.f2, .slice B x.f3.length cb]) (t := 26) ?hr ?_; (case hd => rfl); (case hg => rfl); (case hr => (go_simp; done)); intro b1 hg w1 hbox hb; have HB := Aside0.mk hb; have K1 := Aside0.mk hbox; clear hb hbox hg; have c0 := (blk_cell K1.out 0).trans rfl; have c1 := (blk_cell K1.out 1).trans rfl; have c2 := (blk_cell K1.out 2).trans rfl; have c3 := (blk_cell K1.out 3).trans rfl; have c4 := (blk_cell K1.out 4).trans rfl; have c5 := (blk_cell K1.out 5).trans rfl; have c6 := (blk_cell K1.out 6).trans rfl))
            go_ret
            exact ⟨rfl, HB.out⟩
        · rw [decide_eq_false l0, Bool.false_and]
          have l1 : ¬ (2 : Int) ≤ (x.f3.length : Int) := by omega
          go_enter Try.func177, Try.ntmps177
          go_wp2_with (((with_reducible refine gate_dst (N := 1) rfl ?_); refine box_event ?hg (N := 1) ?hd (cs := #[.int .u8 x.f0, .int .i64 x.f1.f0, .int .i64 x.f1.f1, .int .i64 x.f1.f2, .int .i64 x.f1.f3, .int .i64 x.f2, .slice B x.f3.length cb]) (t := 26) ?hr ?_; (case hd => rfl); (case hg => rfl); (case hr => (go_simp; done)); intro b1 hg w1 hbox hb; have HB := Aside0.mk hb; have K1 := Aside0.mk hbox; clear hb hbox hg; have c0 := (blk_cell K1.out 0).trans rfl; have c1 := (blk_cell K1.out 1).trans rfl; have c2 := (blk_cell K1.out 2).trans rfl; have c3 := (blk_cell K1.out 3).trans rfl; have c4 := (blk_cell K1.out 4).trans rfl; have c5 := (blk_cell K1.out 5).trans rfl; have c6 := (blk_cell K1.out 6).trans rfl))
          go_ret
          exact ⟨rfl, HB.out⟩
      · rw [if_neg (fun h => h.elim k2 k3)]
        have k2b : (x.f0 == 2) = false := beq_eq_false_iff_ne.mpr k2
        have k3b : (x.f0 == 3) = false := beq_eq_false_iff_ne.mpr k3
        go_enter Try.func177, Try.ntmps177
        go_wp2_with (((with_reducible refine gate_dst (N := 1) rfl ?_); refine box_event ?hg (N := 1) ?hd (cs := #[.int .u8 x.f0, .int .i64 x.f1.f0, .int .i64 x.f1.f1, .int .i64 x.f1.f2, .int .i64 x.f1.f3, .int .i64 x.f2, .slice B x.f3.length cb]) (t := 26) ?hr ?_; (case hd => rfl); (case hg => rfl); (case hr => (go_simp; done)); intro b1 hg w1 hbox hb; have HB := Aside0.mk hb; have K1 := Aside0.mk hbox; clear hb hbox hg; have c0 := (blk_cell K1.out 0).trans rfl; have c1 := (blk_cell K1.out 1).trans rfl; have c2 := (blk_cell K1.out 2).trans rfl; have c3 := (blk_cell K1.out 3).trans rfl; have c4 := (blk_cell K1.out 4).trans rfl; have c5 := (blk_cell K1.out 5).trans rfl; have c6 := (blk_cell K1.out 6).trans rfl))
        go_ret
        exact ⟨rfl, HB.out⟩
end Go.Proofs.Ytfdmfgaiblfbhaa.P
/- slices.IndexFunc, slices.ContainsFunc at S23: what they answer, with any function value that keeps an invariant of the world. -/
namespace Go.Proofs.Ytfdmfgaiblfbhaa.P
open Go.RowKit Go.Proofs.YtfdmfgaiblfbhaaW.PrintWords Go.Proofs.YtfdmfgaiblfbhaaW.PrintLast Go.Proofs.YtfdmfgaiblfbhaaW.PrintMore

set_option maxHeartbeats 2000000 in
set_option maxRecDepth 100000 in
theorem idx173 {σ : Type} (Inv : σ → World → Prop) (step : σ → S23 → Bool × σ) (g : Nat) (lb : Array Value) (eg : ∀ args w, (callFunc g args).run Try.prog w = .ok (.enter g args) w) (l : List S23) (A : Option Addr) (c : Nat)
    (hR : ∀ s W, Inv s W → Kd.C k23 W A l.length l) (hD : ∀ s W n, Inv s W → Inv s (W.drewN n))
    (hcall : ∀ s W (x : S23), x ∈ l → Inv s W → Calls Try.prog g (#[.agg #[.int .i64 x.f0, .int .i64 x.f1, .int .i64 x.f2, .int .i64 x.f3]] ++ lb) W fun e w' => e = .returned (.bool (step s x).1) ∧ Inv (step s x).2 w')
    (s : σ) (w : World) (hI : Inv s w) (hl : l.length ≤ 9223372036854775807) :
    Calls Try.prog 173 #[.slice A l.length c, .func (.func g) #[] lb] w fun e w' => e = .returned (.int .i64 (scanI step 0 s l).1) ∧ Inv (scanI step 0 s l).2 w' := by
  have HR := Aside0.mk hR
  have HI := Aside0.mk hI
  have HCall := Aside0.mk hcall
  clear hR hcall hD hI
  go_enter Try.func173, Try.ntmps173
  go_wp2
  go_loopg [5, 8] l.length (fun gg _ v8 wr => ∃ (kk : Nat) (t : σ), kk ≤ l.length ∧ l.length - kk ≤ gg ∧ v8 = .int .i64 kk ∧ Aside0 (Inv t wr) ∧ Aside0 (scanI step 0 s l = scanI step kk t (l.drop kk)))
  case atStart => exact ⟨0, s, Nat.zero_le _, by omega, rfl, HI, ⟨by simp⟩⟩
  case round =>
    clear HI
    obtain ⟨kk, t, hkk, hg, rfl, HI, HS⟩ := hrel
    by_cases hlt : kk < l.length
    · have hltz : (kk : Int) < (l.length : Int) := by omega
      obtain ⟨ad, rfl, hc0, hc1, hc2, hc3⟩ := at_T23 (HR.out t wr HI.out) (kk : Int) (by omega) (by omega)
      have HX : Aside0 (scanI step kk t (l.drop kk) = if (step t (rd_T23 l (kk : Int))).1 = true then ((kk : Int), (step t (rd_T23 l (kk : Int))).2) else scanI step ((kk + 1 : Nat) : Int) (step t (rd_T23 l (kk : Int))).2 (l.drop (kk + 1))) := ⟨scan_at step z23 l kk hlt t⟩
      have hmem : (rd_T23 l (kk : Int)) ∈ l := scan_mem z23 l kk hlt
      have hcall := HCall.out t wr _ hmem HI.out
      clear hmem
      simp only [Int.toNat_natCast] at hc0 hc1 hc2 hc3
      generalize rd_T23 l (kk : Int) = x at hc0 hc1 hc2 hc3 HX hcall
      have HC := Aside0.mk hcall
      clear hcall
      cases hq : (step t x).1 with
      | true =>
        have h := HC.out
        rw [hq] at h
        have HH := Aside0.mk h
        have HQ := Aside0.mk hq
        clear hq HC h
        go_wp2_with fail
        refine HH.out.mono ?_
        rintro e w' ⟨rfl, hb'⟩
        have HB := Aside0.mk hb'
        clear hb'
        go_wp2
        go_ret
        rw [HS.out, HX.out, if_pos HQ.out]
        exact ⟨rfl, HB.out⟩
      | false =>
        have h := HC.out
        rw [hq] at h
        have HH := Aside0.mk h
        have HQ := Aside0.mk hq
        clear hq HC h
        go_wp2_with fail
        refine HH.out.mono ?_
        rintro e w' ⟨rfl, hb'⟩
        have HB := Aside0.mk hb'
        clear hb'
        go_wp2
        go_roundg (l.length - (kk + 1))
        case measure => omega
        case rel =>
          refine ⟨kk + 1, (step t x).2, by omega, by omega, by go_num, HB, ⟨?_⟩⟩
          rw [HS.out, HX.out, if_neg (by rw [HQ.out]; simp)]
    · have hltz : ¬ (kk : Int) < (l.length : Int) := by omega
      go_wp2
      go_ret
      rw [HS.out, List.drop_eq_nil_of_le (by omega)]
      exact ⟨rfl, HI.out⟩

set_option maxHeartbeats 1000000 in
theorem con134 {σ : Type} (Inv : σ → World → Prop) (step : σ → S23 → Bool × σ) (g : Nat) (lb : Array Value) (eg : ∀ args w, (callFunc g args).run Try.prog w = .ok (.enter g args) w) (l : List S23) (A : Option Addr) (c : Nat)
    (hR : ∀ s W, Inv s W → Kd.C k23 W A l.length l) (hD : ∀ s W n, Inv s W → Inv s (W.drewN n))
    (hcall : ∀ s W (x : S23), x ∈ l → Inv s W → Calls Try.prog g (#[.agg #[.int .i64 x.f0, .int .i64 x.f1, .int .i64 x.f2, .int .i64 x.f3]] ++ lb) W fun e w' => e = .returned (.bool (step s x).1) ∧ Inv (step s x).2 w')
    (s : σ) (w : World) (hI : Inv s w) (hl : l.length ≤ 9223372036854775807) :
    Calls Try.prog 134 #[.slice A l.length c, .func (.func g) #[] lb] w fun e w' => e = .returned (.bool (scanB step s l).1) ∧ Inv (scanB step s l).2 w' := by
  have hi := idx173 Inv step g lb eg l A c hR hD hcall s w hI hl
  rw [scanB_eq]
  clear hR hD hcall hI
  generalize scanI step 0 s l = r at hi
  have HI := Aside0.mk hi
  clear hi
  go_enter Try.func134, Try.ntmps134
  go_wp2_with fail
  refine HI.out.mono ?_
  rintro e w' ⟨rfl, hb'⟩
  have HB := Aside0.mk hb'
  clear hb'
  go_wp2
  go_ret
  exact ⟨rfl, HB.out⟩
end Go.Proofs.Ytfdmfgaiblfbhaa.P
/- The contract of rect.May: whether all of some rectangles may be. -/
namespace Go.Proofs.Ytfdmfgaiblfbhaa.P
open Go.RowKit Go.Proofs.YtfdmfgaiblfbhaaW.PrintWords Go.Proofs.YtfdmfgaiblfbhaaW.PrintLast Go.Proofs.YtfdmfgaiblfbhaaW.PrintMore

set_option maxHeartbeats 1000000 in
theorem may1 (x : S23) (w : World) : Calls Try.prog 138 #[.agg #[.int .i64 x.f0, .int .i64 x.f1, .int .i64 x.f2, .int .i64 x.f3]] w fun e w' => e = .returned (.bool (!mayR x)) ∧ Below w.heap.size w w' := by
  have hc := fun W => rect_may.calls x.f0 x.f1 x.f2 x.f3 (mayR x) W (may_some _ _ _ _)
  have HC := Aside0.mk hc
  clear hc
  cases hm : mayR x with
  | true =>
    rw [hm] at HC
    clear hm
    go_enter Try.func138, Try.ntmps138
    go_wp2_with fail
    refine (HC.out _).mono ?_
    rintro e w' ⟨rfl, hb⟩
    have HB := Aside0.mk hb
    clear hb
    go_wp2
    go_ret
    exact ⟨rfl, below_then (below_alloc (Below.refl _ _) _) (by simp) HB.out⟩
  | false =>
    rw [hm] at HC
    clear hm
    go_enter Try.func138, Try.ntmps138
    go_wp2_with fail
    refine (HC.out _).mono ?_
    rintro e w' ⟨rfl, hb⟩
    have HB := Aside0.mk hb
    clear hb
    go_wp2
    go_ret
    exact ⟨rfl, below_then (below_alloc (Below.refl _ _) _) (by simp) HB.out⟩
def rect_May.f (l0 : List (S23)) : Option Bool := some (l0.all mayR)
set_option maxHeartbeats 1000000 in
theorem rect_May.calls (A0 : Option Addr) (c0 : Nat) (l0 : List (S23)) (r : Bool) (w : World) (hr0 : Kd.C k23 w A0 l0.length l0) (_hc0 : l0.length ≤ c0) (h : rect_May.f l0 = some r) :
    Calls Try.prog 68 #[.slice A0 l0.length c0] w fun e w' => e = .returned (.bool r) ∧ Below w.heap.size w w' := by
  have hcon := con134 (fun (_ : Unit) W => Below w.heap.size w W) (fun _ x => (!mayR x, ())) 138 #[] (enters_fn Try.func138 (by decide +kernel) (by kernel_rfl)) l0 A0 c0 (fun _ W hW => Kd.C_below hr0 hW) (fun _ W n hW => pw_below_drewN hW n)
    (fun _ W x _ hW => by
      rw [show (#[Value.agg #[.int .i64 x.f0, .int .i64 x.f1, .int .i64 x.f2, .int .i64 x.f3]] ++ #[] : Array Value) = #[.agg #[.int .i64 x.f0, .int .i64 x.f1, .int .i64 x.f2, .int .i64 x.f3]] by simp]
      exact (may1 x W).mono fun e w' ⟨he, hb⟩ => ⟨he, below_then hW hW.size hb⟩) () w (Below.refl _ _) hr0.2.1
  rw [scanB_any] at hcon
  have e1 : r = !(l0.any fun x => !mayR x) := by
    injection h with h
    rw [← h]
    clear h hcon hr0 _hc0
    induction l0 with
    | nil => rfl
    | cons x xs ih => simp only [List.all_cons, List.any_cons, ih, Bool.not_or, Bool.not_not]
  subst e1
  generalize (l0.any fun x => !mayR x) = b at hcon
  have HC := Aside0.mk hcon
  clear hcon h hr0
  go_enter Try.func68, Try.ntmps68
  go_wp2_with fail
  refine HC.out.mono ?_
  rintro e w' ⟨rfl, hb⟩
  have HB := Aside0.mk hb
  clear hb
  go_wp2
  go_ret
  exact ⟨rfl, HB.out⟩
end Go.Proofs.Ytfdmfgaiblfbhaa.P
/- The contract of cell.May: whether trees may be. Condition: each has at most 1048576 cells. -/
namespace Go.Proofs.Ytfdmfgaiblfbhaa.P
open Go.RowKit Go.Proofs.YtfdmfgaiblfbhaaW.PrintWords Go.Proofs.YtfdmfgaiblfbhaaW.PrintLast Go.Proofs.YtfdmfgaiblfbhaaW.PrintMore
set_option linter.unusedVariables false
set_option linter.unusedSimpArgs false
theorem Kp.grown {S : Nat → Prop} {W W1 : World} {g : Nat} (h : W.grownBy W1 (some g)) (hs : S g) : Kp S W W1 := ⟨h.size, fun k hk hn => h.block k hk (fun e => hn (by injection e with e; rw [e]; exact hs))⟩
theorem MayI.count {w0 W W1 : World} {bn bm B : Nat} {s : Int × List Int} {n : Int} (h : MayI w0 bn bm B s W) (hk : W1.heap[bn]? = some (.cells #[.int .i64 n] 3 (0, 0))) (hb : Below w0.heap.size w0 W1) (hg : W.grownBy W1 (some bn)) : MayI w0 bn bm B (n, s.2) W1 :=
  ⟨hk, blk_grown h.hm hg (fun e => h.neB.2.2 (Option.some.inj e)), h.map.kept hg (fun e => h.neB.1 (Option.some.inj e).symm), hb, h.gn, h.gB, h.nd, h.rg⟩
theorem MayI.met {w0 W W1 : World} {bn bm B : Nat} {s : Int × List Int} {i : Int} (h : MayI w0 bn bm B s W) (hm : W1.ownsMap (H := Unit) Try.prog 3 (plainElem Try.prog 4) B (s.2.length + 1) ((setD s.2).put (.int .i64 i) (.lit (.bool true)))) (hg : W.grownBy W1 (some B)) (hi : i ∉ s.2) (h0 : 0 ≤ i) (h1 : i ≤ 2147483647) : MayI w0 bn bm B (s.1, i :: s.2) W1 :=
  ⟨blk_grown h.hn hg (fun e => h.neB.1 (Option.some.inj e)), blk_grown h.hm hg (fun e => h.neB.2.1 (Option.some.inj e)), hm, grown_below h.below hg h.gB h.below.size, h.gn, h.gB, List.nodup_cons.2 ⟨hi, h.nd⟩, fun j hj => by
    rcases List.mem_cons.1 hj with rfl | hj
    · exact ⟨h0, h1⟩
    · exact h.rg j hj⟩
theorem zero4 (w : World) : (zeroValue 4).run Try.prog w = .ok (.bool false) w := by kernel_rfl
set_option maxHeartbeats 4000000 in
set_option maxRecDepth 100000 in
theorem may_A (w0 : World) (bn bm B : Nat) (s : Int × List Int) (W : World) (x : S26) (A : Option Addr) (cb : Nat) (hI : MayI w0 bn bm B s W) (h1 : 20000 < wrap64 (s.1 + 1)) :
    Calls Try.prog 176 (#[.agg #[.int .u8 x.f0, .int .i64 x.f1.f0, .int .i64 x.f1.f1, .int .i64 x.f1.f2, .int .i64 x.f1.f3, .int .i64 x.f2, .slice A x.f3.length cb]] ++ #[.pointer (some ⟨bn, 0, none⟩), .pointer (some ⟨bm, 0, none⟩)]) W fun e w' => e = .returned (.bool (mStep s x).1) ∧ MayI w0 bn bm B (mStep s x).2 w' ∧ Kp (MayS bn B) W w' := by
  rw [show mStep s x = (false, (wrap64 (s.1 + 1), s.2)) from by unfold mStep; rw [if_pos h1]]
  have HI := Aside0.mk hI
  have HK := Aside0.mk (Kp.refl (MayS bn B) W)
  clear hI
  simp only [List.append_toArray, List.cons_append, List.nil_append]
  go_enter Try.func176, Try.ntmps176
  go_wp2_with (first | ((with_reducible refine gate_dst (N := 3) rfl ?_); refine box_event ?hg (N := 3) ?hd (cs := #[.int .u8 x.f0, .int .i64 x.f1.f0, .int .i64 x.f1.f1, .int .i64 x.f1.f2, .int .i64 x.f1.f3, .int .i64 x.f2, .slice A x.f3.length cb]) (t := 26) ?hr ?_; (case hd => rfl); (case hg => rfl); (case hr => (go_simp; done)); intro b3 hg w3 hbox hb; have K3 := Aside0.mk hbox; have q1_ := Aside0.mk (HI.out.step hb); have q2_ := Aside0.mk (HK.out.trans (Kp.below hb)); clear HI HK; have HI := q1_; have HK := q2_; clear q1_ q2_; clear hb hbox hg; have cn := (blk_cell HI.out.hn 0).trans rfl) | ((with_reducible refine gate_ (.store 3 (.tmp 1) (.tmp 6)) rfl ?_); go_loud (clear cn; refine box_store (w0 := w0) rfl rfl 3 (.tmp 1) (.tmp 6) rfl (g := bn) (j := 0) (base := w0.heap.size) #[.int .i64 (wrap64 (s.1 + 1))] (u := .int .i64 (wrap64 (s.1 + 1))) (seg := [.int .i64 (wrap64 (s.1 + 1))]) ?sA ?sX rfl ?sT ?s1 HI.out.hn ?sJ rfl HI.out.below HI.out.below.size HI.out.gn ?_; (case sA => rfl); (case sX => rfl); (case sT => rfl); (case s1 => (simp [Value.oneCell'])); (case sJ => (simp)); intro ws hbk hbb hgg; have q1_ := Aside0.mk (HI.out.count hbk hbb hgg); have q2_ := Aside0.mk (HK.out.trans (Kp.grown hgg (Or.inl rfl))); have q3_ := Aside0.mk (blk_grown K3.out hgg (fun e_ => blk_ne K3.out HI.out.hn (by decide) (Option.some.inj e_))); clear HI HK K3 hbk hbb hgg; have HI := q1_; have HK := q2_; have K3 := q3_; clear q1_ q2_ q3_; have cn := (blk_cell HI.out.hn 0).trans rfl; have c0 := (blk_cell K3.out 0).trans rfl; have c1 := (blk_cell K3.out 1).trans rfl; have c2 := (blk_cell K3.out 2).trans rfl; have c3 := (blk_cell K3.out 3).trans rfl; have c4 := (blk_cell K3.out 4).trans rfl; have c5 := (blk_cell K3.out 5).trans rfl; have c6 := (blk_cell K3.out 6).trans rfl)))
  go_ret
  exact ⟨rfl, HI.out, HK.out⟩
set_option maxHeartbeats 4000000 in
set_option maxRecDepth 100000 in
theorem may_B (w0 : World) (bn bm B : Nat) (s : Int × List Int) (W : World) (x : S26) (A : Option Addr) (cb : Nat) (hI : MayI w0 bn bm B s W) (h1 : ¬ 20000 < wrap64 (s.1 + 1)) (h2 : nodeB x = false) :
    Calls Try.prog 176 (#[.agg #[.int .u8 x.f0, .int .i64 x.f1.f0, .int .i64 x.f1.f1, .int .i64 x.f1.f2, .int .i64 x.f1.f3, .int .i64 x.f2, .slice A x.f3.length cb]] ++ #[.pointer (some ⟨bn, 0, none⟩), .pointer (some ⟨bm, 0, none⟩)]) W fun e w' => e = .returned (.bool (mStep s x).1) ∧ MayI w0 bn bm B (mStep s x).2 w' ∧ Kp (MayS bn B) W w' := by
  rw [show mStep s x = (false, (wrap64 (s.1 + 1), s.2)) from by unfold mStep; rw [if_neg h1, okC_node, h2]; simp]
  have HN := Aside0.mk fun W => node177 x A cb W
  rw [h2] at HN
  clear h2
  have HI := Aside0.mk hI
  have HK := Aside0.mk (Kp.refl (MayS bn B) W)
  clear hI
  simp only [List.append_toArray, List.cons_append, List.nil_append]
  go_enter Try.func176, Try.ntmps176
  go_wp2_with (first | ((with_reducible refine gate_dst (N := 3) rfl ?_); refine box_event ?hg (N := 3) ?hd (cs := #[.int .u8 x.f0, .int .i64 x.f1.f0, .int .i64 x.f1.f1, .int .i64 x.f1.f2, .int .i64 x.f1.f3, .int .i64 x.f2, .slice A x.f3.length cb]) (t := 26) ?hr ?_; (case hd => rfl); (case hg => rfl); (case hr => (go_simp; done)); intro b3 hg w3 hbox hb; have K3 := Aside0.mk hbox; have q1_ := Aside0.mk (HI.out.step hb); have q2_ := Aside0.mk (HK.out.trans (Kp.below hb)); clear HI HK; have HI := q1_; have HK := q2_; clear q1_ q2_; clear hb hbox hg; have cn := (blk_cell HI.out.hn 0).trans rfl) | ((with_reducible refine gate_ (.store 3 (.tmp 1) (.tmp 6)) rfl ?_); go_loud (clear cn; refine box_store (w0 := w0) rfl rfl 3 (.tmp 1) (.tmp 6) rfl (g := bn) (j := 0) (base := w0.heap.size) #[.int .i64 (wrap64 (s.1 + 1))] (u := .int .i64 (wrap64 (s.1 + 1))) (seg := [.int .i64 (wrap64 (s.1 + 1))]) ?sA ?sX rfl ?sT ?s1 HI.out.hn ?sJ rfl HI.out.below HI.out.below.size HI.out.gn ?_; (case sA => rfl); (case sX => rfl); (case sT => rfl); (case s1 => (simp [Value.oneCell'])); (case sJ => (simp)); intro ws hbk hbb hgg; have q1_ := Aside0.mk (HI.out.count hbk hbb hgg); have q2_ := Aside0.mk (HK.out.trans (Kp.grown hgg (Or.inl rfl))); have q3_ := Aside0.mk (blk_grown K3.out hgg (fun e_ => blk_ne K3.out HI.out.hn (by decide) (Option.some.inj e_))); clear HI HK K3 hbk hbb hgg; have HI := q1_; have HK := q2_; have K3 := q3_; clear q1_ q2_ q3_; have cn := (blk_cell HI.out.hn 0).trans rfl; have c0 := (blk_cell K3.out 0).trans rfl; have c1 := (blk_cell K3.out 1).trans rfl; have c2 := (blk_cell K3.out 2).trans rfl; have c3 := (blk_cell K3.out 3).trans rfl; have c4 := (blk_cell K3.out 4).trans rfl; have c5 := (blk_cell K3.out 5).trans rfl; have c6 := (blk_cell K3.out 6).trans rfl)))
  clear cn
  clear c0 c1 c2 c3 c4 c5 c6
  refine (HN.out _).mono ?_
  rintro e wk ⟨rfl, hb⟩
  have q3_ := Aside0.mk (blk_below K3.out hb)
  clear K3
  have K3 := q3_
  clear q3_
  have q1_ := Aside0.mk (HI.out.step hb); have q2_ := Aside0.mk (HK.out.trans (Kp.below hb)); clear HI HK; have HI := q1_; have HK := q2_; clear q1_ q2_
  clear hb
  go_wp2
  go_ret
  exact ⟨rfl, HI.out, HK.out⟩
set_option maxHeartbeats 4000000 in
set_option maxRecDepth 100000 in
theorem may_C (w0 : World) (bn bm B : Nat) (s : Int × List Int) (W : World) (x : S26) (A : Option Addr) (cb : Nat) (hI : MayI w0 bn bm B s W) (h1 : ¬ 20000 < wrap64 (s.1 + 1)) (h2 : nodeB x = true) (h3 : mayR x.f1 = false) :
    Calls Try.prog 176 (#[.agg #[.int .u8 x.f0, .int .i64 x.f1.f0, .int .i64 x.f1.f1, .int .i64 x.f1.f2, .int .i64 x.f1.f3, .int .i64 x.f2, .slice A x.f3.length cb]] ++ #[.pointer (some ⟨bn, 0, none⟩), .pointer (some ⟨bm, 0, none⟩)]) W fun e w' => e = .returned (.bool (mStep s x).1) ∧ MayI w0 bn bm B (mStep s x).2 w' ∧ Kp (MayS bn B) W w' := by
  rw [show mStep s x = (false, (wrap64 (s.1 + 1), s.2)) from by unfold mStep; rw [if_neg h1, okC_node, h2, h3]; simp]
  have HN := Aside0.mk fun W => node177 x A cb W
  rw [h2] at HN
  clear h2
  have M1 := Aside0.mk (show rect_May.f [x.f1] = some false by simp [rect_May.f, h3])
  clear h3
  have HI := Aside0.mk hI
  have HK := Aside0.mk (Kp.refl (MayS bn B) W)
  clear hI
  simp only [List.append_toArray, List.cons_append, List.nil_append]
  go_enter Try.func176, Try.ntmps176
  go_wp2_with (first | ((with_reducible refine gate_dst (N := 3) rfl ?_); refine box_event ?hg (N := 3) ?hd (cs := #[.int .u8 x.f0, .int .i64 x.f1.f0, .int .i64 x.f1.f1, .int .i64 x.f1.f2, .int .i64 x.f1.f3, .int .i64 x.f2, .slice A x.f3.length cb]) (t := 26) ?hr ?_; (case hd => rfl); (case hg => rfl); (case hr => (go_simp; done)); intro b3 hg w3 hbox hb; have K3 := Aside0.mk hbox; have q1_ := Aside0.mk (HI.out.step hb); have q2_ := Aside0.mk (HK.out.trans (Kp.below hb)); clear HI HK; have HI := q1_; have HK := q2_; clear q1_ q2_; clear hb hbox hg; have cn := (blk_cell HI.out.hn 0).trans rfl) | ((with_reducible refine gate_ (.store 3 (.tmp 1) (.tmp 6)) rfl ?_); go_loud (clear cn; refine box_store (w0 := w0) rfl rfl 3 (.tmp 1) (.tmp 6) rfl (g := bn) (j := 0) (base := w0.heap.size) #[.int .i64 (wrap64 (s.1 + 1))] (u := .int .i64 (wrap64 (s.1 + 1))) (seg := [.int .i64 (wrap64 (s.1 + 1))]) ?sA ?sX rfl ?sT ?s1 HI.out.hn ?sJ rfl HI.out.below HI.out.below.size HI.out.gn ?_; (case sA => rfl); (case sX => rfl); (case sT => rfl); (case s1 => (simp [Value.oneCell'])); (case sJ => (simp)); intro ws hbk hbb hgg; have q1_ := Aside0.mk (HI.out.count hbk hbb hgg); have q2_ := Aside0.mk (HK.out.trans (Kp.grown hgg (Or.inl rfl))); have q3_ := Aside0.mk (blk_grown K3.out hgg (fun e_ => blk_ne K3.out HI.out.hn (by decide) (Option.some.inj e_))); clear HI HK K3 hbk hbb hgg; have HI := q1_; have HK := q2_; have K3 := q3_; clear q1_ q2_ q3_; have cn := (blk_cell HI.out.hn 0).trans rfl; have c0 := (blk_cell K3.out 0).trans rfl; have c1 := (blk_cell K3.out 1).trans rfl; have c2 := (blk_cell K3.out 2).trans rfl; have c3 := (blk_cell K3.out 3).trans rfl; have c4 := (blk_cell K3.out 4).trans rfl; have c5 := (blk_cell K3.out 5).trans rfl; have c6 := (blk_cell K3.out 6).trans rfl)))
  clear cn
  clear c0 c1 c2 c3 c4 c5 c6
  refine (HN.out _).mono ?_
  rintro e wk ⟨rfl, hb⟩
  have q3_ := Aside0.mk (blk_below K3.out hb)
  clear K3
  have K3 := q3_
  clear q3_
  have q1_ := Aside0.mk (HI.out.step hb); have q2_ := Aside0.mk (HK.out.trans (Kp.below hb)); clear HI HK; have HI := q1_; have HK := q2_; clear q1_ q2_
  clear hb
  have c0 := (blk_cell K3.out 0).trans rfl
  have c1 := (blk_cell K3.out 1).trans rfl
  have c2 := (blk_cell K3.out 2).trans rfl
  have c3 := (blk_cell K3.out 3).trans rfl
  have c4 := (blk_cell K3.out 4).trans rfl
  have c5 := (blk_cell K3.out 5).trans rfl
  have c6 := (blk_cell K3.out 6).trans rfl
  go_wp2_with (((with_reducible refine gate_dst (N := 17) rfl ?_); (try (refine gate_guard (by rfl) ?_; dsimp only)); refine Kd.R_lit k23 _ 23 ?hg (N := 17) ?hd (xs := ([x.f1] : List S23)) (inner := [.int .i64 x.f1.f0, .int .i64 x.f1.f1, .int .i64 x.f1.f2, .int .i64 x.f1.f3]) (ok := fun _ => True) (okp := fun _ => True) ?hr ?hp (fun _ hk => hk) trivial (Below.refl _ _) (Nat.le_refl _) (by simp) ?_; (case hd => rfl); (case hg => rfl); (case hr => (go_simp; done)); (case hp => exact (Reps.c4 (show Kd.M k23 _ _ _ x.f1 [.int .i64 x.f1.f0, .int .i64 x.f1.f1, .int .i64 x.f1.f2, .int .i64 x.f1.f3] from k23_mkM _ _ _ x.f1) (Reps.none _ _))); intro vr wr ho hb hg_ hnew_; clear hg_ hnew_; obtain ⟨Ar, cr, er⟩ := Kd.R_slice ho; subst er; have q3_ := Aside0.mk (blk_below K3.out hb); clear K3; have K3 := q3_; clear q3_; have q1_ := Aside0.mk (HI.out.step hb); have q2_ := Aside0.mk (HK.out.trans (Kp.below hb)); clear HI HK; have HI := q1_; have HK := q2_; clear q1_ q2_; have HR := Aside0.mk (Kd.R_reads' ho).2.2; have LR := Aside0.mk (Kd.R_reads' ho).2.1; clear ho hb))
  clear c0 c1 c2 c3 c4 c5 c6
  refine (rect_May.calls Ar cr [x.f1] false _ HR.out LR.out M1.out).mono ?_
  rintro e wk ⟨rfl, hb⟩
  have q3_ := Aside0.mk (blk_below K3.out hb)
  clear K3
  have K3 := q3_
  clear q3_
  have q1_ := Aside0.mk (HI.out.step hb); have q2_ := Aside0.mk (HK.out.trans (Kp.below hb)); clear HI HK; have HI := q1_; have HK := q2_; clear q1_ q2_
  clear hb
  go_wp2
  go_ret
  exact ⟨rfl, HI.out, HK.out⟩
set_option maxHeartbeats 4000000 in
set_option maxRecDepth 100000 in
theorem may_D (w0 : World) (bn bm B : Nat) (s : Int × List Int) (W : World) (x : S26) (A : Option Addr) (cb : Nat) (hI : MayI w0 bn bm B s W) (h1 : ¬ 20000 < wrap64 (s.1 + 1)) (h2 : nodeB x = true) (h3 : mayR x.f1 = true) (h4 : x.f0 ≠ 1) :
    Calls Try.prog 176 (#[.agg #[.int .u8 x.f0, .int .i64 x.f1.f0, .int .i64 x.f1.f1, .int .i64 x.f1.f2, .int .i64 x.f1.f3, .int .i64 x.f2, .slice A x.f3.length cb]] ++ #[.pointer (some ⟨bn, 0, none⟩), .pointer (some ⟨bm, 0, none⟩)]) W fun e w' => e = .returned (.bool (mStep s x).1) ∧ MayI w0 bn bm B (mStep s x).2 w' ∧ Kp (MayS bn B) W w' := by
  rw [show mStep s x = (true, (wrap64 (s.1 + 1), s.2)) from by unfold mStep; rw [if_neg h1, okC_node, h2, h3, if_neg (by simp), if_neg h4]]
  have HN := Aside0.mk fun W => node177 x A cb W
  rw [h2] at HN
  clear h2
  have M1 := Aside0.mk (show rect_May.f [x.f1] = some true by simp [rect_May.f, h3])
  clear h3
  have h4b : (x.f0 == 1) = false := beq_eq_false_iff_ne.mpr h4
  clear h4
  have HI := Aside0.mk hI
  have HK := Aside0.mk (Kp.refl (MayS bn B) W)
  clear hI
  simp only [List.append_toArray, List.cons_append, List.nil_append]
  go_enter Try.func176, Try.ntmps176
  go_wp2_with (first | ((with_reducible refine gate_dst (N := 3) rfl ?_); refine box_event ?hg (N := 3) ?hd (cs := #[.int .u8 x.f0, .int .i64 x.f1.f0, .int .i64 x.f1.f1, .int .i64 x.f1.f2, .int .i64 x.f1.f3, .int .i64 x.f2, .slice A x.f3.length cb]) (t := 26) ?hr ?_; (case hd => rfl); (case hg => rfl); (case hr => (go_simp; done)); intro b3 hg w3 hbox hb; have K3 := Aside0.mk hbox; have q1_ := Aside0.mk (HI.out.step hb); have q2_ := Aside0.mk (HK.out.trans (Kp.below hb)); clear HI HK; have HI := q1_; have HK := q2_; clear q1_ q2_; clear hb hbox hg; have cn := (blk_cell HI.out.hn 0).trans rfl) | ((with_reducible refine gate_ (.store 3 (.tmp 1) (.tmp 6)) rfl ?_); go_loud (clear cn; refine box_store (w0 := w0) rfl rfl 3 (.tmp 1) (.tmp 6) rfl (g := bn) (j := 0) (base := w0.heap.size) #[.int .i64 (wrap64 (s.1 + 1))] (u := .int .i64 (wrap64 (s.1 + 1))) (seg := [.int .i64 (wrap64 (s.1 + 1))]) ?sA ?sX rfl ?sT ?s1 HI.out.hn ?sJ rfl HI.out.below HI.out.below.size HI.out.gn ?_; (case sA => rfl); (case sX => rfl); (case sT => rfl); (case s1 => (simp [Value.oneCell'])); (case sJ => (simp)); intro ws hbk hbb hgg; have q1_ := Aside0.mk (HI.out.count hbk hbb hgg); have q2_ := Aside0.mk (HK.out.trans (Kp.grown hgg (Or.inl rfl))); have q3_ := Aside0.mk (blk_grown K3.out hgg (fun e_ => blk_ne K3.out HI.out.hn (by decide) (Option.some.inj e_))); clear HI HK K3 hbk hbb hgg; have HI := q1_; have HK := q2_; have K3 := q3_; clear q1_ q2_ q3_; have cn := (blk_cell HI.out.hn 0).trans rfl; have c0 := (blk_cell K3.out 0).trans rfl; have c1 := (blk_cell K3.out 1).trans rfl; have c2 := (blk_cell K3.out 2).trans rfl; have c3 := (blk_cell K3.out 3).trans rfl; have c4 := (blk_cell K3.out 4).trans rfl; have c5 := (blk_cell K3.out 5).trans rfl; have c6 := (blk_cell K3.out 6).trans rfl)))
  clear cn
  clear c0 c1 c2 c3 c4 c5 c6
  refine (HN.out _).mono ?_
  rintro e wk ⟨rfl, hb⟩
  have q3_ := Aside0.mk (blk_below K3.out hb)
  clear K3
  have K3 := q3_
  clear q3_
  have q1_ := Aside0.mk (HI.out.step hb); have q2_ := Aside0.mk (HK.out.trans (Kp.below hb)); clear HI HK; have HI := q1_; have HK := q2_; clear q1_ q2_
  clear hb
  have c0 := (blk_cell K3.out 0).trans rfl
  have c1 := (blk_cell K3.out 1).trans rfl
  have c2 := (blk_cell K3.out 2).trans rfl
  have c3 := (blk_cell K3.out 3).trans rfl
  have c4 := (blk_cell K3.out 4).trans rfl
  have c5 := (blk_cell K3.out 5).trans rfl
  have c6 := (blk_cell K3.out 6).trans rfl
  go_wp2_with (((with_reducible refine gate_dst (N := 17) rfl ?_); (try (refine gate_guard (by rfl) ?_; dsimp only)); refine Kd.R_lit k23 _ 23 ?hg (N := 17) ?hd (xs := ([x.f1] : List S23)) (inner := [.int .i64 x.f1.f0, .int .i64 x.f1.f1, .int .i64 x.f1.f2, .int .i64 x.f1.f3]) (ok := fun _ => True) (okp := fun _ => True) ?hr ?hp (fun _ hk => hk) trivial (Below.refl _ _) (Nat.le_refl _) (by simp) ?_; (case hd => rfl); (case hg => rfl); (case hr => (go_simp; done)); (case hp => exact (Reps.c4 (show Kd.M k23 _ _ _ x.f1 [.int .i64 x.f1.f0, .int .i64 x.f1.f1, .int .i64 x.f1.f2, .int .i64 x.f1.f3] from k23_mkM _ _ _ x.f1) (Reps.none _ _))); intro vr wr ho hb hg_ hnew_; clear hg_ hnew_; obtain ⟨Ar, cr, er⟩ := Kd.R_slice ho; subst er; have q3_ := Aside0.mk (blk_below K3.out hb); clear K3; have K3 := q3_; clear q3_; have q1_ := Aside0.mk (HI.out.step hb); have q2_ := Aside0.mk (HK.out.trans (Kp.below hb)); clear HI HK; have HI := q1_; have HK := q2_; clear q1_ q2_; have HR := Aside0.mk (Kd.R_reads' ho).2.2; have LR := Aside0.mk (Kd.R_reads' ho).2.1; clear ho hb))
  clear c0 c1 c2 c3 c4 c5 c6
  refine (rect_May.calls Ar cr [x.f1] true _ HR.out LR.out M1.out).mono ?_
  rintro e wk ⟨rfl, hb⟩
  have q3_ := Aside0.mk (blk_below K3.out hb)
  clear K3
  have K3 := q3_
  clear q3_
  have q1_ := Aside0.mk (HI.out.step hb); have q2_ := Aside0.mk (HK.out.trans (Kp.below hb)); clear HI HK; have HI := q1_; have HK := q2_; clear q1_ q2_
  clear hb
  have c0 := (blk_cell K3.out 0).trans rfl
  have c1 := (blk_cell K3.out 1).trans rfl
  have c2 := (blk_cell K3.out 2).trans rfl
  have c3 := (blk_cell K3.out 3).trans rfl
  have c4 := (blk_cell K3.out 4).trans rfl
  have c5 := (blk_cell K3.out 5).trans rfl
  have c6 := (blk_cell K3.out 6).trans rfl
  go_wp2
  go_ret
  exact ⟨rfl, HI.out, HK.out⟩
set_option maxHeartbeats 4000000 in
set_option maxRecDepth 100000 in
theorem may_E (w0 : World) (bn bm B : Nat) (s : Int × List Int) (W : World) (x : S26) (A : Option Addr) (cb : Nat) (hI : MayI w0 bn bm B s W) (h1 : ¬ 20000 < wrap64 (s.1 + 1)) (h2 : nodeB x = true) (h3 : mayR x.f1 = true) (h4 : x.f0 = 1) (h5 : 0 ≤ x.f2) (h6 : x.f2 ≤ 2147483647) (h7 : x.f2 ∈ s.2) :
    Calls Try.prog 176 (#[.agg #[.int .u8 x.f0, .int .i64 x.f1.f0, .int .i64 x.f1.f1, .int .i64 x.f1.f2, .int .i64 x.f1.f3, .int .i64 x.f2, .slice A x.f3.length cb]] ++ #[.pointer (some ⟨bn, 0, none⟩), .pointer (some ⟨bm, 0, none⟩)]) W fun e w' => e = .returned (.bool (mStep s x).1) ∧ MayI w0 bn bm B (mStep s x).2 w' ∧ Kp (MayS bn B) W w' := by
  rw [show mStep s x = (false, (wrap64 (s.1 + 1), s.2)) from by unfold mStep; rw [if_neg h1, okC_node, h2, h3, if_neg (by simp), if_pos h4, if_pos h7]]
  have HN := Aside0.mk fun W => node177 x A cb W
  rw [h2] at HN
  clear h2
  have M1 := Aside0.mk (show rect_May.f [x.f1] = some true by simp [rect_May.f, h3])
  clear h3
  have LK : Aside0 ((setD s.2).atKey (.int .i64 x.f2) (.lit (.bool false)) = .lit (.bool true)) := ⟨by rw [setD_at, decide_eq_true h7]⟩
  clear h7
  have WF : Aside0 ((Lit.int .i64 x.f2).wf = true) := ⟨WalkArith.wf_i64 (by omega)⟩
  have h4b : (x.f0 == 1) = true := beq_iff_eq.mpr h4
  clear h4 h5 h6
  have HI := Aside0.mk hI
  have HK := Aside0.mk (Kp.refl (MayS bn B) W)
  clear hI
  simp only [List.append_toArray, List.cons_append, List.nil_append]
  go_enter Try.func176, Try.ntmps176
  go_wp2_with (first | ((with_reducible refine gate_dst (N := 3) rfl ?_); refine box_event ?hg (N := 3) ?hd (cs := #[.int .u8 x.f0, .int .i64 x.f1.f0, .int .i64 x.f1.f1, .int .i64 x.f1.f2, .int .i64 x.f1.f3, .int .i64 x.f2, .slice A x.f3.length cb]) (t := 26) ?hr ?_; (case hd => rfl); (case hg => rfl); (case hr => (go_simp; done)); intro b3 hg w3 hbox hb; have K3 := Aside0.mk hbox; have q1_ := Aside0.mk (HI.out.step hb); have q2_ := Aside0.mk (HK.out.trans (Kp.below hb)); clear HI HK; have HI := q1_; have HK := q2_; clear q1_ q2_; clear hb hbox hg; have cn := (blk_cell HI.out.hn 0).trans rfl) | ((with_reducible refine gate_ (.store 3 (.tmp 1) (.tmp 6)) rfl ?_); go_loud (clear cn; refine box_store (w0 := w0) rfl rfl 3 (.tmp 1) (.tmp 6) rfl (g := bn) (j := 0) (base := w0.heap.size) #[.int .i64 (wrap64 (s.1 + 1))] (u := .int .i64 (wrap64 (s.1 + 1))) (seg := [.int .i64 (wrap64 (s.1 + 1))]) ?sA ?sX rfl ?sT ?s1 HI.out.hn ?sJ rfl HI.out.below HI.out.below.size HI.out.gn ?_; (case sA => rfl); (case sX => rfl); (case sT => rfl); (case s1 => (simp [Value.oneCell'])); (case sJ => (simp)); intro ws hbk hbb hgg; have q1_ := Aside0.mk (HI.out.count hbk hbb hgg); have q2_ := Aside0.mk (HK.out.trans (Kp.grown hgg (Or.inl rfl))); have q3_ := Aside0.mk (blk_grown K3.out hgg (fun e_ => blk_ne K3.out HI.out.hn (by decide) (Option.some.inj e_))); clear HI HK K3 hbk hbb hgg; have HI := q1_; have HK := q2_; have K3 := q3_; clear q1_ q2_ q3_; have cn := (blk_cell HI.out.hn 0).trans rfl; have c0 := (blk_cell K3.out 0).trans rfl; have c1 := (blk_cell K3.out 1).trans rfl; have c2 := (blk_cell K3.out 2).trans rfl; have c3 := (blk_cell K3.out 3).trans rfl; have c4 := (blk_cell K3.out 4).trans rfl; have c5 := (blk_cell K3.out 5).trans rfl; have c6 := (blk_cell K3.out 6).trans rfl)))
  clear cn
  clear c0 c1 c2 c3 c4 c5 c6
  refine (HN.out _).mono ?_
  rintro e wk ⟨rfl, hb⟩
  have q3_ := Aside0.mk (blk_below K3.out hb)
  clear K3
  have K3 := q3_
  clear q3_
  have q1_ := Aside0.mk (HI.out.step hb); have q2_ := Aside0.mk (HK.out.trans (Kp.below hb)); clear HI HK; have HI := q1_; have HK := q2_; clear q1_ q2_
  clear hb
  have c0 := (blk_cell K3.out 0).trans rfl
  have c1 := (blk_cell K3.out 1).trans rfl
  have c2 := (blk_cell K3.out 2).trans rfl
  have c3 := (blk_cell K3.out 3).trans rfl
  have c4 := (blk_cell K3.out 4).trans rfl
  have c5 := (blk_cell K3.out 5).trans rfl
  have c6 := (blk_cell K3.out 6).trans rfl
  go_wp2_with (((with_reducible refine gate_dst (N := 17) rfl ?_); (try (refine gate_guard (by rfl) ?_; dsimp only)); refine Kd.R_lit k23 _ 23 ?hg (N := 17) ?hd (xs := ([x.f1] : List S23)) (inner := [.int .i64 x.f1.f0, .int .i64 x.f1.f1, .int .i64 x.f1.f2, .int .i64 x.f1.f3]) (ok := fun _ => True) (okp := fun _ => True) ?hr ?hp (fun _ hk => hk) trivial (Below.refl _ _) (Nat.le_refl _) (by simp) ?_; (case hd => rfl); (case hg => rfl); (case hr => (go_simp; done)); (case hp => exact (Reps.c4 (show Kd.M k23 _ _ _ x.f1 [.int .i64 x.f1.f0, .int .i64 x.f1.f1, .int .i64 x.f1.f2, .int .i64 x.f1.f3] from k23_mkM _ _ _ x.f1) (Reps.none _ _))); intro vr wr ho hb hg_ hnew_; clear hg_ hnew_; obtain ⟨Ar, cr, er⟩ := Kd.R_slice ho; subst er; have q3_ := Aside0.mk (blk_below K3.out hb); clear K3; have K3 := q3_; clear q3_; have q1_ := Aside0.mk (HI.out.step hb); have q2_ := Aside0.mk (HK.out.trans (Kp.below hb)); clear HI HK; have HI := q1_; have HK := q2_; clear q1_ q2_; have HR := Aside0.mk (Kd.R_reads' ho).2.2; have LR := Aside0.mk (Kd.R_reads' ho).2.1; clear ho hb))
  clear c0 c1 c2 c3 c4 c5 c6
  refine (rect_May.calls Ar cr [x.f1] true _ HR.out LR.out M1.out).mono ?_
  rintro e wk ⟨rfl, hb⟩
  have q3_ := Aside0.mk (blk_below K3.out hb)
  clear K3
  have K3 := q3_
  clear q3_
  have q1_ := Aside0.mk (HI.out.step hb); have q2_ := Aside0.mk (HK.out.trans (Kp.below hb)); clear HI HK; have HI := q1_; have HK := q2_; clear q1_ q2_
  clear hb
  have c0 := (blk_cell K3.out 0).trans rfl
  have c1 := (blk_cell K3.out 1).trans rfl
  have c2 := (blk_cell K3.out 2).trans rfl
  have c3 := (blk_cell K3.out 3).trans rfl
  have c4 := (blk_cell K3.out 4).trans rfl
  have c5 := (blk_cell K3.out 5).trans rfl
  have c6 := (blk_cell K3.out 6).trans rfl
  have cm := (blk_cell HI.out.hm 0).trans rfl
  go_wp2_with (((with_reducible refine gate_dst (N := 29) rfl ?_); (try (refine gate_guard (by rfl) ?_; dsimp only)); refine lookup_bool _ rfl _ _ 161 rfl 3 4 (Maps.int_keyed Try.underlying3) Try.underlying161 Try.underlying4 (zero4 _) B _ _ rfl HI.out.map _ (.int .i64 x.f2) rfl (Maps.keyOf_int_mk Try.underlying3 WF.out) true LK.out ?_))
  go_ret
  exact ⟨rfl, HI.out, HK.out⟩
set_option maxHeartbeats 4000000 in
set_option maxRecDepth 100000 in
theorem may_F (w0 : World) (bn bm B : Nat) (s : Int × List Int) (W : World) (x : S26) (A : Option Addr) (cb : Nat) (hI : MayI w0 bn bm B s W) (h1 : ¬ 20000 < wrap64 (s.1 + 1)) (h2 : nodeB x = true) (h3 : mayR x.f1 = true) (h4 : x.f0 = 1) (h5 : 0 ≤ x.f2) (h6 : x.f2 ≤ 2147483647) (h7 : x.f2 ∉ s.2) :
    Calls Try.prog 176 (#[.agg #[.int .u8 x.f0, .int .i64 x.f1.f0, .int .i64 x.f1.f1, .int .i64 x.f1.f2, .int .i64 x.f1.f3, .int .i64 x.f2, .slice A x.f3.length cb]] ++ #[.pointer (some ⟨bn, 0, none⟩), .pointer (some ⟨bm, 0, none⟩)]) W fun e w' => e = .returned (.bool (mStep s x).1) ∧ MayI w0 bn bm B (mStep s x).2 w' ∧ Kp (MayS bn B) W w' := by
  rw [show mStep s x = (true, (wrap64 (s.1 + 1), x.f2 :: s.2)) from by unfold mStep; rw [if_neg h1, okC_node, h2, h3, if_neg (by simp), if_pos h4, if_neg h7]]
  have HN := Aside0.mk fun W => node177 x A cb W
  rw [h2] at HN
  clear h2
  have M1 := Aside0.mk (show rect_May.f [x.f1] = some true by simp [rect_May.f, h3])
  clear h3
  have LK : Aside0 ((setD s.2).atKey (.int .i64 x.f2) (.lit (.bool false)) = .lit (.bool false)) := ⟨by rw [setD_at, decide_eq_false h7]⟩
  have NM := Aside0.mk h7
  clear h7
  have HLN : Aside0 (s.2.length < maxLen) := ⟨by have h8 := nodup_le 2147483648 s.2 hI.nd (fun i hi => by have := hI.rg i hi; omega); unfold maxLen; omega⟩
  have I0 := Aside0.mk h5
  have I1 := Aside0.mk h6
  have WF : Aside0 ((Lit.int .i64 x.f2).wf = true) := ⟨WalkArith.wf_i64 (by omega)⟩
  have h4b : (x.f0 == 1) = true := beq_iff_eq.mpr h4
  clear h4 h5 h6
  have HI := Aside0.mk hI
  have HK := Aside0.mk (Kp.refl (MayS bn B) W)
  clear hI
  simp only [List.append_toArray, List.cons_append, List.nil_append]
  go_enter Try.func176, Try.ntmps176
  go_wp2_with (first | ((with_reducible refine gate_dst (N := 3) rfl ?_); refine box_event ?hg (N := 3) ?hd (cs := #[.int .u8 x.f0, .int .i64 x.f1.f0, .int .i64 x.f1.f1, .int .i64 x.f1.f2, .int .i64 x.f1.f3, .int .i64 x.f2, .slice A x.f3.length cb]) (t := 26) ?hr ?_; (case hd => rfl); (case hg => rfl); (case hr => (go_simp; done)); intro b3 hg w3 hbox hb; have K3 := Aside0.mk hbox; have q1_ := Aside0.mk (HI.out.step hb); have q2_ := Aside0.mk (HK.out.trans (Kp.below hb)); clear HI HK; have HI := q1_; have HK := q2_; clear q1_ q2_; clear hb hbox hg; have cn := (blk_cell HI.out.hn 0).trans rfl) | ((with_reducible refine gate_ (.store 3 (.tmp 1) (.tmp 6)) rfl ?_); go_loud (clear cn; refine box_store (w0 := w0) rfl rfl 3 (.tmp 1) (.tmp 6) rfl (g := bn) (j := 0) (base := w0.heap.size) #[.int .i64 (wrap64 (s.1 + 1))] (u := .int .i64 (wrap64 (s.1 + 1))) (seg := [.int .i64 (wrap64 (s.1 + 1))]) ?sA ?sX rfl ?sT ?s1 HI.out.hn ?sJ rfl HI.out.below HI.out.below.size HI.out.gn ?_; (case sA => rfl); (case sX => rfl); (case sT => rfl); (case s1 => (simp [Value.oneCell'])); (case sJ => (simp)); intro ws hbk hbb hgg; have q1_ := Aside0.mk (HI.out.count hbk hbb hgg); have q2_ := Aside0.mk (HK.out.trans (Kp.grown hgg (Or.inl rfl))); have q3_ := Aside0.mk (blk_grown K3.out hgg (fun e_ => blk_ne K3.out HI.out.hn (by decide) (Option.some.inj e_))); clear HI HK K3 hbk hbb hgg; have HI := q1_; have HK := q2_; have K3 := q3_; clear q1_ q2_ q3_; have cn := (blk_cell HI.out.hn 0).trans rfl; have c0 := (blk_cell K3.out 0).trans rfl; have c1 := (blk_cell K3.out 1).trans rfl; have c2 := (blk_cell K3.out 2).trans rfl; have c3 := (blk_cell K3.out 3).trans rfl; have c4 := (blk_cell K3.out 4).trans rfl; have c5 := (blk_cell K3.out 5).trans rfl; have c6 := (blk_cell K3.out 6).trans rfl)))
  clear cn
  clear c0 c1 c2 c3 c4 c5 c6
  refine (HN.out _).mono ?_
  rintro e wk ⟨rfl, hb⟩
  have q3_ := Aside0.mk (blk_below K3.out hb)
  clear K3
  have K3 := q3_
  clear q3_
  have q1_ := Aside0.mk (HI.out.step hb); have q2_ := Aside0.mk (HK.out.trans (Kp.below hb)); clear HI HK; have HI := q1_; have HK := q2_; clear q1_ q2_
  clear hb
  have c0 := (blk_cell K3.out 0).trans rfl
  have c1 := (blk_cell K3.out 1).trans rfl
  have c2 := (blk_cell K3.out 2).trans rfl
  have c3 := (blk_cell K3.out 3).trans rfl
  have c4 := (blk_cell K3.out 4).trans rfl
  have c5 := (blk_cell K3.out 5).trans rfl
  have c6 := (blk_cell K3.out 6).trans rfl
  go_wp2_with (((with_reducible refine gate_dst (N := 17) rfl ?_); (try (refine gate_guard (by rfl) ?_; dsimp only)); refine Kd.R_lit k23 _ 23 ?hg (N := 17) ?hd (xs := ([x.f1] : List S23)) (inner := [.int .i64 x.f1.f0, .int .i64 x.f1.f1, .int .i64 x.f1.f2, .int .i64 x.f1.f3]) (ok := fun _ => True) (okp := fun _ => True) ?hr ?hp (fun _ hk => hk) trivial (Below.refl _ _) (Nat.le_refl _) (by simp) ?_; (case hd => rfl); (case hg => rfl); (case hr => (go_simp; done)); (case hp => exact (Reps.c4 (show Kd.M k23 _ _ _ x.f1 [.int .i64 x.f1.f0, .int .i64 x.f1.f1, .int .i64 x.f1.f2, .int .i64 x.f1.f3] from k23_mkM _ _ _ x.f1) (Reps.none _ _))); intro vr wr ho hb hg_ hnew_; clear hg_ hnew_; obtain ⟨Ar, cr, er⟩ := Kd.R_slice ho; subst er; have q3_ := Aside0.mk (blk_below K3.out hb); clear K3; have K3 := q3_; clear q3_; have q1_ := Aside0.mk (HI.out.step hb); have q2_ := Aside0.mk (HK.out.trans (Kp.below hb)); clear HI HK; have HI := q1_; have HK := q2_; clear q1_ q2_; have HR := Aside0.mk (Kd.R_reads' ho).2.2; have LR := Aside0.mk (Kd.R_reads' ho).2.1; clear ho hb))
  clear c0 c1 c2 c3 c4 c5 c6
  refine (rect_May.calls Ar cr [x.f1] true _ HR.out LR.out M1.out).mono ?_
  rintro e wk ⟨rfl, hb⟩
  have q3_ := Aside0.mk (blk_below K3.out hb)
  clear K3
  have K3 := q3_
  clear q3_
  have q1_ := Aside0.mk (HI.out.step hb); have q2_ := Aside0.mk (HK.out.trans (Kp.below hb)); clear HI HK; have HI := q1_; have HK := q2_; clear q1_ q2_
  clear hb
  have c0 := (blk_cell K3.out 0).trans rfl
  have c1 := (blk_cell K3.out 1).trans rfl
  have c2 := (blk_cell K3.out 2).trans rfl
  have c3 := (blk_cell K3.out 3).trans rfl
  have c4 := (blk_cell K3.out 4).trans rfl
  have c5 := (blk_cell K3.out 5).trans rfl
  have c6 := (blk_cell K3.out 6).trans rfl
  have cm := (blk_cell HI.out.hm 0).trans rfl
  go_wp2_with (first | ((with_reducible refine gate_dst (N := 29) rfl ?_); (try (refine gate_guard (by rfl) ?_; dsimp only)); refine lookup_bool _ rfl _ _ 161 rfl 3 4 (Maps.int_keyed Try.underlying3) Try.underlying161 Try.underlying4 (zero4 _) B _ _ rfl HI.out.map _ (.int .i64 x.f2) rfl (Maps.keyOf_int_mk Try.underlying3 WF.out) false LK.out ?_) | (at_mapUpdate; refine wpList_mapUpdate_own _ rfl _ _ _ 161 rfl 3 4 (Maps.int_keyed Try.underlying3) Try.underlying161 _ B _ _ rfl HI.out.map HLN.out _ _ (.int .i64 x.f2) rfl rfl (Maps.keyOf_int_mk Try.underlying3 WF.out) (.lit (.bool true)) [] (plainElem_bool Try.underlying4 true) ?_; intro wu hown1 hgrow1; have q1_ := Aside0.mk (HI.out.met hown1 hgrow1 NM.out I0.out I1.out); have q2_ := Aside0.mk (HK.out.trans (Kp.grown hgrow1 (Or.inr rfl))); clear HI HK hown1 hgrow1; have HI := q1_; have HK := q2_; clear q1_ q2_))
  go_ret
  exact ⟨rfl, HI.out, HK.out⟩
theorem may176 (w0 : World) (bn bm B : Nat) (s : Int × List Int) (W : World) (x : S26) (A : Option Addr) (cb : Nat) (hI : MayI w0 bn bm B s W) :
    Calls Try.prog 176 (#[.agg #[.int .u8 x.f0, .int .i64 x.f1.f0, .int .i64 x.f1.f1, .int .i64 x.f1.f2, .int .i64 x.f1.f3, .int .i64 x.f2, .slice A x.f3.length cb]] ++ #[.pointer (some ⟨bn, 0, none⟩), .pointer (some ⟨bm, 0, none⟩)]) W fun e w' => e = .returned (.bool (mStep s x).1) ∧ MayI w0 bn bm B (mStep s x).2 w' ∧ Kp (MayS bn B) W w' := by
  by_cases h1 : 20000 < wrap64 (s.1 + 1)
  · exact may_A w0 bn bm B s W x A cb hI h1
  · cases h2 : nodeB x with
    | false => exact may_B w0 bn bm B s W x A cb hI h1 h2
    | true =>
      cases h3 : mayR x.f1 with
      | false => exact may_C w0 bn bm B s W x A cb hI h1 h2 h3
      | true =>
        by_cases h4 : x.f0 = 1
        · have h8 := h2
          unfold nodeB at h8
          rw [if_pos h4] at h8
          simp only [Bool.and_eq_true, decide_eq_true_eq] at h8
          by_cases h7 : x.f2 ∈ s.2
          · exact may_E w0 bn bm B s W x A cb hI h1 h2 h3 h4 h8.2.1 h8.2.2 h7
          · exact may_F w0 bn bm B s W x A cb hI h1 h2 h3 h4 h8.2.1 h8.2.2 h7
        · exact may_D w0 bn bm B s W x A cb hI h1 h2 h3 h4
end Go.Proofs.Ytfdmfgaiblfbhaa.P
/- The contract of cell.May: whether trees may be. Condition: each has at most 1048576 cells. -/
namespace Go.Proofs.Ytfdmfgaiblfbhaa.P
open Go.RowKit Go.Proofs.YtfdmfgaiblfbhaaW.PrintWords Go.Proofs.YtfdmfgaiblfbhaaW.PrintLast Go.Proofs.YtfdmfgaiblfbhaaW.PrintMore
set_option linter.unusedVariables false
set_option linter.unusedSimpArgs false
section
variable {P : Program} {ops : Array Oper} {rest : List Oper} {o : Oper} {a : Act} {Q : Exit → Act → World → Prop}
theorem map_event {W : World} (hgd : o.guard = none) {N : Tmp} (_hd : o.dst = some N) (t k e : TypeId) (ho : o.op = .makeMap t none)
    (h : ∀ g, g = W.heap.size → ∀ w1, Below W.heap.size W w1 → w1.ownsMap (H := Unit) P k (plainElem P e) g 0 (.map []) → wpList P ops Q rest (a.put o.dst (.map (some g))) w1) : wpList P ops Q (o :: rest) a W := by
  refine Kd.event_run hgd (w1 := W.alloc (.map #[] 0)) (v := .map (some W.heap.size)) ?_ (h _ rfl _ (below_alloc (Below.refl _ _) _) (World.ownsMap_made W P k _))
  unfold execOp
  simp [ho, run_makeMap, Result.andThen]
end
set_option maxHeartbeats 4000000 in
set_option maxRecDepth 100000 in
theorem may144 (c : S26) (A : Option Addr) (cc : Nat) (W : World) (hz : sz c ≤ 1048576) (hr : Kd.C k26 W A c.f3.length c.f3) (hc : c.f3.length ≤ cc) : Calls Try.prog 144 #[.agg #[.int .u8 c.f0, .int .i64 c.f1.f0, .int .i64 c.f1.f1, .int .i64 c.f1.f2, .int .i64 c.f1.f3, .int .i64 c.f2, .slice A c.f3.length cc]] W fun e w' => e = .returned (.bool (mayC c)) ∧ Below W.heap.size W w' := by
  have H175 := Aside0.mk fun (bn bm B : Nat) (W1 : World) (hI : MayI W bn bm B (0, []) W1) => all175 (MayS bn B) (MayI W bn bm B) mStep 176 #[.pointer (some ⟨bn, 0, none⟩), .pointer (some ⟨bm, 0, none⟩)] (enters_fn Try.func176 (by decide +kernel) (by kernel_rfl)) W (fun s w h => h.below) (fun s w w' h hb => h.step hb)
    (fun s w h k hk => hk.elim (fun e => e ▸ blk_lt h.hn) (fun e => e ▸ h.map.lt)) (fun s w x B' cb h _ _ => may176 W bn bm B s w x B' cb h) (sz c) c (Nat.le_refl _) A cc hr hc (0, []) W1 hI
  rw [allS_may c hz] at H175
  have HB := Aside0.mk (Below.refl W.heap.size W)
  clear hr hc hz
  generalize mayC c = r at H175 ⊢
  go_enter Try.func144, Try.ntmps144
  go_wp2_with (first | ((with_reducible refine gate_dst (N := 1) rfl ?_); refine box_event ?hg (N := 1) ?hd (cs := #[.int .u8 c.f0, .int .i64 c.f1.f0, .int .i64 c.f1.f1, .int .i64 c.f1.f2, .int .i64 c.f1.f3, .int .i64 c.f2, .slice A c.f3.length cc]) (t := 26) ?hr ?_; (case hd => rfl); (case hg => rfl); (case hr => (go_simp; done)); intro b1 hg wb1 hbox hb; have Kb1 := Aside0.mk hbox; have q_HB := Aside0.mk (below_step HB.out hb); clear HB; have HB := q_HB; clear q_HB; clear hb hbox hg) | ((with_reducible refine gate_dst (N := 5) rfl ?_); refine map_event rfl (N := 5) rfl 161 3 4 rfl ?_; intro B hg wB hb hM; have GB := Aside0.mk (show W.heap.size ≤ B by rw [hg]; exact HB.out.size); have HM := Aside0.mk hM; have q_HB := Aside0.mk (below_step HB.out hb); have q_Kb1 := Aside0.mk (blk_below Kb1.out hb); clear HB Kb1; have HB := q_HB; have Kb1 := q_Kb1; clear q_HB q_Kb1; clear hb hM hg) | ((with_reducible refine gate_dst (N := 3) rfl ?_); refine box_event ?hg (N := 3) ?hd (cs := #[.map none]) (t := 161) ?hr ?_; (case hd => rfl); (case hg => rfl); (case hr => (go_simp; done)); intro bm hg wbm hbox hb; have Kbm := Aside0.mk hbox; have Gbm := Aside0.mk (show W.heap.size ≤ bm by rw [hg]; exact HB.out.size); have q_HB := Aside0.mk (below_step HB.out hb); have q_Kb1 := Aside0.mk (blk_below Kb1.out hb); have q_HM := Aside0.mk (HM.out.kept (below_grown hb) (by simp)); clear HB Kb1 HM; have HB := q_HB; have Kb1 := q_Kb1; have HM := q_HM; clear q_HB q_Kb1 q_HM; clear hb hbox hg) | ((with_reducible refine gate_ (.store 161 (.tmp 3) (.tmp 5)) rfl ?_); go_loud (refine box_store (w0 := W) rfl rfl 161 (.tmp 3) (.tmp 5) rfl (g := bm) (j := 0) (base := W.heap.size) #[.map (some B)] (u := .map (some B)) (seg := [.map (some B)]) ?sA ?sX rfl ?sT ?s1 Kbm.out ?sJ rfl HB.out HB.out.size Gbm.out ?_; (case sA => rfl); (case sX => rfl); (case sT => rfl); (case s1 => (simp [Value.oneCell'])); (case sJ => (simp)); intro wsbm hbk hbb hgg; have NB : Aside0 (B ≠ bm) := ⟨fun e => by have hq := Kbm.out; obtain ⟨es, cl, hB, _⟩ := HM.out; rw [← e, hB] at hq; cases hq⟩; have q_Kb1 := Aside0.mk (blk_grown Kb1.out hgg (fun e_ => blk_ne Kb1.out Kbm.out (by decide) (Option.some.inj e_))); have q_HM := Aside0.mk (HM.out.kept hgg (fun e_ => NB.out (Option.some.inj e_))); clear Kb1 HM; have Kb1 := q_Kb1; have HM := q_HM; clear q_Kb1 q_HM; clear Kbm HB; have Kbm := Aside0.mk hbk; have HB := Aside0.mk hbb; clear hbk hbb hgg)) | ((with_reducible refine gate_dst (N := 4) rfl ?_); refine box_event ?hg (N := 4) ?hd (cs := #[.int .i64 0]) (t := 3) ?hr ?_; (case hd => rfl); (case hg => rfl); (case hr => (go_simp; done)); intro bn hg wbn hbox hb; have Kbn := Aside0.mk hbox; have Gbn := Aside0.mk (show W.heap.size ≤ bn by rw [hg]; exact HB.out.size); have q_HB := Aside0.mk (below_step HB.out hb); have q_Kb1 := Aside0.mk (blk_below Kb1.out hb); have q_Kbm := Aside0.mk (blk_below Kbm.out hb); have q_HM := Aside0.mk (HM.out.kept (below_grown hb) (by simp)); clear HB Kb1 Kbm HM; have HB := q_HB; have Kb1 := q_Kb1; have Kbm := q_Kbm; have HM := q_HM; clear q_HB q_Kb1 q_Kbm q_HM; clear hb hbox hg) | ((with_reducible refine gate_ (.store 3 (.tmp 4) (.const (.int .i64 0))) rfl ?_); go_loud (refine box_store (w0 := W) rfl rfl 3 (.tmp 4) (.const (.int .i64 0)) rfl (g := bn) (j := 0) (base := W.heap.size) #[.int .i64 0] (u := .int .i64 0) (seg := [.int .i64 0]) ?sA ?sX rfl ?sT ?s1 Kbn.out ?sJ rfl HB.out HB.out.size Gbn.out ?_; (case sA => rfl); (case sX => rfl); (case sT => rfl); (case s1 => (simp [Value.oneCell'])); (case sJ => (decide)); intro wsbn hbk hbb hgg; have NN : Aside0 (B ≠ bn) := ⟨fun e => by have hq := Kbn.out; obtain ⟨es, cl, hB, _⟩ := HM.out; rw [← e, hB] at hq; cases hq⟩; have q_Kb1 := Aside0.mk (blk_grown Kb1.out hgg (fun e_ => blk_ne Kb1.out Kbn.out (by decide) (Option.some.inj e_))); have q_Kbm := Aside0.mk (blk_grown Kbm.out hgg (fun e_ => blk_ne Kbm.out Kbn.out (by decide) (Option.some.inj e_))); have q_HM := Aside0.mk (HM.out.kept hgg (fun e_ => NN.out (Option.some.inj e_))); clear Kb1 Kbm HM; have Kb1 := q_Kb1; have Kbm := q_Kbm; have HM := q_HM; clear q_Kb1 q_Kbm q_HM; clear Kbn HB; have Kbn := Aside0.mk hbk; have HB := Aside0.mk hbb; clear hbk hbb hgg; have c0 := (blk_cell Kb1.out 0).trans rfl; have c1 := (blk_cell Kb1.out 1).trans rfl; have c2 := (blk_cell Kb1.out 2).trans rfl; have c3 := (blk_cell Kb1.out 3).trans rfl; have c4 := (blk_cell Kb1.out 4).trans rfl; have c5 := (blk_cell Kb1.out 5).trans rfl; have c6 := (blk_cell Kb1.out 6).trans rfl)))
  clear c0 c1 c2 c3 c4 c5 c6
  refine (H175.out bn bm B _ ⟨Kbn.out, Kbm.out, HM.out, HB.out, Gbn.out, GB.out, List.nodup_nil, fun i hi => absurd hi (by simp)⟩).mono ?_
  rintro e w' ⟨rfl, hi, _⟩
  have HI := Aside0.mk hi.below
  clear hi
  go_wp2
  go_ret
  exact ⟨rfl, HI.out⟩
set_option maxHeartbeats 2000000 in
set_option maxRecDepth 100000 in
theorem may143 (c : S26) (A : Option Addr) (cc : Nat) (W : World) (hz : sz c ≤ 1048576) (hr : Kd.C k26 W A c.f3.length c.f3) (hc : c.f3.length ≤ cc) : Calls Try.prog 143 #[.agg #[.int .u8 c.f0, .int .i64 c.f1.f0, .int .i64 c.f1.f1, .int .i64 c.f1.f2, .int .i64 c.f1.f3, .int .i64 c.f2, .slice A c.f3.length cc]] W fun e w' => e = .returned (.bool (!mayC c)) ∧ Below W.heap.size W w' := by
  have H := Aside0.mk fun (W1 : World) (hb : Below W.heap.size W W1) => may144 c A cc W1 hz (Kd.C_below hr hb) hc
  clear hr hc hz
  cases hm : mayC c
  all_goals
    rw [hm] at H
    clear hm
    go_enter Try.func143, Try.ntmps143
    go_wp2_with (((with_reducible refine gate_dst (N := 1) rfl ?_); refine box_event ?hg (N := 1) ?hd (cs := #[.int .u8 c.f0, .int .i64 c.f1.f0, .int .i64 c.f1.f1, .int .i64 c.f1.f2, .int .i64 c.f1.f3, .int .i64 c.f2, .slice A c.f3.length cc]) (t := 26) ?hr ?_; (case hd => rfl); (case hg => rfl); (case hr => (go_simp; done)); intro b1 hg w1 hbox hb; have HB := Aside0.mk hb; have K1 := Aside0.mk hbox; clear hb hbox hg; have c0 := (blk_cell K1.out 0).trans rfl; have c1 := (blk_cell K1.out 1).trans rfl; have c2 := (blk_cell K1.out 2).trans rfl; have c3 := (blk_cell K1.out 3).trans rfl; have c4 := (blk_cell K1.out 4).trans rfl; have c5 := (blk_cell K1.out 5).trans rfl; have c6 := (blk_cell K1.out 6).trans rfl))
    clear c0 c1 c2 c3 c4 c5 c6
    refine (H.out _ HB.out).mono ?_
    rintro e w' ⟨rfl, hb⟩
    have HB2 := Aside0.mk (below_step HB.out hb)
    clear hb
    go_wp2
    go_ret
    exact ⟨rfl, HB2.out⟩
def cell_May.f (l0 : List S26) : Option Bool := if l0.all (fun c => decide (sz c ≤ 1048576)) = true then some (l0.all mayC) else none
set_option maxHeartbeats 2000000 in
theorem cell_May.calls (A0 : Option Addr) (c0 : Nat) (l0 : List S26) (r : Bool) (w : World) (hr0 : Kd.C k26 w A0 l0.length l0) (hc0 : l0.length ≤ c0) (h : cell_May.f l0 = some r) :
    Calls Try.prog 76 #[.slice A0 l0.length c0] w fun e w' => e = .returned (.bool r) ∧ Below w.heap.size w w' := by
  unfold cell_May.f at h
  split at h
  · rename_i hz
    injection h with h
    have hcon := con174 (fun (_ : Unit) W => Below w.heap.size w W) (fun _ x => (!mayC x, ())) 143 #[] (enters_fn Try.func143 (by decide +kernel) (by kernel_rfl)) l0 A0 c0 w hr0 (fun _ W hW => hW) (fun _ W n hW => pw_below_drewN hW n)
      (fun _ W x B cb hx hW hC hl => by
        rw [show (#[Value.agg #[.int .u8 x.f0, .int .i64 x.f1.f0, .int .i64 x.f1.f1, .int .i64 x.f1.f2, .int .i64 x.f1.f3, .int .i64 x.f2, .slice B x.f3.length cb]] ++ #[] : Array Value) = #[.agg #[.int .u8 x.f0, .int .i64 x.f1.f0, .int .i64 x.f1.f1, .int .i64 x.f1.f2, .int .i64 x.f1.f3, .int .i64 x.f2, .slice B x.f3.length cb]] by simp]
        exact (may143 x B cb W (of_decide_eq_true (List.all_eq_true.1 hz x hx)) (Kd.C_below hC hW) hl).mono fun e w' ⟨he, hb⟩ => ⟨he, below_then hW hW.size hb⟩) () w (Below.refl _ _) hr0.2.1
    rw [scanB_any] at hcon
    have hnone := none142 l0 A0 c0 143 #[] _ _ w hcon (fun W n hW => pw_below_drewN hW n)
    have e1 : r = !(l0.any fun x => !mayC x) := by
      rw [← h]
      clear h hcon hr0 hc0 hz hnone
      induction l0 with
      | nil => rfl
      | cons x xs ih => simp only [List.all_cons, List.any_cons, ih, Bool.not_or, Bool.not_not]
    subst e1
    generalize (l0.any fun x => !mayC x) = b at hnone
    have HC := Aside0.mk hnone
    clear hcon h hr0 hnone hz
    go_enter Try.func76, Try.ntmps76
    go_wp2_with fail
    refine HC.out.mono ?_
    rintro e w' ⟨rfl, hb⟩
    have HB := Aside0.mk hb
    clear hb
    go_wp2
    go_ret
    exact ⟨rfl, HB.out⟩
  · exact absurd h (by simp)
end Go.Proofs.Ytfdmfgaiblfbhaa.P
namespace Go.Proofs.Ytfdmfgaiblfbhaa.P
open Go.RowKit Go.Proofs.YtfdmfgaiblfbhaaW.PrintWords Go.Proofs.YtfdmfgaiblfbhaaW.PrintLast Go.Proofs.YtfdmfgaiblfbhaaW.PrintMore
attribute [local go_sem] max2_int min2_int max_two min_two max_three min_three max_four min_four   -- for this text's walks alone
set_option linter.unusedVariables false
set_option linter.unusedSimpArgs false

/-! ### least_Least: function 93 -/
def least_Least.f (k : Nat) (a0_0 : Int) (a0_1 : Int) (a0_2 : Int) (a0_3 : Int) (a0_4 : Int) (a0_5 : Int) (l0_6 : List (S26)) (a1 : Int) : Option (Int) := (least_axes.f a1).bind fun t980 => (if t980 = true then ((cell_May.f (([(⟨a0_0, (⟨a0_1, a0_2, a0_3, a0_4⟩ : S23), a0_5, l0_6⟩ : S26)] : List (S26)))).bind fun t984 => (if t984 = true then ((least_least.f k a0_0 a0_1 a0_2 a0_3 a0_4 a0_5 l0_6 a1).bind fun t985 => (some t985)) else (some 0))) else (some 0))
set_option maxHeartbeats 8000000 in
set_option maxRecDepth 100000 in
theorem least_Least.calls (k : Nat) (a0_0 : Int) (a0_1 : Int) (a0_2 : Int) (a0_3 : Int) (a0_4 : Int) (a0_5 : Int) (P0_6_ : Nat → Prop) (A0_6 : Option Addr) (c0_6 : Nat) (l0_6 : List (S26)) (a1 : Int) (r : Int) (w : World) (hs0_6 : Kd.V k26 26 w w.heap.size (fun k_ => P0_6_ k_) (.slice A0_6 l0_6.length c0_6) l0_6) (h : least_Least.f k a0_0 a0_1 a0_2 a0_3 a0_4 a0_5 l0_6 a1 = some r) :
  Calls Try.prog 93 #[.agg #[.int .u8 a0_0, .int .i64 a0_1, .int .i64 a0_2, .int .i64 a0_3, .int .i64 a0_4, .int .i64 a0_5, .slice A0_6 l0_6.length c0_6], .int .u8 a1] w fun e w' => e = .returned (.int .i64 r) ∧ Below w.heap.size w w' := by
 have hu26 := Try.underlying26
 have HO0_6 := Aside0.mk (show Kd.V k26 26 w w.heap.size (fun k_ => (P0_6_ k_ ∨ w.heap.size ≤ k_)) (.slice A0_6 l0_6.length c0_6) l0_6 from Kd.V_mono hs0_6 (fun k_ hk => .inl hk))
 have HB := Aside0.mk (Below.refl w.heap.size w)
 have H : ((least_axes.f a1).bind fun t980 => (if t980 = true then ((cell_May.f (([(⟨a0_0, (⟨a0_1, a0_2, a0_3, a0_4⟩ : S23), a0_5, l0_6⟩ : S26)] : List (S26)))).bind fun t984 => (if t984 = true then ((least_least.f k a0_0 a0_1 a0_2 a0_3 a0_4 a0_5 l0_6 a1).bind fun t985 => (some t985)) else (some 0))) else (some 0))) = some r := h
 clear h
 replace H := Option.bind_eq_some_iff.mp H
 obtain ⟨t980, A30, H⟩ := H
 replace H : (if t980 = true then ((cell_May.f (([(⟨a0_0, (⟨a0_1, a0_2, a0_3, a0_4⟩ : S23), a0_5, l0_6⟩ : S26)] : List (S26)))).bind fun t984 => (if t984 = true then ((least_least.f k a0_0 a0_1 a0_2 a0_3 a0_4 a0_5 l0_6 a1).bind fun t985 => (some t985)) else (some 0))) else (some 0)) = some r := H
 have A3 := Aside0.mk A30
 clear A30
 by_cases c4 : t980 = true
 ·subst c4
  have H1 : ((cell_May.f (([(⟨a0_0, (⟨a0_1, a0_2, a0_3, a0_4⟩ : S23), a0_5, l0_6⟩ : S26)] : List (S26)))).bind fun t984 => (if t984 = true then ((least_least.f k a0_0 a0_1 a0_2 a0_3 a0_4 a0_5 l0_6 a1).bind fun t985 => (some t985)) else (some 0))) = some r := by rw [if_pos rfl] at H; exact H
  clear H
  have H := H1
  clear H1
  obtain ⟨y981, hy981⟩ : ∃ y_ : List (S26), y_ = (([(⟨a0_0, (⟨a0_1, a0_2, a0_3, a0_4⟩ : S23), a0_5, l0_6⟩ : S26)] : List (S26))) := ⟨_, rfl⟩
  replace H : ((cell_May.f y981).bind fun t984 => (if t984 = true then ((least_least.f k a0_0 a0_1 a0_2 a0_3 a0_4 a0_5 l0_6 a1).bind fun t985 => (some t985)) else (some 0))) = some r := by (rw [hy981]; with_reducible exact H)
  have Ny981 := Aside0.mk hy981
  clear hy981
  replace H := Option.bind_eq_some_iff.mp H
  obtain ⟨t984, A50, H⟩ := H
  replace H : (if t984 = true then ((least_least.f k a0_0 a0_1 a0_2 a0_3 a0_4 a0_5 l0_6 a1).bind fun t985 => (some t985)) else (some 0)) = some r := H
  have A5 := Aside0.mk A50
  clear A50
  by_cases c6 : t984 = true
  ·subst c6
   have H1 : ((least_least.f k a0_0 a0_1 a0_2 a0_3 a0_4 a0_5 l0_6 a1).bind fun t985 => (some t985)) = some r := by rw [if_pos rfl] at H; exact H
   clear H
   have H := H1
   clear H1
   replace H := Option.bind_eq_some_iff.mp H
   obtain ⟨t985, A70, H⟩ := H
   replace H : (some t985) = some r := H
   have A7 := Aside0.mk A70
   clear A70
   obtain rfl := Option.some.inj H
   go_enter Try.func93, Try.ntmps93
   go_wp2_with (first | ((with_reducible refine gate_dst (N := 2) rfl ?_); (try (refine gate_guard (by rfl) ?_; dsimp only)); refine box_event ?hg (N := 2) ?hd (cs := #[.int .u8 a0_0, .int .i64 a0_1, .int .i64 a0_2, .int .i64 a0_3, .int .i64 a0_4, .int .i64 a0_5, .slice A0_6 l0_6.length c0_6]) (t := 26) ?hr ?_; (case hd => rfl); (case hg => rfl); (case hr => (go_simp; done)); intro gb979 hg w8 hbox hb; have BK979 := Aside0.mk (hbox); replace HO0_6 := Aside0.mk (Kd.V_below (Kd.V_elderB HO0_6.out gb979 (Nat.le_of_eq hg.symm)) hb); replace HB := Aside0.mk (below_step (by repeat ((with_reducible exact HB.out))) hb); clear hb hbox hg) | ((with_reducible refine gate_callee (f := 147) rfl ?_); refine goesL_ (some 6) rfl rfl Try.func147 (by kernel_rfl) rfl #[.int .u8 a1] rfl (by (try simp only [List.map_toArray, List.map_cons, List.map_nil]); rfl) ?_; (with_reducible refine (least_axes.calls a1 true _ A3.out).mono ?_); rintro e w9 ⟨rfl, hb⟩; refine ⟨_, rfl, ?_⟩; replace HO0_6 := Aside0.mk (Kd.V_below HO0_6.out hb); replace BK979 := Aside0.mk (blk_below BK979.out hb); replace HB := Aside0.mk (below_step (by repeat ((with_reducible exact HB.out))) hb); (try clear hb); have hcz10_0 : w9.cell? ⟨gb979, 0, none⟩ = some (.int .u8 a0_0) := (blk_cell BK979.out 0).trans rfl; have hcz10_1 : w9.cell? ⟨gb979, 1, none⟩ = some (.int .i64 a0_1) := (blk_cell BK979.out 1).trans rfl; have hcz10_2 : w9.cell? ⟨gb979, 2, none⟩ = some (.int .i64 a0_2) := (blk_cell BK979.out 2).trans rfl; have hcz10_3 : w9.cell? ⟨gb979, 3, none⟩ = some (.int .i64 a0_3) := (blk_cell BK979.out 3).trans rfl; have hcz10_4 : w9.cell? ⟨gb979, 4, none⟩ = some (.int .i64 a0_4) := (blk_cell BK979.out 4).trans rfl; have hcz10_5 : w9.cell? ⟨gb979, 5, none⟩ = some (.int .i64 a0_5) := (blk_cell BK979.out 5).trans rfl; have hcz10_6 : w9.cell? ⟨gb979, 6, none⟩ = some (.slice A0_6 l0_6.length c0_6) := (blk_cell BK979.out 6).trans rfl; have hfz10_0 := blk_frozen BK979.out 0; have hfz10_1 := blk_frozen BK979.out 1; have hfz10_2 := blk_frozen BK979.out 2; have hfz10_3 := blk_frozen BK979.out 3; have hfz10_4 := blk_frozen BK979.out 4; have hfz10_5 := blk_frozen BK979.out 5; have hfz10_6 := blk_frozen BK979.out 6) | ((with_reducible refine gate_dst (N := 10) rfl ?_); (try (refine gate_guard (by rfl) ?_; dsimp only)); refine Kd.N_lit k26 _ 26 ?hg (N' := 10) ?hd (xs := ([(⟨a0_0, (⟨a0_1, a0_2, a0_3, a0_4⟩ : S23), a0_5, l0_6⟩ : S26)] : List (S26))) (inner := [.int .u8 a0_0, .int .i64 a0_1, .int .i64 a0_2, .int .i64 a0_3, .int .i64 a0_4, .int .i64 a0_5, .slice A0_6 l0_6.length c0_6]) (ok := (fun k_ => (P0_6_ k_ ∨ w.heap.size ≤ k_) ∧ k_ ≠ gb979)) (okp := (fun k_ => (P0_6_ k_ ∨ w.heap.size ≤ k_) ∧ k_ ≠ gb979)) ?hr ?hp (fun _ hk => hk) ((show ∀ k_, w9.heap.size ≤ k_ → (fun k_ => (P0_6_ k_ ∨ w.heap.size ≤ k_) ∧ k_ ≠ gb979) k_ from fun k_ hk => ⟨(.inr (Nat.le_trans (below_size (by repeat ((with_reducible exact HB.out)))) hk)), Kd.freshB BK979.out k_ hk⟩) _ (Nat.le_refl _)) (Below.refl _ _) (Nat.le_refl _) (by simp) ?_; (case hd => rfl); (case hg => rfl); (case hr => (go_simp; done)); (case hp => exact (Reps.c7 (show Kd.FK k26 _ _ (⟨a0_0, (⟨a0_1, a0_2, a0_3, a0_4⟩ : S23), a0_5, l0_6⟩ : S26) [.int .u8 a0_0, .int .i64 a0_1, .int .i64 a0_2, .int .i64 a0_3, .int .i64 a0_4, .int .i64 a0_5, .slice A0_6 l0_6.length c0_6] from (k26_mkF _ _ (⟨a0_0, (⟨a0_1, a0_2, a0_3, a0_4⟩ : S23), a0_5, l0_6⟩ : S26) (Kd.V_reads' (Kd.V_mono (ok' := (fun k_ => (P0_6_ k_ ∨ w.heap.size ≤ k_) ∧ k_ ≠ gb979)) (HO0_6.out) (fun k_ hk => ⟨hk.1, hk.2⟩))).2.1 (Kd.V_F (Kd.V_mono (ok' := (fun k_ => (P0_6_ k_ ∨ w.heap.size ≤ k_) ∧ k_ ≠ gb979)) (HO0_6.out) (fun k_ hk => ⟨hk.1, hk.2⟩))))) (Reps.none _ _))); intro v982 w11 ho12 hb hg_ hnew_; clear hg_ hnew_; (rw [← Ny981.out] at ho12); have HO983 := Aside0.mk (Kd.N_lower ho12 (below_size (by repeat ((with_reducible exact HB.out))))); replace HO0_6 := Aside0.mk (Kd.V_elder' HO0_6.out (Kd.N_base ho12) hb); replace BK979 := Aside0.mk (blk_below BK979.out hb); replace HB := Aside0.mk (below_step (by repeat ((with_reducible exact HB.out))) hb); clear hb ho12; obtain ⟨Ao13, co13, eo13⟩ := Kd.N_slice HO983.out; subst eo13) | (go_at_call 76; (with_reducible refine (cell_May.calls _ _ y981 true _ ?side1 ?side2 A5.out).mono ?_); (case side1 => repeat (exact (Kd.N_reads' HO983.out).2.2)); (case side2 => exact (Kd.N_reads' HO983.out).2.1); rintro e w14 ⟨rfl, hb⟩; replace HO0_6 := Aside0.mk (Kd.V_below HO0_6.out hb); replace HO983 := Aside0.mk (Kd.N_below HO983.out hb); replace BK979 := Aside0.mk (blk_below BK979.out hb); replace HB := Aside0.mk (below_step (by repeat ((with_reducible exact HB.out))) hb); (try clear hb); have hcz15_0 : w14.cell? ⟨gb979, 0, none⟩ = some (.int .u8 a0_0) := (blk_cell BK979.out 0).trans rfl; have hcz15_1 : w14.cell? ⟨gb979, 1, none⟩ = some (.int .i64 a0_1) := (blk_cell BK979.out 1).trans rfl; have hcz15_2 : w14.cell? ⟨gb979, 2, none⟩ = some (.int .i64 a0_2) := (blk_cell BK979.out 2).trans rfl; have hcz15_3 : w14.cell? ⟨gb979, 3, none⟩ = some (.int .i64 a0_3) := (blk_cell BK979.out 3).trans rfl; have hcz15_4 : w14.cell? ⟨gb979, 4, none⟩ = some (.int .i64 a0_4) := (blk_cell BK979.out 4).trans rfl; have hcz15_5 : w14.cell? ⟨gb979, 5, none⟩ = some (.int .i64 a0_5) := (blk_cell BK979.out 5).trans rfl; have hcz15_6 : w14.cell? ⟨gb979, 6, none⟩ = some (.slice A0_6 l0_6.length c0_6) := (blk_cell BK979.out 6).trans rfl; have hfz15_0 := blk_frozen BK979.out 0; have hfz15_1 := blk_frozen BK979.out 1; have hfz15_2 := blk_frozen BK979.out 2; have hfz15_3 := blk_frozen BK979.out 3; have hfz15_4 := blk_frozen BK979.out 4; have hfz15_5 := blk_frozen BK979.out 5; have hfz15_6 := blk_frozen BK979.out 6) | ((with_reducible refine gate_callee (f := 149) rfl ?_); refine goesL_ (some 16) rfl rfl Try.func149 (by kernel_rfl) rfl #[.agg #[.int .u8 a0_0, .int .i64 a0_1, .int .i64 a0_2, .int .i64 a0_3, .int .i64 a0_4, .int .i64 a0_5, .slice A0_6 l0_6.length c0_6], .int .u8 a1] rfl (by (try simp only [List.map_toArray, List.map_cons, List.map_nil]); rfl) ?_; (with_reducible refine (least_least.calls k a0_0 a0_1 a0_2 a0_3 a0_4 a0_5 _ _ l0_6 a1 t985 _ ?side1 ?side2 A7.out).mono ?_); (case side1 => repeat (exact (Kd.V_reads' HO0_6.out).2.2)); (case side2 => exact (Kd.V_reads' HO0_6.out).2.1); rintro e w16 ⟨rfl, hb⟩; refine ⟨_, rfl, ?_⟩; replace HO0_6 := Aside0.mk (Kd.V_below HO0_6.out hb); replace HO983 := Aside0.mk (Kd.N_below HO983.out hb); replace BK979 := Aside0.mk (blk_below BK979.out hb); replace HB := Aside0.mk (below_step (by repeat ((with_reducible exact HB.out))) hb); (try clear hb)))
   go_ret
   exact ⟨by rfl, by repeat ((with_reducible exact HB.out))⟩
  ·replace c6 := Bool.eq_false_iff.mpr c6
   subst c6
   have H1 : (some 0) = some r := by rw [if_neg (show ¬ (false = true) by decide)] at H; exact H
   clear H
   have H := H1
   clear H1
   obtain rfl := Option.some.inj H
   go_enter Try.func93, Try.ntmps93
   go_wp2_with (first | ((with_reducible refine gate_dst (N := 2) rfl ?_); (try (refine gate_guard (by rfl) ?_; dsimp only)); refine box_event ?hg (N := 2) ?hd (cs := #[.int .u8 a0_0, .int .i64 a0_1, .int .i64 a0_2, .int .i64 a0_3, .int .i64 a0_4, .int .i64 a0_5, .slice A0_6 l0_6.length c0_6]) (t := 26) ?hr ?_; (case hd => rfl); (case hg => rfl); (case hr => (go_simp; done)); intro gb979 hg w17 hbox hb; have BK979 := Aside0.mk (hbox); replace HO0_6 := Aside0.mk (Kd.V_below (Kd.V_elderB HO0_6.out gb979 (Nat.le_of_eq hg.symm)) hb); replace HB := Aside0.mk (below_step (by repeat ((with_reducible exact HB.out))) hb); clear hb hbox hg) | ((with_reducible refine gate_callee (f := 147) rfl ?_); refine goesL_ (some 6) rfl rfl Try.func147 (by kernel_rfl) rfl #[.int .u8 a1] rfl (by (try simp only [List.map_toArray, List.map_cons, List.map_nil]); rfl) ?_; (with_reducible refine (least_axes.calls a1 true _ A3.out).mono ?_); rintro e w18 ⟨rfl, hb⟩; refine ⟨_, rfl, ?_⟩; replace HO0_6 := Aside0.mk (Kd.V_below HO0_6.out hb); replace BK979 := Aside0.mk (blk_below BK979.out hb); replace HB := Aside0.mk (below_step (by repeat ((with_reducible exact HB.out))) hb); (try clear hb); have hcz19_0 : w18.cell? ⟨gb979, 0, none⟩ = some (.int .u8 a0_0) := (blk_cell BK979.out 0).trans rfl; have hcz19_1 : w18.cell? ⟨gb979, 1, none⟩ = some (.int .i64 a0_1) := (blk_cell BK979.out 1).trans rfl; have hcz19_2 : w18.cell? ⟨gb979, 2, none⟩ = some (.int .i64 a0_2) := (blk_cell BK979.out 2).trans rfl; have hcz19_3 : w18.cell? ⟨gb979, 3, none⟩ = some (.int .i64 a0_3) := (blk_cell BK979.out 3).trans rfl; have hcz19_4 : w18.cell? ⟨gb979, 4, none⟩ = some (.int .i64 a0_4) := (blk_cell BK979.out 4).trans rfl; have hcz19_5 : w18.cell? ⟨gb979, 5, none⟩ = some (.int .i64 a0_5) := (blk_cell BK979.out 5).trans rfl; have hcz19_6 : w18.cell? ⟨gb979, 6, none⟩ = some (.slice A0_6 l0_6.length c0_6) := (blk_cell BK979.out 6).trans rfl; have hfz19_0 := blk_frozen BK979.out 0; have hfz19_1 := blk_frozen BK979.out 1; have hfz19_2 := blk_frozen BK979.out 2; have hfz19_3 := blk_frozen BK979.out 3; have hfz19_4 := blk_frozen BK979.out 4; have hfz19_5 := blk_frozen BK979.out 5; have hfz19_6 := blk_frozen BK979.out 6) | ((with_reducible refine gate_dst (N := 10) rfl ?_); (try (refine gate_guard (by rfl) ?_; dsimp only)); refine Kd.N_lit k26 _ 26 ?hg (N' := 10) ?hd (xs := ([(⟨a0_0, (⟨a0_1, a0_2, a0_3, a0_4⟩ : S23), a0_5, l0_6⟩ : S26)] : List (S26))) (inner := [.int .u8 a0_0, .int .i64 a0_1, .int .i64 a0_2, .int .i64 a0_3, .int .i64 a0_4, .int .i64 a0_5, .slice A0_6 l0_6.length c0_6]) (ok := (fun k_ => (P0_6_ k_ ∨ w.heap.size ≤ k_) ∧ k_ ≠ gb979)) (okp := (fun k_ => (P0_6_ k_ ∨ w.heap.size ≤ k_) ∧ k_ ≠ gb979)) ?hr ?hp (fun _ hk => hk) ((show ∀ k_, w18.heap.size ≤ k_ → (fun k_ => (P0_6_ k_ ∨ w.heap.size ≤ k_) ∧ k_ ≠ gb979) k_ from fun k_ hk => ⟨(.inr (Nat.le_trans (below_size (by repeat ((with_reducible exact HB.out)))) hk)), Kd.freshB BK979.out k_ hk⟩) _ (Nat.le_refl _)) (Below.refl _ _) (Nat.le_refl _) (by simp) ?_; (case hd => rfl); (case hg => rfl); (case hr => (go_simp; done)); (case hp => exact (Reps.c7 (show Kd.FK k26 _ _ (⟨a0_0, (⟨a0_1, a0_2, a0_3, a0_4⟩ : S23), a0_5, l0_6⟩ : S26) [.int .u8 a0_0, .int .i64 a0_1, .int .i64 a0_2, .int .i64 a0_3, .int .i64 a0_4, .int .i64 a0_5, .slice A0_6 l0_6.length c0_6] from (k26_mkF _ _ (⟨a0_0, (⟨a0_1, a0_2, a0_3, a0_4⟩ : S23), a0_5, l0_6⟩ : S26) (Kd.V_reads' (Kd.V_mono (ok' := (fun k_ => (P0_6_ k_ ∨ w.heap.size ≤ k_) ∧ k_ ≠ gb979)) (HO0_6.out) (fun k_ hk => ⟨hk.1, hk.2⟩))).2.1 (Kd.V_F (Kd.V_mono (ok' := (fun k_ => (P0_6_ k_ ∨ w.heap.size ≤ k_) ∧ k_ ≠ gb979)) (HO0_6.out) (fun k_ hk => ⟨hk.1, hk.2⟩))))) (Reps.none _ _))); intro v982 w20 ho21 hb hg_ hnew_; clear hg_ hnew_; (rw [← Ny981.out] at ho21); have HO983 := Aside0.mk (Kd.N_lower ho21 (below_size (by repeat ((with_reducible exact HB.out))))); replace HO0_6 := Aside0.mk (Kd.V_elder' HO0_6.out (Kd.N_base ho21) hb); replace BK979 := Aside0.mk (blk_below BK979.out hb); replace HB := Aside0.mk (below_step (by repeat ((with_reducible exact HB.out))) hb); clear hb ho21; obtain ⟨Ao22, co22, eo22⟩ := Kd.N_slice HO983.out; subst eo22) | (go_at_call 76; (with_reducible refine (cell_May.calls _ _ y981 false _ ?side1 ?side2 A5.out).mono ?_); (case side1 => repeat (exact (Kd.N_reads' HO983.out).2.2)); (case side2 => exact (Kd.N_reads' HO983.out).2.1); rintro e w23 ⟨rfl, hb⟩; replace HO0_6 := Aside0.mk (Kd.V_below HO0_6.out hb); replace HO983 := Aside0.mk (Kd.N_below HO983.out hb); replace BK979 := Aside0.mk (blk_below BK979.out hb); replace HB := Aside0.mk (below_step (by repeat ((with_reducible exact HB.out))) hb); (try clear hb)))
   go_ret
   exact ⟨by rfl, by repeat ((with_reducible exact HB.out))⟩
 ·replace c4 := Bool.eq_false_iff.mpr c4
  subst c4
  have H1 : (some 0) = some r := by rw [if_neg (show ¬ (false = true) by decide)] at H; exact H
  clear H
  have H := H1
  clear H1
  obtain rfl := Option.some.inj H
  go_enter Try.func93, Try.ntmps93
  go_wp2_with (first | ((with_reducible refine gate_dst (N := 2) rfl ?_); (try (refine gate_guard (by rfl) ?_; dsimp only)); refine box_event ?hg (N := 2) ?hd (cs := #[.int .u8 a0_0, .int .i64 a0_1, .int .i64 a0_2, .int .i64 a0_3, .int .i64 a0_4, .int .i64 a0_5, .slice A0_6 l0_6.length c0_6]) (t := 26) ?hr ?_; (case hd => rfl); (case hg => rfl); (case hr => (go_simp; done)); intro gb979 hg w24 hbox hb; have BK979 := Aside0.mk (hbox); replace HO0_6 := Aside0.mk (Kd.V_below (Kd.V_elderB HO0_6.out gb979 (Nat.le_of_eq hg.symm)) hb); replace HB := Aside0.mk (below_step (by repeat ((with_reducible exact HB.out))) hb); clear hb hbox hg) | ((with_reducible refine gate_callee (f := 147) rfl ?_); refine goesL_ (some 6) rfl rfl Try.func147 (by kernel_rfl) rfl #[.int .u8 a1] rfl (by (try simp only [List.map_toArray, List.map_cons, List.map_nil]); rfl) ?_; (with_reducible refine (least_axes.calls a1 false _ A3.out).mono ?_); rintro e w25 ⟨rfl, hb⟩; refine ⟨_, rfl, ?_⟩; replace HO0_6 := Aside0.mk (Kd.V_below HO0_6.out hb); replace BK979 := Aside0.mk (blk_below BK979.out hb); replace HB := Aside0.mk (below_step (by repeat ((with_reducible exact HB.out))) hb); (try clear hb)))
  go_ret
  exact ⟨by rfl, by repeat ((with_reducible exact HB.out))⟩

end Go.Proofs.Ytfdmfgaiblfbhaa.P
namespace Go.Proofs.Ytfdmfgaiblfbhaa.P
open Go.RowKit Go.Proofs.YtfdmfgaiblfbhaaW.PrintWords Go.Proofs.YtfdmfgaiblfbhaaW.PrintLast Go.Proofs.YtfdmfgaiblfbhaaW.PrintMore
attribute [local go_sem] max2_int min2_int max_two min_two max_three min_three max_four min_four   -- for this text's walks alone
set_option linter.unusedVariables false
set_option linter.unusedSimpArgs false

/-! ### least_Fits: function 96 -/
def least_Fits.f (k : Nat) (a0_0 : Int) (a0_1 : Int) (a0_2 : Int) (a0_3 : Int) (a0_4 : Int) (a0_5 : Int) (l0_6 : List (S26)) (a1 : Int) (a2 : Int) : Option (Bool) := (cell_May.f (([(⟨a0_0, (⟨a0_1, a0_2, a0_3, a0_4⟩ : S23), a0_5, l0_6⟩ : S26)] : List (S26)))).bind fun t1105 => (if t1105 = true then ((least_least.f k a0_0 a0_1 a0_2 a0_3 a0_4 a0_5 l0_6 1).bind fun t1106 => (if a1 ≥ t1106 then ((least_least.f k a0_0 a0_1 a0_2 a0_3 a0_4 a0_5 l0_6 2).bind fun t1107 => (if a2 ≥ t1107 then (if a1 ≤ (wrap64 (10000 - a0_1)) then (some (decide (a2 ≤ (wrap64 (10000 - a0_2))))) else (some false)) else (some false))) else (some false))) else (some false))
set_option maxHeartbeats 8000000 in
set_option maxRecDepth 100000 in
theorem least_Fits.calls (k : Nat) (a0_0 : Int) (a0_1 : Int) (a0_2 : Int) (a0_3 : Int) (a0_4 : Int) (a0_5 : Int) (P0_6_ : Nat → Prop) (A0_6 : Option Addr) (c0_6 : Nat) (l0_6 : List (S26)) (a1 : Int) (a2 : Int) (r : Bool) (w : World) (hs0_6 : Kd.V k26 26 w w.heap.size (fun k_ => P0_6_ k_) (.slice A0_6 l0_6.length c0_6) l0_6) (h : least_Fits.f k a0_0 a0_1 a0_2 a0_3 a0_4 a0_5 l0_6 a1 a2 = some r) :
  Calls Try.prog 96 #[.agg #[.int .u8 a0_0, .int .i64 a0_1, .int .i64 a0_2, .int .i64 a0_3, .int .i64 a0_4, .int .i64 a0_5, .slice A0_6 l0_6.length c0_6], .int .i64 a1, .int .i64 a2] w fun e w' => e = .returned (.bool r) ∧ Below w.heap.size w w' := by
 have hu26 := Try.underlying26
 have HO0_6 := Aside0.mk (show Kd.V k26 26 w w.heap.size (fun k_ => (P0_6_ k_ ∨ w.heap.size ≤ k_)) (.slice A0_6 l0_6.length c0_6) l0_6 from Kd.V_mono hs0_6 (fun k_ hk => .inl hk))
 have HB := Aside0.mk (Below.refl w.heap.size w)
 have H : ((cell_May.f (([(⟨a0_0, (⟨a0_1, a0_2, a0_3, a0_4⟩ : S23), a0_5, l0_6⟩ : S26)] : List (S26)))).bind fun t1105 => (if t1105 = true then ((least_least.f k a0_0 a0_1 a0_2 a0_3 a0_4 a0_5 l0_6 1).bind fun t1106 => (if a1 ≥ t1106 then ((least_least.f k a0_0 a0_1 a0_2 a0_3 a0_4 a0_5 l0_6 2).bind fun t1107 => (if a2 ≥ t1107 then (if a1 ≤ (wrap64 (10000 - a0_1)) then (some (decide (a2 ≤ (wrap64 (10000 - a0_2))))) else (some false)) else (some false))) else (some false))) else (some false))) = some r := h
 clear h
 obtain ⟨y1102, hy1102⟩ : ∃ y_ : List (S26), y_ = (([(⟨a0_0, (⟨a0_1, a0_2, a0_3, a0_4⟩ : S23), a0_5, l0_6⟩ : S26)] : List (S26))) := ⟨_, rfl⟩
 replace H : ((cell_May.f y1102).bind fun t1105 => (if t1105 = true then ((least_least.f k a0_0 a0_1 a0_2 a0_3 a0_4 a0_5 l0_6 1).bind fun t1106 => (if a1 ≥ t1106 then ((least_least.f k a0_0 a0_1 a0_2 a0_3 a0_4 a0_5 l0_6 2).bind fun t1107 => (if a2 ≥ t1107 then (if a1 ≤ (wrap64 (10000 - a0_1)) then (some (decide (a2 ≤ (wrap64 (10000 - a0_2))))) else (some false)) else (some false))) else (some false))) else (some false))) = some r := by (rw [hy1102]; with_reducible exact H)
 have Ny1102 := Aside0.mk hy1102
 clear hy1102
 replace H := Option.bind_eq_some_iff.mp H
 obtain ⟨t1105, A40, H⟩ := H
 replace H : (if t1105 = true then ((least_least.f k a0_0 a0_1 a0_2 a0_3 a0_4 a0_5 l0_6 1).bind fun t1106 => (if a1 ≥ t1106 then ((least_least.f k a0_0 a0_1 a0_2 a0_3 a0_4 a0_5 l0_6 2).bind fun t1107 => (if a2 ≥ t1107 then (if a1 ≤ (wrap64 (10000 - a0_1)) then (some (decide (a2 ≤ (wrap64 (10000 - a0_2))))) else (some false)) else (some false))) else (some false))) else (some false)) = some r := H
 have A4 := Aside0.mk A40
 clear A40
 by_cases c5 : t1105 = true
 ·subst c5
  have H1 : ((least_least.f k a0_0 a0_1 a0_2 a0_3 a0_4 a0_5 l0_6 1).bind fun t1106 => (if a1 ≥ t1106 then ((least_least.f k a0_0 a0_1 a0_2 a0_3 a0_4 a0_5 l0_6 2).bind fun t1107 => (if a2 ≥ t1107 then (if a1 ≤ (wrap64 (10000 - a0_1)) then (some (decide (a2 ≤ (wrap64 (10000 - a0_2))))) else (some false)) else (some false))) else (some false))) = some r := by rw [if_pos rfl] at H; exact H
  clear H
  have H := H1
  clear H1
  replace H := Option.bind_eq_some_iff.mp H
  obtain ⟨t1106, A60, H⟩ := H
  replace H : (if a1 ≥ t1106 then ((least_least.f k a0_0 a0_1 a0_2 a0_3 a0_4 a0_5 l0_6 2).bind fun t1107 => (if a2 ≥ t1107 then (if a1 ≤ (wrap64 (10000 - a0_1)) then (some (decide (a2 ≤ (wrap64 (10000 - a0_2))))) else (some false)) else (some false))) else (some false)) = some r := H
  have A6 := Aside0.mk A60
  clear A60
  by_cases c7 : a1 ≥ t1106
  ·rw [if_pos c7] at H
   have c7b0 : decide (t1106 ≤ a1) = true := decide_eq_true c7
   clear c7
   replace H := Option.bind_eq_some_iff.mp H
   obtain ⟨t1107, A80, H⟩ := H
   replace H : (if a2 ≥ t1107 then (if a1 ≤ (wrap64 (10000 - a0_1)) then (some (decide (a2 ≤ (wrap64 (10000 - a0_2))))) else (some false)) else (some false)) = some r := H
   have A8 := Aside0.mk A80
   clear A80
   by_cases c9 : a2 ≥ t1107
   ·rw [if_pos c9] at H
    have c9b0 : decide (t1107 ≤ a2) = true := decide_eq_true c9
    clear c9
    by_cases c10 : a1 ≤ (wrap64 (10000 - a0_1))
    ·rw [if_pos c10] at H
     have c10b0 : decide (a1 ≤ (wrap64 (10000 - a0_1))) = true := decide_eq_true c10
     clear c10
     obtain rfl := Option.some.inj H
     go_enter Try.func96, Try.ntmps96
     go_wp2_with (first | ((with_reducible refine gate_dst (N := 3) rfl ?_); refine box_event ?hg (N := 3) ?hd (cs := #[.int .u8 a0_0, .int .i64 a0_1, .int .i64 a0_2, .int .i64 a0_3, .int .i64 a0_4, .int .i64 a0_5, .slice A0_6 l0_6.length c0_6]) (t := 26) ?hr ?_; (case hd => rfl); (case hg => rfl); (case hr => (go_simp; done)); intro gb1101 hg w11 hbox hb; have BK1101 := Aside0.mk (hbox); replace HO0_6 := Aside0.mk (Kd.V_below (Kd.V_elderB HO0_6.out gb1101 (Nat.le_of_eq hg.symm)) hb); replace HB := Aside0.mk (below_step (by repeat ((with_reducible exact HB.out))) hb); clear hb hbox hg; have hcz12_0 : w11.cell? ⟨gb1101, 0, none⟩ = some (.int .u8 a0_0) := (blk_cell BK1101.out 0).trans rfl; have hcz12_1 : w11.cell? ⟨gb1101, 1, none⟩ = some (.int .i64 a0_1) := (blk_cell BK1101.out 1).trans rfl; have hcz12_2 : w11.cell? ⟨gb1101, 2, none⟩ = some (.int .i64 a0_2) := (blk_cell BK1101.out 2).trans rfl; have hcz12_3 : w11.cell? ⟨gb1101, 3, none⟩ = some (.int .i64 a0_3) := (blk_cell BK1101.out 3).trans rfl; have hcz12_4 : w11.cell? ⟨gb1101, 4, none⟩ = some (.int .i64 a0_4) := (blk_cell BK1101.out 4).trans rfl; have hcz12_5 : w11.cell? ⟨gb1101, 5, none⟩ = some (.int .i64 a0_5) := (blk_cell BK1101.out 5).trans rfl; have hcz12_6 : w11.cell? ⟨gb1101, 6, none⟩ = some (.slice A0_6 l0_6.length c0_6) := (blk_cell BK1101.out 6).trans rfl; have hfz12_0 := blk_frozen BK1101.out 0; have hfz12_1 := blk_frozen BK1101.out 1; have hfz12_2 := blk_frozen BK1101.out 2; have hfz12_3 := blk_frozen BK1101.out 3; have hfz12_4 := blk_frozen BK1101.out 4; have hfz12_5 := blk_frozen BK1101.out 5; have hfz12_6 := blk_frozen BK1101.out 6) | ((with_reducible refine gate_dst (N := 8) rfl ?_); refine Kd.N_lit k26 _ 26 ?hg (N' := 8) ?hd (xs := ([(⟨a0_0, (⟨a0_1, a0_2, a0_3, a0_4⟩ : S23), a0_5, l0_6⟩ : S26)] : List (S26))) (inner := [.int .u8 a0_0, .int .i64 a0_1, .int .i64 a0_2, .int .i64 a0_3, .int .i64 a0_4, .int .i64 a0_5, .slice A0_6 l0_6.length c0_6]) (ok := (fun k_ => (P0_6_ k_ ∨ w.heap.size ≤ k_) ∧ k_ ≠ gb1101)) (okp := (fun k_ => (P0_6_ k_ ∨ w.heap.size ≤ k_) ∧ k_ ≠ gb1101)) ?hr ?hp (fun _ hk => hk) ((show ∀ k_, w11.heap.size ≤ k_ → (fun k_ => (P0_6_ k_ ∨ w.heap.size ≤ k_) ∧ k_ ≠ gb1101) k_ from fun k_ hk => ⟨(.inr (Nat.le_trans (below_size (by repeat ((with_reducible exact HB.out)))) hk)), Kd.freshB BK1101.out k_ hk⟩) _ (Nat.le_refl _)) (Below.refl _ _) (Nat.le_refl _) (by simp) ?_; (case hd => rfl); (case hg => rfl); (case hr => (go_simp; done)); (case hp => exact (Reps.c7 (show Kd.FK k26 _ _ (⟨a0_0, (⟨a0_1, a0_2, a0_3, a0_4⟩ : S23), a0_5, l0_6⟩ : S26) [.int .u8 a0_0, .int .i64 a0_1, .int .i64 a0_2, .int .i64 a0_3, .int .i64 a0_4, .int .i64 a0_5, .slice A0_6 l0_6.length c0_6] from (k26_mkF _ _ (⟨a0_0, (⟨a0_1, a0_2, a0_3, a0_4⟩ : S23), a0_5, l0_6⟩ : S26) (Kd.V_reads' (Kd.V_mono (ok' := (fun k_ => (P0_6_ k_ ∨ w.heap.size ≤ k_) ∧ k_ ≠ gb1101)) (HO0_6.out) (fun k_ hk => ⟨hk.1, hk.2⟩))).2.1 (Kd.V_F (Kd.V_mono (ok' := (fun k_ => (P0_6_ k_ ∨ w.heap.size ≤ k_) ∧ k_ ≠ gb1101)) (HO0_6.out) (fun k_ hk => ⟨hk.1, hk.2⟩))))) (Reps.none _ _))); intro v1103 w13 ho14 hb hg_ hnew_; clear hg_ hnew_; (rw [← Ny1102.out] at ho14); have HO1104 := Aside0.mk (Kd.N_lower ho14 (below_size (by repeat ((with_reducible exact HB.out))))); replace HO0_6 := Aside0.mk (Kd.V_elder' HO0_6.out (Kd.N_base ho14) hb); replace BK1101 := Aside0.mk (blk_below BK1101.out hb); replace HB := Aside0.mk (below_step (by repeat ((with_reducible exact HB.out))) hb); clear hb ho14; obtain ⟨Ao15, co15, eo15⟩ := Kd.N_slice HO1104.out; subst eo15) | ((with_reducible refine gate_callee (f := 76) rfl ?_); refine goesL_ (some 9) rfl rfl Try.func76 (by kernel_rfl) rfl #[.slice Ao15 y1102.length co15] rfl (by (try simp only [List.map_toArray, List.map_cons, List.map_nil]); rfl) ?_; (with_reducible refine (cell_May.calls _ _ y1102 true _ ?side1 ?side2 A4.out).mono ?_); (case side1 => repeat (exact (Kd.N_reads' HO1104.out).2.2)); (case side2 => exact (Kd.N_reads' HO1104.out).2.1); rintro e w16 ⟨rfl, hb⟩; refine ⟨_, rfl, ?_⟩; replace HO0_6 := Aside0.mk (Kd.V_below HO0_6.out hb); replace HO1104 := Aside0.mk (Kd.N_below HO1104.out hb); replace BK1101 := Aside0.mk (blk_below BK1101.out hb); replace HB := Aside0.mk (below_step (by repeat ((with_reducible exact HB.out))) hb); (try clear hb); have hcz17_0 : w16.cell? ⟨gb1101, 0, none⟩ = some (.int .u8 a0_0) := (blk_cell BK1101.out 0).trans rfl; have hcz17_1 : w16.cell? ⟨gb1101, 1, none⟩ = some (.int .i64 a0_1) := (blk_cell BK1101.out 1).trans rfl; have hcz17_2 : w16.cell? ⟨gb1101, 2, none⟩ = some (.int .i64 a0_2) := (blk_cell BK1101.out 2).trans rfl; have hcz17_3 : w16.cell? ⟨gb1101, 3, none⟩ = some (.int .i64 a0_3) := (blk_cell BK1101.out 3).trans rfl; have hcz17_4 : w16.cell? ⟨gb1101, 4, none⟩ = some (.int .i64 a0_4) := (blk_cell BK1101.out 4).trans rfl; have hcz17_5 : w16.cell? ⟨gb1101, 5, none⟩ = some (.int .i64 a0_5) := (blk_cell BK1101.out 5).trans rfl; have hcz17_6 : w16.cell? ⟨gb1101, 6, none⟩ = some (.slice A0_6 l0_6.length c0_6) := (blk_cell BK1101.out 6).trans rfl; have hfz17_0 := blk_frozen BK1101.out 0; have hfz17_1 := blk_frozen BK1101.out 1; have hfz17_2 := blk_frozen BK1101.out 2; have hfz17_3 := blk_frozen BK1101.out 3; have hfz17_4 := blk_frozen BK1101.out 4; have hfz17_5 := blk_frozen BK1101.out 5; have hfz17_6 := blk_frozen BK1101.out 6) | (go_at_call 149; (with_reducible refine (least_least.calls k a0_0 a0_1 a0_2 a0_3 a0_4 a0_5 _ _ l0_6 1 t1106 _ ?side1 ?side2 A6.out).mono ?_); (case side1 => repeat (exact (Kd.V_reads' HO0_6.out).2.2)); (case side2 => exact (Kd.V_reads' HO0_6.out).2.1); rintro e w18 ⟨rfl, hb⟩; replace HO0_6 := Aside0.mk (Kd.V_below HO0_6.out hb); replace HO1104 := Aside0.mk (Kd.N_below HO1104.out hb); replace BK1101 := Aside0.mk (blk_below BK1101.out hb); replace HB := Aside0.mk (below_step (by repeat ((with_reducible exact HB.out))) hb); (try clear hb); have hcz19_0 : w18.cell? ⟨gb1101, 0, none⟩ = some (.int .u8 a0_0) := (blk_cell BK1101.out 0).trans rfl; have hcz19_1 : w18.cell? ⟨gb1101, 1, none⟩ = some (.int .i64 a0_1) := (blk_cell BK1101.out 1).trans rfl; have hcz19_2 : w18.cell? ⟨gb1101, 2, none⟩ = some (.int .i64 a0_2) := (blk_cell BK1101.out 2).trans rfl; have hcz19_3 : w18.cell? ⟨gb1101, 3, none⟩ = some (.int .i64 a0_3) := (blk_cell BK1101.out 3).trans rfl; have hcz19_4 : w18.cell? ⟨gb1101, 4, none⟩ = some (.int .i64 a0_4) := (blk_cell BK1101.out 4).trans rfl; have hcz19_5 : w18.cell? ⟨gb1101, 5, none⟩ = some (.int .i64 a0_5) := (blk_cell BK1101.out 5).trans rfl; have hcz19_6 : w18.cell? ⟨gb1101, 6, none⟩ = some (.slice A0_6 l0_6.length c0_6) := (blk_cell BK1101.out 6).trans rfl; have hfz19_0 := blk_frozen BK1101.out 0; have hfz19_1 := blk_frozen BK1101.out 1; have hfz19_2 := blk_frozen BK1101.out 2; have hfz19_3 := blk_frozen BK1101.out 3; have hfz19_4 := blk_frozen BK1101.out 4; have hfz19_5 := blk_frozen BK1101.out 5; have hfz19_6 := blk_frozen BK1101.out 6) | (go_at_call 149; (with_reducible refine (least_least.calls k a0_0 a0_1 a0_2 a0_3 a0_4 a0_5 _ _ l0_6 2 t1107 _ ?side1 ?side2 A8.out).mono ?_); (case side1 => repeat (exact (Kd.V_reads' HO0_6.out).2.2)); (case side2 => exact (Kd.V_reads' HO0_6.out).2.1); rintro e w20 ⟨rfl, hb⟩; replace HO0_6 := Aside0.mk (Kd.V_below HO0_6.out hb); replace HO1104 := Aside0.mk (Kd.N_below HO1104.out hb); replace BK1101 := Aside0.mk (blk_below BK1101.out hb); replace HB := Aside0.mk (below_step (by repeat ((with_reducible exact HB.out))) hb); (try clear hb); have hcz21_0 : w20.cell? ⟨gb1101, 0, none⟩ = some (.int .u8 a0_0) := (blk_cell BK1101.out 0).trans rfl; have hcz21_1 : w20.cell? ⟨gb1101, 1, none⟩ = some (.int .i64 a0_1) := (blk_cell BK1101.out 1).trans rfl; have hcz21_2 : w20.cell? ⟨gb1101, 2, none⟩ = some (.int .i64 a0_2) := (blk_cell BK1101.out 2).trans rfl; have hcz21_3 : w20.cell? ⟨gb1101, 3, none⟩ = some (.int .i64 a0_3) := (blk_cell BK1101.out 3).trans rfl; have hcz21_4 : w20.cell? ⟨gb1101, 4, none⟩ = some (.int .i64 a0_4) := (blk_cell BK1101.out 4).trans rfl; have hcz21_5 : w20.cell? ⟨gb1101, 5, none⟩ = some (.int .i64 a0_5) := (blk_cell BK1101.out 5).trans rfl; have hcz21_6 : w20.cell? ⟨gb1101, 6, none⟩ = some (.slice A0_6 l0_6.length c0_6) := (blk_cell BK1101.out 6).trans rfl; have hfz21_0 := blk_frozen BK1101.out 0; have hfz21_1 := blk_frozen BK1101.out 1; have hfz21_2 := blk_frozen BK1101.out 2; have hfz21_3 := blk_frozen BK1101.out 3; have hfz21_4 := blk_frozen BK1101.out 4; have hfz21_5 := blk_frozen BK1101.out 5; have hfz21_6 := blk_frozen BK1101.out 6))
     go_ret
     exact ⟨by rfl, by repeat ((with_reducible exact HB.out))⟩
    ·rw [if_neg c10] at H
     have c10b0 : decide (a1 ≤ (wrap64 (10000 - a0_1))) = false := decide_eq_false c10
     clear c10
     obtain rfl := Option.some.inj H
     go_enter Try.func96, Try.ntmps96
     go_wp2_with (first | ((with_reducible refine gate_dst (N := 3) rfl ?_); refine box_event ?hg (N := 3) ?hd (cs := #[.int .u8 a0_0, .int .i64 a0_1, .int .i64 a0_2, .int .i64 a0_3, .int .i64 a0_4, .int .i64 a0_5, .slice A0_6 l0_6.length c0_6]) (t := 26) ?hr ?_; (case hd => rfl); (case hg => rfl); (case hr => (go_simp; done)); intro gb1101 hg w22 hbox hb; have BK1101 := Aside0.mk (hbox); replace HO0_6 := Aside0.mk (Kd.V_below (Kd.V_elderB HO0_6.out gb1101 (Nat.le_of_eq hg.symm)) hb); replace HB := Aside0.mk (below_step (by repeat ((with_reducible exact HB.out))) hb); clear hb hbox hg; have hcz23_0 : w22.cell? ⟨gb1101, 0, none⟩ = some (.int .u8 a0_0) := (blk_cell BK1101.out 0).trans rfl; have hcz23_1 : w22.cell? ⟨gb1101, 1, none⟩ = some (.int .i64 a0_1) := (blk_cell BK1101.out 1).trans rfl; have hcz23_2 : w22.cell? ⟨gb1101, 2, none⟩ = some (.int .i64 a0_2) := (blk_cell BK1101.out 2).trans rfl; have hcz23_3 : w22.cell? ⟨gb1101, 3, none⟩ = some (.int .i64 a0_3) := (blk_cell BK1101.out 3).trans rfl; have hcz23_4 : w22.cell? ⟨gb1101, 4, none⟩ = some (.int .i64 a0_4) := (blk_cell BK1101.out 4).trans rfl; have hcz23_5 : w22.cell? ⟨gb1101, 5, none⟩ = some (.int .i64 a0_5) := (blk_cell BK1101.out 5).trans rfl; have hcz23_6 : w22.cell? ⟨gb1101, 6, none⟩ = some (.slice A0_6 l0_6.length c0_6) := (blk_cell BK1101.out 6).trans rfl; have hfz23_0 := blk_frozen BK1101.out 0; have hfz23_1 := blk_frozen BK1101.out 1; have hfz23_2 := blk_frozen BK1101.out 2; have hfz23_3 := blk_frozen BK1101.out 3; have hfz23_4 := blk_frozen BK1101.out 4; have hfz23_5 := blk_frozen BK1101.out 5; have hfz23_6 := blk_frozen BK1101.out 6) | ((with_reducible refine gate_dst (N := 8) rfl ?_); refine Kd.N_lit k26 _ 26 ?hg (N' := 8) ?hd (xs := ([(⟨a0_0, (⟨a0_1, a0_2, a0_3, a0_4⟩ : S23), a0_5, l0_6⟩ : S26)] : List (S26))) (inner := [.int .u8 a0_0, .int .i64 a0_1, .int .i64 a0_2, .int .i64 a0_3, .int .i64 a0_4, .int .i64 a0_5, .slice A0_6 l0_6.length c0_6]) (ok := (fun k_ => (P0_6_ k_ ∨ w.heap.size ≤ k_) ∧ k_ ≠ gb1101)) (okp := (fun k_ => (P0_6_ k_ ∨ w.heap.size ≤ k_) ∧ k_ ≠ gb1101)) ?hr ?hp (fun _ hk => hk) ((show ∀ k_, w22.heap.size ≤ k_ → (fun k_ => (P0_6_ k_ ∨ w.heap.size ≤ k_) ∧ k_ ≠ gb1101) k_ from fun k_ hk => ⟨(.inr (Nat.le_trans (below_size (by repeat ((with_reducible exact HB.out)))) hk)), Kd.freshB BK1101.out k_ hk⟩) _ (Nat.le_refl _)) (Below.refl _ _) (Nat.le_refl _) (by simp) ?_; (case hd => rfl); (case hg => rfl); (case hr => (go_simp; done)); (case hp => exact (Reps.c7 (show Kd.FK k26 _ _ (⟨a0_0, (⟨a0_1, a0_2, a0_3, a0_4⟩ : S23), a0_5, l0_6⟩ : S26) [.int .u8 a0_0, .int .i64 a0_1, .int .i64 a0_2, .int .i64 a0_3, .int .i64 a0_4, .int .i64 a0_5, .slice A0_6 l0_6.length c0_6] from (k26_mkF _ _ (⟨a0_0, (⟨a0_1, a0_2, a0_3, a0_4⟩ : S23), a0_5, l0_6⟩ : S26) (Kd.V_reads' (Kd.V_mono (ok' := (fun k_ => (P0_6_ k_ ∨ w.heap.size ≤ k_) ∧ k_ ≠ gb1101)) (HO0_6.out) (fun k_ hk => ⟨hk.1, hk.2⟩))).2.1 (Kd.V_F (Kd.V_mono (ok' := (fun k_ => (P0_6_ k_ ∨ w.heap.size ≤ k_) ∧ k_ ≠ gb1101)) (HO0_6.out) (fun k_ hk => ⟨hk.1, hk.2⟩))))) (Reps.none _ _))); intro v1103 w24 ho25 hb hg_ hnew_; clear hg_ hnew_; (rw [← Ny1102.out] at ho25); have HO1104 := Aside0.mk (Kd.N_lower ho25 (below_size (by repeat ((with_reducible exact HB.out))))); replace HO0_6 := Aside0.mk (Kd.V_elder' HO0_6.out (Kd.N_base ho25) hb); replace BK1101 := Aside0.mk (blk_below BK1101.out hb); replace HB := Aside0.mk (below_step (by repeat ((with_reducible exact HB.out))) hb); clear hb ho25; obtain ⟨Ao26, co26, eo26⟩ := Kd.N_slice HO1104.out; subst eo26) | ((with_reducible refine gate_callee (f := 76) rfl ?_); refine goesL_ (some 9) rfl rfl Try.func76 (by kernel_rfl) rfl #[.slice Ao26 y1102.length co26] rfl (by (try simp only [List.map_toArray, List.map_cons, List.map_nil]); rfl) ?_; (with_reducible refine (cell_May.calls _ _ y1102 true _ ?side1 ?side2 A4.out).mono ?_); (case side1 => repeat (exact (Kd.N_reads' HO1104.out).2.2)); (case side2 => exact (Kd.N_reads' HO1104.out).2.1); rintro e w27 ⟨rfl, hb⟩; refine ⟨_, rfl, ?_⟩; replace HO0_6 := Aside0.mk (Kd.V_below HO0_6.out hb); replace HO1104 := Aside0.mk (Kd.N_below HO1104.out hb); replace BK1101 := Aside0.mk (blk_below BK1101.out hb); replace HB := Aside0.mk (below_step (by repeat ((with_reducible exact HB.out))) hb); (try clear hb); have hcz28_0 : w27.cell? ⟨gb1101, 0, none⟩ = some (.int .u8 a0_0) := (blk_cell BK1101.out 0).trans rfl; have hcz28_1 : w27.cell? ⟨gb1101, 1, none⟩ = some (.int .i64 a0_1) := (blk_cell BK1101.out 1).trans rfl; have hcz28_2 : w27.cell? ⟨gb1101, 2, none⟩ = some (.int .i64 a0_2) := (blk_cell BK1101.out 2).trans rfl; have hcz28_3 : w27.cell? ⟨gb1101, 3, none⟩ = some (.int .i64 a0_3) := (blk_cell BK1101.out 3).trans rfl; have hcz28_4 : w27.cell? ⟨gb1101, 4, none⟩ = some (.int .i64 a0_4) := (blk_cell BK1101.out 4).trans rfl; have hcz28_5 : w27.cell? ⟨gb1101, 5, none⟩ = some (.int .i64 a0_5) := (blk_cell BK1101.out 5).trans rfl; have hcz28_6 : w27.cell? ⟨gb1101, 6, none⟩ = some (.slice A0_6 l0_6.length c0_6) := (blk_cell BK1101.out 6).trans rfl; have hfz28_0 := blk_frozen BK1101.out 0; have hfz28_1 := blk_frozen BK1101.out 1; have hfz28_2 := blk_frozen BK1101.out 2; have hfz28_3 := blk_frozen BK1101.out 3; have hfz28_4 := blk_frozen BK1101.out 4; have hfz28_5 := blk_frozen BK1101.out 5; have hfz28_6 := blk_frozen BK1101.out 6) | (go_at_call 149; (with_reducible refine (least_least.calls k a0_0 a0_1 a0_2 a0_3 a0_4 a0_5 _ _ l0_6 1 t1106 _ ?side1 ?side2 A6.out).mono ?_); (case side1 => repeat (exact (Kd.V_reads' HO0_6.out).2.2)); (case side2 => exact (Kd.V_reads' HO0_6.out).2.1); rintro e w29 ⟨rfl, hb⟩; replace HO0_6 := Aside0.mk (Kd.V_below HO0_6.out hb); replace HO1104 := Aside0.mk (Kd.N_below HO1104.out hb); replace BK1101 := Aside0.mk (blk_below BK1101.out hb); replace HB := Aside0.mk (below_step (by repeat ((with_reducible exact HB.out))) hb); (try clear hb); have hcz30_0 : w29.cell? ⟨gb1101, 0, none⟩ = some (.int .u8 a0_0) := (blk_cell BK1101.out 0).trans rfl; have hcz30_1 : w29.cell? ⟨gb1101, 1, none⟩ = some (.int .i64 a0_1) := (blk_cell BK1101.out 1).trans rfl; have hcz30_2 : w29.cell? ⟨gb1101, 2, none⟩ = some (.int .i64 a0_2) := (blk_cell BK1101.out 2).trans rfl; have hcz30_3 : w29.cell? ⟨gb1101, 3, none⟩ = some (.int .i64 a0_3) := (blk_cell BK1101.out 3).trans rfl; have hcz30_4 : w29.cell? ⟨gb1101, 4, none⟩ = some (.int .i64 a0_4) := (blk_cell BK1101.out 4).trans rfl; have hcz30_5 : w29.cell? ⟨gb1101, 5, none⟩ = some (.int .i64 a0_5) := (blk_cell BK1101.out 5).trans rfl; have hcz30_6 : w29.cell? ⟨gb1101, 6, none⟩ = some (.slice A0_6 l0_6.length c0_6) := (blk_cell BK1101.out 6).trans rfl; have hfz30_0 := blk_frozen BK1101.out 0; have hfz30_1 := blk_frozen BK1101.out 1; have hfz30_2 := blk_frozen BK1101.out 2; have hfz30_3 := blk_frozen BK1101.out 3; have hfz30_4 := blk_frozen BK1101.out 4; have hfz30_5 := blk_frozen BK1101.out 5; have hfz30_6 := blk_frozen BK1101.out 6) | (go_at_call 149; (with_reducible refine (least_least.calls k a0_0 a0_1 a0_2 a0_3 a0_4 a0_5 _ _ l0_6 2 t1107 _ ?side1 ?side2 A8.out).mono ?_); (case side1 => repeat (exact (Kd.V_reads' HO0_6.out).2.2)); (case side2 => exact (Kd.V_reads' HO0_6.out).2.1); rintro e w31 ⟨rfl, hb⟩; replace HO0_6 := Aside0.mk (Kd.V_below HO0_6.out hb); replace HO1104 := Aside0.mk (Kd.N_below HO1104.out hb); replace BK1101 := Aside0.mk (blk_below BK1101.out hb); replace HB := Aside0.mk (below_step (by repeat ((with_reducible exact HB.out))) hb); (try clear hb); have hcz32_0 : w31.cell? ⟨gb1101, 0, none⟩ = some (.int .u8 a0_0) := (blk_cell BK1101.out 0).trans rfl; have hcz32_1 : w31.cell? ⟨gb1101, 1, none⟩ = some (.int .i64 a0_1) := (blk_cell BK1101.out 1).trans rfl; have hcz32_2 : w31.cell? ⟨gb1101, 2, none⟩ = some (.int .i64 a0_2) := (blk_cell BK1101.out 2).trans rfl; have hcz32_3 : w31.cell? ⟨gb1101, 3, none⟩ = some (.int .i64 a0_3) := (blk_cell BK1101.out 3).trans rfl; have hcz32_4 : w31.cell? ⟨gb1101, 4, none⟩ = some (.int .i64 a0_4) := (blk_cell BK1101.out 4).trans rfl; have hcz32_5 : w31.cell? ⟨gb1101, 5, none⟩ = some (.int .i64 a0_5) := (blk_cell BK1101.out 5).trans rfl; have hcz32_6 : w31.cell? ⟨gb1101, 6, none⟩ = some (.slice A0_6 l0_6.length c0_6) := (blk_cell BK1101.out 6).trans rfl; have hfz32_0 := blk_frozen BK1101.out 0; have hfz32_1 := blk_frozen BK1101.out 1; have hfz32_2 := blk_frozen BK1101.out 2; have hfz32_3 := blk_frozen BK1101.out 3; have hfz32_4 := blk_frozen BK1101.out 4; have hfz32_5 := blk_frozen BK1101.out 5; have hfz32_6 := blk_frozen BK1101.out 6))
     go_ret
     exact ⟨by rfl, by repeat ((with_reducible exact HB.out))⟩
   ·rw [if_neg c9] at H
    have c9b0 : decide (t1107 ≤ a2) = false := decide_eq_false c9
    clear c9
    obtain rfl := Option.some.inj H
    go_enter Try.func96, Try.ntmps96
    go_wp2_with (first | ((with_reducible refine gate_dst (N := 3) rfl ?_); refine box_event ?hg (N := 3) ?hd (cs := #[.int .u8 a0_0, .int .i64 a0_1, .int .i64 a0_2, .int .i64 a0_3, .int .i64 a0_4, .int .i64 a0_5, .slice A0_6 l0_6.length c0_6]) (t := 26) ?hr ?_; (case hd => rfl); (case hg => rfl); (case hr => (go_simp; done)); intro gb1101 hg w33 hbox hb; have BK1101 := Aside0.mk (hbox); replace HO0_6 := Aside0.mk (Kd.V_below (Kd.V_elderB HO0_6.out gb1101 (Nat.le_of_eq hg.symm)) hb); replace HB := Aside0.mk (below_step (by repeat ((with_reducible exact HB.out))) hb); clear hb hbox hg; have hcz34_0 : w33.cell? ⟨gb1101, 0, none⟩ = some (.int .u8 a0_0) := (blk_cell BK1101.out 0).trans rfl; have hcz34_1 : w33.cell? ⟨gb1101, 1, none⟩ = some (.int .i64 a0_1) := (blk_cell BK1101.out 1).trans rfl; have hcz34_2 : w33.cell? ⟨gb1101, 2, none⟩ = some (.int .i64 a0_2) := (blk_cell BK1101.out 2).trans rfl; have hcz34_3 : w33.cell? ⟨gb1101, 3, none⟩ = some (.int .i64 a0_3) := (blk_cell BK1101.out 3).trans rfl; have hcz34_4 : w33.cell? ⟨gb1101, 4, none⟩ = some (.int .i64 a0_4) := (blk_cell BK1101.out 4).trans rfl; have hcz34_5 : w33.cell? ⟨gb1101, 5, none⟩ = some (.int .i64 a0_5) := (blk_cell BK1101.out 5).trans rfl; have hcz34_6 : w33.cell? ⟨gb1101, 6, none⟩ = some (.slice A0_6 l0_6.length c0_6) := (blk_cell BK1101.out 6).trans rfl; have hfz34_0 := blk_frozen BK1101.out 0; have hfz34_1 := blk_frozen BK1101.out 1; have hfz34_2 := blk_frozen BK1101.out 2; have hfz34_3 := blk_frozen BK1101.out 3; have hfz34_4 := blk_frozen BK1101.out 4; have hfz34_5 := blk_frozen BK1101.out 5; have hfz34_6 := blk_frozen BK1101.out 6) | ((with_reducible refine gate_dst (N := 8) rfl ?_); refine Kd.N_lit k26 _ 26 ?hg (N' := 8) ?hd (xs := ([(⟨a0_0, (⟨a0_1, a0_2, a0_3, a0_4⟩ : S23), a0_5, l0_6⟩ : S26)] : List (S26))) (inner := [.int .u8 a0_0, .int .i64 a0_1, .int .i64 a0_2, .int .i64 a0_3, .int .i64 a0_4, .int .i64 a0_5, .slice A0_6 l0_6.length c0_6]) (ok := (fun k_ => (P0_6_ k_ ∨ w.heap.size ≤ k_) ∧ k_ ≠ gb1101)) (okp := (fun k_ => (P0_6_ k_ ∨ w.heap.size ≤ k_) ∧ k_ ≠ gb1101)) ?hr ?hp (fun _ hk => hk) ((show ∀ k_, w33.heap.size ≤ k_ → (fun k_ => (P0_6_ k_ ∨ w.heap.size ≤ k_) ∧ k_ ≠ gb1101) k_ from fun k_ hk => ⟨(.inr (Nat.le_trans (below_size (by repeat ((with_reducible exact HB.out)))) hk)), Kd.freshB BK1101.out k_ hk⟩) _ (Nat.le_refl _)) (Below.refl _ _) (Nat.le_refl _) (by simp) ?_; (case hd => rfl); (case hg => rfl); (case hr => (go_simp; done)); (case hp => exact (Reps.c7 (show Kd.FK k26 _ _ (⟨a0_0, (⟨a0_1, a0_2, a0_3, a0_4⟩ : S23), a0_5, l0_6⟩ : S26) [.int .u8 a0_0, .int .i64 a0_1, .int .i64 a0_2, .int .i64 a0_3, .int .i64 a0_4, .int .i64 a0_5, .slice A0_6 l0_6.length c0_6] from (k26_mkF _ _ (⟨a0_0, (⟨a0_1, a0_2, a0_3, a0_4⟩ : S23), a0_5, l0_6⟩ : S26) (Kd.V_reads' (Kd.V_mono (ok' := (fun k_ => (P0_6_ k_ ∨ w.heap.size ≤ k_) ∧ k_ ≠ gb1101)) (HO0_6.out) (fun k_ hk => ⟨hk.1, hk.2⟩))).2.1 (Kd.V_F (Kd.V_mono (ok' := (fun k_ => (P0_6_ k_ ∨ w.heap.size ≤ k_) ∧ k_ ≠ gb1101)) (HO0_6.out) (fun k_ hk => ⟨hk.1, hk.2⟩))))) (Reps.none _ _))); intro v1103 w35 ho36 hb hg_ hnew_; clear hg_ hnew_; (rw [← Ny1102.out] at ho36); have HO1104 := Aside0.mk (Kd.N_lower ho36 (below_size (by repeat ((with_reducible exact HB.out))))); replace HO0_6 := Aside0.mk (Kd.V_elder' HO0_6.out (Kd.N_base ho36) hb); replace BK1101 := Aside0.mk (blk_below BK1101.out hb); replace HB := Aside0.mk (below_step (by repeat ((with_reducible exact HB.out))) hb); clear hb ho36; obtain ⟨Ao37, co37, eo37⟩ := Kd.N_slice HO1104.out; subst eo37) | ((with_reducible refine gate_callee (f := 76) rfl ?_); refine goesL_ (some 9) rfl rfl Try.func76 (by kernel_rfl) rfl #[.slice Ao37 y1102.length co37] rfl (by (try simp only [List.map_toArray, List.map_cons, List.map_nil]); rfl) ?_; (with_reducible refine (cell_May.calls _ _ y1102 true _ ?side1 ?side2 A4.out).mono ?_); (case side1 => repeat (exact (Kd.N_reads' HO1104.out).2.2)); (case side2 => exact (Kd.N_reads' HO1104.out).2.1); rintro e w38 ⟨rfl, hb⟩; refine ⟨_, rfl, ?_⟩; replace HO0_6 := Aside0.mk (Kd.V_below HO0_6.out hb); replace HO1104 := Aside0.mk (Kd.N_below HO1104.out hb); replace BK1101 := Aside0.mk (blk_below BK1101.out hb); replace HB := Aside0.mk (below_step (by repeat ((with_reducible exact HB.out))) hb); (try clear hb); have hcz39_0 : w38.cell? ⟨gb1101, 0, none⟩ = some (.int .u8 a0_0) := (blk_cell BK1101.out 0).trans rfl; have hcz39_1 : w38.cell? ⟨gb1101, 1, none⟩ = some (.int .i64 a0_1) := (blk_cell BK1101.out 1).trans rfl; have hcz39_2 : w38.cell? ⟨gb1101, 2, none⟩ = some (.int .i64 a0_2) := (blk_cell BK1101.out 2).trans rfl; have hcz39_3 : w38.cell? ⟨gb1101, 3, none⟩ = some (.int .i64 a0_3) := (blk_cell BK1101.out 3).trans rfl; have hcz39_4 : w38.cell? ⟨gb1101, 4, none⟩ = some (.int .i64 a0_4) := (blk_cell BK1101.out 4).trans rfl; have hcz39_5 : w38.cell? ⟨gb1101, 5, none⟩ = some (.int .i64 a0_5) := (blk_cell BK1101.out 5).trans rfl; have hcz39_6 : w38.cell? ⟨gb1101, 6, none⟩ = some (.slice A0_6 l0_6.length c0_6) := (blk_cell BK1101.out 6).trans rfl; have hfz39_0 := blk_frozen BK1101.out 0; have hfz39_1 := blk_frozen BK1101.out 1; have hfz39_2 := blk_frozen BK1101.out 2; have hfz39_3 := blk_frozen BK1101.out 3; have hfz39_4 := blk_frozen BK1101.out 4; have hfz39_5 := blk_frozen BK1101.out 5; have hfz39_6 := blk_frozen BK1101.out 6) | (go_at_call 149; (with_reducible refine (least_least.calls k a0_0 a0_1 a0_2 a0_3 a0_4 a0_5 _ _ l0_6 1 t1106 _ ?side1 ?side2 A6.out).mono ?_); (case side1 => repeat (exact (Kd.V_reads' HO0_6.out).2.2)); (case side2 => exact (Kd.V_reads' HO0_6.out).2.1); rintro e w40 ⟨rfl, hb⟩; replace HO0_6 := Aside0.mk (Kd.V_below HO0_6.out hb); replace HO1104 := Aside0.mk (Kd.N_below HO1104.out hb); replace BK1101 := Aside0.mk (blk_below BK1101.out hb); replace HB := Aside0.mk (below_step (by repeat ((with_reducible exact HB.out))) hb); (try clear hb); have hcz41_0 : w40.cell? ⟨gb1101, 0, none⟩ = some (.int .u8 a0_0) := (blk_cell BK1101.out 0).trans rfl; have hcz41_1 : w40.cell? ⟨gb1101, 1, none⟩ = some (.int .i64 a0_1) := (blk_cell BK1101.out 1).trans rfl; have hcz41_2 : w40.cell? ⟨gb1101, 2, none⟩ = some (.int .i64 a0_2) := (blk_cell BK1101.out 2).trans rfl; have hcz41_3 : w40.cell? ⟨gb1101, 3, none⟩ = some (.int .i64 a0_3) := (blk_cell BK1101.out 3).trans rfl; have hcz41_4 : w40.cell? ⟨gb1101, 4, none⟩ = some (.int .i64 a0_4) := (blk_cell BK1101.out 4).trans rfl; have hcz41_5 : w40.cell? ⟨gb1101, 5, none⟩ = some (.int .i64 a0_5) := (blk_cell BK1101.out 5).trans rfl; have hcz41_6 : w40.cell? ⟨gb1101, 6, none⟩ = some (.slice A0_6 l0_6.length c0_6) := (blk_cell BK1101.out 6).trans rfl; have hfz41_0 := blk_frozen BK1101.out 0; have hfz41_1 := blk_frozen BK1101.out 1; have hfz41_2 := blk_frozen BK1101.out 2; have hfz41_3 := blk_frozen BK1101.out 3; have hfz41_4 := blk_frozen BK1101.out 4; have hfz41_5 := blk_frozen BK1101.out 5; have hfz41_6 := blk_frozen BK1101.out 6) | (go_at_call 149; (with_reducible refine (least_least.calls k a0_0 a0_1 a0_2 a0_3 a0_4 a0_5 _ _ l0_6 2 t1107 _ ?side1 ?side2 A8.out).mono ?_); (case side1 => repeat (exact (Kd.V_reads' HO0_6.out).2.2)); (case side2 => exact (Kd.V_reads' HO0_6.out).2.1); rintro e w42 ⟨rfl, hb⟩; replace HO0_6 := Aside0.mk (Kd.V_below HO0_6.out hb); replace HO1104 := Aside0.mk (Kd.N_below HO1104.out hb); replace BK1101 := Aside0.mk (blk_below BK1101.out hb); replace HB := Aside0.mk (below_step (by repeat ((with_reducible exact HB.out))) hb); (try clear hb)))
    go_ret
    exact ⟨by rfl, by repeat ((with_reducible exact HB.out))⟩
  ·rw [if_neg c7] at H
   have c7b0 : decide (t1106 ≤ a1) = false := decide_eq_false c7
   clear c7
   obtain rfl := Option.some.inj H
   go_enter Try.func96, Try.ntmps96
   go_wp2_with (first | ((with_reducible refine gate_dst (N := 3) rfl ?_); refine box_event ?hg (N := 3) ?hd (cs := #[.int .u8 a0_0, .int .i64 a0_1, .int .i64 a0_2, .int .i64 a0_3, .int .i64 a0_4, .int .i64 a0_5, .slice A0_6 l0_6.length c0_6]) (t := 26) ?hr ?_; (case hd => rfl); (case hg => rfl); (case hr => (go_simp; done)); intro gb1101 hg w43 hbox hb; have BK1101 := Aside0.mk (hbox); replace HO0_6 := Aside0.mk (Kd.V_below (Kd.V_elderB HO0_6.out gb1101 (Nat.le_of_eq hg.symm)) hb); replace HB := Aside0.mk (below_step (by repeat ((with_reducible exact HB.out))) hb); clear hb hbox hg; have hcz44_0 : w43.cell? ⟨gb1101, 0, none⟩ = some (.int .u8 a0_0) := (blk_cell BK1101.out 0).trans rfl; have hcz44_1 : w43.cell? ⟨gb1101, 1, none⟩ = some (.int .i64 a0_1) := (blk_cell BK1101.out 1).trans rfl; have hcz44_2 : w43.cell? ⟨gb1101, 2, none⟩ = some (.int .i64 a0_2) := (blk_cell BK1101.out 2).trans rfl; have hcz44_3 : w43.cell? ⟨gb1101, 3, none⟩ = some (.int .i64 a0_3) := (blk_cell BK1101.out 3).trans rfl; have hcz44_4 : w43.cell? ⟨gb1101, 4, none⟩ = some (.int .i64 a0_4) := (blk_cell BK1101.out 4).trans rfl; have hcz44_5 : w43.cell? ⟨gb1101, 5, none⟩ = some (.int .i64 a0_5) := (blk_cell BK1101.out 5).trans rfl; have hcz44_6 : w43.cell? ⟨gb1101, 6, none⟩ = some (.slice A0_6 l0_6.length c0_6) := (blk_cell BK1101.out 6).trans rfl; have hfz44_0 := blk_frozen BK1101.out 0; have hfz44_1 := blk_frozen BK1101.out 1; have hfz44_2 := blk_frozen BK1101.out 2; have hfz44_3 := blk_frozen BK1101.out 3; have hfz44_4 := blk_frozen BK1101.out 4; have hfz44_5 := blk_frozen BK1101.out 5; have hfz44_6 := blk_frozen BK1101.out 6) | ((with_reducible refine gate_dst (N := 8) rfl ?_); refine Kd.N_lit k26 _ 26 ?hg (N' := 8) ?hd (xs := ([(⟨a0_0, (⟨a0_1, a0_2, a0_3, a0_4⟩ : S23), a0_5, l0_6⟩ : S26)] : List (S26))) (inner := [.int .u8 a0_0, .int .i64 a0_1, .int .i64 a0_2, .int .i64 a0_3, .int .i64 a0_4, .int .i64 a0_5, .slice A0_6 l0_6.length c0_6]) (ok := (fun k_ => (P0_6_ k_ ∨ w.heap.size ≤ k_) ∧ k_ ≠ gb1101)) (okp := (fun k_ => (P0_6_ k_ ∨ w.heap.size ≤ k_) ∧ k_ ≠ gb1101)) ?hr ?hp (fun _ hk => hk) ((show ∀ k_, w43.heap.size ≤ k_ → (fun k_ => (P0_6_ k_ ∨ w.heap.size ≤ k_) ∧ k_ ≠ gb1101) k_ from fun k_ hk => ⟨(.inr (Nat.le_trans (below_size (by repeat ((with_reducible exact HB.out)))) hk)), Kd.freshB BK1101.out k_ hk⟩) _ (Nat.le_refl _)) (Below.refl _ _) (Nat.le_refl _) (by simp) ?_; (case hd => rfl); (case hg => rfl); (case hr => (go_simp; done)); (case hp => exact (Reps.c7 (show Kd.FK k26 _ _ (⟨a0_0, (⟨a0_1, a0_2, a0_3, a0_4⟩ : S23), a0_5, l0_6⟩ : S26) [.int .u8 a0_0, .int .i64 a0_1, .int .i64 a0_2, .int .i64 a0_3, .int .i64 a0_4, .int .i64 a0_5, .slice A0_6 l0_6.length c0_6] from (k26_mkF _ _ (⟨a0_0, (⟨a0_1, a0_2, a0_3, a0_4⟩ : S23), a0_5, l0_6⟩ : S26) (Kd.V_reads' (Kd.V_mono (ok' := (fun k_ => (P0_6_ k_ ∨ w.heap.size ≤ k_) ∧ k_ ≠ gb1101)) (HO0_6.out) (fun k_ hk => ⟨hk.1, hk.2⟩))).2.1 (Kd.V_F (Kd.V_mono (ok' := (fun k_ => (P0_6_ k_ ∨ w.heap.size ≤ k_) ∧ k_ ≠ gb1101)) (HO0_6.out) (fun k_ hk => ⟨hk.1, hk.2⟩))))) (Reps.none _ _))); intro v1103 w45 ho46 hb hg_ hnew_; clear hg_ hnew_; (rw [← Ny1102.out] at ho46); have HO1104 := Aside0.mk (Kd.N_lower ho46 (below_size (by repeat ((with_reducible exact HB.out))))); replace HO0_6 := Aside0.mk (Kd.V_elder' HO0_6.out (Kd.N_base ho46) hb); replace BK1101 := Aside0.mk (blk_below BK1101.out hb); replace HB := Aside0.mk (below_step (by repeat ((with_reducible exact HB.out))) hb); clear hb ho46; obtain ⟨Ao47, co47, eo47⟩ := Kd.N_slice HO1104.out; subst eo47) | ((with_reducible refine gate_callee (f := 76) rfl ?_); refine goesL_ (some 9) rfl rfl Try.func76 (by kernel_rfl) rfl #[.slice Ao47 y1102.length co47] rfl (by (try simp only [List.map_toArray, List.map_cons, List.map_nil]); rfl) ?_; (with_reducible refine (cell_May.calls _ _ y1102 true _ ?side1 ?side2 A4.out).mono ?_); (case side1 => repeat (exact (Kd.N_reads' HO1104.out).2.2)); (case side2 => exact (Kd.N_reads' HO1104.out).2.1); rintro e w48 ⟨rfl, hb⟩; refine ⟨_, rfl, ?_⟩; replace HO0_6 := Aside0.mk (Kd.V_below HO0_6.out hb); replace HO1104 := Aside0.mk (Kd.N_below HO1104.out hb); replace BK1101 := Aside0.mk (blk_below BK1101.out hb); replace HB := Aside0.mk (below_step (by repeat ((with_reducible exact HB.out))) hb); (try clear hb); have hcz49_0 : w48.cell? ⟨gb1101, 0, none⟩ = some (.int .u8 a0_0) := (blk_cell BK1101.out 0).trans rfl; have hcz49_1 : w48.cell? ⟨gb1101, 1, none⟩ = some (.int .i64 a0_1) := (blk_cell BK1101.out 1).trans rfl; have hcz49_2 : w48.cell? ⟨gb1101, 2, none⟩ = some (.int .i64 a0_2) := (blk_cell BK1101.out 2).trans rfl; have hcz49_3 : w48.cell? ⟨gb1101, 3, none⟩ = some (.int .i64 a0_3) := (blk_cell BK1101.out 3).trans rfl; have hcz49_4 : w48.cell? ⟨gb1101, 4, none⟩ = some (.int .i64 a0_4) := (blk_cell BK1101.out 4).trans rfl; have hcz49_5 : w48.cell? ⟨gb1101, 5, none⟩ = some (.int .i64 a0_5) := (blk_cell BK1101.out 5).trans rfl; have hcz49_6 : w48.cell? ⟨gb1101, 6, none⟩ = some (.slice A0_6 l0_6.length c0_6) := (blk_cell BK1101.out 6).trans rfl; have hfz49_0 := blk_frozen BK1101.out 0; have hfz49_1 := blk_frozen BK1101.out 1; have hfz49_2 := blk_frozen BK1101.out 2; have hfz49_3 := blk_frozen BK1101.out 3; have hfz49_4 := blk_frozen BK1101.out 4; have hfz49_5 := blk_frozen BK1101.out 5; have hfz49_6 := blk_frozen BK1101.out 6) | (go_at_call 149; (with_reducible refine (least_least.calls k a0_0 a0_1 a0_2 a0_3 a0_4 a0_5 _ _ l0_6 1 t1106 _ ?side1 ?side2 A6.out).mono ?_); (case side1 => repeat (exact (Kd.V_reads' HO0_6.out).2.2)); (case side2 => exact (Kd.V_reads' HO0_6.out).2.1); rintro e w50 ⟨rfl, hb⟩; replace HO0_6 := Aside0.mk (Kd.V_below HO0_6.out hb); replace HO1104 := Aside0.mk (Kd.N_below HO1104.out hb); replace BK1101 := Aside0.mk (blk_below BK1101.out hb); replace HB := Aside0.mk (below_step (by repeat ((with_reducible exact HB.out))) hb); (try clear hb)))
   go_ret
   exact ⟨by rfl, by repeat ((with_reducible exact HB.out))⟩
 ·replace c5 := Bool.eq_false_iff.mpr c5
  subst c5
  have H1 : (some false) = some r := by rw [if_neg (show ¬ (false = true) by decide)] at H; exact H
  clear H
  have H := H1
  clear H1
  obtain rfl := Option.some.inj H
  go_enter Try.func96, Try.ntmps96
  go_wp2_with (first | ((with_reducible refine gate_dst (N := 3) rfl ?_); refine box_event ?hg (N := 3) ?hd (cs := #[.int .u8 a0_0, .int .i64 a0_1, .int .i64 a0_2, .int .i64 a0_3, .int .i64 a0_4, .int .i64 a0_5, .slice A0_6 l0_6.length c0_6]) (t := 26) ?hr ?_; (case hd => rfl); (case hg => rfl); (case hr => (go_simp; done)); intro gb1101 hg w51 hbox hb; have BK1101 := Aside0.mk (hbox); replace HO0_6 := Aside0.mk (Kd.V_below (Kd.V_elderB HO0_6.out gb1101 (Nat.le_of_eq hg.symm)) hb); replace HB := Aside0.mk (below_step (by repeat ((with_reducible exact HB.out))) hb); clear hb hbox hg; have hcz52_0 : w51.cell? ⟨gb1101, 0, none⟩ = some (.int .u8 a0_0) := (blk_cell BK1101.out 0).trans rfl; have hcz52_1 : w51.cell? ⟨gb1101, 1, none⟩ = some (.int .i64 a0_1) := (blk_cell BK1101.out 1).trans rfl; have hcz52_2 : w51.cell? ⟨gb1101, 2, none⟩ = some (.int .i64 a0_2) := (blk_cell BK1101.out 2).trans rfl; have hcz52_3 : w51.cell? ⟨gb1101, 3, none⟩ = some (.int .i64 a0_3) := (blk_cell BK1101.out 3).trans rfl; have hcz52_4 : w51.cell? ⟨gb1101, 4, none⟩ = some (.int .i64 a0_4) := (blk_cell BK1101.out 4).trans rfl; have hcz52_5 : w51.cell? ⟨gb1101, 5, none⟩ = some (.int .i64 a0_5) := (blk_cell BK1101.out 5).trans rfl; have hcz52_6 : w51.cell? ⟨gb1101, 6, none⟩ = some (.slice A0_6 l0_6.length c0_6) := (blk_cell BK1101.out 6).trans rfl; have hfz52_0 := blk_frozen BK1101.out 0; have hfz52_1 := blk_frozen BK1101.out 1; have hfz52_2 := blk_frozen BK1101.out 2; have hfz52_3 := blk_frozen BK1101.out 3; have hfz52_4 := blk_frozen BK1101.out 4; have hfz52_5 := blk_frozen BK1101.out 5; have hfz52_6 := blk_frozen BK1101.out 6) | ((with_reducible refine gate_dst (N := 8) rfl ?_); refine Kd.N_lit k26 _ 26 ?hg (N' := 8) ?hd (xs := ([(⟨a0_0, (⟨a0_1, a0_2, a0_3, a0_4⟩ : S23), a0_5, l0_6⟩ : S26)] : List (S26))) (inner := [.int .u8 a0_0, .int .i64 a0_1, .int .i64 a0_2, .int .i64 a0_3, .int .i64 a0_4, .int .i64 a0_5, .slice A0_6 l0_6.length c0_6]) (ok := (fun k_ => (P0_6_ k_ ∨ w.heap.size ≤ k_) ∧ k_ ≠ gb1101)) (okp := (fun k_ => (P0_6_ k_ ∨ w.heap.size ≤ k_) ∧ k_ ≠ gb1101)) ?hr ?hp (fun _ hk => hk) ((show ∀ k_, w51.heap.size ≤ k_ → (fun k_ => (P0_6_ k_ ∨ w.heap.size ≤ k_) ∧ k_ ≠ gb1101) k_ from fun k_ hk => ⟨(.inr (Nat.le_trans (below_size (by repeat ((with_reducible exact HB.out)))) hk)), Kd.freshB BK1101.out k_ hk⟩) _ (Nat.le_refl _)) (Below.refl _ _) (Nat.le_refl _) (by simp) ?_; (case hd => rfl); (case hg => rfl); (case hr => (go_simp; done)); (case hp => exact (Reps.c7 (show Kd.FK k26 _ _ (⟨a0_0, (⟨a0_1, a0_2, a0_3, a0_4⟩ : S23), a0_5, l0_6⟩ : S26) [.int .u8 a0_0, .int .i64 a0_1, .int .i64 a0_2, .int .i64 a0_3, .int .i64 a0_4, .int .i64 a0_5, .slice A0_6 l0_6.length c0_6] from (k26_mkF _ _ (⟨a0_0, (⟨a0_1, a0_2, a0_3, a0_4⟩ : S23), a0_5, l0_6⟩ : S26) (Kd.V_reads' (Kd.V_mono (ok' := (fun k_ => (P0_6_ k_ ∨ w.heap.size ≤ k_) ∧ k_ ≠ gb1101)) (HO0_6.out) (fun k_ hk => ⟨hk.1, hk.2⟩))).2.1 (Kd.V_F (Kd.V_mono (ok' := (fun k_ => (P0_6_ k_ ∨ w.heap.size ≤ k_) ∧ k_ ≠ gb1101)) (HO0_6.out) (fun k_ hk => ⟨hk.1, hk.2⟩))))) (Reps.none _ _))); intro v1103 w53 ho54 hb hg_ hnew_; clear hg_ hnew_; (rw [← Ny1102.out] at ho54); have HO1104 := Aside0.mk (Kd.N_lower ho54 (below_size (by repeat ((with_reducible exact HB.out))))); replace HO0_6 := Aside0.mk (Kd.V_elder' HO0_6.out (Kd.N_base ho54) hb); replace BK1101 := Aside0.mk (blk_below BK1101.out hb); replace HB := Aside0.mk (below_step (by repeat ((with_reducible exact HB.out))) hb); clear hb ho54; obtain ⟨Ao55, co55, eo55⟩ := Kd.N_slice HO1104.out; subst eo55) | ((with_reducible refine gate_callee (f := 76) rfl ?_); refine goesL_ (some 9) rfl rfl Try.func76 (by kernel_rfl) rfl #[.slice Ao55 y1102.length co55] rfl (by (try simp only [List.map_toArray, List.map_cons, List.map_nil]); rfl) ?_; (with_reducible refine (cell_May.calls _ _ y1102 false _ ?side1 ?side2 A4.out).mono ?_); (case side1 => repeat (exact (Kd.N_reads' HO1104.out).2.2)); (case side2 => exact (Kd.N_reads' HO1104.out).2.1); rintro e w56 ⟨rfl, hb⟩; refine ⟨_, rfl, ?_⟩; replace HO0_6 := Aside0.mk (Kd.V_below HO0_6.out hb); replace HO1104 := Aside0.mk (Kd.N_below HO1104.out hb); replace BK1101 := Aside0.mk (blk_below BK1101.out hb); replace HB := Aside0.mk (below_step (by repeat ((with_reducible exact HB.out))) hb); (try clear hb)))
  go_ret
  exact ⟨by rfl, by repeat ((with_reducible exact HB.out))⟩

end Go.Proofs.Ytfdmfgaiblfbhaa.P
namespace Go.Proofs.Ytfdmfgaiblfbhaa.P
open Go.RowKit Go.Proofs.YtfdmfgaiblfbhaaW.PrintWords Go.Proofs.YtfdmfgaiblfbhaaW.PrintLast Go.Proofs.YtfdmfgaiblfbhaaW.PrintMore
attribute [local go_sem] max2_int min2_int max_two min_two max_three min_three max_four min_four   -- for this text's walks alone
set_option linter.unusedVariables false
set_option linter.unusedSimpArgs false

/-! ### least_Size: function 98 -/
def least_Size.f (a0_0 : Int) (a0_1 : Int) (a0_2 : Int) (a0_3 : Int) (a1 : Int) : Option (Int) := if a1 = 2 then (some a0_3) else (if a1 = 1 then (some a0_2) else (some 0))
set_option maxHeartbeats 8000000 in
set_option maxRecDepth 100000 in
theorem least_Size.calls (a0_0 : Int) (a0_1 : Int) (a0_2 : Int) (a0_3 : Int) (a1 : Int) (r : Int) (w : World) (h : least_Size.f a0_0 a0_1 a0_2 a0_3 a1 = some r) :
  Calls Try.prog 98 #[.agg #[.int .i64 a0_0, .int .i64 a0_1, .int .i64 a0_2, .int .i64 a0_3], .int .u8 a1] w fun e w' => e = .returned (.int .i64 r) ∧ Below w.heap.size w w' := by
 have hu23 := Try.underlying23
 have HB := Aside0.mk (Below.refl w.heap.size w)
 have H : (if a1 = 2 then (some a0_3) else (if a1 = 1 then (some a0_2) else (some 0))) = some r := h
 clear h
 by_cases c3 : a1 = 2
 ·rw [if_pos c3] at H
  have c3b0 : (a1 == 2) = true := beq_iff_eq.mpr c3
  have c3b1 : (a1 != 2) = false := bne_eq_false_iff_eq.mpr c3
  clear c3
  obtain rfl := Option.some.inj H
  go_enter Try.func98, Try.ntmps98
  go_wp2_with (((with_reducible refine gate_dst (N := 2) rfl ?_); refine box_event ?hg (N := 2) ?hd (cs := #[.int .i64 a0_0, .int .i64 a0_1, .int .i64 a0_2, .int .i64 a0_3]) (t := 23) ?hr ?_; (case hd => rfl); (case hg => rfl); (case hr => (go_simp; done)); intro gb964 hg w4 hbox hb; have BK964 := Aside0.mk (hbox); have GE964 := Aside0.mk ((by rw [hg]; exact (below_size (by repeat ((with_reducible exact HB.out)))) : w.heap.size ≤ gb964)); replace HB := Aside0.mk (below_step (by repeat ((with_reducible exact HB.out))) hb); clear hb hbox hg; have hcz5_0 : w4.cell? ⟨gb964, 0, none⟩ = some (.int .i64 a0_0) := (blk_cell BK964.out 0).trans rfl; have hcz5_1 : w4.cell? ⟨gb964, 1, none⟩ = some (.int .i64 a0_1) := (blk_cell BK964.out 1).trans rfl; have hcz5_2 : w4.cell? ⟨gb964, 2, none⟩ = some (.int .i64 a0_2) := (blk_cell BK964.out 2).trans rfl; have hcz5_3 : w4.cell? ⟨gb964, 3, none⟩ = some (.int .i64 a0_3) := (blk_cell BK964.out 3).trans rfl; have hfz5_0 := blk_frozen BK964.out 0; have hfz5_1 := blk_frozen BK964.out 1; have hfz5_2 := blk_frozen BK964.out 2; have hfz5_3 := blk_frozen BK964.out 3))
  go_ret
  exact ⟨by rfl, by repeat ((with_reducible first | exact HB.out | refine below_set ?_ GE964.out))⟩
 ·rw [if_neg c3] at H
  have c3b0 : (a1 == 2) = false := beq_eq_false_iff_ne.mpr c3
  have c3b1 : (a1 != 2) = true := bne_iff_ne.mpr c3
  by_cases c6 : a1 = 1
  ·rw [if_pos c6] at H
   have c6b0 : (a1 == 1) = true := beq_iff_eq.mpr c6
   have c6b1 : (a1 != 1) = false := bne_eq_false_iff_eq.mpr c6
   clear c6
   obtain rfl := Option.some.inj H
   go_enter Try.func98, Try.ntmps98
   go_wp2_with (((with_reducible refine gate_dst (N := 2) rfl ?_); refine box_event ?hg (N := 2) ?hd (cs := #[.int .i64 a0_0, .int .i64 a0_1, .int .i64 a0_2, .int .i64 a0_3]) (t := 23) ?hr ?_; (case hd => rfl); (case hg => rfl); (case hr => (go_simp; done)); intro gb964 hg w7 hbox hb; have BK964 := Aside0.mk (hbox); have GE964 := Aside0.mk ((by rw [hg]; exact (below_size (by repeat ((with_reducible exact HB.out)))) : w.heap.size ≤ gb964)); replace HB := Aside0.mk (below_step (by repeat ((with_reducible exact HB.out))) hb); clear hb hbox hg; have hcz8_0 : w7.cell? ⟨gb964, 0, none⟩ = some (.int .i64 a0_0) := (blk_cell BK964.out 0).trans rfl; have hcz8_1 : w7.cell? ⟨gb964, 1, none⟩ = some (.int .i64 a0_1) := (blk_cell BK964.out 1).trans rfl; have hcz8_2 : w7.cell? ⟨gb964, 2, none⟩ = some (.int .i64 a0_2) := (blk_cell BK964.out 2).trans rfl; have hcz8_3 : w7.cell? ⟨gb964, 3, none⟩ = some (.int .i64 a0_3) := (blk_cell BK964.out 3).trans rfl; have hfz8_0 := blk_frozen BK964.out 0; have hfz8_1 := blk_frozen BK964.out 1; have hfz8_2 := blk_frozen BK964.out 2; have hfz8_3 := blk_frozen BK964.out 3))
   go_ret
   exact ⟨by rfl, by repeat ((with_reducible exact HB.out))⟩
  ·rw [if_neg c6] at H
   have c6b0 : (a1 == 1) = false := beq_eq_false_iff_ne.mpr c6
   have c6b1 : (a1 != 1) = true := bne_iff_ne.mpr c6
   obtain rfl := Option.some.inj H
   go_enter Try.func98, Try.ntmps98
   go_wp2_with (((with_reducible refine gate_dst (N := 2) rfl ?_); refine box_event ?hg (N := 2) ?hd (cs := #[.int .i64 a0_0, .int .i64 a0_1, .int .i64 a0_2, .int .i64 a0_3]) (t := 23) ?hr ?_; (case hd => rfl); (case hg => rfl); (case hr => (go_simp; done)); intro gb964 hg w9 hbox hb; have BK964 := Aside0.mk (hbox); have GE964 := Aside0.mk ((by rw [hg]; exact (below_size (by repeat ((with_reducible exact HB.out)))) : w.heap.size ≤ gb964)); replace HB := Aside0.mk (below_step (by repeat ((with_reducible exact HB.out))) hb); clear hb hbox hg))
   go_ret
   exact ⟨by rfl, by repeat ((with_reducible exact HB.out))⟩

end Go.Proofs.Ytfdmfgaiblfbhaa.P
/- slices.IndexFunc, slices.ContainsFunc at S26, with any function value that keeps an invariant of the world and of what is left of the row. -/
namespace Go.Proofs.Ytfdmfgaiblfbhaa.P
open Go.RowKit Go.Proofs.YtfdmfgaiblfbhaaW.PrintWords Go.Proofs.YtfdmfgaiblfbhaaW.PrintLast Go.Proofs.YtfdmfgaiblfbhaaW.PrintMore

set_option maxHeartbeats 2000000 in
set_option maxRecDepth 100000 in
theorem idxs192 (Inv : List S26 → World → Prop) (r : S26 → Bool) (g : Nat) (lb : Array Value) (eg : ∀ args w, (callFunc g args).run Try.prog w = .ok (.enter g args) w) (l : List S26) (A : Option Addr) (c : Nat)
    (w0 : World) (hR : Kd.C k26 w0 A l.length l) (hW : ∀ s W, Inv s W → Below w0.heap.size w0 W) (hD : ∀ s W n, Inv s W → Inv s (W.drewN n))
    (hcall : ∀ (x : S26) (rest : List S26) (W : World) (B : Option Addr) (cb : Nat), x ∈ l → (∃ pre, pre ++ x :: rest = l) → Inv (x :: rest) W → Kd.C k26 w0 B x.f3.length x.f3 → x.f3.length ≤ cb → Calls Try.prog g (#[.agg #[.int .u8 x.f0, .int .i64 x.f1.f0, .int .i64 x.f1.f1, .int .i64 x.f1.f2, .int .i64 x.f1.f3, .int .i64 x.f2, .slice B x.f3.length cb]] ++ lb) W fun e w' => e = .returned (.bool (r x)) ∧ Inv (if r x = true then [] else rest) w')
    (w : World) (hI : Inv l w) (hl : l.length ≤ 9223372036854775807) :
    Calls Try.prog 192 #[.slice A l.length c, .func (.func g) #[] lb] w fun e w' => ∃ i : Int, e = .returned (.int .i64 i) ∧ decide (i ≥ 0) = l.any r ∧ Inv [] w' := by
  have HR := Aside0.mk hR
  have HW := Aside0.mk hW
  have HD := Aside0.mk hD
  have HI := Aside0.mk hI
  have HCall := Aside0.mk hcall
  clear hR hW hcall hD hI
  go_enter Try.func192, Try.ntmps192
  go_wp2
  go_loopg [5, 8] l.length (fun gg _ v8 wr => ∃ (kk : Nat), kk ≤ l.length ∧ l.length - kk ≤ gg ∧ v8 = .int .i64 kk ∧ Aside0 (Inv (l.drop kk) wr) ∧ Aside0 (l.any r = (l.drop kk).any r))
  case atStart => exact ⟨0, Nat.zero_le _, by omega, rfl, ⟨by simpa using HI.out⟩, ⟨by simp⟩⟩
  case round =>
    clear HI
    obtain ⟨kk, hkk, hg, rfl, HI, HS⟩ := hrel
    by_cases hlt : kk < l.length
    · have hltz : (kk : Int) < (l.length : Int) := by omega
      obtain ⟨ad, B, cb, rfl, hc0, hc1, hc2, hc3, hc4, hc5, hc6, hlb, hgb⟩ := at_T26 HR.out (kk : Int) (by omega) (by omega)
      have hbw := HW.out _ wr HI.out
      replace hc0 := (hbw.cell (World.block_lt_of_cell? w0 _ hc0)).trans hc0
      replace hc1 := (hbw.cell (World.block_lt_of_cell? w0 _ hc1)).trans hc1
      replace hc2 := (hbw.cell (World.block_lt_of_cell? w0 _ hc2)).trans hc2
      replace hc3 := (hbw.cell (World.block_lt_of_cell? w0 _ hc3)).trans hc3
      replace hc4 := (hbw.cell (World.block_lt_of_cell? w0 _ hc4)).trans hc4
      replace hc5 := (hbw.cell (World.block_lt_of_cell? w0 _ hc5)).trans hc5
      replace hc6 := (hbw.cell (World.block_lt_of_cell? w0 _ hc6)).trans hc6
      clear hbw
      have hmem : (rd_T26 l (kk : Int)) ∈ l := scan_mem z26 l kk hlt
      have hdr : l.drop kk = rd_T26 l (kk : Int) :: l.drop (kk + 1) := by
        rw [List.drop_eq_getElem_cons hlt]
        simp only [rd_T26, Int.toNat_natCast, List.getD_eq_getElem?_getD, List.getElem?_eq_getElem hlt, Option.getD_some]
      have HX : Aside0 ((l.drop kk).any r = (r (rd_T26 l (kk : Int)) || (l.drop (kk + 1)).any r)) := ⟨by rw [hdr, List.any_cons]⟩
      have hcall := HCall.out _ (l.drop (kk + 1)) wr B cb hmem ⟨l.take kk, by rw [← hdr]; exact List.take_append_drop kk l⟩ (by rw [← hdr]; exact HI.out) hgb hlb
      clear hmem hgb hlb hdr
      simp only [Int.toNat_natCast] at hc0 hc1 hc2 hc3 hc4 hc5 hc6
      generalize rd_T26 l (kk : Int) = x at hc0 hc1 hc2 hc3 hc4 hc5 hc6 HX hcall
      have HC := Aside0.mk hcall
      clear hcall
      cases hq : r x with
      | true =>
        have h := HC.out
        rw [hq, if_pos rfl] at h
        have HH := Aside0.mk h
        have HQ := Aside0.mk hq
        clear hq HC h
        go_wp2_with fail
        refine HH.out.mono ?_
        rintro e w' ⟨rfl, hb'⟩
        have HB := Aside0.mk hb'
        clear hb'
        go_wp2
        go_ret
        refine ⟨_, rfl, ?_, HB.out⟩
        rw [HS.out, HX.out, HQ.out, Bool.true_or]
        exact decide_eq_true (by omega)
      | false =>
        have h := HC.out
        rw [hq, if_neg (by simp)] at h
        have HH := Aside0.mk h
        have HQ := Aside0.mk hq
        clear hq HC h
        go_wp2_with fail
        refine HH.out.mono ?_
        rintro e w' ⟨rfl, hb'⟩
        have HB := Aside0.mk hb'
        clear hb'
        go_wp2
        go_roundg (l.length - (kk + 1))
        case measure => omega
        case rel =>
          refine ⟨kk + 1, by omega, by omega, by go_num, HB, ⟨?_⟩⟩
          rw [HS.out, HX.out, HQ.out, Bool.false_or]
    · have hltz : ¬ (kk : Int) < (l.length : Int) := by omega
      have hd : l.drop kk = [] := List.drop_eq_nil_of_le (by omega)
      have HI2 := Aside0.mk (hd ▸ HI.out)
      have HS2 := Aside0.mk (hd ▸ HS.out)
      clear HI HS hd
      go_wp2
      go_ret
      refine ⟨_, rfl, ?_, HI2.out⟩
      rw [HS2.out]
      rfl

set_option maxHeartbeats 1000000 in
theorem cons174 (Inv : List S26 → World → Prop) (r : S26 → Bool) (g : Nat) (lb : Array Value) (eg : ∀ args w, (callFunc g args).run Try.prog w = .ok (.enter g args) w) (l : List S26) (A : Option Addr) (c : Nat)
    (w0 : World) (hR : Kd.C k26 w0 A l.length l) (hW : ∀ s W, Inv s W → Below w0.heap.size w0 W) (hD : ∀ s W n, Inv s W → Inv s (W.drewN n))
    (hcall : ∀ (x : S26) (rest : List S26) (W : World) (B : Option Addr) (cb : Nat), x ∈ l → (∃ pre, pre ++ x :: rest = l) → Inv (x :: rest) W → Kd.C k26 w0 B x.f3.length x.f3 → x.f3.length ≤ cb → Calls Try.prog g (#[.agg #[.int .u8 x.f0, .int .i64 x.f1.f0, .int .i64 x.f1.f1, .int .i64 x.f1.f2, .int .i64 x.f1.f3, .int .i64 x.f2, .slice B x.f3.length cb]] ++ lb) W fun e w' => e = .returned (.bool (r x)) ∧ Inv (if r x = true then [] else rest) w')
    (w : World) (hI : Inv l w) (hl : l.length ≤ 9223372036854775807) :
    Calls Try.prog 174 #[.slice A l.length c, .func (.func g) #[] lb] w fun e w' => e = .returned (.bool (l.any r)) ∧ Inv [] w' := by
  have hi := idxs192 Inv r g lb eg l A c w0 hR hW hD hcall w hI hl
  clear hR hW hD hcall hI
  have HI := Aside0.mk hi
  clear hi
  go_enter Try.func174, Try.ntmps174
  go_wp2_with fail
  refine HI.out.mono ?_
  rintro e w' ⟨i, rfl, hd, hb'⟩
  have HB := Aside0.mk hb'
  have HN := Aside0.mk hd
  clear hb' hd
  go_wp2
  go_ret
  exact ⟨by rw [← HN.out]; rfl, HB.out⟩
end Go.Proofs.Ytfdmfgaiblfbhaa.P
namespace Go.Proofs.Ytfdmfgaiblfbhaa.P
open Go.RowKit Go.Proofs.YtfdmfgaiblfbhaaW.PrintWords Go.Proofs.YtfdmfgaiblfbhaaW.PrintLast Go.Proofs.YtfdmfgaiblfbhaaW.PrintMore
attribute [local go_sem] max2_int min2_int max_two min_two max_three min_three max_four min_four   -- for this text's walks alone
set_option linter.unusedVariables false
set_option linter.unusedSimpArgs false

/-! ### rect_turned: function 127 -/
def rect_turned.f (a0_0 : Int) (a0_1 : Int) (a0_2 : Int) (a0_3 : Int) (a1 : Int) : Option (Int × Int × Int × Int × Bool) := if a1 = 2 then (some (a0_1, a0_0, a0_3, a0_2, true)) else (if a1 = 1 then (some (a0_0, a0_1, a0_2, a0_3, true)) else (some (0, 0, 0, 0, false)))
set_option maxHeartbeats 8000000 in
set_option maxRecDepth 100000 in
theorem rect_turned.calls (a0_0 : Int) (a0_1 : Int) (a0_2 : Int) (a0_3 : Int) (a1 : Int) (r1 : Int) (r2 : Int) (r3 : Int) (r4 : Int) (r5 : Bool) (w : World) (h : rect_turned.f a0_0 a0_1 a0_2 a0_3 a1 = some (r1, r2, r3, r4, r5)) :
  Calls Try.prog 127 #[.agg #[.int .i64 a0_0, .int .i64 a0_1, .int .i64 a0_2, .int .i64 a0_3], .int .u8 a1] w fun e w' => e = .returned (.tuple #[.agg #[.int .i64 r1, .int .i64 r2, .int .i64 r3, .int .i64 r4], .bool r5]) ∧ Below w.heap.size w w' := by
 have hu23 := Try.underlying23
 have HB := Aside0.mk (Below.refl w.heap.size w)
 have H : (if a1 = 2 then (some (a0_1, a0_0, a0_3, a0_2, true)) else (if a1 = 1 then (some (a0_0, a0_1, a0_2, a0_3, true)) else (some (0, 0, 0, 0, false)))) = some (r1, r2, r3, r4, r5) := h
 clear h
 by_cases c3 : a1 = 2
 ·rw [if_pos c3] at H
  have c3b0 : (a1 == 2) = true := beq_iff_eq.mpr c3
  have c3b1 : (a1 != 2) = false := bne_eq_false_iff_eq.mpr c3
  clear c3
  simp only [Option.some.injEq, Prod.mk.injEq] at H
  obtain ⟨rfl, rfl, rfl, rfl, rfl⟩ := H
  go_enter Try.func127, Try.ntmps127
  go_wp2_with (first | ((with_reducible refine gate_dst (N := 2) rfl ?_); refine box_event ?hg (N := 2) ?hd (cs := #[.int .i64 a0_0, .int .i64 a0_1, .int .i64 a0_2, .int .i64 a0_3]) (t := 23) ?hr ?_; (case hd => rfl); (case hg => rfl); (case hr => (go_simp; done)); intro gb243 hg w4 hbox hb; have BK243 := Aside0.mk (hbox); have GE243 := Aside0.mk ((by rw [hg]; exact (below_size (by repeat ((with_reducible exact HB.out)))) : w.heap.size ≤ gb243)); replace HB := Aside0.mk (below_step (by repeat ((with_reducible exact HB.out))) hb); clear hb hbox hg) | ((with_reducible refine gate_dst (N := 4) rfl ?_); refine box_event ?hg (N := 4) ?hd (cs := #[.int .i64 0, .int .i64 0, .int .i64 0, .int .i64 0]) (t := 23) ?hr ?_; (case hd => rfl); (case hg => rfl); (case hr => (go_simp; done)); intro gb244 hg w5 hbox hb; have BK244 := Aside0.mk (hbox); have GE244 := Aside0.mk ((by rw [hg]; exact (below_size (by repeat ((with_reducible exact HB.out)))) : w.heap.size ≤ gb244)); have NB243_244 := Aside0.mk ((by rw [hg]; exact Nat.ne_of_lt (blk_lt BK243.out) : gb243 ≠ gb244)); have NB244_243 := Aside0.mk ((by rw [hg]; exact Nat.ne_of_gt (blk_lt BK243.out) : gb244 ≠ gb243)); replace BK243 := Aside0.mk (blk_below BK243.out hb); replace HB := Aside0.mk (below_step (by repeat ((with_reducible exact HB.out))) hb); clear hb hbox hg; have hnb6 := NB243_244.out; have hnc6 := NB244_243.out; have hcz7_0 : w5.cell? ⟨gb243, 0, none⟩ = some (.int .i64 a0_0) := (blk_cell BK243.out 0).trans rfl; have hcz7_1 : w5.cell? ⟨gb243, 1, none⟩ = some (.int .i64 a0_1) := (blk_cell BK243.out 1).trans rfl; have hcz7_2 : w5.cell? ⟨gb243, 2, none⟩ = some (.int .i64 a0_2) := (blk_cell BK243.out 2).trans rfl; have hcz7_3 : w5.cell? ⟨gb243, 3, none⟩ = some (.int .i64 a0_3) := (blk_cell BK243.out 3).trans rfl; have hfz7_0 := blk_frozen BK243.out 0; have hfz7_1 := blk_frozen BK243.out 1; have hfz7_2 := blk_frozen BK243.out 2; have hfz7_3 := blk_frozen BK243.out 3; have hcz8_0 : w5.cell? ⟨gb244, 0, none⟩ = some (.int .i64 0) := (blk_cell BK244.out 0).trans rfl; have hcz8_1 : w5.cell? ⟨gb244, 1, none⟩ = some (.int .i64 0) := (blk_cell BK244.out 1).trans rfl; have hcz8_2 : w5.cell? ⟨gb244, 2, none⟩ = some (.int .i64 0) := (blk_cell BK244.out 2).trans rfl; have hcz8_3 : w5.cell? ⟨gb244, 3, none⟩ = some (.int .i64 0) := (blk_cell BK244.out 3).trans rfl; have hfz8_0 := blk_frozen BK244.out 0; have hfz8_1 := blk_frozen BK244.out 1; have hfz8_2 := blk_frozen BK244.out 2; have hfz8_3 := blk_frozen BK244.out 3))
  refine bodyPost_ret (results_ct rfl _ _ gb244 23 #[.int .i64 a0_1, .int .i64 a0_0, .int .i64 a0_3, .int .i64 a0_2] (0, 0) _ rfl (by refine blk_put (cs := #[.int .i64 a0_1, .int .i64 a0_0, .int .i64 a0_3, .int .i64 a0_2]) ?_ 3 _ rfl; refine blk_put (cs := #[.int .i64 a0_1, .int .i64 a0_0, .int .i64 a0_3, .int .i64 a0_2]) ?_ 2 _ rfl; refine blk_put (cs := #[.int .i64 a0_1, .int .i64 a0_0, .int .i64 a0_3, .int .i64 a0_2]) ?_ 1 _ rfl; refine blk_put (cs := #[.int .i64 a0_1, .int .i64 a0_0, .int .i64 a0_3, .int .i64 a0_2]) ?_ 0 _ rfl; refine blk_put (cs := #[.int .i64 a0_1, .int .i64 a0_0, .int .i64 a0_3, .int .i64 0]) ?_ 3 _ rfl; refine blk_put (cs := #[.int .i64 a0_1, .int .i64 a0_0, .int .i64 0, .int .i64 0]) ?_ 2 _ rfl; refine blk_put (cs := #[.int .i64 a0_1, .int .i64 0, .int .i64 0, .int .i64 0]) ?_ 1 _ rfl; refine blk_put (cs := #[.int .i64 0, .int .i64 0, .int .i64 0, .int .i64 0]) ?_ 0 _ rfl; refine blk_far ?_ NB244_243.out _; refine blk_far ?_ NB244_243.out _; refine blk_far ?_ NB244_243.out _; refine blk_far ?_ NB244_243.out _; exact BK244.out) Try.underlying23 rfl (by kernel_rfl)) rfl ?_
  exact ⟨by rfl, by repeat ((with_reducible first | exact HB.out | refine below_set ?_ GE243.out | refine below_set ?_ GE244.out))⟩
 ·rw [if_neg c3] at H
  have c3b0 : (a1 == 2) = false := beq_eq_false_iff_ne.mpr c3
  have c3b1 : (a1 != 2) = true := bne_iff_ne.mpr c3
  by_cases c9 : a1 = 1
  ·rw [if_pos c9] at H
   have c9b0 : (a1 == 1) = true := beq_iff_eq.mpr c9
   have c9b1 : (a1 != 1) = false := bne_eq_false_iff_eq.mpr c9
   clear c9
   simp only [Option.some.injEq, Prod.mk.injEq] at H
   obtain ⟨rfl, rfl, rfl, rfl, rfl⟩ := H
   go_enter Try.func127, Try.ntmps127
   go_wp2_with (first | ((with_reducible refine gate_dst (N := 2) rfl ?_); refine box_event ?hg (N := 2) ?hd (cs := #[.int .i64 a0_0, .int .i64 a0_1, .int .i64 a0_2, .int .i64 a0_3]) (t := 23) ?hr ?_; (case hd => rfl); (case hg => rfl); (case hr => (go_simp; done)); intro gb243 hg w10 hbox hb; have BK243 := Aside0.mk (hbox); have GE243 := Aside0.mk ((by rw [hg]; exact (below_size (by repeat ((with_reducible exact HB.out)))) : w.heap.size ≤ gb243)); replace HB := Aside0.mk (below_step (by repeat ((with_reducible exact HB.out))) hb); clear hb hbox hg) | ((with_reducible refine gate_dst (N := 4) rfl ?_); refine box_event ?hg (N := 4) ?hd (cs := #[.int .i64 0, .int .i64 0, .int .i64 0, .int .i64 0]) (t := 23) ?hr ?_; (case hd => rfl); (case hg => rfl); (case hr => (go_simp; done)); intro gb244 hg w11 hbox hb; have BK244 := Aside0.mk (hbox); have GE244 := Aside0.mk ((by rw [hg]; exact (below_size (by repeat ((with_reducible exact HB.out)))) : w.heap.size ≤ gb244)); have NB243_244 := Aside0.mk ((by rw [hg]; exact Nat.ne_of_lt (blk_lt BK243.out) : gb243 ≠ gb244)); have NB244_243 := Aside0.mk ((by rw [hg]; exact Nat.ne_of_gt (blk_lt BK243.out) : gb244 ≠ gb243)); replace BK243 := Aside0.mk (blk_below BK243.out hb); replace HB := Aside0.mk (below_step (by repeat ((with_reducible exact HB.out))) hb); clear hb hbox hg; have hnb12 := NB243_244.out; have hnc12 := NB244_243.out; have hcz13_0 : w11.cell? ⟨gb243, 0, none⟩ = some (.int .i64 a0_0) := (blk_cell BK243.out 0).trans rfl; have hcz13_1 : w11.cell? ⟨gb243, 1, none⟩ = some (.int .i64 a0_1) := (blk_cell BK243.out 1).trans rfl; have hcz13_2 : w11.cell? ⟨gb243, 2, none⟩ = some (.int .i64 a0_2) := (blk_cell BK243.out 2).trans rfl; have hcz13_3 : w11.cell? ⟨gb243, 3, none⟩ = some (.int .i64 a0_3) := (blk_cell BK243.out 3).trans rfl; have hfz13_0 := blk_frozen BK243.out 0; have hfz13_1 := blk_frozen BK243.out 1; have hfz13_2 := blk_frozen BK243.out 2; have hfz13_3 := blk_frozen BK243.out 3; have hcz14_0 : w11.cell? ⟨gb244, 0, none⟩ = some (.int .i64 0) := (blk_cell BK244.out 0).trans rfl; have hcz14_1 : w11.cell? ⟨gb244, 1, none⟩ = some (.int .i64 0) := (blk_cell BK244.out 1).trans rfl; have hcz14_2 : w11.cell? ⟨gb244, 2, none⟩ = some (.int .i64 0) := (blk_cell BK244.out 2).trans rfl; have hcz14_3 : w11.cell? ⟨gb244, 3, none⟩ = some (.int .i64 0) := (blk_cell BK244.out 3).trans rfl; have hfz14_0 := blk_frozen BK244.out 0; have hfz14_1 := blk_frozen BK244.out 1; have hfz14_2 := blk_frozen BK244.out 2; have hfz14_3 := blk_frozen BK244.out 3))
   refine bodyPost_ret (results_ct rfl _ _ gb244 23 #[.int .i64 a0_0, .int .i64 a0_1, .int .i64 a0_2, .int .i64 a0_3] (0, 0) _ rfl (by refine blk_put (cs := #[.int .i64 a0_0, .int .i64 a0_1, .int .i64 a0_2, .int .i64 a0_3]) ?_ 3 _ rfl; refine blk_put (cs := #[.int .i64 a0_0, .int .i64 a0_1, .int .i64 a0_2, .int .i64 a0_3]) ?_ 2 _ rfl; refine blk_put (cs := #[.int .i64 a0_0, .int .i64 a0_1, .int .i64 a0_2, .int .i64 a0_3]) ?_ 1 _ rfl; refine blk_put (cs := #[.int .i64 a0_0, .int .i64 a0_1, .int .i64 a0_2, .int .i64 a0_3]) ?_ 0 _ rfl; refine blk_put (cs := #[.int .i64 a0_0, .int .i64 a0_1, .int .i64 a0_2, .int .i64 0]) ?_ 3 _ rfl; refine blk_put (cs := #[.int .i64 a0_0, .int .i64 a0_1, .int .i64 0, .int .i64 0]) ?_ 2 _ rfl; refine blk_put (cs := #[.int .i64 a0_0, .int .i64 0, .int .i64 0, .int .i64 0]) ?_ 1 _ rfl; refine blk_put (cs := #[.int .i64 0, .int .i64 0, .int .i64 0, .int .i64 0]) ?_ 0 _ rfl; exact BK244.out) Try.underlying23 rfl (by kernel_rfl)) rfl ?_
   exact ⟨by rfl, by repeat ((with_reducible first | exact HB.out | refine below_set ?_ GE244.out))⟩
  ·rw [if_neg c9] at H
   have c9b0 : (a1 == 1) = false := beq_eq_false_iff_ne.mpr c9
   have c9b1 : (a1 != 1) = true := bne_iff_ne.mpr c9
   simp only [Option.some.injEq, Prod.mk.injEq] at H
   obtain ⟨rfl, rfl, rfl, rfl, rfl⟩ := H
   go_enter Try.func127, Try.ntmps127
   go_wp2_with (first | ((with_reducible refine gate_dst (N := 2) rfl ?_); refine box_event ?hg (N := 2) ?hd (cs := #[.int .i64 a0_0, .int .i64 a0_1, .int .i64 a0_2, .int .i64 a0_3]) (t := 23) ?hr ?_; (case hd => rfl); (case hg => rfl); (case hr => (go_simp; done)); intro gb243 hg w15 hbox hb; have BK243 := Aside0.mk (hbox); have GE243 := Aside0.mk ((by rw [hg]; exact (below_size (by repeat ((with_reducible exact HB.out)))) : w.heap.size ≤ gb243)); replace HB := Aside0.mk (below_step (by repeat ((with_reducible exact HB.out))) hb); clear hb hbox hg) | ((with_reducible refine gate_dst (N := 4) rfl ?_); refine box_event ?hg (N := 4) ?hd (cs := #[.int .i64 0, .int .i64 0, .int .i64 0, .int .i64 0]) (t := 23) ?hr ?_; (case hd => rfl); (case hg => rfl); (case hr => (go_simp; done)); intro gb244 hg w16 hbox hb; have BK244 := Aside0.mk (hbox); have GE244 := Aside0.mk ((by rw [hg]; exact (below_size (by repeat ((with_reducible exact HB.out)))) : w.heap.size ≤ gb244)); have NB243_244 := Aside0.mk ((by rw [hg]; exact Nat.ne_of_lt (blk_lt BK243.out) : gb243 ≠ gb244)); have NB244_243 := Aside0.mk ((by rw [hg]; exact Nat.ne_of_gt (blk_lt BK243.out) : gb244 ≠ gb243)); replace BK243 := Aside0.mk (blk_below BK243.out hb); replace HB := Aside0.mk (below_step (by repeat ((with_reducible exact HB.out))) hb); clear hb hbox hg; have hnb17 := NB244_243.out; have hnc17 := NB243_244.out; have hcz18_0 : w16.cell? ⟨gb244, 0, none⟩ = some (.int .i64 0) := (blk_cell BK244.out 0).trans rfl; have hcz18_1 : w16.cell? ⟨gb244, 1, none⟩ = some (.int .i64 0) := (blk_cell BK244.out 1).trans rfl; have hcz18_2 : w16.cell? ⟨gb244, 2, none⟩ = some (.int .i64 0) := (blk_cell BK244.out 2).trans rfl; have hcz18_3 : w16.cell? ⟨gb244, 3, none⟩ = some (.int .i64 0) := (blk_cell BK244.out 3).trans rfl; have hfz18_0 := blk_frozen BK244.out 0; have hfz18_1 := blk_frozen BK244.out 1; have hfz18_2 := blk_frozen BK244.out 2; have hfz18_3 := blk_frozen BK244.out 3))
   refine bodyPost_ret (results_ct rfl _ _ gb244 23 #[.int .i64 0, .int .i64 0, .int .i64 0, .int .i64 0] (0, 0) _ rfl (by refine blk_put (cs := #[.int .i64 0, .int .i64 0, .int .i64 0, .int .i64 0]) ?_ 3 _ rfl; refine blk_put (cs := #[.int .i64 0, .int .i64 0, .int .i64 0, .int .i64 0]) ?_ 2 _ rfl; refine blk_put (cs := #[.int .i64 0, .int .i64 0, .int .i64 0, .int .i64 0]) ?_ 1 _ rfl; refine blk_put (cs := #[.int .i64 0, .int .i64 0, .int .i64 0, .int .i64 0]) ?_ 0 _ rfl; exact BK244.out) Try.underlying23 rfl (by kernel_rfl)) rfl ?_
   exact ⟨by rfl, by repeat ((with_reducible first | exact HB.out | refine below_set ?_ GE244.out))⟩

end Go.Proofs.Ytfdmfgaiblfbhaa.P
namespace Go.Proofs.Ytfdmfgaiblfbhaa.P
open Go.RowKit Go.Proofs.YtfdmfgaiblfbhaaW.PrintWords Go.Proofs.YtfdmfgaiblfbhaaW.PrintLast Go.Proofs.YtfdmfgaiblfbhaaW.PrintMore
attribute [local go_sem] max2_int min2_int max_two min_two max_three min_three max_four min_four   -- for this text's walks alone
set_option linter.unusedVariables false
set_option linter.unusedSimpArgs false

/-! ### rect_Cut: function 45 -/
mutual
def rect_Cut.j0 : Nat → Int → List Int → Bool → Int → Int → Int → Int → Option ((List (S23)) × (List (S23)) × Bool)
 | 0, _, _, _, _, _, _, _ => none
 | k + 1, x1, x2, x37, x253000, x253001, x253002, x253003 => if x37 = true then (some (([] : List (S23)), ([] : List (S23)), false)) else (rect_Cut.l0 k x1 ([] : List (S23)) ([] : List (S23)) x253000 x2 (x2.length : Int) 0 x253000 x253001 x253002 x253003)
def rect_Cut.l0 : Nat → Int → List (S23) → List (S23) → Int → List Int → Int → Int → Int → Int → Int → Int → Option ((List (S23)) × (List (S23)) × Bool)
 | 0, _, _, _, _, _, _, _, _, _, _, _ => none
 | k + 1, x1, x11, x12, x13, x40, x41, x42, x253000, x253001, x253002, x253003 => if x42 < x41 then (if 0 ≤ x42 then (if x42 < (x40.length : Int) then (if x42 > 0 then ((rect_turned.f x13 x253001 1 x253003 x1).bind fun bt255 => (if x12.length < 4398046511104 then (if (rd x40 x42) < 1 then (some (([] : List (S23)), ([] : List (S23)), false)) else (if (rd x40 x42) > (wrap64 ((wrap64 (x253000 + x253002)) - (wrap64 (x13 + 1)))) then (some (([] : List (S23)), ([] : List (S23)), false)) else ((rect_turned.f (wrap64 (x13 + 1)) x253001 (rd x40 x42) x253003 x1).bind fun bt264 => (if x11.length < 4398046511104 then (rect_Cut.l0 k x1 (x11 ++ [(⟨bt264.1, bt264.2.1, bt264.2.2.1, bt264.2.2.2.1⟩ : S23)]) (x12 ++ [(⟨bt255.1, bt255.2.1, bt255.2.2.1, bt255.2.2.2.1⟩ : S23)]) (wrap64 ((wrap64 (x13 + 1)) + (rd x40 x42))) x40 x41 (wrap64 (x42 + 1)) x253000 x253001 x253002 x253003) else (none))))) else (none))) else (if (rd x40 x42) < 1 then (some (([] : List (S23)), ([] : List (S23)), false)) else (if (rd x40 x42) > (wrap64 ((wrap64 (x253000 + x253002)) - x13)) then (some (([] : List (S23)), ([] : List (S23)), false)) else ((rect_turned.f x13 x253001 (rd x40 x42) x253003 x1).bind fun bt273 => (if x11.length < 4398046511104 then (rect_Cut.l0 k x1 (x11 ++ [(⟨bt273.1, bt273.2.1, bt273.2.2.1, bt273.2.2.2.1⟩ : S23)]) x12 (wrap64 (x13 + (rd x40 x42))) x40 x41 (wrap64 (x42 + 1)) x253000 x253001 x253002 x253003) else (none)))))) else (none)) else (none)) else (if x13 = (wrap64 (x253000 + x253002)) then (some (x11, x12, true)) else (some (([] : List (S23)), ([] : List (S23)), false)))
end
def rect_Cut.f (k : Nat) (a0_0 : Int) (a0_1 : Int) (a0_2 : Int) (a0_3 : Int) (a1 : Int) (l2 : List Int) : Option ((List (S23)) × (List (S23)) × Bool) := (rect_turned.f a0_0 a0_1 a0_2 a0_3 a1).bind fun bt247 => (if bt247.2.2.2.2 = true then ((rect_may.f a0_0 a0_1 a0_2 a0_3).bind fun t253 => (if t253 = true then (rect_Cut.j0 k a1 l2 ((l2.length : Int) == 0) bt247.1 bt247.2.1 bt247.2.2.1 bt247.2.2.2.1) else (rect_Cut.j0 k a1 l2 true bt247.1 bt247.2.1 bt247.2.2.1 bt247.2.2.2.1))) else (rect_Cut.j0 k a1 l2 true bt247.1 bt247.2.1 bt247.2.2.1 bt247.2.2.2.1))
theorem rect_Cut.mono_l : ∀ k, (∀ y0 y1 y2 y3 y4 y5 y6, LeO (rect_Cut.j0 k y0 y1 y2 y3 y4 y5 y6) (rect_Cut.j0 (k + 1) y0 y1 y2 y3 y4 y5 y6)) ∧ (∀ y0 y1 y2 y3 y4 y5 y6 y7 y8 y9 y10, LeO (rect_Cut.l0 k y0 y1 y2 y3 y4 y5 y6 y7 y8 y9 y10) (rect_Cut.l0 (k + 1) y0 y1 y2 y3 y4 y5 y6 y7 y8 y9 y10))
 | 0 => ⟨fun _ _ _ _ _ _ _ r h => by simp [rect_Cut.j0] at h, fun _ _ _ _ _ _ _ _ _ _ _ r h => by simp [rect_Cut.l0] at h⟩
 | k + 1 => by
  obtain ⟨ih0, ih1⟩ := rect_Cut.mono_l k
  refine ⟨?_, ?_⟩
  ·intro y0 y1 y2 y3 y4 y5 y6
   unfold rect_Cut.j0
   repeat' first | (with_reducible exact ih1 _ _ _ _ _ _ _ _ _ _ _) | (with_reducible exact LeO.refl _) | (with_reducible refine LeO.ite ?_ ?_)
  ·intro y0 y1 y2 y3 y4 y5 y6 y7 y8 y9 y10
   unfold rect_Cut.l0
   repeat' first | (with_reducible exact ih1 _ _ _ _ _ _ _ _ _ _ _) | (with_reducible exact LeO.refl _) | (with_reducible refine LeO.ite ?_ ?_) | (with_reducible refine LeO.bind ?_ (fun _ => ?_))
theorem rect_Cut.mono : ∀ a0 a1 a2 a3 a4 a5 k, LeO (rect_Cut.f k a0 a1 a2 a3 a4 a5) (rect_Cut.f (k + 1) a0 a1 a2 a3 a4 a5) := by
 intro a0 a1 a2 a3 a4 a5 k
 obtain ⟨ih0, ih1⟩ := rect_Cut.mono_l k
 unfold rect_Cut.f
 repeat' first | (with_reducible exact ih0 _ _ _ _ _ _ _) | (with_reducible exact LeO.refl _) | (with_reducible refine LeO.ite ?_ ?_) | (with_reducible refine LeO.bind ?_ (fun _ => ?_))
set_option maxHeartbeats 8000000 in
set_option maxRecDepth 100000 in
theorem rect_Cut.calls (k : Nat) (a0_0 : Int) (a0_1 : Int) (a0_2 : Int) (a0_3 : Int) (a1 : Int) (A2 : Option Addr) (c2 : Nat) (l2 : List Int) (r1 : List (S23)) (r2 : List (S23)) (r3 : Bool) (w : World) (hr2 : Kd.C (Kd.int .i64) w A2 l2.length l2) (hc2 : l2.length ≤ c2) (h : rect_Cut.f k a0_0 a0_1 a0_2 a0_3 a1 l2 = some (r1, r2, r3)) :
  Calls Try.prog 45 #[.agg #[.int .i64 a0_0, .int .i64 a0_1, .int .i64 a0_2, .int .i64 a0_3], .int .u8 a1, .slice A2 l2.length c2] w fun e w' => ∃ v0_ v1_ : Value, e = .returned (.tuple #[v0_, v1_, .bool r3]) ∧ Kd.R k23 23 w' w.heap.size (fun k_ => some k_ ≠ (v1_ : Value).ownBlock) v0_ r1 ∧ Kd.R k23 23 w' w.heap.size (fun k_ => some k_ ≠ (v0_ : Value).ownBlock) v1_ r2 ∧ Below w.heap.size w w' := by
 have hu23 := Try.underlying23
 have HR2 := Aside0.mk hr2
 clear hr2 hc2
 have HB := Aside0.mk (Below.refl w.heap.size w)
 have H : ((rect_turned.f a0_0 a0_1 a0_2 a0_3 a1).bind fun bt247 => (if bt247.2.2.2.2 = true then ((rect_may.f a0_0 a0_1 a0_2 a0_3).bind fun t253 => (if t253 = true then (rect_Cut.j0 k a1 l2 ((l2.length : Int) == 0) bt247.1 bt247.2.1 bt247.2.2.1 bt247.2.2.2.1) else (rect_Cut.j0 k a1 l2 true bt247.1 bt247.2.1 bt247.2.2.1 bt247.2.2.2.1))) else (rect_Cut.j0 k a1 l2 true bt247.1 bt247.2.1 bt247.2.2.1 bt247.2.2.2.1))) = some (r1, r2, r3) := h
 clear h
 replace H := Option.bind_eq_some_iff.mp H
 obtain ⟨⟨t247, t248, t249, t250, t251⟩, A40, H⟩ := H
 replace H : (if t251 = true then ((rect_may.f a0_0 a0_1 a0_2 a0_3).bind fun t253 => (if t253 = true then (rect_Cut.j0 k a1 l2 ((l2.length : Int) == 0) t247 t248 t249 t250) else (rect_Cut.j0 k a1 l2 true t247 t248 t249 t250))) else (rect_Cut.j0 k a1 l2 true t247 t248 t249 t250)) = some (r1, r2, r3) := H
 have A4 := Aside0.mk A40
 clear A40
 have HC5 := Aside0.mk H
 clear H
 go_enter Try.func45, Try.ntmps45
 go_upto_region 2 with (first | ((with_reducible refine gate_dst (N := 3) rfl ?_); (try (refine gate_guard (by rfl) ?_; dsimp only)); refine box_event ?hg (N := 3) ?hd (cs := #[.int .i64 a0_0, .int .i64 a0_1, .int .i64 a0_2, .int .i64 a0_3]) (t := 23) ?hr ?_; (case hd => rfl); (case hg => rfl); (case hr => (go_simp; done)); intro gb246 hg w6 hbox hb; have BK246 := Aside0.mk (hbox); replace HB := Aside0.mk (below_step (by repeat ((with_reducible exact HB.out))) hb); clear hb hbox hg; have hcz7_0 : w6.cell? ⟨gb246, 0, none⟩ = some (.int .i64 a0_0) := (blk_cell BK246.out 0).trans rfl; have hcz7_1 : w6.cell? ⟨gb246, 1, none⟩ = some (.int .i64 a0_1) := (blk_cell BK246.out 1).trans rfl; have hcz7_2 : w6.cell? ⟨gb246, 2, none⟩ = some (.int .i64 a0_2) := (blk_cell BK246.out 2).trans rfl; have hcz7_3 : w6.cell? ⟨gb246, 3, none⟩ = some (.int .i64 a0_3) := (blk_cell BK246.out 3).trans rfl; have hfz7_0 := blk_frozen BK246.out 0; have hfz7_1 := blk_frozen BK246.out 1; have hfz7_2 := blk_frozen BK246.out 2; have hfz7_3 := blk_frozen BK246.out 3) | ((with_reducible refine gate_callee (f := 127) rfl ?_); refine goesL_ (some 23) rfl rfl Try.func127 (by kernel_rfl) rfl #[.agg #[.int .i64 a0_0, .int .i64 a0_1, .int .i64 a0_2, .int .i64 a0_3], .int .u8 a1] rfl (by (try simp only [List.map_toArray, List.map_cons, List.map_nil]); rfl) ?_; (with_reducible refine (rect_turned.calls a0_0 a0_1 a0_2 a0_3 a1 t247 t248 t249 t250 t251 _ A4.out).mono ?_); rintro e w8 ⟨rfl, hb⟩; refine ⟨_, rfl, ?_⟩; replace BK246 := Aside0.mk (blk_below BK246.out hb); replace HB := Aside0.mk (below_step (by repeat ((with_reducible exact HB.out))) hb); (try clear hb)) | ((with_reducible refine gate_dst (N := 9) rfl ?_); (try (refine gate_guard (by rfl) ?_; dsimp only)); refine box_event ?hg (N := 9) ?hd (cs := #[.int .i64 0, .int .i64 0, .int .i64 0, .int .i64 0]) (t := 23) ?hr ?_; (case hd => rfl); (case hg => rfl); (case hr => (go_simp; done)); intro gb252 hg w9 hbox hb; have BK252 := Aside0.mk (hbox); have GE252 := Aside0.mk ((by rw [hg]; exact (below_size (by repeat ((with_reducible exact HB.out)))) : w.heap.size ≤ gb252)); have NB246_252 := Aside0.mk ((by rw [hg]; exact Nat.ne_of_lt (blk_lt BK246.out) : gb246 ≠ gb252)); have NB252_246 := Aside0.mk ((by rw [hg]; exact Nat.ne_of_gt (blk_lt BK246.out) : gb252 ≠ gb246)); replace BK246 := Aside0.mk (blk_below BK246.out hb); replace HB := Aside0.mk (below_step (by repeat ((with_reducible exact HB.out))) hb); clear hb hbox hg; have hnb10 := NB252_246.out; have hnc10 := NB246_252.out; have hcz11_0 : w9.cell? ⟨gb252, 0, none⟩ = some (.int .i64 0) := (blk_cell BK252.out 0).trans rfl; have hcz11_1 : w9.cell? ⟨gb252, 1, none⟩ = some (.int .i64 0) := (blk_cell BK252.out 1).trans rfl; have hcz11_2 : w9.cell? ⟨gb252, 2, none⟩ = some (.int .i64 0) := (blk_cell BK252.out 2).trans rfl; have hcz11_3 : w9.cell? ⟨gb252, 3, none⟩ = some (.int .i64 0) := (blk_cell BK252.out 3).trans rfl; have hfz11_0 := blk_frozen BK252.out 0; have hfz11_1 := blk_frozen BK252.out 1; have hfz11_2 := blk_frozen BK252.out 2; have hfz11_3 := blk_frozen BK252.out 3))
 (skip)
 go_cut [37] (fun v37 wc => ∃ (kq : Nat) (x37_4 : Bool), v37 = .bool x37_4 ∧ Aside0 (rect_Cut.j0 kq a1 l2 x37_4 t247 t248 t249 t250 = some (r1, r2, r3)) ∧ Aside0 (kq ≤ k) ∧ Aside0 (wc.heap[gb246]? = some (.cells #[.int .i64 a0_0, .int .i64 a0_1, .int .i64 a0_2, .int .i64 a0_3] 23 (0, 0))) ∧ Aside0 (wc.heap[gb252]? = some (.cells #[.int .i64 t247, .int .i64 t248, .int .i64 t249, .int .i64 t250] 23 (0, 0))) ∧ Aside0 (Below w.heap.size w wc))
 case first =>
  have H := HC5.out
  clear HC5
  by_cases c12 : t251 = true
  ·subst c12
   have H1 : ((rect_may.f a0_0 a0_1 a0_2 a0_3).bind fun t253 => (if t253 = true then (rect_Cut.j0 k a1 l2 ((l2.length : Int) == 0) t247 t248 t249 t250) else (rect_Cut.j0 k a1 l2 true t247 t248 t249 t250))) = some (r1, r2, r3) := by rw [if_pos rfl] at H; exact H
   clear H
   have H := H1
   clear H1
   replace H := Option.bind_eq_some_iff.mp H
   obtain ⟨t253, A130, H⟩ := H
   replace H : (if t253 = true then (rect_Cut.j0 k a1 l2 ((l2.length : Int) == 0) t247 t248 t249 t250) else (rect_Cut.j0 k a1 l2 true t247 t248 t249 t250)) = some (r1, r2, r3) := H
   have A13 := Aside0.mk A130
   clear A130
   by_cases c14 : t253 = true
   ·subst c14
    have H1 : (rect_Cut.j0 k a1 l2 ((l2.length : Int) == 0) t247 t248 t249 t250) = some (r1, r2, r3) := by rw [if_pos rfl] at H; exact H
    clear H
    have H := H1
    clear H1
    have H' := Aside0.mk H
    clear H
    have hnb15 := NB246_252.out
    have hnc15 := NB252_246.out
    have hcz16_0 : w9.cell? ⟨gb246, 0, none⟩ = some (.int .i64 a0_0) := (blk_cell BK246.out 0).trans rfl
    have hcz16_1 : w9.cell? ⟨gb246, 1, none⟩ = some (.int .i64 a0_1) := (blk_cell BK246.out 1).trans rfl
    have hcz16_2 : w9.cell? ⟨gb246, 2, none⟩ = some (.int .i64 a0_2) := (blk_cell BK246.out 2).trans rfl
    have hcz16_3 : w9.cell? ⟨gb246, 3, none⟩ = some (.int .i64 a0_3) := (blk_cell BK246.out 3).trans rfl
    have hfz16_0 := blk_frozen BK246.out 0
    have hfz16_1 := blk_frozen BK246.out 1
    have hfz16_2 := blk_frozen BK246.out 2
    have hfz16_3 := blk_frozen BK246.out 3
    go_wp2_with ((go_at_call 128; (with_reducible refine (rect_may.calls a0_0 a0_1 a0_2 a0_3 true _ A13.out).mono ?_); rintro e w17 ⟨rfl, hb⟩; replace BK246 := Aside0.mk (blk_below (g := gb246) (o := .cells #[.int .i64 a0_0, .int .i64 a0_1, .int .i64 a0_2, .int .i64 a0_3] 23 (0, 0)) (by refine blk_far ?_ NB246_252.out _; refine blk_far ?_ NB246_252.out _; refine blk_far ?_ NB246_252.out _; refine blk_far ?_ NB246_252.out _; exact BK246.out) hb); replace BK252 := Aside0.mk (blk_below (g := gb252) (o := .cells #[.int .i64 t247, .int .i64 t248, .int .i64 t249, .int .i64 t250] 23 (0, 0)) (by refine blk_put (cs := #[.int .i64 t247, .int .i64 t248, .int .i64 t249, .int .i64 0]) ?_ 3 _ rfl; refine blk_put (cs := #[.int .i64 t247, .int .i64 t248, .int .i64 0, .int .i64 0]) ?_ 2 _ rfl; refine blk_put (cs := #[.int .i64 t247, .int .i64 0, .int .i64 0, .int .i64 0]) ?_ 1 _ rfl; refine blk_put (cs := #[.int .i64 0, .int .i64 0, .int .i64 0, .int .i64 0]) ?_ 0 _ rfl; exact BK252.out) hb); replace HB := Aside0.mk (below_step (by repeat ((with_reducible first | exact HB.out | refine below_set ?_ GE252.out))) hb); (try clear hb)))
    go_meet
    case rel => exact ⟨_, (((l2.length : Int) == 0)), (by rfl), H', ⟨by omega⟩, ⟨by exact BK246.out⟩, ⟨by exact BK252.out⟩, ⟨by repeat ((with_reducible exact HB.out))⟩⟩
   ·replace c14 := Bool.eq_false_iff.mpr c14
    subst c14
    have H1 : (rect_Cut.j0 k a1 l2 true t247 t248 t249 t250) = some (r1, r2, r3) := by rw [if_neg (show ¬ (false = true) by decide)] at H; exact H
    clear H
    have H := H1
    clear H1
    have H' := Aside0.mk H
    clear H
    have hnb18 := NB246_252.out
    have hnc18 := NB252_246.out
    have hcz19_0 : w9.cell? ⟨gb246, 0, none⟩ = some (.int .i64 a0_0) := (blk_cell BK246.out 0).trans rfl
    have hcz19_1 : w9.cell? ⟨gb246, 1, none⟩ = some (.int .i64 a0_1) := (blk_cell BK246.out 1).trans rfl
    have hcz19_2 : w9.cell? ⟨gb246, 2, none⟩ = some (.int .i64 a0_2) := (blk_cell BK246.out 2).trans rfl
    have hcz19_3 : w9.cell? ⟨gb246, 3, none⟩ = some (.int .i64 a0_3) := (blk_cell BK246.out 3).trans rfl
    have hfz19_0 := blk_frozen BK246.out 0
    have hfz19_1 := blk_frozen BK246.out 1
    have hfz19_2 := blk_frozen BK246.out 2
    have hfz19_3 := blk_frozen BK246.out 3
    go_wp2_with ((go_at_call 128; (with_reducible refine (rect_may.calls a0_0 a0_1 a0_2 a0_3 false _ A13.out).mono ?_); rintro e w20 ⟨rfl, hb⟩; replace BK246 := Aside0.mk (blk_below (g := gb246) (o := .cells #[.int .i64 a0_0, .int .i64 a0_1, .int .i64 a0_2, .int .i64 a0_3] 23 (0, 0)) (by refine blk_far ?_ NB246_252.out _; refine blk_far ?_ NB246_252.out _; refine blk_far ?_ NB246_252.out _; refine blk_far ?_ NB246_252.out _; exact BK246.out) hb); replace BK252 := Aside0.mk (blk_below (g := gb252) (o := .cells #[.int .i64 t247, .int .i64 t248, .int .i64 t249, .int .i64 t250] 23 (0, 0)) (by refine blk_put (cs := #[.int .i64 t247, .int .i64 t248, .int .i64 t249, .int .i64 0]) ?_ 3 _ rfl; refine blk_put (cs := #[.int .i64 t247, .int .i64 t248, .int .i64 0, .int .i64 0]) ?_ 2 _ rfl; refine blk_put (cs := #[.int .i64 t247, .int .i64 0, .int .i64 0, .int .i64 0]) ?_ 1 _ rfl; refine blk_put (cs := #[.int .i64 0, .int .i64 0, .int .i64 0, .int .i64 0]) ?_ 0 _ rfl; exact BK252.out) hb); replace HB := Aside0.mk (below_step (by repeat ((with_reducible first | exact HB.out | refine below_set ?_ GE252.out))) hb); (try clear hb)))
    go_meet
    case rel => exact ⟨_, (true), (by rfl), H', ⟨by omega⟩, ⟨by exact BK246.out⟩, ⟨by exact BK252.out⟩, ⟨by repeat ((with_reducible exact HB.out))⟩⟩
  ·replace c12 := Bool.eq_false_iff.mpr c12
   subst c12
   have H1 : (rect_Cut.j0 k a1 l2 true t247 t248 t249 t250) = some (r1, r2, r3) := by rw [if_neg (show ¬ (false = true) by decide)] at H; exact H
   clear H
   have H := H1
   clear H1
   have H' := Aside0.mk H
   clear H
   go_wp2
   go_meet
   case rel => exact ⟨_, (true), (by rfl), H', ⟨by omega⟩, ⟨by refine blk_far ?_ NB246_252.out _; refine blk_far ?_ NB246_252.out _; refine blk_far ?_ NB246_252.out _; refine blk_far ?_ NB246_252.out _; exact BK246.out⟩, ⟨by refine blk_put (cs := #[.int .i64 t247, .int .i64 t248, .int .i64 t249, .int .i64 0]) ?_ 3 _ rfl; refine blk_put (cs := #[.int .i64 t247, .int .i64 t248, .int .i64 0, .int .i64 0]) ?_ 2 _ rfl; refine blk_put (cs := #[.int .i64 t247, .int .i64 0, .int .i64 0, .int .i64 0]) ?_ 1 _ rfl; refine blk_put (cs := #[.int .i64 0, .int .i64 0, .int .i64 0, .int .i64 0]) ?_ 0 _ rfl; exact BK252.out⟩, ⟨by repeat ((with_reducible first | exact HB.out | refine below_set ?_ GE252.out))⟩⟩
 case rest =>
  clear HC5
  clear hcz11_0 hcz11_1 hcz11_2 hcz11_3 hcz7_0 hcz7_1 hcz7_2 hcz7_3 hfz11_0 hfz11_1 hfz11_2 hfz11_3 hfz7_0 hfz7_1 hfz7_2 hfz7_3
  obtain ⟨kq, x37_4, rfl, HA, HJ4, BK246, BK252, HB⟩ := hcut
  cases kq with
  | zero => exact absurd HA.out (by simp [rect_Cut.j0])
  | succ kj4 =>
   have H := HA.out
   clear HA
   simp only [rect_Cut.j0] at H
   by_cases c21 : x37_4 = true
   ·subst c21
    have H1 : (some (([] : List (S23)), ([] : List (S23)), false)) = some (r1, r2, r3) := by rw [if_pos rfl] at H; exact H
    clear H
    have H := H1
    clear H1
    simp only [Option.some.injEq, Prod.mk.injEq] at H
    obtain ⟨rfl, rfl, rfl⟩ := H
    go_wp2
    go_ret3
    exact ⟨_, _, by rfl, by exact Kd.R_nil _ _ _ _ _, by exact Kd.R_nil _ _ _ _ _, by repeat ((with_reducible exact HB.out))⟩
   ·replace c21 := Bool.eq_false_iff.mpr c21
    subst c21
    have H1 : (rect_Cut.l0 kj4 a1 ([] : List (S23)) ([] : List (S23)) t247 l2 (l2.length : Int) 0 t247 t248 t249 t250) = some (r1, r2, r3) := by rw [if_neg (show ¬ (false = true) by decide)] at H; exact H
    clear H
    have H := H1
    clear H1
    have H' := Aside0.mk H
    clear H
    have hnb22 := NB252_246.out
    have hnc22 := NB246_252.out
    have hcz23_0 : wc.cell? ⟨gb252, 0, none⟩ = some (.int .i64 t247) := (blk_cell BK252.out 0).trans rfl
    have hcz23_1 : wc.cell? ⟨gb252, 1, none⟩ = some (.int .i64 t248) := (blk_cell BK252.out 1).trans rfl
    have hcz23_2 : wc.cell? ⟨gb252, 2, none⟩ = some (.int .i64 t249) := (blk_cell BK252.out 2).trans rfl
    have hcz23_3 : wc.cell? ⟨gb252, 3, none⟩ = some (.int .i64 t250) := (blk_cell BK252.out 3).trans rfl
    have hfz23_0 := blk_frozen BK252.out 0
    have hfz23_1 := blk_frozen BK252.out 1
    have hfz23_2 := blk_frozen BK252.out 2
    have hfz23_3 := blk_frozen BK252.out 3
    go_wp2
    go_loopg [11, 12, 13, 42] kj4 (fun kq v11 v12 v13 v42 w' => ∃ (x11_2 : List (S23)) (x12_2 : List (S23)) (x13_2 : Int) (x42_2 : Int), v13 = .int .i64 x13_2 ∧ v42 = .int .i64 x42_2 ∧ Aside0 (rect_Cut.l0 kq a1 x11_2 x12_2 x13_2 l2 (l2.length : Int) x42_2 t247 t248 t249 t250 = some (r1, r2, r3)) ∧ Aside0 (kq ≤ kj4) ∧ Aside0 (Kd.R k23 23 w' w.heap.size (fun k_ => some k_ ≠ (v12 : Value).ownBlock ∧ k_ ≠ gb246 ∧ k_ ≠ gb252) v11 x11_2) ∧ Aside0 (Kd.R k23 23 w' w.heap.size (fun k_ => some k_ ≠ (v11 : Value).ownBlock ∧ k_ ≠ gb246 ∧ k_ ≠ gb252) v12 x12_2) ∧ Aside0 (w'.heap[gb246]? = some (.cells #[.int .i64 a0_0, .int .i64 a0_1, .int .i64 a0_2, .int .i64 a0_3] 23 (0, 0))) ∧ Aside0 (w'.heap[gb252]? = some (.cells #[.int .i64 t247, .int .i64 t248, .int .i64 t249, .int .i64 t250] 23 (0, 0))) ∧ Aside0 (Below w.heap.size w w'))
    case atStart => exact ⟨(([] : List (S23))), (([] : List (S23))), (t247), (0), (by rfl), (by rfl), H', ⟨Nat.le_refl _⟩, ⟨by exact Kd.R_nil _ _ _ _ _⟩, ⟨by exact Kd.R_nil _ _ _ _ _⟩, ⟨by exact BK246.out⟩, ⟨by exact BK252.out⟩, ⟨by repeat ((with_reducible exact HB.out))⟩⟩
    case round =>
     clear H'
     clear hcz23_0 hcz23_1 hcz23_2 hcz23_3 hfz23_0 hfz23_1 hfz23_2 hfz23_3
     obtain ⟨x11_2, x12_2, x13_2, x42_2, rfl, rfl, HA, HK2, HO_11, HO_12, BK246, BK252, HB⟩ := hrel
     cases gk with
     | zero => exact absurd HA.out (by simp [rect_Cut.l0])
     | succ k2 =>
      have H := HA.out
      clear HA
      simp only [rect_Cut.l0] at H
      by_cases c24 : x42_2 < (l2.length : Int)
      ·rw [if_pos c24] at H
       have c24b0 : decide (x42_2 < (l2.length : Int)) = true := decide_eq_true c24
       clear c24
       by_cases c25 : 0 ≤ x42_2
       ·rw [if_pos c25] at H
        have c25b0 : decide (0 ≤ x42_2) = true := decide_eq_true c25
        clear c25
        by_cases c26 : x42_2 < (l2.length : Int)
        ·rw [if_pos c26] at H
         have c26b0 : decide (x42_2 < (l2.length : Int)) = true := decide_eq_true c26
         clear c26
         by_cases c27 : x42_2 > 0
         ·rw [if_pos c27] at H
          have c27b0 : decide (0 < x42_2) = true := decide_eq_true c27
          clear c27
          replace H := Option.bind_eq_some_iff.mp H
          obtain ⟨⟨t255, t256, t257, t258, t259⟩, A280, H⟩ := H
          replace H : (if x12_2.length < 4398046511104 then (if (rd l2 x42_2) < 1 then (some (([] : List (S23)), ([] : List (S23)), false)) else (if (rd l2 x42_2) > (wrap64 ((wrap64 (t247 + t249)) - (wrap64 (x13_2 + 1)))) then (some (([] : List (S23)), ([] : List (S23)), false)) else ((rect_turned.f (wrap64 (x13_2 + 1)) t248 (rd l2 x42_2) t250 a1).bind fun bt264 => (if x11_2.length < 4398046511104 then (rect_Cut.l0 k2 a1 (x11_2 ++ [(⟨bt264.1, bt264.2.1, bt264.2.2.1, bt264.2.2.2.1⟩ : S23)]) (x12_2 ++ [(⟨t255, t256, t257, t258⟩ : S23)]) (wrap64 ((wrap64 (x13_2 + 1)) + (rd l2 x42_2))) l2 (l2.length : Int) (wrap64 (x42_2 + 1)) t247 t248 t249 t250) else (none))))) else (none)) = some (r1, r2, r3) := H
          have A28 := Aside0.mk A280
          clear A280
          by_cases c29 : x12_2.length < 4398046511104
          ·rw [if_pos c29] at H
           have LMc29 := Aside0.mk c29
           clear c29
           obtain ⟨y261, hy261⟩ : ∃ y_ : List (S23), y_ = (x12_2 ++ [(⟨t255, t256, t257, t258⟩ : S23)]) := ⟨_, rfl⟩
           replace H : (if (rd l2 x42_2) < 1 then (some (([] : List (S23)), ([] : List (S23)), false)) else (if (rd l2 x42_2) > (wrap64 ((wrap64 (t247 + t249)) - (wrap64 (x13_2 + 1)))) then (some (([] : List (S23)), ([] : List (S23)), false)) else ((rect_turned.f (wrap64 (x13_2 + 1)) t248 (rd l2 x42_2) t250 a1).bind fun bt264 => (if x11_2.length < 4398046511104 then (rect_Cut.l0 k2 a1 (x11_2 ++ [(⟨bt264.1, bt264.2.1, bt264.2.2.1, bt264.2.2.2.1⟩ : S23)]) y261 (wrap64 ((wrap64 (x13_2 + 1)) + (rd l2 x42_2))) l2 (l2.length : Int) (wrap64 (x42_2 + 1)) t247 t248 t249 t250) else (none))))) = some (r1, r2, r3) := by (rw [hy261]; with_reducible exact H)
           have Ny261 := Aside0.mk hy261
           clear hy261
           by_cases c30 : (rd l2 x42_2) < 1
           ·rw [if_pos c30] at H
            have c30b0 : decide ((rd l2 x42_2) < 1) = true := decide_eq_true c30
            clear c30
            simp only [Option.some.injEq, Prod.mk.injEq] at H
            obtain ⟨rfl, rfl, rfl⟩ := H
            have p254 : 0 ≤ (x42_2 : Int) := of_decide_eq_true (by (with_reducible assumption))
            have q254 : x42_2 < (l2.length : Int) := of_decide_eq_true (by (with_reducible assumption))
            obtain ⟨ad254, e254, hx254_0⟩ := Kd.at_int HR2.out x42_2 p254 q254
            cases e254
            replace hx254_0 := (HB.out.cell (World.block_lt_of_cell? w _ hx254_0)).trans hx254_0
            replace p254 := eq_true p254
            replace q254 := eq_true q254
            have hnb31 := NB252_246.out
            have hnc31 := NB246_252.out
            have hcz32_0 : wr.cell? ⟨gb252, 0, none⟩ = some (.int .i64 t247) := (blk_cell BK252.out 0).trans rfl
            have hcz32_1 : wr.cell? ⟨gb252, 1, none⟩ = some (.int .i64 t248) := (blk_cell BK252.out 1).trans rfl
            have hcz32_2 : wr.cell? ⟨gb252, 2, none⟩ = some (.int .i64 t249) := (blk_cell BK252.out 2).trans rfl
            have hcz32_3 : wr.cell? ⟨gb252, 3, none⟩ = some (.int .i64 t250) := (blk_cell BK252.out 3).trans rfl
            have hfz32_0 := blk_frozen BK252.out 0
            have hfz32_1 := blk_frozen BK252.out 1
            have hfz32_2 := blk_frozen BK252.out 2
            have hfz32_3 := blk_frozen BK252.out 3
            go_wp2_with (first | ((with_reducible refine gate_callee (f := 127) rfl ?_); refine goesL_ (some 57) rfl rfl Try.func127 (by kernel_rfl) rfl #[.agg #[.int .i64 x13_2, .int .i64 t248, .int .i64 1, .int .i64 t250], .int .u8 a1] rfl (by (try simp only [List.map_toArray, List.map_cons, List.map_nil]); rfl) ?_; (with_reducible refine (rect_turned.calls x13_2 t248 1 t250 a1 t255 t256 t257 t258 t259 _ A28.out).mono ?_); rintro e w33 ⟨rfl, hb⟩; refine ⟨_, rfl, ?_⟩; replace HO_11 := Aside0.mk (Kd.R_below HO_11.out hb); replace HO_12 := Aside0.mk (Kd.R_below HO_12.out hb); replace BK246 := Aside0.mk (blk_below BK246.out hb); replace BK252 := Aside0.mk (blk_below BK252.out hb); replace HB := Aside0.mk (below_step (by repeat ((with_reducible exact HB.out))) hb); (try clear hb)) | ((with_reducible refine gate_dst (N := 16) rfl ?_); (try (refine gate_guard (by rfl) ?_; dsimp only)); refine box_event ?hg (N := 16) ?hd (cs := #[.int .i64 0, .int .i64 0, .int .i64 0, .int .i64 0]) (t := 23) ?hr ?_; (case hd => rfl); (case hg => rfl); (case hr => (go_simp; done)); intro gb260 hg w34 hbox hb; have BK260 := Aside0.mk (hbox); have GE260 := Aside0.mk ((by rw [hg]; exact (below_size (by repeat ((with_reducible exact HB.out)))) : w.heap.size ≤ gb260)); have NB246_260 := Aside0.mk ((by rw [hg]; exact Nat.ne_of_lt (blk_lt BK246.out) : gb246 ≠ gb260)); have NB260_246 := Aside0.mk ((by rw [hg]; exact Nat.ne_of_gt (blk_lt BK246.out) : gb260 ≠ gb246)); have NB252_260 := Aside0.mk ((by rw [hg]; exact Nat.ne_of_lt (blk_lt BK252.out) : gb252 ≠ gb260)); have NB260_252 := Aside0.mk ((by rw [hg]; exact Nat.ne_of_gt (blk_lt BK252.out) : gb260 ≠ gb252)); replace HO_11 := Aside0.mk (Kd.R_below (Kd.R_elderB HO_11.out gb260 (Nat.le_of_eq hg.symm)) hb); replace HO_12 := Aside0.mk (Kd.R_below (Kd.R_elderB HO_12.out gb260 (Nat.le_of_eq hg.symm)) hb); replace BK246 := Aside0.mk (blk_below BK246.out hb); replace BK252 := Aside0.mk (blk_below BK252.out hb); replace HB := Aside0.mk (below_step (by repeat ((with_reducible exact HB.out))) hb); clear hb hbox hg; have hnb35 := NB260_246.out; have hnc35 := NB246_260.out; have hnb36 := NB260_252.out; have hnc36 := NB252_260.out; have hcz37_0 : w34.cell? ⟨gb260, 0, none⟩ = some (.int .i64 0) := (blk_cell BK260.out 0).trans rfl; have hcz37_1 : w34.cell? ⟨gb260, 1, none⟩ = some (.int .i64 0) := (blk_cell BK260.out 1).trans rfl; have hcz37_2 : w34.cell? ⟨gb260, 2, none⟩ = some (.int .i64 0) := (blk_cell BK260.out 2).trans rfl; have hcz37_3 : w34.cell? ⟨gb260, 3, none⟩ = some (.int .i64 0) := (blk_cell BK260.out 3).trans rfl; have hfz37_0 := blk_frozen BK260.out 0; have hfz37_1 := blk_frozen BK260.out 1; have hfz37_2 := blk_frozen BK260.out 2; have hfz37_3 := blk_frozen BK260.out 3) | ((with_reducible refine gate_builtin (b := .append) (xs := #[.tmp 60, .tmp 62]) rfl ?_); (try (refine gate_guard (by rfl) ?_; dsimp only)); at_builtin; refine Kd.R_append k23 (w0 := w) w.heap.size rfl (.tmp 60) (.tmp 62) 42 23 (.agg #[(.int .i64 0), (.int .i64 0), (.int .i64 0), (.int .i64 0)]) 32 rfl Try.underlying42 info23 rfl (by decide) (by omega) u12 x12_2 (⟨t255, t256, t257, t258⟩ : S23) [.int .i64 t255, .int .i64 t256, .int .i64 t257, .int .i64 t258] (fun k_ => some k_ ≠ (u11 : Value).ownBlock ∧ k_ ≠ gb246 ∧ k_ ≠ gb252 ∧ k_ ≠ gb260) (fun _ => False) rfl (by (go_simp; done)) ?aP (fun _ hk => hk.elim) ?aF ?aO ?aB ?aS ?aL ?_; (case aP => exact k23_mkM _ _ _ (⟨t255, t256, t257, t258⟩ : S23)); (case aB => exact (by repeat ((with_reducible first | exact HB.out | refine below_set ?_ GE260.out)))); (case aF => exact (fun k_ hk => ⟨Kd.fresh' (Kd.R_lt (by exact (Kd.R_mono (Kd.R_far (p := ⟨gb260, 3, none⟩) (Kd.R_far (p := ⟨gb260, 2, none⟩) (Kd.R_far (p := ⟨gb260, 1, none⟩) (Kd.R_far (p := ⟨gb260, 0, none⟩) (Kd.R_mono HO_11.out (fun k_ hk => (⟨hk, hk.2⟩ : _ ∧ k_ ≠ gb260))) (fun _ hk => hk.2) (.int .i64 t255)) (fun _ hk => hk.2) (.int .i64 t256)) (fun _ hk => hk.2) (.int .i64 t257)) (fun _ hk => hk.2) (.int .i64 t258)) (fun _ h_ => h_.1)))) k_ hk, Kd.freshB (g := gb246) (o := .cells #[.int .i64 a0_0, .int .i64 a0_1, .int .i64 a0_2, .int .i64 a0_3] 23 (0, 0)) (by refine blk_far ?_ NB246_260.out _; refine blk_far ?_ NB246_260.out _; refine blk_far ?_ NB246_260.out _; refine blk_far ?_ NB246_260.out _; exact BK246.out) k_ hk, Kd.freshB (g := gb252) (o := .cells #[.int .i64 t247, .int .i64 t248, .int .i64 t249, .int .i64 t250] 23 (0, 0)) (by refine blk_far ?_ NB252_260.out _; refine blk_far ?_ NB252_260.out _; refine blk_far ?_ NB252_260.out _; refine blk_far ?_ NB252_260.out _; exact BK252.out) k_ hk, Kd.freshB (g := gb260) (o := .cells #[.int .i64 t255, .int .i64 t256, .int .i64 t257, .int .i64 t258] 23 (0, 0)) (by refine blk_put (cs := #[.int .i64 t255, .int .i64 t256, .int .i64 t257, .int .i64 0]) ?_ 3 _ rfl; refine blk_put (cs := #[.int .i64 t255, .int .i64 t256, .int .i64 0, .int .i64 0]) ?_ 2 _ rfl; refine blk_put (cs := #[.int .i64 t255, .int .i64 0, .int .i64 0, .int .i64 0]) ?_ 1 _ rfl; refine blk_put (cs := #[.int .i64 0, .int .i64 0, .int .i64 0, .int .i64 0]) ?_ 0 _ rfl; exact BK260.out) k_ hk⟩)); (case aO => exact (by exact Kd.R_mono (Kd.R_far (p := ⟨gb260, 3, none⟩) (Kd.R_far (p := ⟨gb260, 2, none⟩) (Kd.R_far (p := ⟨gb260, 1, none⟩) (Kd.R_far (p := ⟨gb260, 0, none⟩) (Kd.R_mono HO_12.out (fun k_ hk => (⟨hk, hk.2⟩ : _ ∧ k_ ≠ gb260))) (fun _ hk => hk.2) (.int .i64 t255)) (fun _ hk => hk.2) (.int .i64 t256)) (fun _ hk => hk.2) (.int .i64 t257)) (fun _ hk => hk.2) (.int .i64 t258)) (fun _ hk => ⟨hk.1.1.1, ⟨hk.1.1.2.1, ⟨hk.1.1.2.2, hk.1.2⟩⟩⟩))); (case aS => exact (below_size (by repeat ((with_reducible first | exact HB.out | refine below_set ?_ GE260.out))))); (case aL => have := LMc29.out; omega); intro v262 w38 ho hb hg hat; rw [← Ny261.out] at ho; have HO263 := Aside0.mk (ho); replace HO_11 := Aside0.mk (Kd.R_after (ok := (fun k_ => k_ ≠ gb246 ∧ k_ ≠ gb252 ∧ k_ ≠ gb260)) (by exact Kd.R_mono (Kd.R_far (p := ⟨gb260, 3, none⟩) (Kd.R_far (p := ⟨gb260, 2, none⟩) (Kd.R_far (p := ⟨gb260, 1, none⟩) (Kd.R_far (p := ⟨gb260, 0, none⟩) (Kd.R_mono HO_11.out (fun k_ hk => (⟨hk, hk.2⟩ : _ ∧ k_ ≠ gb260))) (fun _ hk => hk.2) (.int .i64 t255)) (fun _ hk => hk.2) (.int .i64 t256)) (fun _ hk => hk.2) (.int .i64 t257)) (fun _ hk => hk.2) (.int .i64 t258)) (fun _ hk => ⟨⟨hk.1.1.2.1, ⟨hk.1.1.2.2, hk.1.2⟩⟩, hk.1.1.1⟩)) hg hat); replace BK246 := Aside0.mk (blk_grown (g := gb246) (o := .cells #[.int .i64 a0_0, .int .i64 a0_1, .int .i64 a0_2, .int .i64 a0_3] 23 (0, 0)) (by refine blk_far ?_ NB246_260.out _; refine blk_far ?_ NB246_260.out _; refine blk_far ?_ NB246_260.out _; refine blk_far ?_ NB246_260.out _; exact BK246.out) hg (Kd.R_away HO_12.out (fun _ hk => hk.1.2.1))); replace BK252 := Aside0.mk (blk_grown (g := gb252) (o := .cells #[.int .i64 t247, .int .i64 t248, .int .i64 t249, .int .i64 t250] 23 (0, 0)) (by refine blk_far ?_ NB252_260.out _; refine blk_far ?_ NB252_260.out _; refine blk_far ?_ NB252_260.out _; refine blk_far ?_ NB252_260.out _; exact BK252.out) hg (Kd.R_away HO_12.out (fun _ hk => hk.1.2.2))); replace BK260 := Aside0.mk (blk_grown (g := gb260) (o := .cells #[.int .i64 t255, .int .i64 t256, .int .i64 t257, .int .i64 t258] 23 (0, 0)) (by refine blk_put (cs := #[.int .i64 t255, .int .i64 t256, .int .i64 t257, .int .i64 0]) ?_ 3 _ rfl; refine blk_put (cs := #[.int .i64 t255, .int .i64 t256, .int .i64 0, .int .i64 0]) ?_ 2 _ rfl; refine blk_put (cs := #[.int .i64 t255, .int .i64 0, .int .i64 0, .int .i64 0]) ?_ 1 _ rfl; refine blk_put (cs := #[.int .i64 0, .int .i64 0, .int .i64 0, .int .i64 0]) ?_ 0 _ rfl; exact BK260.out) hg (Kd.R_away HO_12.out (fun _ hk => hk.2))); replace HB := Aside0.mk (hb); clear HO_12; clear ho hb hg hat))
            go_ret3
            exact ⟨_, _, by rfl, by exact Kd.R_nil _ _ _ _ _, by exact Kd.R_nil _ _ _ _ _, by repeat ((with_reducible exact HB.out))⟩
           ·rw [if_neg c30] at H
            have c30b0 : decide ((rd l2 x42_2) < 1) = false := decide_eq_false c30
            clear c30
            by_cases c39 : (rd l2 x42_2) > (wrap64 ((wrap64 (t247 + t249)) - (wrap64 (x13_2 + 1))))
            ·rw [if_pos c39] at H
             have c39b0 : decide ((wrap64 ((wrap64 (t247 + t249)) - (wrap64 (x13_2 + 1)))) < (rd l2 x42_2)) = true := decide_eq_true c39
             clear c39
             simp only [Option.some.injEq, Prod.mk.injEq] at H
             obtain ⟨rfl, rfl, rfl⟩ := H
             have p254 : 0 ≤ (x42_2 : Int) := of_decide_eq_true (by (with_reducible assumption))
             have q254 : x42_2 < (l2.length : Int) := of_decide_eq_true (by (with_reducible assumption))
             obtain ⟨ad254, e254, hx254_0⟩ := Kd.at_int HR2.out x42_2 p254 q254
             cases e254
             replace hx254_0 := (HB.out.cell (World.block_lt_of_cell? w _ hx254_0)).trans hx254_0
             replace p254 := eq_true p254
             replace q254 := eq_true q254
             have hnb40 := NB252_246.out
             have hnc40 := NB246_252.out
             have hcz41_0 : wr.cell? ⟨gb252, 0, none⟩ = some (.int .i64 t247) := (blk_cell BK252.out 0).trans rfl
             have hcz41_1 : wr.cell? ⟨gb252, 1, none⟩ = some (.int .i64 t248) := (blk_cell BK252.out 1).trans rfl
             have hcz41_2 : wr.cell? ⟨gb252, 2, none⟩ = some (.int .i64 t249) := (blk_cell BK252.out 2).trans rfl
             have hcz41_3 : wr.cell? ⟨gb252, 3, none⟩ = some (.int .i64 t250) := (blk_cell BK252.out 3).trans rfl
             have hfz41_0 := blk_frozen BK252.out 0
             have hfz41_1 := blk_frozen BK252.out 1
             have hfz41_2 := blk_frozen BK252.out 2
             have hfz41_3 := blk_frozen BK252.out 3
             go_wp2_with (first | ((with_reducible refine gate_callee (f := 127) rfl ?_); refine goesL_ (some 57) rfl rfl Try.func127 (by kernel_rfl) rfl #[.agg #[.int .i64 x13_2, .int .i64 t248, .int .i64 1, .int .i64 t250], .int .u8 a1] rfl (by (try simp only [List.map_toArray, List.map_cons, List.map_nil]); rfl) ?_; (with_reducible refine (rect_turned.calls x13_2 t248 1 t250 a1 t255 t256 t257 t258 t259 _ A28.out).mono ?_); rintro e w42 ⟨rfl, hb⟩; refine ⟨_, rfl, ?_⟩; replace HO_11 := Aside0.mk (Kd.R_below HO_11.out hb); replace HO_12 := Aside0.mk (Kd.R_below HO_12.out hb); replace BK246 := Aside0.mk (blk_below BK246.out hb); replace BK252 := Aside0.mk (blk_below BK252.out hb); replace HB := Aside0.mk (below_step (by repeat ((with_reducible exact HB.out))) hb); (try clear hb)) | ((with_reducible refine gate_dst (N := 16) rfl ?_); (try (refine gate_guard (by rfl) ?_; dsimp only)); refine box_event ?hg (N := 16) ?hd (cs := #[.int .i64 0, .int .i64 0, .int .i64 0, .int .i64 0]) (t := 23) ?hr ?_; (case hd => rfl); (case hg => rfl); (case hr => (go_simp; done)); intro gb260 hg w43 hbox hb; have BK260 := Aside0.mk (hbox); have GE260 := Aside0.mk ((by rw [hg]; exact (below_size (by repeat ((with_reducible exact HB.out)))) : w.heap.size ≤ gb260)); have NB246_260 := Aside0.mk ((by rw [hg]; exact Nat.ne_of_lt (blk_lt BK246.out) : gb246 ≠ gb260)); have NB260_246 := Aside0.mk ((by rw [hg]; exact Nat.ne_of_gt (blk_lt BK246.out) : gb260 ≠ gb246)); have NB252_260 := Aside0.mk ((by rw [hg]; exact Nat.ne_of_lt (blk_lt BK252.out) : gb252 ≠ gb260)); have NB260_252 := Aside0.mk ((by rw [hg]; exact Nat.ne_of_gt (blk_lt BK252.out) : gb260 ≠ gb252)); replace HO_11 := Aside0.mk (Kd.R_below (Kd.R_elderB HO_11.out gb260 (Nat.le_of_eq hg.symm)) hb); replace HO_12 := Aside0.mk (Kd.R_below (Kd.R_elderB HO_12.out gb260 (Nat.le_of_eq hg.symm)) hb); replace BK246 := Aside0.mk (blk_below BK246.out hb); replace BK252 := Aside0.mk (blk_below BK252.out hb); replace HB := Aside0.mk (below_step (by repeat ((with_reducible exact HB.out))) hb); clear hb hbox hg; have hnb44 := NB260_246.out; have hnc44 := NB246_260.out; have hnb45 := NB260_252.out; have hnc45 := NB252_260.out; have hcz46_0 : w43.cell? ⟨gb260, 0, none⟩ = some (.int .i64 0) := (blk_cell BK260.out 0).trans rfl; have hcz46_1 : w43.cell? ⟨gb260, 1, none⟩ = some (.int .i64 0) := (blk_cell BK260.out 1).trans rfl; have hcz46_2 : w43.cell? ⟨gb260, 2, none⟩ = some (.int .i64 0) := (blk_cell BK260.out 2).trans rfl; have hcz46_3 : w43.cell? ⟨gb260, 3, none⟩ = some (.int .i64 0) := (blk_cell BK260.out 3).trans rfl; have hfz46_0 := blk_frozen BK260.out 0; have hfz46_1 := blk_frozen BK260.out 1; have hfz46_2 := blk_frozen BK260.out 2; have hfz46_3 := blk_frozen BK260.out 3) | ((with_reducible refine gate_builtin (b := .append) (xs := #[.tmp 60, .tmp 62]) rfl ?_); (try (refine gate_guard (by rfl) ?_; dsimp only)); at_builtin; refine Kd.R_append k23 (w0 := w) w.heap.size rfl (.tmp 60) (.tmp 62) 42 23 (.agg #[(.int .i64 0), (.int .i64 0), (.int .i64 0), (.int .i64 0)]) 32 rfl Try.underlying42 info23 rfl (by decide) (by omega) u12 x12_2 (⟨t255, t256, t257, t258⟩ : S23) [.int .i64 t255, .int .i64 t256, .int .i64 t257, .int .i64 t258] (fun k_ => some k_ ≠ (u11 : Value).ownBlock ∧ k_ ≠ gb246 ∧ k_ ≠ gb252 ∧ k_ ≠ gb260) (fun _ => False) rfl (by (go_simp; done)) ?aP (fun _ hk => hk.elim) ?aF ?aO ?aB ?aS ?aL ?_; (case aP => exact k23_mkM _ _ _ (⟨t255, t256, t257, t258⟩ : S23)); (case aB => exact (by repeat ((with_reducible first | exact HB.out | refine below_set ?_ GE260.out)))); (case aF => exact (fun k_ hk => ⟨Kd.fresh' (Kd.R_lt (by exact (Kd.R_mono (Kd.R_far (p := ⟨gb260, 3, none⟩) (Kd.R_far (p := ⟨gb260, 2, none⟩) (Kd.R_far (p := ⟨gb260, 1, none⟩) (Kd.R_far (p := ⟨gb260, 0, none⟩) (Kd.R_mono HO_11.out (fun k_ hk => (⟨hk, hk.2⟩ : _ ∧ k_ ≠ gb260))) (fun _ hk => hk.2) (.int .i64 t255)) (fun _ hk => hk.2) (.int .i64 t256)) (fun _ hk => hk.2) (.int .i64 t257)) (fun _ hk => hk.2) (.int .i64 t258)) (fun _ h_ => h_.1)))) k_ hk, Kd.freshB (g := gb246) (o := .cells #[.int .i64 a0_0, .int .i64 a0_1, .int .i64 a0_2, .int .i64 a0_3] 23 (0, 0)) (by refine blk_far ?_ NB246_260.out _; refine blk_far ?_ NB246_260.out _; refine blk_far ?_ NB246_260.out _; refine blk_far ?_ NB246_260.out _; exact BK246.out) k_ hk, Kd.freshB (g := gb252) (o := .cells #[.int .i64 t247, .int .i64 t248, .int .i64 t249, .int .i64 t250] 23 (0, 0)) (by refine blk_far ?_ NB252_260.out _; refine blk_far ?_ NB252_260.out _; refine blk_far ?_ NB252_260.out _; refine blk_far ?_ NB252_260.out _; exact BK252.out) k_ hk, Kd.freshB (g := gb260) (o := .cells #[.int .i64 t255, .int .i64 t256, .int .i64 t257, .int .i64 t258] 23 (0, 0)) (by refine blk_put (cs := #[.int .i64 t255, .int .i64 t256, .int .i64 t257, .int .i64 0]) ?_ 3 _ rfl; refine blk_put (cs := #[.int .i64 t255, .int .i64 t256, .int .i64 0, .int .i64 0]) ?_ 2 _ rfl; refine blk_put (cs := #[.int .i64 t255, .int .i64 0, .int .i64 0, .int .i64 0]) ?_ 1 _ rfl; refine blk_put (cs := #[.int .i64 0, .int .i64 0, .int .i64 0, .int .i64 0]) ?_ 0 _ rfl; exact BK260.out) k_ hk⟩)); (case aO => exact (by exact Kd.R_mono (Kd.R_far (p := ⟨gb260, 3, none⟩) (Kd.R_far (p := ⟨gb260, 2, none⟩) (Kd.R_far (p := ⟨gb260, 1, none⟩) (Kd.R_far (p := ⟨gb260, 0, none⟩) (Kd.R_mono HO_12.out (fun k_ hk => (⟨hk, hk.2⟩ : _ ∧ k_ ≠ gb260))) (fun _ hk => hk.2) (.int .i64 t255)) (fun _ hk => hk.2) (.int .i64 t256)) (fun _ hk => hk.2) (.int .i64 t257)) (fun _ hk => hk.2) (.int .i64 t258)) (fun _ hk => ⟨hk.1.1.1, ⟨hk.1.1.2.1, ⟨hk.1.1.2.2, hk.1.2⟩⟩⟩))); (case aS => exact (below_size (by repeat ((with_reducible first | exact HB.out | refine below_set ?_ GE260.out))))); (case aL => have := LMc29.out; omega); intro v262 w47 ho hb hg hat; rw [← Ny261.out] at ho; have HO263 := Aside0.mk (ho); replace HO_11 := Aside0.mk (Kd.R_after (ok := (fun k_ => k_ ≠ gb246 ∧ k_ ≠ gb252 ∧ k_ ≠ gb260)) (by exact Kd.R_mono (Kd.R_far (p := ⟨gb260, 3, none⟩) (Kd.R_far (p := ⟨gb260, 2, none⟩) (Kd.R_far (p := ⟨gb260, 1, none⟩) (Kd.R_far (p := ⟨gb260, 0, none⟩) (Kd.R_mono HO_11.out (fun k_ hk => (⟨hk, hk.2⟩ : _ ∧ k_ ≠ gb260))) (fun _ hk => hk.2) (.int .i64 t255)) (fun _ hk => hk.2) (.int .i64 t256)) (fun _ hk => hk.2) (.int .i64 t257)) (fun _ hk => hk.2) (.int .i64 t258)) (fun _ hk => ⟨⟨hk.1.1.2.1, ⟨hk.1.1.2.2, hk.1.2⟩⟩, hk.1.1.1⟩)) hg hat); replace BK246 := Aside0.mk (blk_grown (g := gb246) (o := .cells #[.int .i64 a0_0, .int .i64 a0_1, .int .i64 a0_2, .int .i64 a0_3] 23 (0, 0)) (by refine blk_far ?_ NB246_260.out _; refine blk_far ?_ NB246_260.out _; refine blk_far ?_ NB246_260.out _; refine blk_far ?_ NB246_260.out _; exact BK246.out) hg (Kd.R_away HO_12.out (fun _ hk => hk.1.2.1))); replace BK252 := Aside0.mk (blk_grown (g := gb252) (o := .cells #[.int .i64 t247, .int .i64 t248, .int .i64 t249, .int .i64 t250] 23 (0, 0)) (by refine blk_far ?_ NB252_260.out _; refine blk_far ?_ NB252_260.out _; refine blk_far ?_ NB252_260.out _; refine blk_far ?_ NB252_260.out _; exact BK252.out) hg (Kd.R_away HO_12.out (fun _ hk => hk.1.2.2))); replace BK260 := Aside0.mk (blk_grown (g := gb260) (o := .cells #[.int .i64 t255, .int .i64 t256, .int .i64 t257, .int .i64 t258] 23 (0, 0)) (by refine blk_put (cs := #[.int .i64 t255, .int .i64 t256, .int .i64 t257, .int .i64 0]) ?_ 3 _ rfl; refine blk_put (cs := #[.int .i64 t255, .int .i64 t256, .int .i64 0, .int .i64 0]) ?_ 2 _ rfl; refine blk_put (cs := #[.int .i64 t255, .int .i64 0, .int .i64 0, .int .i64 0]) ?_ 1 _ rfl; refine blk_put (cs := #[.int .i64 0, .int .i64 0, .int .i64 0, .int .i64 0]) ?_ 0 _ rfl; exact BK260.out) hg (Kd.R_away HO_12.out (fun _ hk => hk.2))); replace HB := Aside0.mk (hb); clear HO_12; clear ho hb hg hat; have hcz48_0 : w47.cell? ⟨gb252, 0, none⟩ = some (.int .i64 t247) := (blk_cell BK252.out 0).trans rfl; have hcz48_1 : w47.cell? ⟨gb252, 1, none⟩ = some (.int .i64 t248) := (blk_cell BK252.out 1).trans rfl; have hcz48_2 : w47.cell? ⟨gb252, 2, none⟩ = some (.int .i64 t249) := (blk_cell BK252.out 2).trans rfl; have hcz48_3 : w47.cell? ⟨gb252, 3, none⟩ = some (.int .i64 t250) := (blk_cell BK252.out 3).trans rfl; have hfz48_0 := blk_frozen BK252.out 0; have hfz48_1 := blk_frozen BK252.out 1; have hfz48_2 := blk_frozen BK252.out 2; have hfz48_3 := blk_frozen BK252.out 3))
             go_ret3
             exact ⟨_, _, by rfl, by exact Kd.R_nil _ _ _ _ _, by exact Kd.R_nil _ _ _ _ _, by repeat ((with_reducible exact HB.out))⟩
            ·rw [if_neg c39] at H
             have c39b0 : decide ((wrap64 ((wrap64 (t247 + t249)) - (wrap64 (x13_2 + 1)))) < (rd l2 x42_2)) = false := decide_eq_false c39
             clear c39
             replace H := Option.bind_eq_some_iff.mp H
             obtain ⟨⟨t264, t265, t266, t267, t268⟩, A490, H⟩ := H
             replace H : (if x11_2.length < 4398046511104 then (rect_Cut.l0 k2 a1 (x11_2 ++ [(⟨t264, t265, t266, t267⟩ : S23)]) y261 (wrap64 ((wrap64 (x13_2 + 1)) + (rd l2 x42_2))) l2 (l2.length : Int) (wrap64 (x42_2 + 1)) t247 t248 t249 t250) else (none)) = some (r1, r2, r3) := H
             have A49 := Aside0.mk A490
             clear A490
             by_cases c50 : x11_2.length < 4398046511104
             ·rw [if_pos c50] at H
              have LMc50 := Aside0.mk c50
              clear c50
              obtain ⟨y270, hy270⟩ : ∃ y_ : List (S23), y_ = (x11_2 ++ [(⟨t264, t265, t266, t267⟩ : S23)]) := ⟨_, rfl⟩
              replace H : (rect_Cut.l0 k2 a1 y270 y261 (wrap64 ((wrap64 (x13_2 + 1)) + (rd l2 x42_2))) l2 (l2.length : Int) (wrap64 (x42_2 + 1)) t247 t248 t249 t250) = some (r1, r2, r3) := by (rw [hy270]; with_reducible exact H)
              have Ny270 := Aside0.mk hy270
              clear hy270
              have H' := Aside0.mk H
              clear H
              have p254 : 0 ≤ (x42_2 : Int) := of_decide_eq_true (by (with_reducible assumption))
              have q254 : x42_2 < (l2.length : Int) := of_decide_eq_true (by (with_reducible assumption))
              obtain ⟨ad254, e254, hx254_0⟩ := Kd.at_int HR2.out x42_2 p254 q254
              cases e254
              replace hx254_0 := (HB.out.cell (World.block_lt_of_cell? w _ hx254_0)).trans hx254_0
              replace p254 := eq_true p254
              replace q254 := eq_true q254
              have hnb51 := NB252_246.out
              have hnc51 := NB246_252.out
              have hcz52_0 : wr.cell? ⟨gb252, 0, none⟩ = some (.int .i64 t247) := (blk_cell BK252.out 0).trans rfl
              have hcz52_1 : wr.cell? ⟨gb252, 1, none⟩ = some (.int .i64 t248) := (blk_cell BK252.out 1).trans rfl
              have hcz52_2 : wr.cell? ⟨gb252, 2, none⟩ = some (.int .i64 t249) := (blk_cell BK252.out 2).trans rfl
              have hcz52_3 : wr.cell? ⟨gb252, 3, none⟩ = some (.int .i64 t250) := (blk_cell BK252.out 3).trans rfl
              have hfz52_0 := blk_frozen BK252.out 0
              have hfz52_1 := blk_frozen BK252.out 1
              have hfz52_2 := blk_frozen BK252.out 2
              have hfz52_3 := blk_frozen BK252.out 3
              go_wp2_with (first | ((with_reducible refine gate_callee (f := 127) rfl ?_); refine goesL_ (some 57) rfl rfl Try.func127 (by kernel_rfl) rfl #[.agg #[.int .i64 x13_2, .int .i64 t248, .int .i64 1, .int .i64 t250], .int .u8 a1] rfl (by (try simp only [List.map_toArray, List.map_cons, List.map_nil]); rfl) ?_; (with_reducible refine (rect_turned.calls x13_2 t248 1 t250 a1 t255 t256 t257 t258 t259 _ A28.out).mono ?_); rintro e w53 ⟨rfl, hb⟩; refine ⟨_, rfl, ?_⟩; replace HO_11 := Aside0.mk (Kd.R_below HO_11.out hb); replace HO_12 := Aside0.mk (Kd.R_below HO_12.out hb); replace BK246 := Aside0.mk (blk_below BK246.out hb); replace BK252 := Aside0.mk (blk_below BK252.out hb); replace HB := Aside0.mk (below_step (by repeat ((with_reducible exact HB.out))) hb); (try clear hb)) | ((with_reducible refine gate_dst (N := 16) rfl ?_); (try (refine gate_guard (by rfl) ?_; dsimp only)); refine box_event ?hg (N := 16) ?hd (cs := #[.int .i64 0, .int .i64 0, .int .i64 0, .int .i64 0]) (t := 23) ?hr ?_; (case hd => rfl); (case hg => rfl); (case hr => (go_simp; done)); intro gb260 hg w54 hbox hb; have BK260 := Aside0.mk (hbox); have GE260 := Aside0.mk ((by rw [hg]; exact (below_size (by repeat ((with_reducible exact HB.out)))) : w.heap.size ≤ gb260)); have NB246_260 := Aside0.mk ((by rw [hg]; exact Nat.ne_of_lt (blk_lt BK246.out) : gb246 ≠ gb260)); have NB260_246 := Aside0.mk ((by rw [hg]; exact Nat.ne_of_gt (blk_lt BK246.out) : gb260 ≠ gb246)); have NB252_260 := Aside0.mk ((by rw [hg]; exact Nat.ne_of_lt (blk_lt BK252.out) : gb252 ≠ gb260)); have NB260_252 := Aside0.mk ((by rw [hg]; exact Nat.ne_of_gt (blk_lt BK252.out) : gb260 ≠ gb252)); replace HO_11 := Aside0.mk (Kd.R_below (Kd.R_elderB HO_11.out gb260 (Nat.le_of_eq hg.symm)) hb); replace HO_12 := Aside0.mk (Kd.R_below (Kd.R_elderB HO_12.out gb260 (Nat.le_of_eq hg.symm)) hb); replace BK246 := Aside0.mk (blk_below BK246.out hb); replace BK252 := Aside0.mk (blk_below BK252.out hb); replace HB := Aside0.mk (below_step (by repeat ((with_reducible exact HB.out))) hb); clear hb hbox hg; have hnb55 := NB260_246.out; have hnc55 := NB246_260.out; have hnb56 := NB260_252.out; have hnc56 := NB252_260.out; have hcz57_0 : w54.cell? ⟨gb260, 0, none⟩ = some (.int .i64 0) := (blk_cell BK260.out 0).trans rfl; have hcz57_1 : w54.cell? ⟨gb260, 1, none⟩ = some (.int .i64 0) := (blk_cell BK260.out 1).trans rfl; have hcz57_2 : w54.cell? ⟨gb260, 2, none⟩ = some (.int .i64 0) := (blk_cell BK260.out 2).trans rfl; have hcz57_3 : w54.cell? ⟨gb260, 3, none⟩ = some (.int .i64 0) := (blk_cell BK260.out 3).trans rfl; have hfz57_0 := blk_frozen BK260.out 0; have hfz57_1 := blk_frozen BK260.out 1; have hfz57_2 := blk_frozen BK260.out 2; have hfz57_3 := blk_frozen BK260.out 3) | ((with_reducible refine gate_builtin (b := .append) (xs := #[.tmp 60, .tmp 62]) rfl ?_); (try (refine gate_guard (by rfl) ?_; dsimp only)); at_builtin; refine Kd.R_append k23 (w0 := w) w.heap.size rfl (.tmp 60) (.tmp 62) 42 23 (.agg #[(.int .i64 0), (.int .i64 0), (.int .i64 0), (.int .i64 0)]) 32 rfl Try.underlying42 info23 rfl (by decide) (by omega) u12 x12_2 (⟨t255, t256, t257, t258⟩ : S23) [.int .i64 t255, .int .i64 t256, .int .i64 t257, .int .i64 t258] (fun k_ => some k_ ≠ (u11 : Value).ownBlock ∧ k_ ≠ gb246 ∧ k_ ≠ gb252 ∧ k_ ≠ gb260) (fun _ => False) rfl (by (go_simp; done)) ?aP (fun _ hk => hk.elim) ?aF ?aO ?aB ?aS ?aL ?_; (case aP => exact k23_mkM _ _ _ (⟨t255, t256, t257, t258⟩ : S23)); (case aB => exact (by repeat ((with_reducible first | exact HB.out | refine below_set ?_ GE260.out)))); (case aF => exact (fun k_ hk => ⟨Kd.fresh' (Kd.R_lt (by exact (Kd.R_mono (Kd.R_far (p := ⟨gb260, 3, none⟩) (Kd.R_far (p := ⟨gb260, 2, none⟩) (Kd.R_far (p := ⟨gb260, 1, none⟩) (Kd.R_far (p := ⟨gb260, 0, none⟩) (Kd.R_mono HO_11.out (fun k_ hk => (⟨hk, hk.2⟩ : _ ∧ k_ ≠ gb260))) (fun _ hk => hk.2) (.int .i64 t255)) (fun _ hk => hk.2) (.int .i64 t256)) (fun _ hk => hk.2) (.int .i64 t257)) (fun _ hk => hk.2) (.int .i64 t258)) (fun _ h_ => h_.1)))) k_ hk, Kd.freshB (g := gb246) (o := .cells #[.int .i64 a0_0, .int .i64 a0_1, .int .i64 a0_2, .int .i64 a0_3] 23 (0, 0)) (by refine blk_far ?_ NB246_260.out _; refine blk_far ?_ NB246_260.out _; refine blk_far ?_ NB246_260.out _; refine blk_far ?_ NB246_260.out _; exact BK246.out) k_ hk, Kd.freshB (g := gb252) (o := .cells #[.int .i64 t247, .int .i64 t248, .int .i64 t249, .int .i64 t250] 23 (0, 0)) (by refine blk_far ?_ NB252_260.out _; refine blk_far ?_ NB252_260.out _; refine blk_far ?_ NB252_260.out _; refine blk_far ?_ NB252_260.out _; exact BK252.out) k_ hk, Kd.freshB (g := gb260) (o := .cells #[.int .i64 t255, .int .i64 t256, .int .i64 t257, .int .i64 t258] 23 (0, 0)) (by refine blk_put (cs := #[.int .i64 t255, .int .i64 t256, .int .i64 t257, .int .i64 0]) ?_ 3 _ rfl; refine blk_put (cs := #[.int .i64 t255, .int .i64 t256, .int .i64 0, .int .i64 0]) ?_ 2 _ rfl; refine blk_put (cs := #[.int .i64 t255, .int .i64 0, .int .i64 0, .int .i64 0]) ?_ 1 _ rfl; refine blk_put (cs := #[.int .i64 0, .int .i64 0, .int .i64 0, .int .i64 0]) ?_ 0 _ rfl; exact BK260.out) k_ hk⟩)); (case aO => exact (by exact Kd.R_mono (Kd.R_far (p := ⟨gb260, 3, none⟩) (Kd.R_far (p := ⟨gb260, 2, none⟩) (Kd.R_far (p := ⟨gb260, 1, none⟩) (Kd.R_far (p := ⟨gb260, 0, none⟩) (Kd.R_mono HO_12.out (fun k_ hk => (⟨hk, hk.2⟩ : _ ∧ k_ ≠ gb260))) (fun _ hk => hk.2) (.int .i64 t255)) (fun _ hk => hk.2) (.int .i64 t256)) (fun _ hk => hk.2) (.int .i64 t257)) (fun _ hk => hk.2) (.int .i64 t258)) (fun _ hk => ⟨hk.1.1.1, ⟨hk.1.1.2.1, ⟨hk.1.1.2.2, hk.1.2⟩⟩⟩))); (case aS => exact (below_size (by repeat ((with_reducible first | exact HB.out | refine below_set ?_ GE260.out))))); (case aL => have := LMc29.out; omega); intro v262 w58 ho hb hg hat; rw [← Ny261.out] at ho; have HO263 := Aside0.mk (ho); replace HO_11 := Aside0.mk (Kd.R_after (ok := (fun k_ => k_ ≠ gb246 ∧ k_ ≠ gb252 ∧ k_ ≠ gb260)) (by exact Kd.R_mono (Kd.R_far (p := ⟨gb260, 3, none⟩) (Kd.R_far (p := ⟨gb260, 2, none⟩) (Kd.R_far (p := ⟨gb260, 1, none⟩) (Kd.R_far (p := ⟨gb260, 0, none⟩) (Kd.R_mono HO_11.out (fun k_ hk => (⟨hk, hk.2⟩ : _ ∧ k_ ≠ gb260))) (fun _ hk => hk.2) (.int .i64 t255)) (fun _ hk => hk.2) (.int .i64 t256)) (fun _ hk => hk.2) (.int .i64 t257)) (fun _ hk => hk.2) (.int .i64 t258)) (fun _ hk => ⟨⟨hk.1.1.2.1, ⟨hk.1.1.2.2, hk.1.2⟩⟩, hk.1.1.1⟩)) hg hat); replace BK246 := Aside0.mk (blk_grown (g := gb246) (o := .cells #[.int .i64 a0_0, .int .i64 a0_1, .int .i64 a0_2, .int .i64 a0_3] 23 (0, 0)) (by refine blk_far ?_ NB246_260.out _; refine blk_far ?_ NB246_260.out _; refine blk_far ?_ NB246_260.out _; refine blk_far ?_ NB246_260.out _; exact BK246.out) hg (Kd.R_away HO_12.out (fun _ hk => hk.1.2.1))); replace BK252 := Aside0.mk (blk_grown (g := gb252) (o := .cells #[.int .i64 t247, .int .i64 t248, .int .i64 t249, .int .i64 t250] 23 (0, 0)) (by refine blk_far ?_ NB252_260.out _; refine blk_far ?_ NB252_260.out _; refine blk_far ?_ NB252_260.out _; refine blk_far ?_ NB252_260.out _; exact BK252.out) hg (Kd.R_away HO_12.out (fun _ hk => hk.1.2.2))); replace BK260 := Aside0.mk (blk_grown (g := gb260) (o := .cells #[.int .i64 t255, .int .i64 t256, .int .i64 t257, .int .i64 t258] 23 (0, 0)) (by refine blk_put (cs := #[.int .i64 t255, .int .i64 t256, .int .i64 t257, .int .i64 0]) ?_ 3 _ rfl; refine blk_put (cs := #[.int .i64 t255, .int .i64 t256, .int .i64 0, .int .i64 0]) ?_ 2 _ rfl; refine blk_put (cs := #[.int .i64 t255, .int .i64 0, .int .i64 0, .int .i64 0]) ?_ 1 _ rfl; refine blk_put (cs := #[.int .i64 0, .int .i64 0, .int .i64 0, .int .i64 0]) ?_ 0 _ rfl; exact BK260.out) hg (Kd.R_away HO_12.out (fun _ hk => hk.2))); replace HB := Aside0.mk (hb); clear HO_12; clear ho hb hg hat; have hcz59_0 : w58.cell? ⟨gb252, 0, none⟩ = some (.int .i64 t247) := (blk_cell BK252.out 0).trans rfl; have hcz59_1 : w58.cell? ⟨gb252, 1, none⟩ = some (.int .i64 t248) := (blk_cell BK252.out 1).trans rfl; have hcz59_2 : w58.cell? ⟨gb252, 2, none⟩ = some (.int .i64 t249) := (blk_cell BK252.out 2).trans rfl; have hcz59_3 : w58.cell? ⟨gb252, 3, none⟩ = some (.int .i64 t250) := (blk_cell BK252.out 3).trans rfl; have hfz59_0 := blk_frozen BK252.out 0; have hfz59_1 := blk_frozen BK252.out 1; have hfz59_2 := blk_frozen BK252.out 2; have hfz59_3 := blk_frozen BK252.out 3) | ((with_reducible refine gate_callee (f := 127) rfl ?_); refine goesL_ (some 88) rfl rfl Try.func127 (by kernel_rfl) rfl #[.agg #[.int .i64 (wrap64 (x13_2 + 1)), .int .i64 t248, .int .i64 (rd l2 x42_2), .int .i64 t250], .int .u8 a1] rfl (by (try simp only [List.map_toArray, List.map_cons, List.map_nil]); rfl) ?_; (with_reducible refine (rect_turned.calls (wrap64 (x13_2 + 1)) t248 (rd l2 x42_2) t250 a1 t264 t265 t266 t267 t268 _ A49.out).mono ?_); rintro e w60 ⟨rfl, hb⟩; refine ⟨_, rfl, ?_⟩; replace HO_11 := Aside0.mk (Kd.R_below HO_11.out hb); replace HO263 := Aside0.mk (Kd.R_below HO263.out hb); replace BK246 := Aside0.mk (blk_below BK246.out hb); replace BK252 := Aside0.mk (blk_below BK252.out hb); replace BK260 := Aside0.mk (blk_below BK260.out hb); replace HB := Aside0.mk (below_step (by repeat ((with_reducible exact HB.out))) hb); (try clear hb)) | ((with_reducible refine gate_dst (N := 18) rfl ?_); (try (refine gate_guard (by rfl) ?_; dsimp only)); refine box_event ?hg (N := 18) ?hd (cs := #[.int .i64 0, .int .i64 0, .int .i64 0, .int .i64 0]) (t := 23) ?hr ?_; (case hd => rfl); (case hg => rfl); (case hr => (go_simp; done)); intro gb269 hg w61 hbox hb; have BK269 := Aside0.mk (hbox); have GE269 := Aside0.mk ((by rw [hg]; exact (below_size (by repeat ((with_reducible exact HB.out)))) : w.heap.size ≤ gb269)); have NB246_269 := Aside0.mk ((by rw [hg]; exact Nat.ne_of_lt (blk_lt BK246.out) : gb246 ≠ gb269)); have NB269_246 := Aside0.mk ((by rw [hg]; exact Nat.ne_of_gt (blk_lt BK246.out) : gb269 ≠ gb246)); have NB252_269 := Aside0.mk ((by rw [hg]; exact Nat.ne_of_lt (blk_lt BK252.out) : gb252 ≠ gb269)); have NB269_252 := Aside0.mk ((by rw [hg]; exact Nat.ne_of_gt (blk_lt BK252.out) : gb269 ≠ gb252)); have NB260_269 := Aside0.mk ((by rw [hg]; exact Nat.ne_of_lt (blk_lt BK260.out) : gb260 ≠ gb269)); have NB269_260 := Aside0.mk ((by rw [hg]; exact Nat.ne_of_gt (blk_lt BK260.out) : gb269 ≠ gb260)); replace HO_11 := Aside0.mk (Kd.R_below (Kd.R_elderB HO_11.out gb269 (Nat.le_of_eq hg.symm)) hb); replace HO263 := Aside0.mk (Kd.R_below (Kd.R_elderB HO263.out gb269 (Nat.le_of_eq hg.symm)) hb); replace BK246 := Aside0.mk (blk_below BK246.out hb); replace BK252 := Aside0.mk (blk_below BK252.out hb); replace BK260 := Aside0.mk (blk_below BK260.out hb); replace HB := Aside0.mk (below_step (by repeat ((with_reducible exact HB.out))) hb); clear hb hbox hg; have hnb62 := NB269_246.out; have hnc62 := NB246_269.out; have hnb63 := NB269_252.out; have hnc63 := NB252_269.out; have hnb64 := NB269_260.out; have hnc64 := NB260_269.out; have hcz65_0 : w61.cell? ⟨gb269, 0, none⟩ = some (.int .i64 0) := (blk_cell BK269.out 0).trans rfl; have hcz65_1 : w61.cell? ⟨gb269, 1, none⟩ = some (.int .i64 0) := (blk_cell BK269.out 1).trans rfl; have hcz65_2 : w61.cell? ⟨gb269, 2, none⟩ = some (.int .i64 0) := (blk_cell BK269.out 2).trans rfl; have hcz65_3 : w61.cell? ⟨gb269, 3, none⟩ = some (.int .i64 0) := (blk_cell BK269.out 3).trans rfl; have hfz65_0 := blk_frozen BK269.out 0; have hfz65_1 := blk_frozen BK269.out 1; have hfz65_2 := blk_frozen BK269.out 2; have hfz65_3 := blk_frozen BK269.out 3) | ((with_reducible refine gate_builtin (b := .append) (xs := #[.tmp 91, .tmp 93]) rfl ?_); (try (refine gate_guard (by rfl) ?_; dsimp only)); at_builtin; refine Kd.R_append k23 (w0 := w) w.heap.size rfl (.tmp 91) (.tmp 93) 42 23 (.agg #[(.int .i64 0), (.int .i64 0), (.int .i64 0), (.int .i64 0)]) 32 rfl Try.underlying42 info23 rfl (by decide) (by omega) u11 x11_2 (⟨t264, t265, t266, t267⟩ : S23) [.int .i64 t264, .int .i64 t265, .int .i64 t266, .int .i64 t267] (fun k_ => some k_ ≠ (v262 : Value).ownBlock ∧ k_ ≠ gb246 ∧ k_ ≠ gb252 ∧ k_ ≠ gb260 ∧ k_ ≠ gb269) (fun _ => False) rfl (by (go_simp; done)) ?aP (fun _ hk => hk.elim) ?aF ?aO ?aB ?aS ?aL ?_; (case aP => exact k23_mkM _ _ _ (⟨t264, t265, t266, t267⟩ : S23)); (case aB => exact (by repeat ((with_reducible first | exact HB.out | refine below_set ?_ GE269.out)))); (case aF => exact (fun k_ hk => ⟨Kd.fresh' (Kd.R_lt (by exact (Kd.R_mono (Kd.R_far (p := ⟨gb269, 3, none⟩) (Kd.R_far (p := ⟨gb269, 2, none⟩) (Kd.R_far (p := ⟨gb269, 1, none⟩) (Kd.R_far (p := ⟨gb269, 0, none⟩) (Kd.R_mono HO263.out (fun k_ hk => (⟨hk, hk.2⟩ : _ ∧ k_ ≠ gb269))) (fun _ hk => hk.2) (.int .i64 t264)) (fun _ hk => hk.2) (.int .i64 t265)) (fun _ hk => hk.2) (.int .i64 t266)) (fun _ hk => hk.2) (.int .i64 t267)) (fun _ h_ => h_.1)))) k_ hk, Kd.freshB (g := gb246) (o := .cells #[.int .i64 a0_0, .int .i64 a0_1, .int .i64 a0_2, .int .i64 a0_3] 23 (0, 0)) (by refine blk_far ?_ NB246_269.out _; refine blk_far ?_ NB246_269.out _; refine blk_far ?_ NB246_269.out _; refine blk_far ?_ NB246_269.out _; exact BK246.out) k_ hk, Kd.freshB (g := gb252) (o := .cells #[.int .i64 t247, .int .i64 t248, .int .i64 t249, .int .i64 t250] 23 (0, 0)) (by refine blk_far ?_ NB252_269.out _; refine blk_far ?_ NB252_269.out _; refine blk_far ?_ NB252_269.out _; refine blk_far ?_ NB252_269.out _; exact BK252.out) k_ hk, Kd.freshB (g := gb260) (o := .cells #[.int .i64 t255, .int .i64 t256, .int .i64 t257, .int .i64 t258] 23 (0, 0)) (by refine blk_far ?_ NB260_269.out _; refine blk_far ?_ NB260_269.out _; refine blk_far ?_ NB260_269.out _; refine blk_far ?_ NB260_269.out _; exact BK260.out) k_ hk, Kd.freshB (g := gb269) (o := .cells #[.int .i64 t264, .int .i64 t265, .int .i64 t266, .int .i64 t267] 23 (0, 0)) (by refine blk_put (cs := #[.int .i64 t264, .int .i64 t265, .int .i64 t266, .int .i64 0]) ?_ 3 _ rfl; refine blk_put (cs := #[.int .i64 t264, .int .i64 t265, .int .i64 0, .int .i64 0]) ?_ 2 _ rfl; refine blk_put (cs := #[.int .i64 t264, .int .i64 0, .int .i64 0, .int .i64 0]) ?_ 1 _ rfl; refine blk_put (cs := #[.int .i64 0, .int .i64 0, .int .i64 0, .int .i64 0]) ?_ 0 _ rfl; exact BK269.out) k_ hk⟩)); (case aO => exact (by exact Kd.R_mono (Kd.R_far (p := ⟨gb269, 3, none⟩) (Kd.R_far (p := ⟨gb269, 2, none⟩) (Kd.R_far (p := ⟨gb269, 1, none⟩) (Kd.R_far (p := ⟨gb269, 0, none⟩) (Kd.R_mono HO_11.out (fun k_ hk => (⟨hk, hk.2⟩ : _ ∧ k_ ≠ gb269))) (fun _ hk => hk.2) (.int .i64 t264)) (fun _ hk => hk.2) (.int .i64 t265)) (fun _ hk => hk.2) (.int .i64 t266)) (fun _ hk => hk.2) (.int .i64 t267)) (fun _ hk => ⟨hk.1.1.2, ⟨hk.1.1.1.1, ⟨hk.1.1.1.2.1, ⟨hk.1.1.1.2.2, hk.1.2⟩⟩⟩⟩))); (case aS => exact (below_size (by repeat ((with_reducible first | exact HB.out | refine below_set ?_ GE269.out))))); (case aL => have := LMc50.out; omega); intro v271 w66 ho hb hg hat; rw [← Ny270.out] at ho; have HO272 := Aside0.mk (ho); replace BK246 := Aside0.mk (blk_grown (g := gb246) (o := .cells #[.int .i64 a0_0, .int .i64 a0_1, .int .i64 a0_2, .int .i64 a0_3] 23 (0, 0)) (by refine blk_far ?_ NB246_269.out _; refine blk_far ?_ NB246_269.out _; refine blk_far ?_ NB246_269.out _; refine blk_far ?_ NB246_269.out _; exact BK246.out) hg (Kd.R_away HO_11.out (fun _ hk => hk.1.1.1))); replace BK252 := Aside0.mk (blk_grown (g := gb252) (o := .cells #[.int .i64 t247, .int .i64 t248, .int .i64 t249, .int .i64 t250] 23 (0, 0)) (by refine blk_far ?_ NB252_269.out _; refine blk_far ?_ NB252_269.out _; refine blk_far ?_ NB252_269.out _; refine blk_far ?_ NB252_269.out _; exact BK252.out) hg (Kd.R_away HO_11.out (fun _ hk => hk.1.1.2.1))); replace BK260 := Aside0.mk (blk_grown (g := gb260) (o := .cells #[.int .i64 t255, .int .i64 t256, .int .i64 t257, .int .i64 t258] 23 (0, 0)) (by refine blk_far ?_ NB260_269.out _; refine blk_far ?_ NB260_269.out _; refine blk_far ?_ NB260_269.out _; refine blk_far ?_ NB260_269.out _; exact BK260.out) hg (Kd.R_away HO_11.out (fun _ hk => hk.1.1.2.2))); replace HO263 := Aside0.mk (Kd.R_after (ok := (fun k_ => k_ ≠ gb246 ∧ k_ ≠ gb252 ∧ k_ ≠ gb260 ∧ k_ ≠ gb269)) (by exact Kd.R_mono (Kd.R_far (p := ⟨gb269, 3, none⟩) (Kd.R_far (p := ⟨gb269, 2, none⟩) (Kd.R_far (p := ⟨gb269, 1, none⟩) (Kd.R_far (p := ⟨gb269, 0, none⟩) (Kd.R_mono HO263.out (fun k_ hk => (⟨hk, hk.2⟩ : _ ∧ k_ ≠ gb269))) (fun _ hk => hk.2) (.int .i64 t264)) (fun _ hk => hk.2) (.int .i64 t265)) (fun _ hk => hk.2) (.int .i64 t266)) (fun _ hk => hk.2) (.int .i64 t267)) (fun _ hk => ⟨⟨hk.1.1.2.1, ⟨hk.1.1.2.2.1, ⟨hk.1.1.2.2.2, hk.1.2⟩⟩⟩, hk.1.1.1⟩)) hg hat); replace BK269 := Aside0.mk (blk_grown (g := gb269) (o := .cells #[.int .i64 t264, .int .i64 t265, .int .i64 t266, .int .i64 t267] 23 (0, 0)) (by refine blk_put (cs := #[.int .i64 t264, .int .i64 t265, .int .i64 t266, .int .i64 0]) ?_ 3 _ rfl; refine blk_put (cs := #[.int .i64 t264, .int .i64 t265, .int .i64 0, .int .i64 0]) ?_ 2 _ rfl; refine blk_put (cs := #[.int .i64 t264, .int .i64 0, .int .i64 0, .int .i64 0]) ?_ 1 _ rfl; refine blk_put (cs := #[.int .i64 0, .int .i64 0, .int .i64 0, .int .i64 0]) ?_ 0 _ rfl; exact BK269.out) hg (Kd.R_away HO_11.out (fun _ hk => hk.2))); replace HB := Aside0.mk (hb); clear HO_11; clear ho hb hg hat))
              go_roundg k2
              case measure => have := HJ4.out; have := HK2.out; omega
              case rel => exact ⟨(y270), (y261), (wrap64 ((wrap64 (x13_2 + 1)) + (rd l2 x42_2))), (wrap64 (x42_2 + 1)), (by rfl), (by rfl), H', ⟨by have := HJ4.out; have := HK2.out; omega⟩, ⟨by exact Kd.R_mono HO272.out (fun _ hk => ⟨hk.1, ⟨hk.2.1, hk.2.2.1⟩⟩)⟩, ⟨by exact Kd.R_mono HO263.out (fun _ hk => ⟨hk.2, ⟨hk.1.1, hk.1.2.1⟩⟩)⟩, ⟨by exact BK246.out⟩, ⟨by exact BK252.out⟩, ⟨by repeat ((with_reducible exact HB.out))⟩⟩
             ·rw [if_neg c50] at H
              exact absurd H (by simp)
          ·rw [if_neg c29] at H
           exact absurd H (by simp)
         ·rw [if_neg c27] at H
          have c27b0 : decide (0 < x42_2) = false := decide_eq_false c27
          clear c27
          by_cases c67 : (rd l2 x42_2) < 1
          ·rw [if_pos c67] at H
           have c67b0 : decide ((rd l2 x42_2) < 1) = true := decide_eq_true c67
           clear c67
           simp only [Option.some.injEq, Prod.mk.injEq] at H
           obtain ⟨rfl, rfl, rfl⟩ := H
           have p254 : 0 ≤ (x42_2 : Int) := of_decide_eq_true (by (with_reducible assumption))
           have q254 : x42_2 < (l2.length : Int) := of_decide_eq_true (by (with_reducible assumption))
           obtain ⟨ad254, e254, hx254_0⟩ := Kd.at_int HR2.out x42_2 p254 q254
           cases e254
           replace hx254_0 := (HB.out.cell (World.block_lt_of_cell? w _ hx254_0)).trans hx254_0
           replace p254 := eq_true p254
           replace q254 := eq_true q254
           go_wp2
           go_ret3
           exact ⟨_, _, by rfl, by exact Kd.R_nil _ _ _ _ _, by exact Kd.R_nil _ _ _ _ _, by repeat ((with_reducible exact HB.out))⟩
          ·rw [if_neg c67] at H
           have c67b0 : decide ((rd l2 x42_2) < 1) = false := decide_eq_false c67
           clear c67
           by_cases c68 : (rd l2 x42_2) > (wrap64 ((wrap64 (t247 + t249)) - x13_2))
           ·rw [if_pos c68] at H
            have c68b0 : decide ((wrap64 ((wrap64 (t247 + t249)) - x13_2)) < (rd l2 x42_2)) = true := decide_eq_true c68
            clear c68
            simp only [Option.some.injEq, Prod.mk.injEq] at H
            obtain ⟨rfl, rfl, rfl⟩ := H
            have p254 : 0 ≤ (x42_2 : Int) := of_decide_eq_true (by (with_reducible assumption))
            have q254 : x42_2 < (l2.length : Int) := of_decide_eq_true (by (with_reducible assumption))
            obtain ⟨ad254, e254, hx254_0⟩ := Kd.at_int HR2.out x42_2 p254 q254
            cases e254
            replace hx254_0 := (HB.out.cell (World.block_lt_of_cell? w _ hx254_0)).trans hx254_0
            replace p254 := eq_true p254
            replace q254 := eq_true q254
            have hnb69 := NB252_246.out
            have hnc69 := NB246_252.out
            have hcz70_0 : wr.cell? ⟨gb252, 0, none⟩ = some (.int .i64 t247) := (blk_cell BK252.out 0).trans rfl
            have hcz70_1 : wr.cell? ⟨gb252, 1, none⟩ = some (.int .i64 t248) := (blk_cell BK252.out 1).trans rfl
            have hcz70_2 : wr.cell? ⟨gb252, 2, none⟩ = some (.int .i64 t249) := (blk_cell BK252.out 2).trans rfl
            have hcz70_3 : wr.cell? ⟨gb252, 3, none⟩ = some (.int .i64 t250) := (blk_cell BK252.out 3).trans rfl
            have hfz70_0 := blk_frozen BK252.out 0
            have hfz70_1 := blk_frozen BK252.out 1
            have hfz70_2 := blk_frozen BK252.out 2
            have hfz70_3 := blk_frozen BK252.out 3
            go_wp2
            go_ret3
            exact ⟨_, _, by rfl, by exact Kd.R_nil _ _ _ _ _, by exact Kd.R_nil _ _ _ _ _, by repeat ((with_reducible exact HB.out))⟩
           ·rw [if_neg c68] at H
            have c68b0 : decide ((wrap64 ((wrap64 (t247 + t249)) - x13_2)) < (rd l2 x42_2)) = false := decide_eq_false c68
            clear c68
            replace H := Option.bind_eq_some_iff.mp H
            obtain ⟨⟨t273, t274, t275, t276, t277⟩, A710, H⟩ := H
            replace H : (if x11_2.length < 4398046511104 then (rect_Cut.l0 k2 a1 (x11_2 ++ [(⟨t273, t274, t275, t276⟩ : S23)]) x12_2 (wrap64 (x13_2 + (rd l2 x42_2))) l2 (l2.length : Int) (wrap64 (x42_2 + 1)) t247 t248 t249 t250) else (none)) = some (r1, r2, r3) := H
            have A71 := Aside0.mk A710
            clear A710
            by_cases c72 : x11_2.length < 4398046511104
            ·rw [if_pos c72] at H
             have LMc72 := Aside0.mk c72
             clear c72
             obtain ⟨y279, hy279⟩ : ∃ y_ : List (S23), y_ = (x11_2 ++ [(⟨t273, t274, t275, t276⟩ : S23)]) := ⟨_, rfl⟩
             replace H : (rect_Cut.l0 k2 a1 y279 x12_2 (wrap64 (x13_2 + (rd l2 x42_2))) l2 (l2.length : Int) (wrap64 (x42_2 + 1)) t247 t248 t249 t250) = some (r1, r2, r3) := by (rw [hy279]; with_reducible exact H)
             have Ny279 := Aside0.mk hy279
             clear hy279
             have H' := Aside0.mk H
             clear H
             have p254 : 0 ≤ (x42_2 : Int) := of_decide_eq_true (by (with_reducible assumption))
             have q254 : x42_2 < (l2.length : Int) := of_decide_eq_true (by (with_reducible assumption))
             obtain ⟨ad254, e254, hx254_0⟩ := Kd.at_int HR2.out x42_2 p254 q254
             cases e254
             replace hx254_0 := (HB.out.cell (World.block_lt_of_cell? w _ hx254_0)).trans hx254_0
             replace p254 := eq_true p254
             replace q254 := eq_true q254
             have hnb73 := NB252_246.out
             have hnc73 := NB246_252.out
             have hcz74_0 : wr.cell? ⟨gb252, 0, none⟩ = some (.int .i64 t247) := (blk_cell BK252.out 0).trans rfl
             have hcz74_1 : wr.cell? ⟨gb252, 1, none⟩ = some (.int .i64 t248) := (blk_cell BK252.out 1).trans rfl
             have hcz74_2 : wr.cell? ⟨gb252, 2, none⟩ = some (.int .i64 t249) := (blk_cell BK252.out 2).trans rfl
             have hcz74_3 : wr.cell? ⟨gb252, 3, none⟩ = some (.int .i64 t250) := (blk_cell BK252.out 3).trans rfl
             have hfz74_0 := blk_frozen BK252.out 0
             have hfz74_1 := blk_frozen BK252.out 1
             have hfz74_2 := blk_frozen BK252.out 2
             have hfz74_3 := blk_frozen BK252.out 3
             go_wp2_with (first | ((with_reducible refine gate_callee (f := 127) rfl ?_); refine goesL_ (some 88) rfl rfl Try.func127 (by kernel_rfl) rfl #[.agg #[.int .i64 x13_2, .int .i64 t248, .int .i64 (rd l2 x42_2), .int .i64 t250], .int .u8 a1] rfl (by (try simp only [List.map_toArray, List.map_cons, List.map_nil]); rfl) ?_; (with_reducible refine (rect_turned.calls x13_2 t248 (rd l2 x42_2) t250 a1 t273 t274 t275 t276 t277 _ A71.out).mono ?_); rintro e w75 ⟨rfl, hb⟩; refine ⟨_, rfl, ?_⟩; replace HO_11 := Aside0.mk (Kd.R_below HO_11.out hb); replace HO_12 := Aside0.mk (Kd.R_below HO_12.out hb); replace BK246 := Aside0.mk (blk_below BK246.out hb); replace BK252 := Aside0.mk (blk_below BK252.out hb); replace HB := Aside0.mk (below_step (by repeat ((with_reducible exact HB.out))) hb); (try clear hb)) | ((with_reducible refine gate_dst (N := 18) rfl ?_); (try (refine gate_guard (by rfl) ?_; dsimp only)); refine box_event ?hg (N := 18) ?hd (cs := #[.int .i64 0, .int .i64 0, .int .i64 0, .int .i64 0]) (t := 23) ?hr ?_; (case hd => rfl); (case hg => rfl); (case hr => (go_simp; done)); intro gb278 hg w76 hbox hb; have BK278 := Aside0.mk (hbox); have GE278 := Aside0.mk ((by rw [hg]; exact (below_size (by repeat ((with_reducible exact HB.out)))) : w.heap.size ≤ gb278)); have NB246_278 := Aside0.mk ((by rw [hg]; exact Nat.ne_of_lt (blk_lt BK246.out) : gb246 ≠ gb278)); have NB278_246 := Aside0.mk ((by rw [hg]; exact Nat.ne_of_gt (blk_lt BK246.out) : gb278 ≠ gb246)); have NB252_278 := Aside0.mk ((by rw [hg]; exact Nat.ne_of_lt (blk_lt BK252.out) : gb252 ≠ gb278)); have NB278_252 := Aside0.mk ((by rw [hg]; exact Nat.ne_of_gt (blk_lt BK252.out) : gb278 ≠ gb252)); replace HO_11 := Aside0.mk (Kd.R_below (Kd.R_elderB HO_11.out gb278 (Nat.le_of_eq hg.symm)) hb); replace HO_12 := Aside0.mk (Kd.R_below (Kd.R_elderB HO_12.out gb278 (Nat.le_of_eq hg.symm)) hb); replace BK246 := Aside0.mk (blk_below BK246.out hb); replace BK252 := Aside0.mk (blk_below BK252.out hb); replace HB := Aside0.mk (below_step (by repeat ((with_reducible exact HB.out))) hb); clear hb hbox hg; have hnb77 := NB278_246.out; have hnc77 := NB246_278.out; have hnb78 := NB278_252.out; have hnc78 := NB252_278.out; have hcz79_0 : w76.cell? ⟨gb278, 0, none⟩ = some (.int .i64 0) := (blk_cell BK278.out 0).trans rfl; have hcz79_1 : w76.cell? ⟨gb278, 1, none⟩ = some (.int .i64 0) := (blk_cell BK278.out 1).trans rfl; have hcz79_2 : w76.cell? ⟨gb278, 2, none⟩ = some (.int .i64 0) := (blk_cell BK278.out 2).trans rfl; have hcz79_3 : w76.cell? ⟨gb278, 3, none⟩ = some (.int .i64 0) := (blk_cell BK278.out 3).trans rfl; have hfz79_0 := blk_frozen BK278.out 0; have hfz79_1 := blk_frozen BK278.out 1; have hfz79_2 := blk_frozen BK278.out 2; have hfz79_3 := blk_frozen BK278.out 3) | ((with_reducible refine gate_builtin (b := .append) (xs := #[.tmp 91, .tmp 93]) rfl ?_); (try (refine gate_guard (by rfl) ?_; dsimp only)); at_builtin; refine Kd.R_append k23 (w0 := w) w.heap.size rfl (.tmp 91) (.tmp 93) 42 23 (.agg #[(.int .i64 0), (.int .i64 0), (.int .i64 0), (.int .i64 0)]) 32 rfl Try.underlying42 info23 rfl (by decide) (by omega) u11 x11_2 (⟨t273, t274, t275, t276⟩ : S23) [.int .i64 t273, .int .i64 t274, .int .i64 t275, .int .i64 t276] (fun k_ => some k_ ≠ (u12 : Value).ownBlock ∧ k_ ≠ gb246 ∧ k_ ≠ gb252 ∧ k_ ≠ gb278) (fun _ => False) rfl (by (go_simp; done)) ?aP (fun _ hk => hk.elim) ?aF ?aO ?aB ?aS ?aL ?_; (case aP => exact k23_mkM _ _ _ (⟨t273, t274, t275, t276⟩ : S23)); (case aB => exact (by repeat ((with_reducible first | exact HB.out | refine below_set ?_ GE278.out)))); (case aF => exact (fun k_ hk => ⟨Kd.fresh' (Kd.R_lt (by exact (Kd.R_mono (Kd.R_far (p := ⟨gb278, 3, none⟩) (Kd.R_far (p := ⟨gb278, 2, none⟩) (Kd.R_far (p := ⟨gb278, 1, none⟩) (Kd.R_far (p := ⟨gb278, 0, none⟩) (Kd.R_mono HO_12.out (fun k_ hk => (⟨hk, hk.2⟩ : _ ∧ k_ ≠ gb278))) (fun _ hk => hk.2) (.int .i64 t273)) (fun _ hk => hk.2) (.int .i64 t274)) (fun _ hk => hk.2) (.int .i64 t275)) (fun _ hk => hk.2) (.int .i64 t276)) (fun _ h_ => h_.1)))) k_ hk, Kd.freshB (g := gb246) (o := .cells #[.int .i64 a0_0, .int .i64 a0_1, .int .i64 a0_2, .int .i64 a0_3] 23 (0, 0)) (by refine blk_far ?_ NB246_278.out _; refine blk_far ?_ NB246_278.out _; refine blk_far ?_ NB246_278.out _; refine blk_far ?_ NB246_278.out _; exact BK246.out) k_ hk, Kd.freshB (g := gb252) (o := .cells #[.int .i64 t247, .int .i64 t248, .int .i64 t249, .int .i64 t250] 23 (0, 0)) (by refine blk_far ?_ NB252_278.out _; refine blk_far ?_ NB252_278.out _; refine blk_far ?_ NB252_278.out _; refine blk_far ?_ NB252_278.out _; exact BK252.out) k_ hk, Kd.freshB (g := gb278) (o := .cells #[.int .i64 t273, .int .i64 t274, .int .i64 t275, .int .i64 t276] 23 (0, 0)) (by refine blk_put (cs := #[.int .i64 t273, .int .i64 t274, .int .i64 t275, .int .i64 0]) ?_ 3 _ rfl; refine blk_put (cs := #[.int .i64 t273, .int .i64 t274, .int .i64 0, .int .i64 0]) ?_ 2 _ rfl; refine blk_put (cs := #[.int .i64 t273, .int .i64 0, .int .i64 0, .int .i64 0]) ?_ 1 _ rfl; refine blk_put (cs := #[.int .i64 0, .int .i64 0, .int .i64 0, .int .i64 0]) ?_ 0 _ rfl; exact BK278.out) k_ hk⟩)); (case aO => exact (by exact Kd.R_mono (Kd.R_far (p := ⟨gb278, 3, none⟩) (Kd.R_far (p := ⟨gb278, 2, none⟩) (Kd.R_far (p := ⟨gb278, 1, none⟩) (Kd.R_far (p := ⟨gb278, 0, none⟩) (Kd.R_mono HO_11.out (fun k_ hk => (⟨hk, hk.2⟩ : _ ∧ k_ ≠ gb278))) (fun _ hk => hk.2) (.int .i64 t273)) (fun _ hk => hk.2) (.int .i64 t274)) (fun _ hk => hk.2) (.int .i64 t275)) (fun _ hk => hk.2) (.int .i64 t276)) (fun _ hk => ⟨hk.1.1.1, ⟨hk.1.1.2.1, ⟨hk.1.1.2.2, hk.1.2⟩⟩⟩))); (case aS => exact (below_size (by repeat ((with_reducible first | exact HB.out | refine below_set ?_ GE278.out))))); (case aL => have := LMc72.out; omega); intro v280 w80 ho hb hg hat; rw [← Ny279.out] at ho; have HO281 := Aside0.mk (ho); replace HO_12 := Aside0.mk (Kd.R_after (ok := (fun k_ => k_ ≠ gb246 ∧ k_ ≠ gb252 ∧ k_ ≠ gb278)) (by exact Kd.R_mono (Kd.R_far (p := ⟨gb278, 3, none⟩) (Kd.R_far (p := ⟨gb278, 2, none⟩) (Kd.R_far (p := ⟨gb278, 1, none⟩) (Kd.R_far (p := ⟨gb278, 0, none⟩) (Kd.R_mono HO_12.out (fun k_ hk => (⟨hk, hk.2⟩ : _ ∧ k_ ≠ gb278))) (fun _ hk => hk.2) (.int .i64 t273)) (fun _ hk => hk.2) (.int .i64 t274)) (fun _ hk => hk.2) (.int .i64 t275)) (fun _ hk => hk.2) (.int .i64 t276)) (fun _ hk => ⟨⟨hk.1.1.2.1, ⟨hk.1.1.2.2, hk.1.2⟩⟩, hk.1.1.1⟩)) hg hat); replace BK246 := Aside0.mk (blk_grown (g := gb246) (o := .cells #[.int .i64 a0_0, .int .i64 a0_1, .int .i64 a0_2, .int .i64 a0_3] 23 (0, 0)) (by refine blk_far ?_ NB246_278.out _; refine blk_far ?_ NB246_278.out _; refine blk_far ?_ NB246_278.out _; refine blk_far ?_ NB246_278.out _; exact BK246.out) hg (Kd.R_away HO_11.out (fun _ hk => hk.1.2.1))); replace BK252 := Aside0.mk (blk_grown (g := gb252) (o := .cells #[.int .i64 t247, .int .i64 t248, .int .i64 t249, .int .i64 t250] 23 (0, 0)) (by refine blk_far ?_ NB252_278.out _; refine blk_far ?_ NB252_278.out _; refine blk_far ?_ NB252_278.out _; refine blk_far ?_ NB252_278.out _; exact BK252.out) hg (Kd.R_away HO_11.out (fun _ hk => hk.1.2.2))); replace BK278 := Aside0.mk (blk_grown (g := gb278) (o := .cells #[.int .i64 t273, .int .i64 t274, .int .i64 t275, .int .i64 t276] 23 (0, 0)) (by refine blk_put (cs := #[.int .i64 t273, .int .i64 t274, .int .i64 t275, .int .i64 0]) ?_ 3 _ rfl; refine blk_put (cs := #[.int .i64 t273, .int .i64 t274, .int .i64 0, .int .i64 0]) ?_ 2 _ rfl; refine blk_put (cs := #[.int .i64 t273, .int .i64 0, .int .i64 0, .int .i64 0]) ?_ 1 _ rfl; refine blk_put (cs := #[.int .i64 0, .int .i64 0, .int .i64 0, .int .i64 0]) ?_ 0 _ rfl; exact BK278.out) hg (Kd.R_away HO_11.out (fun _ hk => hk.2))); replace HB := Aside0.mk (hb); clear HO_11; clear ho hb hg hat))
             go_roundg k2
             case measure => have := HJ4.out; have := HK2.out; omega
             case rel => exact ⟨(y279), (x12_2), (wrap64 (x13_2 + (rd l2 x42_2))), (wrap64 (x42_2 + 1)), (by rfl), (by rfl), H', ⟨by have := HJ4.out; have := HK2.out; omega⟩, ⟨by exact Kd.R_mono HO281.out (fun _ hk => ⟨hk.1, ⟨hk.2.1, hk.2.2.1⟩⟩)⟩, ⟨by exact Kd.R_mono HO_12.out (fun _ hk => ⟨hk.2, ⟨hk.1.1, hk.1.2.1⟩⟩)⟩, ⟨by exact BK246.out⟩, ⟨by exact BK252.out⟩, ⟨by repeat ((with_reducible exact HB.out))⟩⟩
            ·rw [if_neg c72] at H
             exact absurd H (by simp)
        ·rw [if_neg c26] at H
         exact absurd H (by simp)
       ·rw [if_neg c25] at H
        exact absurd H (by simp)
      ·rw [if_neg c24] at H
       have c24b0 : decide (x42_2 < (l2.length : Int)) = false := decide_eq_false c24
       clear c24
       by_cases c81 : x13_2 = (wrap64 (t247 + t249))
       ·rw [if_pos c81] at H
        have c81b0 : (x13_2 == (wrap64 (t247 + t249))) = true := beq_iff_eq.mpr c81
        have c81b1 : (x13_2 != (wrap64 (t247 + t249))) = false := bne_eq_false_iff_eq.mpr c81
        clear c81
        simp only [Option.some.injEq, Prod.mk.injEq] at H
        obtain ⟨rfl, rfl, rfl⟩ := H
        have hnb82 := NB252_246.out
        have hnc82 := NB246_252.out
        have hcz83_0 : wr.cell? ⟨gb252, 0, none⟩ = some (.int .i64 t247) := (blk_cell BK252.out 0).trans rfl
        have hcz83_1 : wr.cell? ⟨gb252, 1, none⟩ = some (.int .i64 t248) := (blk_cell BK252.out 1).trans rfl
        have hcz83_2 : wr.cell? ⟨gb252, 2, none⟩ = some (.int .i64 t249) := (blk_cell BK252.out 2).trans rfl
        have hcz83_3 : wr.cell? ⟨gb252, 3, none⟩ = some (.int .i64 t250) := (blk_cell BK252.out 3).trans rfl
        have hfz83_0 := blk_frozen BK252.out 0
        have hfz83_1 := blk_frozen BK252.out 1
        have hfz83_2 := blk_frozen BK252.out 2
        have hfz83_3 := blk_frozen BK252.out 3
        go_wp2
        go_ret3
        exact ⟨_, _, by rfl, by exact Kd.R_mono HO_11.out (fun _ hk => hk.1), by exact Kd.R_mono HO_12.out (fun _ hk => hk.1), by repeat ((with_reducible exact HB.out))⟩
       ·rw [if_neg c81] at H
        have c81b0 : (x13_2 == (wrap64 (t247 + t249))) = false := beq_eq_false_iff_ne.mpr c81
        have c81b1 : (x13_2 != (wrap64 (t247 + t249))) = true := bne_iff_ne.mpr c81
        simp only [Option.some.injEq, Prod.mk.injEq] at H
        obtain ⟨rfl, rfl, rfl⟩ := H
        have hnb84 := NB252_246.out
        have hnc84 := NB246_252.out
        have hcz85_0 : wr.cell? ⟨gb252, 0, none⟩ = some (.int .i64 t247) := (blk_cell BK252.out 0).trans rfl
        have hcz85_1 : wr.cell? ⟨gb252, 1, none⟩ = some (.int .i64 t248) := (blk_cell BK252.out 1).trans rfl
        have hcz85_2 : wr.cell? ⟨gb252, 2, none⟩ = some (.int .i64 t249) := (blk_cell BK252.out 2).trans rfl
        have hcz85_3 : wr.cell? ⟨gb252, 3, none⟩ = some (.int .i64 t250) := (blk_cell BK252.out 3).trans rfl
        have hfz85_0 := blk_frozen BK252.out 0
        have hfz85_1 := blk_frozen BK252.out 1
        have hfz85_2 := blk_frozen BK252.out 2
        have hfz85_3 := blk_frozen BK252.out 3
        go_wp2
        go_ret3
        exact ⟨_, _, by rfl, by exact Kd.R_nil _ _ _ _ _, by exact Kd.R_nil _ _ _ _ _, by repeat ((with_reducible exact HB.out))⟩

end Go.Proofs.Ytfdmfgaiblfbhaa.P
namespace Go.Proofs.Ytfdmfgaiblfbhaa.P
open Go.RowKit Go.Proofs.YtfdmfgaiblfbhaaW.PrintWords Go.Proofs.YtfdmfgaiblfbhaaW.PrintLast Go.Proofs.YtfdmfgaiblfbhaaW.PrintMore
attribute [local go_sem] max2_int min2_int max_two min_two max_three min_three max_four min_four   -- for this text's walks alone
set_option linter.unusedVariables false
set_option linter.unusedSimpArgs false

attribute [local go_sem high] eqA23
/-! ### sashlaw04_awake: function 44 -/
def sashlaw04_awake.f (k : Nat)  : Option (Bool) := (rect_Cut.f k 0 0 80 24 1 (([40, 39] : List Int))).bind fun bt285 => (if bt285.2.2 = true then (if (bt285.1.length : Int) = 2 then (if 1 < (bt285.1.length : Int) then (if (((rd_T23 bt285.1 1).f0) == 41 && (((rd_T23 bt285.1 1).f1) == 0 && (((rd_T23 bt285.1 1).f2) == 39 && (((rd_T23 bt285.1 1).f3) == 24)))) = true then (if (bt285.2.1.length : Int) = 1 then (if 0 < (bt285.2.1.length : Int) then (some (((rd_T23 bt285.2.1 0).f0) == 40 && (((rd_T23 bt285.2.1 0).f1) == 0 && (((rd_T23 bt285.2.1 0).f2) == 1 && (((rd_T23 bt285.2.1 0).f3) == 24))))) else (none)) else (some false)) else (some false)) else (none)) else (some false)) else (some false))
theorem sashlaw04_awake.mono : ∀ k, LeO (sashlaw04_awake.f k ) (sashlaw04_awake.f (k + 1) ) := by
 intro  k
 unfold sashlaw04_awake.f
 repeat' first | (with_reducible exact rect_Cut.mono _ _ _ _ _ _ _) | (with_reducible exact LeO.refl _) | (with_reducible refine LeO.bind ?_ (fun _ => ?_))
end Go.Proofs.Ytfdmfgaiblfbhaa.P
namespace Go.Proofs.Ytfdmfgaiblfbhaa.P
open Go.RowKit Go.Proofs.YtfdmfgaiblfbhaaW.PrintWords Go.Proofs.YtfdmfgaiblfbhaaW.PrintLast Go.Proofs.YtfdmfgaiblfbhaaW.PrintMore
attribute [local go_sem] max2_int min2_int max_two min_two max_three min_three max_four min_four   -- for this text's walks alone
set_option linter.unusedVariables false
set_option linter.unusedSimpArgs false

attribute [local go_sem high] eqA23
/-! ### sashref04_Same: function 47 -/
def sashref04_Same.l0 : Nat → List (S23) → List (S23) → Int → Int → Option (Bool)
 | 0, _, _, _, _ => none
 | k + 1, x0, x1, x12, x13 => if x13 < x12 then (if 0 ≤ x13 then (if x13 < (x0.length : Int) then (if x13 < (x1.length : Int) then (if (!(((rd_T23 x0 x13).f0) == ((rd_T23 x1 x13).f0)) || (!(((rd_T23 x0 x13).f1) == ((rd_T23 x1 x13).f1)) || (!(((rd_T23 x0 x13).f2) == ((rd_T23 x1 x13).f2)) || (!(((rd_T23 x0 x13).f3) == ((rd_T23 x1 x13).f3)))))) = true then (some false) else (sashref04_Same.l0 k x0 x1 x12 (wrap64 (x13 + 1)))) else (none)) else (none)) else (none)) else (some true)
def sashref04_Same.f (k : Nat) (l0 : List (S23)) (l1 : List (S23)) : Option (Bool) := if (l0.length : Int) = (l1.length : Int) then (sashref04_Same.l0 k l0 l1 (l0.length : Int) 0) else (some false)
end Go.Proofs.Ytfdmfgaiblfbhaa.P
/- How a law's arguments read: cells, rectangles, panes, and rows of these, as plain data. -/
namespace Go.Proofs.Ytfdmfgaiblfbhaa.P
open Go.RowKit Go.Proofs.YtfdmfgaiblfbhaaW.PrintWords Go.Proofs.YtfdmfgaiblfbhaaW.PrintLast Go.Proofs.YtfdmfgaiblfbhaaW.PrintMore
open Go.ChangeShapes Go.WideShapes Go.ChangeAt Go.Joins Go.Deep

/-! ### What is known of the numbers -/
def I64 (n : Int) : Prop := -9223372036854775808 ≤ n ∧ n ≤ 9223372036854775807
def U8 (n : Int) : Prop := 0 ≤ n ∧ n ≤ 255
def U16 (n : Int) : Prop := 0 ≤ n ∧ n ≤ 65535
def wf23 (r : S23) : Prop := I64 r.f0 ∧ I64 r.f1 ∧ I64 r.f2 ∧ I64 r.f3
def wf35 (p : S35) : Prop := I64 p.f0 ∧ wf23 p.f1
def wfn26 : Nat → S26 → Prop
  | 0, _ => False
  | n + 1, c => U8 c.f0 ∧ wf23 c.f1 ∧ I64 c.f2 ∧ c.f3.length ≤ 9223372036854775807 ∧ ∀ k, k ∈ c.f3 → wfn26 n k
def wf26 (c : S26) : Prop := ∃ n, wfn26 n c
theorem wfn26_le : ∀ {n m : Nat} (_ : n ≤ m) {c : S26}, wfn26 n c → wfn26 m c
  | 0, _, _, _, h => h.elim
  | n + 1, 0, hm, _, _ => absurd hm (by omega)
  | n + 1, m + 1, hm, _, h => ⟨h.1, h.2.1, h.2.2.1, h.2.2.2.1, fun k hk => wfn26_le (by omega) (h.2.2.2.2 k hk)⟩

section
variable {H : Type} {enc : TypeId × Value → H} {P : Program} {w : World} {base : Nat} {spare : Nat → Bool} {held : Bool}
theorem row_of {α : Type} {Q : Nat → α → Prop} : ∀ (n : Nat), (∀ i, i < n → ∃ p, Q i p) → ∃ l : List α, l.length = n ∧ ∀ i p, l[i]? = some p → Q i p
  | 0, _ => ⟨[], rfl, fun i p h => by simp at h⟩
  | n + 1, h => by
    obtain ⟨l, hl, hq⟩ := row_of n fun i hi => h i (by omega)
    obtain ⟨p, hp⟩ := h n (by omega)
    refine ⟨l ++ [p], by simp [hl], fun i q hi => ?_⟩
    rcases Nat.lt_trichotomy i n with h1 | h1 | h1
    · rw [List.getElem?_append_left (by omega)] at hi
      exact hq i q hi
    · subst h1
      rw [List.getElem?_append_right (by omega), hl, Nat.sub_self] at hi
      obtain rfl : p = q := by simpa using hi
      exact hp
    · rw [List.getElem?_eq_none (by simp; omega)] at hi
      cases hi
theorem cells_at {a : Addr} {n : Nat} {cs : List Value} (h : w.cells? base a n = some cs) : cs.length = n ∧ ∀ i u, cs[i]? = some u → w.cell? (a.add i) = some u := by
  obtain ⟨_, h1, h2⟩ := World.cells?_some h
  exact ⟨h1, fun i u hi => by
    have hlt : i < n := by rw [← h1]; exact (List.getElem?_eq_some_iff.1 hi).1
    rw [h2 i hlt, hi]⟩

end
section
variable {H : Type} {enc : TypeId × Value → H} {w : World} {base : Nat} {spare : Nat → Bool} {held : Bool}
theorem i64_of {n : Int} (h : (Lit.int .i64 n).wf = true) : I64 n := by
  have := bounds_i64 h
  unfold I64
  omega
theorem u8_of {n : Int} (h : (Lit.int .u8 n).wf = true) : U8 n := bounds_u8 h
theorem agg_of {a : Array Value} {l : List Value} (h : (Value.agg a).cells.toList = l) : a = l.toArray := by
  subst h
  simp [Value.cells]
theorem cells23 : Try.prog.cellsOf 23 = 4 := by kernel_rfl
theorem cells26 : Try.prog.cellsOf 26 = 7 := by kernel_rfl
theorem cells3 : Try.prog.cellsOf 3 = 1 := by kernel_rfl
theorem cells5 : Try.prog.cellsOf 5 = 1 := by kernel_rfl
theorem cells24 : Try.prog.cellsOf 24 = 1 := by kernel_rfl
set_option maxRecDepth 100000 in
theorem read23 {fuel : Nat} {cs : List Value} {x : DataW H × List MemPlace} (h : DataW.trod enc Try.prog w base spare held fuel 23 cs = some x) : ∃ r : S23, k23.K w r cs ∧ wf23 r := by
  obtain ⟨y0, y1, y2, y3, n, _, hl, h0, h1, h2, h3⟩ := trod_struct4 Try.underlying23 h
  rw [cells23] at hl
  match cs, hl with
  | [c0, c1, c2, c3], _ =>
    simp only [cells3, List.drop_zero, List.take_succ_cons, List.take_zero, List.drop_succ_cons] at h0 h1 h2 h3
    obtain ⟨n0, e0, _, w0⟩ := DataW.trod_int Try.underlying3 h0
    obtain ⟨n1, e1, _, w1⟩ := DataW.trod_int Try.underlying3 h1
    obtain ⟨n2, e2, _, w2⟩ := DataW.trod_int Try.underlying3 h2
    obtain ⟨n3, e3, _, w3⟩ := DataW.trod_int Try.underlying3 h3
    simp only [List.cons.injEq, and_true] at e0 e1 e2 e3
    subst e0 e1 e2 e3
    exact ⟨⟨n0, n1, n2, n3⟩, k23_mk w ⟨n0, n1, n2, n3⟩, i64_of w0, i64_of w1, i64_of w2, i64_of w3⟩
end
end Go.Proofs.Ytfdmfgaiblfbhaa.P
