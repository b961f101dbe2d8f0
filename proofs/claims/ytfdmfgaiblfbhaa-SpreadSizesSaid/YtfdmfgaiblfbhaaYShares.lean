/- What adjust.Shares answers, beside the reference's: one list, even; plain lists, no program. -/
import Derived.Test.YtfdmfgaiblfbhaaPF48
import Derived.Test.YtfdmfgaiblfbhaaPF49
import Derived.Test.YtfdmfgaiblfbhaaX50
namespace Go.Proofs.Ytfdmfgaiblfbhaa.P
open Go.RowKit Go.Proofs.YtfdmfgaiblfbhaaW.PrintWords Go.Proofs.YtfdmfgaiblfbhaaW.PrintLast Go.Proofs.YtfdmfgaiblfbhaaW.PrintMore
/-! ### Plain law of shares: no program in sight -/
theorem wp {x : Int} (h0 : -9223372036854775808 ≤ x) (h1 : x ≤ 9223372036854775807) : wrap64 x = x := by unfold wrap64; omega

/-- What is taken in one go: m of each that can give, as long as there is something to take. -/
def bat (m : Int) : Int → List (Int × Int) → Int × List (Int × Int)
  | b, [] => (b, [])
  | b, p :: ps => if p.1 + p.2 > 0 then (if b > 0 then ((bat m (b - mn m b) ps).1, (p.1, p.2 - mn m b) :: (bat m (b - mn m b) ps).2) else ((bat m b ps).1, p :: (bat m b ps).2)) else ((bat m b ps).1, p :: (bat m b ps).2)
def able : List (Int × Int) → Int
  | [] => 0
  | p :: ps => (if p.1 + p.2 > 0 then 1 else 0) + able ps
def lst : Int → List (Int × Int) → Int
  | m, [] => m
  | m, p :: ps => lst (if p.1 + p.2 > 0 then mn m (p.1 + p.2) else m) ps
def avail : List (Int × Int) → Int
  | [] => 0
  | p :: ps => (p.1 + p.2) + avail ps
def outs : List (Int × Int) → Int
  | [] => 0
  | p :: ps => p.2 + outs ps
def Good (ps : List (Int × Int)) : Prop := ∀ p, p ∈ ps → 0 ≤ p.1 ∧ p.1 ≤ 2147483647 ∧ -p.1 ≤ p.2 ∧ p.2 ≤ 0
def decr (m : Int) (ps : List (Int × Int)) : List (Int × Int) := ps.map fun p => (p.1, p.2 - if p.1 + p.2 > 0 then m else 0)
def Even0 (ps : List (Int × Int)) : Prop := ∀ p, p ∈ ps → ∀ q, q ∈ ps → p.2 > q.2 → p.1 + p.2 = 0
def Even1 (ps : List (Int × Int)) : Prop := ∀ p, p ∈ ps → ∀ q, q ∈ ps → p.2 > q.2 + 1 → p.2 = -p.1

theorem Good.tail {p : Int × Int} {ps : List (Int × Int)} (h : Good (p :: ps)) : Good ps := fun q hq => h q (List.mem_cons_of_mem _ hq)
theorem Good.head {p : Int × Int} {ps : List (Int × Int)} (h : Good (p :: ps)) : 0 ≤ p.1 ∧ p.1 ≤ 2147483647 ∧ -p.1 ≤ p.2 ∧ p.2 ≤ 0 := h p List.mem_cons_self

theorem able_range (ps : List (Int × Int)) : 0 ≤ able ps ∧ able ps ≤ ps.length := by
  induction ps with
  | nil => simp [able]
  | cons p ps ih => simp only [able, List.length_cons]; split <;> omega
theorem able_pos {ps : List (Int × Int)} (hg : Good ps) (h : 0 < avail ps) : 0 < able ps := by
  induction ps with
  | nil => simp [avail] at h
  | cons p ps ih =>
    have hr := able_range ps
    simp only [avail] at h
    simp only [able]
    split
    · omega
    · rename_i hp
      have := ih hg.tail (by omega)
      omega
theorem lst_le (ps : List (Int × Int)) : ∀ m, lst m ps ≤ m := by
  induction ps with
  | nil => intro m; simp [lst]
  | cons p ps ih =>
    intro m
    simp only [lst]
    have h1 := ih (if p.1 + p.2 > 0 then mn m (p.1 + p.2) else m)
    have h2 : (if p.1 + p.2 > 0 then mn m (p.1 + p.2) else m) ≤ m := by
      split
      · unfold mn; split <;> omega
      · exact Int.le_refl _
    omega
theorem lst_all (ps : List (Int × Int)) : ∀ m, ∀ p, p ∈ ps → p.1 + p.2 > 0 → lst m ps ≤ p.1 + p.2 := by
  induction ps with
  | nil => intro m p hp; cases hp
  | cons q ps ih =>
    intro m p hp h
    simp only [lst]
    rcases List.mem_cons.1 hp with rfl | hp
    · rw [if_pos h]
      have h1 := lst_le ps (mn m (p.1 + p.2))
      have h2 : mn m (p.1 + p.2) ≤ p.1 + p.2 := by unfold mn; split <;> omega
      omega
    · exact ih _ p hp h
theorem lst_pos (ps : List (Int × Int)) : ∀ m, 0 < m → 0 < lst m ps := by
  induction ps with
  | nil => intro m h; simpa [lst] using h
  | cons q ps ih =>
    intro m h
    simp only [lst]
    apply ih
    unfold mn
    split
    · split <;> omega
    · exact h

theorem bat_full {m : Int} (hm : 0 < m) : ∀ (ps : List (Int × Int)) (b : Int), m * able ps ≤ b → bat m b ps = (b - m * able ps, decr m ps) := by
  intro ps
  induction ps with
  | nil => intro b _; simp [bat, able, decr]
  | cons p ps ih =>
    intro b hb
    have hr := able_range ps
    have hmn : 0 ≤ m * able ps := Int.mul_nonneg (by omega) hr.1
    simp only [able] at hb ⊢
    by_cases hp : p.1 + p.2 > 0
    · simp only [if_pos hp] at hb ⊢
      rw [Int.mul_add, Int.mul_one] at hb ⊢
      have h1 : mn m b = m := by unfold mn; split <;> omega
      have h2 := ih (b - m) (by omega)
      simp only [bat]
      rw [if_pos hp, if_pos (by omega), h1, h2]
      simp only [decr, List.map_cons, if_pos hp, Prod.mk.injEq, and_true]
      omega
    · simp only [if_neg hp] at hb ⊢
      rw [Int.zero_add] at hb ⊢
      simp only [bat]
      rw [if_neg hp, ih b hb]
      simp only [decr, List.map_cons, if_neg hp, Int.sub_zero]
theorem bat_part : ∀ (ps : List (Int × Int)) (b : Int), 0 ≤ b → b ≤ able ps → (bat 1 b ps).1 = 0 := by
  intro ps
  induction ps with
  | nil => intro b h0 h; simp only [able] at h; simp only [bat]; omega
  | cons p ps ih =>
    intro b h0 h
    simp only [able] at h
    simp only [bat]
    by_cases hp : p.1 + p.2 > 0
    · rw [if_pos hp] at h ⊢
      by_cases hb : b > 0
      · rw [if_pos hb]
        have h1 : mn 1 b = 1 := by unfold mn; split <;> omega
        rw [h1]
        exact ih (b - 1) (by omega) (by omega)
      · rw [if_neg hb]
        exact ih b h0 (by have := able_range ps; omega)
    · rw [if_neg hp] at h ⊢
      exact ih b h0 (by omega)
theorem bat_fst (m : Int) : ∀ (ps : List (Int × Int)) (b : Int), (bat m b ps).2.map Prod.fst = ps.map Prod.fst := by
  intro ps
  induction ps with
  | nil => intro b; simp [bat]
  | cons p ps ih =>
    intro b
    simp only [bat]
    split
    · split <;> simp [ih]
    · simp [ih]
theorem bat_len (m : Int) (ps : List (Int × Int)) (b : Int) : (bat m b ps).2.length = ps.length := by
  have := congrArg List.length (bat_fst m ps b)
  simpa using this
/-- Each pair behind a round of one: itself, or, if it could give, one less. -/
theorem bat_mem : ∀ (ps : List (Int × Int)) (b : Int) (q : Int × Int), q ∈ (bat 1 b ps).2 → ∃ p, p ∈ ps ∧ q.1 = p.1 ∧ (q.2 = p.2 ∨ (p.1 + p.2 > 0 ∧ q.2 = p.2 - 1)) := by
  intro ps
  induction ps with
  | nil => intro b q hq; simp [bat] at hq
  | cons p ps ih =>
    intro b q hq
    simp only [bat] at hq
    have key : ∀ b' , q ∈ (bat 1 b' ps).2 → ∃ p_1, p_1 ∈ p :: ps ∧ q.1 = p_1.1 ∧ (q.2 = p_1.2 ∨ (p_1.1 + p_1.2 > 0 ∧ q.2 = p_1.2 - 1)) := fun b' h => by
      obtain ⟨p', h1, h2⟩ := ih b' q h
      exact ⟨p', List.mem_cons_of_mem _ h1, h2⟩
    split at hq
    · rename_i hp
      split at hq
      · rename_i hb
        simp only [List.mem_cons] at hq
        rcases hq with rfl | hq
        · refine ⟨p, List.mem_cons_self, rfl, .inr ⟨hp, ?_⟩⟩
          have h1 : mn 1 b = 1 := by unfold mn; split <;> omega
          simp only [h1]
        · exact key _ hq
      · simp only [List.mem_cons] at hq
        rcases hq with rfl | hq
        · exact ⟨_, List.mem_cons_self, rfl, .inl rfl⟩
        · exact key _ hq
    · simp only [List.mem_cons] at hq
      rcases hq with rfl | hq
      · exact ⟨_, List.mem_cons_self, rfl, .inl rfl⟩
      · exact key _ hq
theorem bat_outs (m : Int) : ∀ (ps : List (Int × Int)) (b : Int), outs (bat m b ps).2 - (bat m b ps).1 = outs ps - b := by
  intro ps
  induction ps with
  | nil => intro b; simp [bat]
  | cons p ps ih =>
    intro b
    simp only [bat]
    split
    · split
      · have := ih (b - mn m b); simp only [outs]; omega
      · have := ih b; simp only [outs]; omega
    · have := ih b; simp only [outs]; omega

theorem decr_fst (m : Int) (ps : List (Int × Int)) : (decr m ps).map Prod.fst = ps.map Prod.fst := by simp [decr, List.map_map, Function.comp_def]
theorem decr_good {m : Int} {ps : List (Int × Int)} (hm : 0 ≤ m) (hg : Good ps) (hl : ∀ p, p ∈ ps → p.1 + p.2 > 0 → m ≤ p.1 + p.2) : Good (decr m ps) := by
  intro q hq
  obtain ⟨p, hp, rfl⟩ := List.mem_map.1 hq
  have h1 := hg p hp
  have h2 := hl p hp
  simp only
  split <;> omega
theorem decr_avail (m : Int) (ps : List (Int × Int)) : avail (decr m ps) = avail ps - m * able ps := by
  induction ps with
  | nil => simp [decr, avail, able]
  | cons p ps ih =>
    have e : decr m (p :: ps) = (p.1, p.2 - if p.1 + p.2 > 0 then m else 0) :: decr m ps := rfl
    rw [e]
    simp only [avail, able, ih]
    rw [Int.mul_add]
    split
    · rw [Int.mul_one]; omega
    · rw [Int.mul_zero]; omega
theorem decr_even {m : Int} {ps : List (Int × Int)} (hg : Good ps) (he : Even0 ps) (hm : 0 ≤ m) : Even0 (decr m ps) := by
  intro p' hp' q' hq' h
  obtain ⟨p, hp, rfl⟩ := List.mem_map.1 hp'
  obtain ⟨q, hq, rfl⟩ := List.mem_map.1 hq'
  have h1 := he p hp q hq
  have h2 := hg p hp
  have h3 := hg q hq
  simp only at h ⊢
  by_cases c1 : p.1 + p.2 > 0
  · rw [if_pos c1] at h ⊢
    by_cases c2 : q.1 + q.2 > 0
    · rw [if_pos c2] at h; omega
    · rw [if_neg c2] at h; omega
  · rw [if_neg c1] at h ⊢
    by_cases c2 : q.1 + q.2 > 0
    · rw [if_pos c2] at h; omega
    · rw [if_neg c2] at h; omega
/-- m + 1 rounds at once: one, then m. -/
theorem decr_succ {m : Int} {ps : List (Int × Int)} (hm : 0 < m) (hl : ∀ p, p ∈ ps → p.1 + p.2 > 0 → m + 1 ≤ p.1 + p.2) : decr (m + 1) ps = decr m (decr 1 ps) ∧ able (decr 1 ps) = able ps := by
  constructor
  · simp only [decr, List.map_map]
    apply List.map_congr_left
    intro p hp
    have := hl p hp
    simp only [Function.comp_def, Prod.mk.injEq, true_and]
    by_cases h : p.1 + p.2 > 0
    · rw [if_pos h, if_pos h, if_pos (by omega)]; omega
    · rw [if_neg h, if_neg h, if_neg (by omega)]; omega
  · induction ps with
    | nil => rfl
    | cons p ps ih =>
      have e : decr 1 (p :: ps) = (p.1, p.2 - if p.1 + p.2 > 0 then 1 else 0) :: decr 1 ps := rfl
      rw [e]
      simp only [able]
      rw [ih fun q hq => hl q (List.mem_cons_of_mem _ hq)]
      have := hl p List.mem_cons_self
      by_cases h : p.1 + p.2 > 0
      · rw [if_pos h, if_pos (by omega)]
      · rw [if_neg h, if_neg (by omega)]
theorem bat_even {ps : List (Int × Int)} {b : Int} (he : Even0 ps) : Even1 (bat 1 b ps).2 := by
  intro p' hp' q' hq' h
  obtain ⟨p, hp, e1, e2⟩ := bat_mem ps b p' hp'
  obtain ⟨q, hq, e3, e4⟩ := bat_mem ps b q' hq'
  have h1 := he p hp q hq
  omega
theorem even01 {ps : List (Int × Int)} (he : Even0 ps) : Even1 ps := by
  intro p hp q hq h
  have := he p hp q hq
  omega
theorem bat_good {ps : List (Int × Int)} {b : Int} (hg : Good ps) : Good (bat 1 b ps).2 := by
  intro p' hp'
  obtain ⟨p, hp, e1, e2⟩ := bat_mem ps b p' hp'
  have := hg p hp
  omega
/-! ### The loops -/
theorem Ev.ite_pos {α : Type} {c : Prop} [Decidable c] {g f : Nat → Option α} {r : α} (hc : c) (h : Ev g r) : Ev (fun k => if c then g k else f k) r := by simp only [if_pos hc]; exact h
theorem Ev.ite_neg {α : Type} {c : Prop} [Decidable c] {g f : Nat → Option α} {r : α} (hc : ¬c) (h : Ev f r) : Ev (fun k => if c then g k else f k) r := by simp only [if_neg hc]; exact h
theorem rd_pre {α : Type} (f : α → Int) (pre : List α) (p : α) (rest : List α) : rd ((pre ++ p :: rest).map f) (pre.length : Int) = f p := by
  simp [rd, List.getD_eq_getElem?_getD]
theorem rd_pre' (pre : List Int) (p : Int) (rest : List Int) : rd (pre ++ p :: rest) (pre.length : Int) = p := by
  simp [rd, List.getD_eq_getElem?_getD]

/-- adjust.less, the first inner loop. -/
theorem less_l1 (b : Int) (q : Int) (r : List Int) (hb0 : 0 < b) (hb1 : b ≤ 2147483647) : ∀ (rest pre : List (Int × Int)) (A L : Int), Good (pre ++ rest) → (pre ++ rest).length ≤ 100000 → 0 ≤ A → A ≤ pre.length →
    A + able rest ≠ 0 → q = mx 1 (mn (lst L rest) (b / (A + able rest))) →
    Ev (fun k => adjust_less.l2 k b ((pre ++ rest).map Prod.fst) ((pre ++ rest).map Prod.snd) q ((pre ++ rest).map Prod.fst) ((pre ++ rest).length : Int) 0) r →
    Ev (fun k => adjust_less.l1 k b ((pre ++ rest).map Prod.fst) ((pre ++ rest).map Prod.snd) A L ((pre ++ rest).map Prod.fst) ((pre ++ rest).length : Int) (pre.length : Int)) r := by
  intro rest
  induction rest with
  | nil =>
    intro pre A L hg hl h0 h1 hne hq h
    refine Ev.step (f := fun k => adjust_less.l2 k b ((pre ++ []).map Prod.fst) ((pre ++ []).map Prod.snd) q ((pre ++ []).map Prod.fst) ((pre ++ []).length : Int) 0) (fun k => ?_) h
    simp only [adjust_less.l1]
    simp only [able, Int.add_zero, lst] at hne hq
    have hdiv : wrap64 (Int.tdiv b A) = b / A := by
      rw [Int.tdiv_eq_ediv_of_nonneg (by omega)]
      have h2 : 0 ≤ b / A := Int.ediv_nonneg (by omega) h0
      have h3 : b / A ≤ b := Int.ediv_le_self _ (by omega)
      exact wp (by omega) (by omega)
    rw [if_neg (by simp), if_neg hne, hdiv, ← hq]
    simp
  | cons p rest ih =>
    intro pre A L hg hl h0 h1 hne hq h
    have hp := hg p (by simp)
    have hlen : ((pre ++ p :: rest).length : Int) = pre.length + (rest.length + 1) := by simp
    have hl' : (pre.length : Int) + (rest.length + 1) ≤ 100000 := by omega
    have hw : wrap64 ((pre.length : Int) + 1) = ((pre ++ [p]).length : Int) := by rw [wp (by omega) (by omega)]; simp
    have e : pre ++ p :: rest = (pre ++ [p]) ++ rest := by simp
    have hsum : wrap64 (p.1 + p.2) = p.1 + p.2 := wp (by omega) (by omega)
    refine Ev.step (f := fun k => adjust_less.l1 k b (((pre ++ [p]) ++ rest).map Prod.fst) (((pre ++ [p]) ++ rest).map Prod.snd) (A + if p.1 + p.2 > 0 then 1 else 0) (if p.1 + p.2 > 0 then mn L (p.1 + p.2) else L) (((pre ++ [p]) ++ rest).map Prod.fst) (((pre ++ [p]) ++ rest).length : Int) ((pre ++ [p]).length : Int)) (fun k => ?_) (ih (pre ++ [p]) _ _ (by rw [← e]; exact hg) (by rw [← e]; exact hl) (by split <;> omega) (by simp; split <;> omega) (by simp only [able] at hne; omega) (by simp only [able, lst] at hq; rw [hq, Int.add_assoc]) (by rw [← e]; exact h))
    simp only [adjust_less.l1]
    rw [rd_pre, rd_pre, hsum, if_pos (by omega), if_pos (by omega), if_pos (by simp; omega), if_pos (by simp; omega), hw, ← e]
    by_cases hc : p.1 + p.2 > 0
    · rw [if_pos hc, if_pos hc, if_pos hc, wp (by omega) (by omega)]
    · rw [if_neg hc, if_neg hc, if_neg hc, Int.add_zero]

/-- The second one: what is taken. -/
theorem less_l2 (m : Int) (r : List Int) (hm : 0 < m) : ∀ (rest pre : List (Int × Int)) (b : Int), 0 ≤ b → b ≤ 2147483647 → Good (pre ++ rest) → (∀ p, p ∈ rest → p.1 + p.2 > 0 → m ≤ p.1 + p.2) → (pre ++ rest).length ≤ 100000 →
    Ev (fun k => adjust_less.l0 k (bat m b rest).1 ((pre ++ rest).map Prod.fst) ((pre ++ (bat m b rest).2).map Prod.snd)) r →
    Ev (fun k => adjust_less.l2 k b ((pre ++ rest).map Prod.fst) ((pre ++ rest).map Prod.snd) m ((pre ++ rest).map Prod.fst) ((pre ++ rest).length : Int) (pre.length : Int)) r := by
  intro rest
  induction rest with
  | nil =>
    intro pre b h0 h1 hg hl hlen h
    simp only [bat] at h
    refine Ev.step (fun k => ?_) h
    simp only [adjust_less.l2]
    rw [if_neg (by simp)]
  | cons p rest ih =>
    intro pre b h0 h1 hg hl hlen h
    have hp := hg p (by simp)
    have hlen' : ((pre ++ p :: rest).length : Int) = pre.length + (rest.length + 1) := by simp
    have hl' : (pre.length : Int) + (rest.length + 1) ≤ 100000 := by omega
    have hw : wrap64 ((pre.length : Int) + 1) = (pre.length : Int) + 1 := wp (by omega) (by omega)
    have hsum : wrap64 (p.1 + p.2) = p.1 + p.2 := wp (by omega) (by omega)
    have hmp := hl p (by simp)
    have hmn : 0 ≤ mn m b ∧ mn m b ≤ m ∧ mn m b ≤ b := by unfold mn; split <;> omega
    -- what stands behind this kid
    have step : ∀ (b' : Int) (p' : Int × Int), p'.1 = p.1 → -p'.1 ≤ p'.2 → p'.2 ≤ 0 → 0 ≤ b' → b' ≤ 2147483647 → bat m b (p :: rest) = ((bat m b' rest).1, p' :: (bat m b' rest).2) →
        Ev (fun k => adjust_less.l2 k b' ((pre ++ p :: rest).map Prod.fst) ((pre ++ p' :: rest).map Prod.snd) m ((pre ++ p :: rest).map Prod.fst) ((pre ++ p :: rest).length : Int) ((pre.length : Int) + 1)) r := by
      intro b' p' e1 e2 e3 e4 e5 eb
      have f1 : (pre ++ p :: rest).map Prod.fst = ((pre ++ [p']) ++ rest).map Prod.fst := by simp [e1]
      have f2 : (pre ++ p' :: rest).map Prod.snd = ((pre ++ [p']) ++ rest).map Prod.snd := by simp
      have f3 : ((pre ++ p :: rest).length : Int) = (((pre ++ [p']) ++ rest).length : Int) := by simp
      have f4 : (pre.length : Int) + 1 = ((pre ++ [p']).length : Int) := by simp
      have hg' : Good ((pre ++ [p']) ++ rest) := by
        intro q hq
        simp only [List.append_assoc, List.mem_append, List.mem_cons, List.not_mem_nil, or_false] at hq
        rcases hq with hq | rfl | hq
        · exact hg q (by simp [hq])
        · omega
        · exact hg q (by simp [hq])
      rw [f1, f2, f3, f4]
      refine ih (pre ++ [p']) b' e4 e5 hg' (fun q hq => hl q (by simp [hq])) (by simp; omega) ?_
      rw [eb] at h
      rw [← f1, List.append_assoc]
      exact h
    refine Ev.step (f := fun k => if p.1 + p.2 > 0 then (if b > 0 then adjust_less.l2 k (b - mn m b) ((pre ++ p :: rest).map Prod.fst) ((pre ++ (p.1, p.2 - mn m b) :: rest).map Prod.snd) m ((pre ++ p :: rest).map Prod.fst) ((pre ++ p :: rest).length : Int) ((pre.length : Int) + 1) else adjust_less.l2 k b ((pre ++ p :: rest).map Prod.fst) ((pre ++ p :: rest).map Prod.snd) m ((pre ++ p :: rest).map Prod.fst) ((pre ++ p :: rest).length : Int) ((pre.length : Int) + 1)) else adjust_less.l2 k b ((pre ++ p :: rest).map Prod.fst) ((pre ++ p :: rest).map Prod.snd) m ((pre ++ p :: rest).map Prod.fst) ((pre ++ p :: rest).length : Int) ((pre.length : Int) + 1)) (fun k => ?_) ?_
    · simp only [adjust_less.l2]
      rw [rd_pre, rd_pre, hsum, if_pos (by omega), if_pos (by omega), if_pos (by simp; omega), if_pos (by simp; omega), hw]
      by_cases hc : p.1 + p.2 > 0
      · rw [if_pos hc, if_pos hc]
        by_cases hb : b > 0
        · rw [if_pos hb, if_pos hb, wp (by omega) (by omega), wp (by omega) (by omega)]
          congr 1
          simp
        · rw [if_neg hb, if_neg hb]
      · rw [if_neg hc, if_neg hc]
    · by_cases hc : p.1 + p.2 > 0
      · by_cases hb : b > 0
        · refine Ev.ite_pos hc (Ev.ite_pos hb (step (b - mn m b) (p.1, p.2 - mn m b) rfl (by simp only; omega) (by simp only; omega) (by omega) (by omega) ?_))
          simp only [bat]
          rw [if_pos hc, if_pos hb]
        · refine Ev.ite_pos hc (Ev.ite_neg hb (step b p rfl (by omega) (by omega) h0 h1 ?_))
          simp only [bat]
          rw [if_pos hc, if_neg hb]
      · refine Ev.ite_neg hc (step b p rfl (by omega) (by omega) h0 h1 ?_)
        simp only [bat]
        rw [if_neg hc]
/-- The whole of adjust.less beside the reference's loop: one result, even. -/
theorem bat_one (ps : List (Int × Int)) : ∀ b : Int, 0 ≤ b → rround (-b) ps = (-(bat 1 b ps).1, (bat 1 b ps).2) := by
  induction ps with
  | nil => intro b _; simp [rround, bat]
  | cons p ps ih =>
    intro b hb
    simp only [rround, bat]
    by_cases hp : p.1 + p.2 > 0
    · rw [if_pos hp]
      by_cases h : b > 0
      · rw [if_pos h]
        have h1 : mn 1 b = 1 := by unfold mn; split <;> omega
        have e : rstep (-b) p = (-(b - 1), (p.1, p.2 - 1)) := by
          unfold rstep
          rw [if_neg (by omega), if_pos ⟨by omega, hp⟩]
          congr 1
          omega
        rw [e, h1]
        simp only
        rw [ih (b - 1) (by omega)]
      · rw [if_neg h]
        have e : rstep (-b) p = (-b, p) := by
          unfold rstep
          rw [if_neg (by omega), if_neg (by omega)]
        rw [e]
        simp only
        rw [ih b hb]
    · rw [if_neg hp]
      have e : rstep (-b) p = (-b, p) := by
        unfold rstep
        rw [if_neg (by omega), if_neg (by omega)]
      rw [e]
      simp only
      rw [ih b hb]
/-- One round of the reference. -/
theorem ref_round {b : Int} {ps : List (Int × Int)} {r : List Int × Bool} (hb : 0 < b) (hne : (bat 1 b ps).1 ≠ b) (h : Ev (fun k => rloop k (-(bat 1 b ps).1) (bat 1 b ps).2) r) : Ev (fun k => rloop k (-b) ps) r := by
  refine Ev.step (fun k => ?_) h
  simp only [rloop]
  rw [if_neg (by omega), bat_one ps b (by omega)]
  simp only
  rw [if_neg (by omega)]
/-- m rounds of the reference at once. -/
theorem ref_rounds {r : List Int × Bool} : ∀ (m : Nat) (b : Int) (ps : List (Int × Int)), 0 < able ps → ((m : Int) + 1) * able ps ≤ b → (∀ p, p ∈ ps → p.1 + p.2 > 0 → (m : Int) + 1 ≤ p.1 + p.2) →
    Ev (fun k => rloop k (-(b - ((m : Int) + 1) * able ps)) (decr ((m : Int) + 1) ps)) r → Ev (fun k => rloop k (-b) ps) r := by
  intro m
  induction m with
  | zero =>
    intro b ps ha hb hl h
    have e := bat_full (m := 1) (by omega) ps b (by simpa using hb)
    have hb' : able ps ≤ b := by simpa using hb
    refine ref_round (by omega) (by rw [e]; simp only; omega) ?_
    rw [e]
    simpa using h
  | succ m ih =>
    intro b ps ha hb hl h
    have hx : 0 ≤ ((m : Int) + 1) * able ps := Int.mul_nonneg (by omega) (by omega)
    have hm : (((m + 1 : Nat) : Int) + 1) * able ps = ((m : Int) + 1) * able ps + able ps := by rw [show (((m + 1 : Nat) : Int) + 1) = ((m : Int) + 1) + 1 by omega, Int.add_mul, Int.one_mul]
    rw [hm] at hb h
    have e := bat_full (m := 1) (by omega) ps b (by omega)
    obtain ⟨d1, d2⟩ := decr_succ (m := (m : Int) + 1) (ps := ps) (by omega) (fun p hp hc => by have := hl p hp hc; omega)
    refine ref_round (by omega) (by rw [e]; simp only; omega) ?_
    rw [e]
    simp only [Int.one_mul]
    refine ih (b - able ps) (decr 1 ps) (by omega) (by rw [d2]; omega) ?_ ?_
    · intro q hq hc
      obtain ⟨p, hp, rfl⟩ := List.mem_map.1 hq
      have := hl p hp
      simp only at hc ⊢
      by_cases hc1 : p.1 + p.2 > 0
      · rw [if_pos hc1] at hc ⊢
        have := this hc1
        omega
      · rw [if_neg hc1] at hc
        omega
    · rw [d2, ← d1]
      refine Ev.congr (fun k => ?_) h
      rw [show (((m + 1 : Nat) : Int) + 1) = ((m : Int) + 1) + 1 by omega]
      congr 2
      omega

theorem less_both : ∀ (n : Nat) (b : Int) (ps : List (Int × Int)), b.toNat = n → 0 ≤ b → b ≤ 2147483647 → Good ps → Even0 ps → ps.length ≤ 100000 → b ≤ avail ps →
    ∃ qs : List (Int × Int), Ev (fun k => adjust_less.l0 k b (ps.map Prod.fst) (ps.map Prod.snd)) (qs.map Prod.snd) ∧ Ev (fun k => rloop k (-b) ps) (qs.map Prod.snd, true) ∧
      qs.map Prod.fst = ps.map Prod.fst ∧ Good qs ∧ Even1 qs ∧ outs qs = outs ps - b := by
  intro n
  induction n using Nat.strongRecOn with
  | _ n IH =>
  intro b ps hn h0 h1 hg he hl hav
  by_cases hb : b > 0
  · have hab := able_pos hg (by omega)
    have har := able_range ps
    have hlst := lst_pos ps b hb
    have hlle := lst_le ps b
    have hm1 : 1 ≤ mx 1 (mn (lst b ps) (b / able ps)) := by unfold mx; split <;> omega
    -- the step of adjust.less
    have stepL : ∀ (m : Int), m = mx 1 (mn (lst b ps) (b / able ps)) → (∀ p, p ∈ ps → p.1 + p.2 > 0 → m ≤ p.1 + p.2) → ∀ r, Ev (fun k => adjust_less.l0 k (bat m b ps).1 (ps.map Prod.fst) ((bat m b ps).2.map Prod.snd)) r → Ev (fun k => adjust_less.l0 k b (ps.map Prod.fst) (ps.map Prod.snd)) r := by
      intro m hm hml r h
      refine Ev.step (f := fun k => adjust_less.l1 k b (ps.map Prod.fst) (ps.map Prod.snd) 0 b (ps.map Prod.fst) ((ps.map Prod.fst).length : Int) 0) (fun k => ?_) ?_
      · simp only [adjust_less.l0]; rw [if_pos hb]
      · have l2 := less_l2 m r (by omega) ps [] b h0 h1 (by simpa using hg) hml (by simpa using hl) (by simpa using h)
        have l1 := less_l1 b m r hb h1 ps [] 0 b (by simpa using hg) (by simpa using hl) (by omega) (by simp) (by omega) (by rw [Int.zero_add]; exact hm) (by simpa using l2)
        simpa using l1
    by_cases hfull : able ps ≤ b
    · -- whole rounds
      have hq1 : 1 ≤ b / able ps := by rw [Int.le_ediv_iff_mul_le hab]; omega
      have hm : mx 1 (mn (lst b ps) (b / able ps)) = mn (lst b ps) (b / able ps) := by unfold mx mn; split <;> split at * <;> omega
      have hmn1 : 1 ≤ mn (lst b ps) (b / able ps) := by unfold mn; split <;> omega
      generalize hmm : mn (lst b ps) (b / able ps) = m at hm
      have hm0 : 1 ≤ m := by rw [← hmm]; exact hmn1
      have hml1 : m ≤ lst b ps := by rw [← hmm]; unfold mn; split <;> omega
      have hml2 : m ≤ b / able ps := by rw [← hmm]; unfold mn; split <;> omega
      have hall : ∀ p, p ∈ ps → p.1 + p.2 > 0 → m ≤ p.1 + p.2 := fun p hp hc => Int.le_trans hml1 (lst_all ps b p hp hc)
      have hmb : m * able ps ≤ b := (Int.le_ediv_iff_mul_le hab).1 hml2
      have hma : able ps ≤ m * able ps := by have := Int.mul_le_mul_of_nonneg_right hm0 (show 0 ≤ able ps by omega); omega
      have ebat := bat_full (m := m) (by omega) ps b hmb
      obtain ⟨qs, q1, q2, q3, q4, q5, q6⟩ := IH (b - m * able ps).toNat (by omega) (b - m * able ps) (decr m ps) rfl (by omega) (by omega) (decr_good (by omega) hg hall) (decr_even hg he (by omega)) (by simpa [decr] using hl) (by rw [decr_avail]; omega)
      rw [decr_fst] at q1 q3
      have eo : outs (decr m ps) = outs ps - m * able ps := by
        have := bat_outs m ps b
        rw [ebat] at this
        simp only at this
        omega
      refine ⟨qs, stepL m (by rw [hmm, hm]) hall _ (by rw [ebat]; exact q1), ?_, q3, q4, q5, by omega⟩
      obtain ⟨m', rfl⟩ : ∃ m' : Nat, m = (m' : Int) + 1 := ⟨(m - 1).toNat, by omega⟩
      exact ref_rounds m' b ps hab hmb hall q2
    · -- the last one
      have hq0 : b / able ps = 0 := Int.ediv_eq_zero_of_lt h0 (by omega)
      have hm : mx 1 (mn (lst b ps) (b / able ps)) = 1 := by rw [hq0]; unfold mx mn; split <;> split at * <;> omega
      have hz := bat_part ps b h0 (by omega)
      have eo := bat_outs 1 ps b
      refine ⟨(bat 1 b ps).2, stepL 1 hm.symm (fun p _ hc => by omega) _ ?_, ref_round hb (by omega) ?_, bat_fst 1 ps b, bat_good hg, bat_even he, by omega⟩
      · rw [hz]
        refine Ev.step (fun k => ?_) (Ev.now _)
        simp only [adjust_less.l0]
        rw [if_neg (by omega)]
      · rw [hz]
        refine Ev.step (fun k => ?_) (Ev.now _)
        simp only [rloop]
        rw [if_pos (by omega)]
  · obtain rfl : b = 0 := by omega
    refine ⟨ps, ?_, ?_, rfl, hg, even01 he, by omega⟩
    · refine Ev.step (fun k => ?_) (Ev.now _)
      simp only [adjust_less.l0]
      rw [if_neg hb]
    · refine Ev.step (fun k => ?_) (Ev.now _)
      simp only [rloop]
      rw [if_pos (by omega)]
/-! ### Shares, and the laws -/
theorem rd_eq (xs : List Int) (i : Nat) (h : i < xs.length) : rd xs (i : Int) = xs[i] := by simp [rd, List.getD_eq_getElem?_getD, h]
/-- Two rows are held against each other. -/
theorem ints_ev (xs ys : List Int) (hl : xs.length ≤ 100000) (e : xs = ys) : Ev (fun k => sashref05_Ints.f k xs ys) true := by
  subst e
  have key : ∀ (d i : Nat), i + d = xs.length → Ev (fun k => sashref05_Ints.l0 k xs xs (xs.length : Int) (i : Int)) true := by
    intro d
    induction d with
    | zero =>
      intro i hi
      refine Ev.step (fun k => ?_) (Ev.now _)
      simp only [sashref05_Ints.l0]
      rw [if_neg (by omega)]
    | succ d ih =>
      intro i hi
      refine Ev.step (fun k => ?_) (ih (i + 1) (by omega))
      simp only [sashref05_Ints.l0]
      have c1 : (i : Int) < (xs.length : Int) := by omega
      have c2 : (0 : Int) ≤ (i : Int) := by omega
      simp only [c1, c2, if_true]
      rw [wp (by omega) (by omega)]
      rfl
  refine Ev.congr (fun k => ?_) (key xs.length 0 (by omega))
  unfold sashref05_Ints.f
  rw [if_pos rfl]
  rfl

def total : List Int → Int
  | [] => 0
  | g :: gs => g + total gs
theorem total_avail (gs : List Int) : avail (gs.map fun g => (g, (0 : Int))) = total gs := by
  induction gs with
  | nil => rfl
  | cons g gs ih => simp only [List.map_cons, avail, total, ih]; omega
theorem total_nonneg (gs : List Int) (h : ∀ g, g ∈ gs → 0 ≤ g) : 0 ≤ total gs := by
  induction gs with
  | nil => simp [total]
  | cons g gs ih => have h1 := h g (by simp); have h2 := ih fun x hx => h x (by simp [hx]); simp only [total]; omega
def capped (m : Int) (gs : List Int) : Int := if m + total gs > 2147483647 then 2147483647 else m + total gs

/-- Shares: the numbers are looked at first. -/
theorem shares_look (b : Int) (r : List Int × Bool) : ∀ (rest pre : List Int) (s : Int), 0 ≤ s → s ≤ 2147483647 → (pre ++ rest).length ≤ 100000 →
    (∀ g, g ∈ rest → 0 ≤ g ∧ g ≤ 2147483647) →
    Ev (fun k => if ((pre ++ rest).length : Int) = 0 then (adjust_Shares.j1 k b (pre ++ rest) true) else (if b < wrap64 (-(capped s rest)) then (adjust_Shares.j1 k b (pre ++ rest) true) else (adjust_Shares.j1 k b (pre ++ rest) (decide (b > 2147483647))))) r →
    Ev (fun k => adjust_Shares.l0 k b (pre ++ rest) s (pre ++ rest) ((pre ++ rest).length : Int) (pre.length : Int)) r := by
  intro rest
  induction rest with
  | nil =>
    intro pre s h0 h1 hl hg h
    refine Ev.step (fun k => ?_) h
    simp only [adjust_Shares.l0]
    rw [if_neg (by simp)]
    have : capped s [] = s := by unfold capped; simp only [total, Int.add_zero]; rw [if_neg (by omega)]
    rw [this]
  | cons g rest ih =>
    intro pre s h0 h1 hl hg h
    have hgg := hg g (by simp)
    have ht := total_nonneg rest fun x hx => (hg x (by simp [hx])).1
    have hlen : ((pre ++ g :: rest).length : Int) = pre.length + (rest.length + 1) := by simp
    have e : pre ++ g :: rest = (pre ++ [g]) ++ rest := by simp
    have hc : capped (mn 2147483647 (s + g)) rest = capped s (g :: rest) := by unfold capped mn; simp only [total]; split <;> split <;> (try split) <;> omega
    refine Ev.step (fun k => ?_) (ih (pre ++ [g]) (mn 2147483647 (s + g)) (by unfold mn; split <;> omega) (by unfold mn; split <;> omega) (by rw [← e]; exact hl) (fun x hx => hg x (by simp [hx])) (by rw [hc, ← e]; exact h))
    simp only [adjust_Shares.l0]
    rw [rd_pre', if_pos (by omega), if_pos (by omega), if_pos (by omega), if_neg (by omega), if_neg (by omega), wp (x := s + g) (by omega) (by omega), wp (x := (pre.length : Int) + 1) (by omega) (by omega), ← e]
    simp
/-- A number that may not be. -/
theorem shares_bad (b : Int) : ∀ (rest pre : List Int) (s : Int), 0 ≤ s → s ≤ 2147483647 → (pre ++ rest).length ≤ 100000 → ¬ (∀ g, g ∈ rest → 0 ≤ g ∧ g ≤ 2147483647) →
    Ev (fun k => adjust_Shares.l0 k b (pre ++ rest) s (pre ++ rest) ((pre ++ rest).length : Int) (pre.length : Int)) ([], false) := by
  intro rest
  induction rest with
  | nil => intro pre s _ _ _ h; exact absurd (fun g hg => by cases hg) h
  | cons g rest ih =>
    intro pre s h0 h1 hl hg
    have hlen : ((pre ++ g :: rest).length : Int) = pre.length + (rest.length + 1) := by simp
    by_cases hgg : 0 ≤ g ∧ g ≤ 2147483647
    · have e : pre ++ g :: rest = (pre ++ [g]) ++ rest := by simp
      refine Ev.step (fun k => ?_) (ih (pre ++ [g]) (mn 2147483647 (s + g)) (by unfold mn; split <;> omega) (by unfold mn; split <;> omega) (by rw [← e]; exact hl) (fun h => hg fun x hx => by
        rcases List.mem_cons.1 hx with rfl | hx
        · exact hgg
        · exact h x hx))
      simp only [adjust_Shares.l0]
      rw [rd_pre', if_pos (by omega), if_pos (by omega), if_pos (by omega), if_neg (by omega), if_neg (by omega), wp (x := s + g) (by omega) (by omega), wp (x := (pre.length : Int) + 1) (by omega) (by omega), ← e]
      simp
    · refine Ev.step (fun k => ?_) (Ev.now _)
      simp only [adjust_Shares.l0]
      rw [rd_pre', if_pos (by omega), if_pos (by omega), if_pos (by omega)]
      by_cases h : g < 0
      · rw [if_pos h]
      · rw [if_neg h, if_pos (by omega)]

theorem total_append (xs ys : List Int) : total (xs ++ ys) = total xs + total ys := by
  induction xs with
  | nil => simp [total]
  | cons x xs ih => simp only [List.cons_append, total, ih]; omega
theorem total_more (a : Int) (n : Int) (_h0 : 0 ≤ a % n) : ∀ m : Nat, total ((List.range m).map fun i => moreAt a n (i : Nat)) = m * (a / n) + (if (m : Int) ≤ a % n then (m : Int) else a % n) := by
  intro m
  induction m with
  | zero => simp [total]; omega
  | succ m ih =>
    rw [List.range_succ, List.map_append, total_append, ih]
    simp only [List.map_cons, List.map_nil, total, moreAt]
    rw [show ((m + 1 : Nat) : Int) = (m : Int) + 1 by omega, Int.add_mul, Int.one_mul]
    split <;> split <;> split <;> omega
theorem total_moreL (a : Int) (n : Nat) (h0 : 0 ≤ a) (hn : 0 < n) : total (moreL a n) = a := by
  have h1 := Int.emod_nonneg a (show (n : Int) ≠ 0 by omega)
  have h2 := Int.emod_lt_of_pos a (show (0 : Int) < n by omega)
  have h := total_more a n h1 n
  unfold moreL
  rw [h, if_neg (by omega)]
  have := Int.mul_ediv_add_emod a n
  omega

/-- The reference gives the same as adjust.more: whole rounds, then the rest. -/
theorem rround_up : ∀ (ps : List (Int × Int)) (b : Int), 0 ≤ b → rround b ps = (if (ps.length : Int) ≤ b then b - ps.length else 0, ps.mapIdx fun i p => (p.1, p.2 + if (i : Int) < b then 1 else 0)) := by
  intro ps
  induction ps with
  | nil => intro b hb; simp [rround]; omega
  | cons p ps ih =>
    intro b hb
    simp only [rround]
    by_cases h : b > 0
    · have e : rstep b p = (b - 1, (p.1, p.2 + 1)) := by unfold rstep; rw [if_pos h]
      rw [e]
      simp only
      rw [ih (b - 1) (by omega), List.mapIdx_cons]
      simp only [Prod.mk.injEq, List.length_cons, List.cons.injEq]
      refine ⟨by split <;> split <;> omega, ?_, ?_⟩
      · rw [if_pos (by omega)]; simp
      · apply List.mapIdx_eq_mapIdx_iff.2
        intro i hi
        simp only [Prod.mk.injEq, true_and]
        split <;> split <;> omega
    · obtain rfl : b = 0 := by omega
      have e : rstep 0 p = (0, p) := by unfold rstep; simp
      rw [e]
      simp only
      rw [ih 0 (by omega), List.mapIdx_cons]
      simp only [Prod.mk.injEq, List.length_cons, List.cons.injEq]
      refine ⟨by split <;> split <;> omega, ?_, ?_⟩
      · simp
      · apply List.mapIdx_eq_mapIdx_iff.2
        intro i hi
        simp only [Prod.mk.injEq, true_and]
        split <;> split <;> omega
theorem moreAt_down {b n : Int} (hn : 0 < n) (i : Int) : moreAt (b - n) n i + 1 = moreAt b n i := by
  unfold moreAt
  have h1 : (b - n) / n = b / n - 1 := by
    rw [show b - n = b + (-1) * n by omega, Int.add_mul_ediv_right _ _ (by omega)]; omega
  have h2 : (b - n) % n = b % n := by
    rw [show b - n = b + (-1) * n by omega, Int.add_mul_emod_self_right]
  rw [h1, h2]
  omega
theorem moreAt_small {b n : Int} (h0 : 0 ≤ b) (h : b < n) (i : Int) : moreAt b n i = if i < b then 1 else 0 := by
  unfold moreAt
  rw [Int.ediv_eq_zero_of_lt h0 h, Int.emod_eq_of_lt h0 h]
  omega
theorem ref_up : ∀ (N : Nat) (b t : Int) (gs : List Int), b.toNat = N → 0 ≤ b → gs ≠ [] → Ev (fun k => rloop k b (gs.map fun g => (g, t))) (gs.mapIdx (fun i _ => t + moreAt b gs.length (i : Nat)), true) := by
  intro N
  induction N using Nat.strongRecOn with
  | _ N IH =>
  intro b t gs hN hb hne
  have hpos : 0 < gs.length := List.length_pos_iff.2 hne
  by_cases h0 : b = 0
  · subst h0
    refine Ev.step (fun k => ?_) (Ev.now _)
    simp only [rloop]
    rw [if_pos trivial]
    congr 2
    rw [List.map_map]
    apply List.ext_getElem
    · simp
    · intro i h1 h2
      simp only [List.getElem_map, Function.comp_def, List.getElem_mapIdx]
      rw [moreAt_small (show (0 : Int) ≤ 0 by omega) (show (0 : Int) < gs.length by omega), if_neg (by omega)]
      omega
  · have hr := rround_up (gs.map fun g => (g, t)) b hb
    rw [List.length_map] at hr
    by_cases hfull : (gs.length : Int) ≤ b
    · rw [if_pos hfull] at hr
      have ih := IH (b - gs.length).toNat (by omega) (b - gs.length) (t + 1) gs rfl (by omega) hne
      have e2 : (List.mapIdx (fun i (p : Int × Int) => (p.1, p.2 + if (i : Int) < b then 1 else 0)) (gs.map fun g => (g, t))) = gs.map fun g => (g, t + 1) := by
        apply List.ext_getElem
        · simp
        · intro i h1 h2
          simp at h1
          simp only [List.getElem_mapIdx, List.getElem_map]
          rw [if_pos (by omega)]
      rw [e2] at hr
      refine Ev.step (f := fun k => rloop k (b - gs.length) (gs.map fun g => (g, t + 1))) (fun k => ?_) ?_
      · simp only [rloop]
        rw [if_neg h0, hr]
        simp only
        rw [if_neg (by omega)]
      · have e3 : gs.mapIdx (fun i _ => t + moreAt b gs.length (i : Nat)) = gs.mapIdx (fun i _ => t + 1 + moreAt (b - gs.length) gs.length (i : Nat)) := by
          apply List.mapIdx_eq_mapIdx_iff.2
          intro i hi
          have := moreAt_down (b := b) (n := gs.length) (by omega) (i : Nat)
          omega
        rw [e3]
        exact ih
    · rw [if_neg hfull] at hr
      refine Ev.step (f := fun k => rloop k 0 (List.mapIdx (fun i (p : Int × Int) => (p.1, p.2 + if (i : Int) < b then 1 else 0)) (gs.map fun g => (g, t)))) (fun k => ?_) ?_
      · simp only [rloop]
        rw [if_neg h0, hr]
        simp only
        rw [if_neg (by omega)]
      · refine Ev.step (fun k => ?_) (Ev.now _)
        simp only [rloop]
        rw [if_pos trivial]
        congr 2
        apply List.ext_getElem
        · simp
        · intro i h1 h2
          simp only [List.getElem_map, List.getElem_mapIdx]
          rw [moreAt_small hb (by omega)]
theorem ref_more (b : Int) (gs : List Int) (hb : 0 ≤ b) (hne : gs ≠ []) : Ev (fun k => rloop k b (gs.map fun g => (g, 0))) (moreL b gs.length, true) := by
  have h := ref_up b.toNat b 0 gs rfl hb hne
  have e : gs.mapIdx (fun i _ => 0 + moreAt b gs.length (i : Nat)) = moreL b gs.length := by
    apply List.ext_getElem
    · simp [moreL]
    · intro i h1 h2
      simp [moreL]
  rw [e] at h
  exact h
/-- More than all can give: the reference stands still. -/
theorem ref_stuck : ∀ (N : Nat) (b : Int) (ps : List (Int × Int)), b.toNat = N → Good ps → avail ps < b → 0 < b → Ev (fun k => rloop k (-b) ps) ([], false) := by
  intro N
  induction N using Nat.strongRecOn with
  | _ N IH =>
  intro b ps hN hg hav hb
  have har := able_range ps
  have hle : able ps ≤ avail ps := by
    clear IH hN hav hb har
    induction ps with
    | nil => simp [able, avail]
    | cons p ps ih =>
      have h1 := hg.head
      have h2 := ih hg.tail
      simp only [able, avail]
      split <;> omega
  have e := bat_full (m := 1) (by omega) ps b (by omega)
  rw [Int.one_mul] at e
  by_cases h0 : able ps = 0
  · refine Ev.step (fun k => ?_) (Ev.now _)
    simp only [rloop]
    rw [if_neg (by omega), bat_one ps b (by omega), e]
    simp only
    rw [if_pos (by omega)]
  · refine ref_round hb (by rw [e]; simp only; omega) ?_
    rw [e]
    simp only
    exact IH (b - able ps).toNat (by omega) (b - able ps) (decr 1 ps) rfl (decr_good (by omega) hg fun p _ hc => by omega) (by rw [decr_avail]; omega) (by omega)

theorem zeros_good {gs : List Int} (h : ∀ g, g ∈ gs → 0 ≤ g ∧ g ≤ 2147483647) : Good (gs.map fun g => (g, (0 : Int))) := by
  intro p hp
  obtain ⟨g, hg, rfl⟩ := List.mem_map.1 hp
  have := h g hg
  simp only
  omega
theorem zeros_even (gs : List Int) : Even0 (gs.map fun g => (g, (0 : Int))) := by
  intro p hp q hq h
  obtain ⟨g, hg, rfl⟩ := List.mem_map.1 hp
  obtain ⟨g', hg', rfl⟩ := List.mem_map.1 hq
  simp at h
theorem zeros_outs (gs : List Int) : outs (gs.map fun g => (g, (0 : Int))) = 0 := by
  induction gs with
  | nil => rfl
  | cons g gs ih => simp only [List.map_cons, outs, ih]; rfl
theorem outs_total (ps : List (Int × Int)) : outs ps = total (ps.map Prod.snd) := by
  induction ps with
  | nil => rfl
  | cons p ps ih => simp only [List.map_cons, outs, total, ih]

/-- What Shares answers. -/
def SharesIs (b : Int) (gs : List Int) (r : List Int × Bool) : Prop :=
  (r = ([], false) ∧ (gs = [] ∨ (¬ ∀ g, g ∈ gs → 0 ≤ g ∧ g ≤ 2147483647) ∨ ((∀ g, g ∈ gs → 0 ≤ g ∧ g ≤ 2147483647) ∧ b < -total gs))) ∨
  (r = (moreL b gs.length, true) ∧ gs ≠ [] ∧ (∀ g, g ∈ gs → 0 ≤ g ∧ g ≤ 2147483647) ∧ 0 ≤ b) ∨
  (∃ qs : List (Int × Int), r = (qs.map Prod.snd, true) ∧ (∀ g, g ∈ gs → 0 ≤ g ∧ g ≤ 2147483647) ∧ b < 0 ∧ qs.map Prod.fst = gs ∧ Good qs ∧ Even1 qs ∧ outs qs = b ∧ Ev (fun k => rloop k b (gs.map fun g => (g, 0))) (qs.map Prod.snd, true))
theorem shares_is (b : Int) (gs : List Int) (hl : gs.length ≤ 100000) (h0 : -2147483647 ≤ b) (h1 : b ≤ 2147483647) : ∃ r, SharesIs b gs r ∧ Ev (fun k => adjust_Shares.f k b gs) r := by
  by_cases hg : ∀ g, g ∈ gs → 0 ≤ g ∧ g ≤ 2147483647
  · have ht := total_nonneg gs fun g h => (hg g h).1
    have look := fun r => shares_look b r gs [] 0 (by omega) (by omega) (by simpa using hl) hg
    have hcap : capped 0 gs = if total gs > 2147483647 then 2147483647 else total gs := by unfold capped; rw [Int.zero_add]
    have hw : wrap64 (-(capped 0 gs)) = -(capped 0 gs) := by rw [hcap]; apply wp <;> split <;> omega
    simp only [List.nil_append, List.length_nil] at look
    have j1t : Ev (fun k => adjust_Shares.j1 k b gs true) ([], false) := by
      refine Ev.step (fun k => ?_) (Ev.now _)
      simp only [adjust_Shares.j1]
      rw [if_pos trivial]
    by_cases hne : gs = []
    · refine ⟨_, .inl ⟨rfl, .inl hne⟩, ?_⟩
      refine look _ ?_
      refine Ev.ite_pos (by simp [hne]) j1t
    · have hpos : 0 < gs.length := List.length_pos_iff.2 hne
      by_cases hb : b < -total gs
      · refine ⟨_, .inl ⟨rfl, .inr (.inr ⟨hg, hb⟩)⟩, look _ (Ev.ite_neg (by omega) (Ev.ite_pos ?_ j1t))⟩
        rw [hw, hcap]
        split <;> omega
      · have hdec : decide (b > 2147483647) = false := by simp; omega
        have go : ∀ r, Ev (fun k => adjust_Shares.j1 k b gs false) r → Ev (fun k => adjust_Shares.f k b gs) r := fun r h => by
          refine look _ (Ev.ite_neg (by omega) (Ev.ite_neg ?_ ?_))
          · rw [hw, hcap]; split <;> omega
          · rw [hdec]; exact h
        by_cases hb0 : 0 ≤ b
        · refine ⟨_, .inr (.inl ⟨rfl, hne, hg, hb0⟩), go _ (Ev.step (fun k => ?_) (Ev.now _))⟩
          simp only [adjust_Shares.j1]
          rw [if_neg (by simp), if_pos (by omega)]
          unfold adjust_more.f
          rw [if_pos ⟨hb0, by omega, by omega, by omega⟩]
          simp
        · obtain ⟨qs, q1, q2, q3, q4, q5, q6⟩ := less_both (-b).toNat (-b) (gs.map fun g => (g, 0)) rfl (by omega) (by omega) (zeros_good hg) (zeros_even gs) (by simpa using hl) (by rw [total_avail]; omega)
          have e1 : (gs.map fun g => (g, (0 : Int))).map Prod.fst = gs := by simp [List.map_map, Function.comp_def]
          have e2 : (gs.map fun g => (g, (0 : Int))).map Prod.snd = List.replicate gs.length 0 := by simp [List.map_map, Function.comp_def, List.map_const']
          rw [e1] at q1 q3
          rw [e2] at q1
          rw [zeros_outs] at q6
          rw [Int.neg_neg] at q2
          refine ⟨_, .inr (.inr ⟨qs, rfl, hg, by omega, q3, q4, q5, by omega, q2⟩), go _ (Ev.step (f := fun k => (adjust_less.f k (-b) gs).bind fun t => some (t, true)) (fun k => ?_) (Ev.bind (a := qs.map Prod.snd) ?_ (Ev.now _)))⟩
          · simp only [adjust_Shares.j1]
            rw [if_neg (by simp), if_neg (by omega), wp (by omega) (by omega)]
          · refine Ev.congr (fun k => ?_) q1
            unfold adjust_less.f
            rw [if_pos (by omega), if_pos (by omega)]
            simp
  · refine ⟨_, .inl ⟨rfl, .inr (.inl hg)⟩, ?_⟩
    have := shares_bad b gs [] 0 (by omega) (by omega) (by simpa using hl) hg
    simp only [List.nil_append, List.length_nil] at this
    exact this
theorem awake09 : Ev (fun k => sashlaw09_awake.f k) true := Ev.of (k := 60) (fun k => sashlaw09_awake.mono k) (by decide +kernel)
end Go.Proofs.Ytfdmfgaiblfbhaa.P
