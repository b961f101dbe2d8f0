/- PushOne: part 4 of 6 of this claim's texts, one behind the other, made small by a program: the words of the kit's printer cut down to those that are used, the claim's own names made short. -/
import Derived.Test.YtfdmfgaiblfbhaaMPushOnec
import Derived.WalkSpells
set_option maxHeartbeats 8000000
set_option maxRecDepth 100000
set_option linter.unusedVariables false
set_option linter.unusedSimpArgs false
namespace Go.Proofs.Ytfdmfgaiblfbhaa.P
open Go.RowKit Go.Proofs.ag.aQ Go.Proofs.ag.bu Go.Proofs.ag.bP
theorem wp {x : Int} (h0 : -9223372036854775808 ≤ x) (h1 : x ≤ 9223372036854775807) : wrap64 x = x := by unfold wrap64; omega
def jK (m : Int) : Int → List (Int × Int) → Int × List (Int × Int)
 | b, [] => (b, [])
 | b, p :: ps => if p.1 + p.2 > 0 then (if b > 0 then ((jK m (b - mn m b) ps).1, (p.1, p.2 - mn m b) :: (jK m (b - mn m b) ps).2) else ((jK m b ps).1, p :: (jK m b ps).2)) else ((jK m b ps).1, p :: (jK m b ps).2)
def able : List (Int × Int) → Int
 | [] => 0
 | p :: ps => (if p.1 + p.2 > 0 then 1 else 0) + able ps
def lst : Int → List (Int × Int) → Int
 | m, [] => m
 | m, p :: ps => lst (if p.1 + p.2 > 0 then mn m (p.1 + p.2) else m) ps
def vz : List (Int × Int) → Int
 | [] => 0
 | p :: ps => (p.1 + p.2) + vz ps
def outs : List (Int × Int) → Int
 | [] => 0
 | p :: ps => p.2 + outs ps
def Good (ps : List (Int × Int)) : Prop := ∀ p, p ∈ ps → 0 ≤ p.1 ∧ p.1 ≤ 2147483647 ∧ -p.1 ≤ p.2 ∧ p.2 ≤ 0
def mW (m : Int) (ps : List (Int × Int)) : List (Int × Int) := ps.map fun p => (p.1, p.2 - if p.1 + p.2 > 0 then m else 0)
def DZ (ps : List (Int × Int)) : Prop := ∀ p, p ∈ ps → ∀ q, q ∈ ps → p.2 > q.2 → p.1 + p.2 = 0
def JO (ps : List (Int × Int)) : Prop := ∀ p, p ∈ ps → ∀ q, q ∈ ps → p.2 > q.2 + 1 → p.2 = -p.1
theorem Good.tail {p : Int × Int} {ps : List (Int × Int)} (h : Good (p :: ps)) : Good ps := fun q hq => h q (List.mem_cons_of_mem _ hq)
theorem Good.head {p : Int × Int} {ps : List (Int × Int)} (h : Good (p :: ps)) : 0 ≤ p.1 ∧ p.1 ≤ 2147483647 ∧ -p.1 ≤ p.2 ∧ p.2 ≤ 0 := h p List.mem_cons_self
theorem yE (ps : List (Int × Int)) : 0 ≤ able ps ∧ able ps ≤ ps.length := by
 induction ps with
 | nil => simp [able]
 | cons p ps ih => simp only [able, List.length_cons]; split <;> omega
theorem Vf {ps : List (Int × Int)} (hg : Good ps) (h : 0 < vz ps) : 0 < able ps := by
 induction ps with
 | nil => simp [vz] at h
 | cons p ps ih =>
  have hr := yE ps
  simp only [vz] at h
  simp only [able]
  split
  ·omega
  ·rename_i hp
   have := ih hg.tail (by omega)
   omega
theorem Ui (ps : List (Int × Int)) : ∀ m, lst m ps ≤ m := by
 induction ps with
 | nil => intro m; simp [lst]
 | cons p ps ih =>
  intro m
  simp only [lst]
  have h1 := ih (if p.1 + p.2 > 0 then mn m (p.1 + p.2) else m)
  have h2 : (if p.1 + p.2 > 0 then mn m (p.1 + p.2) else m) ≤ m := by
   split
   ·unfold mn; split <;> omega
   ·exact Int.le_refl _
  omega
theorem aaf (ps : List (Int × Int)) : ∀ m, ∀ p, p ∈ ps → p.1 + p.2 > 0 → lst m ps ≤ p.1 + p.2 := by
 induction ps with
 | nil => intro m p hp; cases hp
 | cons q ps ih =>
  intro m p hp h
  simp only [lst]
  rcases List.mem_cons.1 hp with rfl | hp
  ·rw [if_pos h]
   have h1 := Ui ps (mn m (p.1 + p.2))
   have h2 : mn m (p.1 + p.2) ≤ p.1 + p.2 := by unfold mn; split <;> omega
   omega
  ·exact ih _ p hp h
theorem aag (ps : List (Int × Int)) : ∀ m, 0 < m → 0 < lst m ps := by
 induction ps with
 | nil => intro m h; simpa [lst] using h
 | cons q ps ih =>
  intro m h
  simp only [lst]
  apply ih
  unfold mn
  split
  ·split <;> omega
  ·exact h
theorem E5 {m : Int} (hm : 0 < m) : ∀ (ps : List (Int × Int)) (b : Int), m * able ps ≤ b → jK m b ps = (b - m * able ps, mW m ps) := by
 intro ps
 induction ps with
 | nil => intro b _; simp [jK, able, mW]
 | cons p ps ih =>
  intro b hb
  have hr := yE ps
  have hmn : 0 ≤ m * able ps := Int.mul_nonneg (by omega) hr.1
  simp only [able] at hb ⊢
  by_cases hp : p.1 + p.2 > 0
  ·simp only [if_pos hp] at hb ⊢
   rw [Int.mul_add, Int.mul_one] at hb ⊢
   have h1 : mn m b = m := by unfold mn; split <;> omega
   have h2 := ih (b - m) (by omega)
   simp only [jK]
   rw [if_pos hp, if_pos (by omega), h1, h2]
   simp only [mW, List.map_cons, if_pos hp, Prod.mk.injEq, and_true]
   omega
  ·simp only [if_neg hp] at hb ⊢
   rw [Int.zero_add] at hb ⊢
   simp only [jK]
   rw [if_neg hp, ih b hb]
   simp only [mW, List.map_cons, if_neg hp, Int.sub_zero]
theorem Vq : ∀ (ps : List (Int × Int)) (b : Int), 0 ≤ b → b ≤ able ps → (jK 1 b ps).1 = 0 := by
 intro ps
 induction ps with
 | nil => intro b h0 h; simp only [able] at h; simp only [jK]; omega
 | cons p ps ih =>
  intro b h0 h
  simp only [able] at h
  simp only [jK]
  by_cases hp : p.1 + p.2 > 0
  ·rw [if_pos hp] at h ⊢
   by_cases hb : b > 0
   ·rw [if_pos hb]
    have h1 : mn 1 b = 1 := by unfold mn; split <;> omega
    rw [h1]
    exact ih (b - 1) (by omega) (by omega)
   ·rw [if_neg hb]
    exact ih b h0 (by have := yE ps; omega)
  ·rw [if_neg hp] at h ⊢
   exact ih b h0 (by omega)
theorem Yt (m : Int) : ∀ (ps : List (Int × Int)) (b : Int), (jK m b ps).2.map Prod.fst = ps.map Prod.fst := by
 intro ps
 induction ps with
 | nil => intro b; simp [jK]
 | cons p ps ih =>
  intro b
  simp only [jK]
  split
  ·split <;> simp [ih]
  ·simp [ih]
theorem Ht : ∀ (ps : List (Int × Int)) (b : Int) (q : Int × Int), q ∈ (jK 1 b ps).2 → ∃ p, p ∈ ps ∧ q.1 = p.1 ∧ (q.2 = p.2 ∨ (p.1 + p.2 > 0 ∧ q.2 = p.2 - 1)) := by
 intro ps
 induction ps with
 | nil => intro b q hq; simp [jK] at hq
 | cons p ps ih =>
  intro b q hq
  simp only [jK] at hq
  have key : ∀ b' , q ∈ (jK 1 b' ps).2 → ∃ Ph, Ph ∈ p :: ps ∧ q.1 = Ph.1 ∧ (q.2 = Ph.2 ∨ (Ph.1 + Ph.2 > 0 ∧ q.2 = Ph.2 - 1)) := fun b' h => by
   obtain ⟨p', h1, h2⟩ := ih b' q h
   exact ⟨p', List.mem_cons_of_mem _ h1, h2⟩
  split at hq
  ·rename_i hp
   split at hq
   ·rename_i hb
    simp only [List.mem_cons] at hq
    rcases hq with rfl | hq
    ·refine ⟨p, List.mem_cons_self, rfl, .inr ⟨hp, ?_⟩⟩
     have h1 : mn 1 b = 1 := by unfold mn; split <;> omega
     simp only [h1]
    ·exact key _ hq
   ·simp only [List.mem_cons] at hq
    rcases hq with rfl | hq
    ·exact ⟨_, List.mem_cons_self, rfl, .inl rfl⟩
    ·exact key _ hq
  ·simp only [List.mem_cons] at hq
   rcases hq with rfl | hq
   ·exact ⟨_, List.mem_cons_self, rfl, .inl rfl⟩
   ·exact key _ hq
theorem Lj (m : Int) : ∀ (ps : List (Int × Int)) (b : Int), outs (jK m b ps).2 - (jK m b ps).1 = outs ps - b := by
 intro ps
 induction ps with
 | nil => intro b; simp [jK]
 | cons p ps ih =>
  intro b
  simp only [jK]
  split
  ·split
   ·have := ih (b - mn m b); simp only [outs]; omega
   ·have := ih b; simp only [outs]; omega
  ·have := ih b; simp only [outs]; omega
theorem VG (m : Int) (ps : List (Int × Int)) : (mW m ps).map Prod.fst = ps.map Prod.fst := by simp [mW, List.map_map, Function.comp_def]
theorem SE {m : Int} {ps : List (Int × Int)} (hm : 0 ≤ m) (hg : Good ps) (hl : ∀ p, p ∈ ps → p.1 + p.2 > 0 → m ≤ p.1 + p.2) : Good (mW m ps) := by
 intro q hq
 obtain ⟨p, hp, rfl⟩ := List.mem_map.1 hq
 have h1 := hg p hp
 have h2 := hl p hp
 simp only
 split <;> omega
theorem Qg (m : Int) (ps : List (Int × Int)) : vz (mW m ps) = vz ps - m * able ps := by
 induction ps with
 | nil => simp [mW, vz, able]
 | cons p ps ih =>
  have e : mW m (p :: ps) = (p.1, p.2 - if p.1 + p.2 > 0 then m else 0) :: mW m ps := rfl
  rw [e]
  simp only [vz, able, ih]
  rw [Int.mul_add]
  split
  ·rw [Int.mul_one]; omega
  ·rw [Int.mul_zero]; omega
theorem SC {m : Int} {ps : List (Int × Int)} (hg : Good ps) (he : DZ ps) (hm : 0 ≤ m) : DZ (mW m ps) := by
 intro p' hp' q' hq' h
 obtain ⟨p, hp, rfl⟩ := List.mem_map.1 hp'
 obtain ⟨q, hq, rfl⟩ := List.mem_map.1 hq'
 have h1 := he p hp q hq
 have h2 := hg p hp
 have h3 := hg q hq
 simp only at h ⊢
 by_cases c1 : p.1 + p.2 > 0
 ·rw [if_pos c1] at h ⊢
  by_cases c2 : q.1 + q.2 > 0
  ·rw [if_pos c2] at h; omega
  ·rw [if_neg c2] at h; omega
 ·rw [if_neg c1] at h ⊢
  by_cases c2 : q.1 + q.2 > 0
  ·rw [if_pos c2] at h; omega
  ·rw [if_neg c2] at h; omega
theorem SG {m : Int} {ps : List (Int × Int)} (hm : 0 < m) (hl : ∀ p, p ∈ ps → p.1 + p.2 > 0 → m + 1 ≤ p.1 + p.2) : mW (m + 1) ps = mW m (mW 1 ps) ∧ able (mW 1 ps) = able ps := by
 constructor
 ·simp only [mW, List.map_map]
  apply List.map_congr_left
  intro p hp
  have := hl p hp
  simp only [Function.comp_def, Prod.mk.injEq, true_and]
  by_cases h : p.1 + p.2 > 0
  ·rw [if_pos h, if_pos h, if_pos (by omega)]; omega
  ·rw [if_neg h, if_neg h, if_neg (by omega)]; omega
 ·induction ps with
  | nil => rfl
  | cons p ps ih =>
   have e : mW 1 (p :: ps) = (p.1, p.2 - if p.1 + p.2 > 0 then 1 else 0) :: mW 1 ps := rfl
   rw [e]
   simp only [able]
   rw [ih fun q hq => hl q (List.mem_cons_of_mem _ hq)]
   have := hl p List.mem_cons_self
   by_cases h : p.1 + p.2 > 0
   ·rw [if_pos h, if_pos (by omega)]
   ·rw [if_neg h, if_neg (by omega)]
theorem Vo {ps : List (Int × Int)} {b : Int} (he : DZ ps) : JO (jK 1 b ps).2 := by
 intro p' hp' q' hq' h
 obtain ⟨p, hp, e1, e2⟩ := Ht ps b p' hp'
 obtain ⟨q, hq, e3, e4⟩ := Ht ps b q' hq'
 have h1 := he p hp q hq
 omega
theorem acu {ps : List (Int × Int)} (he : DZ ps) : JO ps := by
 intro p hp q hq h
 have := he p hp q hq
 omega
theorem Vp {ps : List (Int × Int)} {b : Int} (hg : Good ps) : Good (jK 1 b ps).2 := by
 intro p' hp'
 obtain ⟨p, hp, e1, e2⟩ := Ht ps b p' hp'
 have := hg p hp
 omega
theorem Ev.AY {α : Type} {c : Prop} [Decidable c] {g f : Nat → Option α} {r : α} (hc : c) (h : Ev g r) : Ev (fun k => if c then g k else f k) r := by simp only [if_pos hc]; exact h
theorem Ev.AX {α : Type} {c : Prop} [Decidable c] {g f : Nat → Option α} {r : α} (hc : ¬c) (h : Ev f r) : Ev (fun k => if c then g k else f k) r := by simp only [if_neg hc]; exact h
theorem GV {α : Type} (f : α → Int) (pre : List α) (p : α) (rest : List α) : rd ((pre ++ p :: rest).map f) (pre.length : Int) = f p := by
 simp [rd, List.getD_eq_getElem?_getD]
theorem IB (pre : List Int) (p : Int) (rest : List Int) : rd (pre ++ p :: rest) (pre.length : Int) = p := by
 simp [rd, List.getD_eq_getElem?_getD]
theorem aac (b : Int) (q : Int) (r : List Int) (hb0 : 0 < b) (hb1 : b ≤ 2147483647) : ∀ (rest pre : List (Int × Int)) (A L : Int), Good (pre ++ rest) → (pre ++ rest).length ≤ 100000 → 0 ≤ A → A ≤ pre.length →
  A + able rest ≠ 0 → q = mx 1 (mn (lst L rest) (b / (A + able rest))) →
  Ev (fun k => aX.l2 k b ((pre ++ rest).map Prod.fst) ((pre ++ rest).map Prod.snd) q ((pre ++ rest).map Prod.fst) ((pre ++ rest).length : Int) 0) r →
  Ev (fun k => aX.l1 k b ((pre ++ rest).map Prod.fst) ((pre ++ rest).map Prod.snd) A L ((pre ++ rest).map Prod.fst) ((pre ++ rest).length : Int) (pre.length : Int)) r := by
 intro rest
 induction rest with
 | nil =>
  intro pre A L hg hl h0 h1 hne hq h
  refine Ev.step (f := fun k => aX.l2 k b ((pre ++ []).map Prod.fst) ((pre ++ []).map Prod.snd) q ((pre ++ []).map Prod.fst) ((pre ++ []).length : Int) 0) (fun k => ?_) h
  simp only [aX.l1]
  simp only [able, Int.add_zero, lst] at hne hq
  have hdiv : wrap64 (Int.tdiv b A) = b / A := by
   rw [Int.tdiv_eq_ediv_of_nonneg (by omega)]
   have h2 : 0 ≤ b / A := Int.ediv_nonneg (by omega) h0
   have h3 : b / A ≤ b := Int.ediv_le_self _ (by omega)
   exact wp (by omega) (by omega)
  rw [if_neg (by simp), if_neg hne, hdiv, ← hq]
  simp
 | cons p rest ih =>
  intro pre A L hg hl h0 h1 hne hq h
  have hp := hg p (by simp)
  have hlen : ((pre ++ p :: rest).length : Int) = pre.length + (rest.length + 1) := by simp
  have hl' : (pre.length : Int) + (rest.length + 1) ≤ 100000 := by omega
  have hw : wrap64 ((pre.length : Int) + 1) = ((pre ++ [p]).length : Int) := by rw [wp (by omega) (by omega)]; simp
  have e : pre ++ p :: rest = (pre ++ [p]) ++ rest := by simp
  have hsum : wrap64 (p.1 + p.2) = p.1 + p.2 := wp (by omega) (by omega)
  refine Ev.step (f := fun k => aX.l1 k b (((pre ++ [p]) ++ rest).map Prod.fst) (((pre ++ [p]) ++ rest).map Prod.snd) (A + if p.1 + p.2 > 0 then 1 else 0) (if p.1 + p.2 > 0 then mn L (p.1 + p.2) else L) (((pre ++ [p]) ++ rest).map Prod.fst) (((pre ++ [p]) ++ rest).length : Int) ((pre ++ [p]).length : Int)) (fun k => ?_) (ih (pre ++ [p]) _ _ (by rw [← e]; exact hg) (by rw [← e]; exact hl) (by split <;> omega) (by simp; split <;> omega) (by simp only [able] at hne; omega) (by simp only [able, lst] at hq; rw [hq, Int.add_assoc]) (by rw [← e]; exact h))
  simp only [aX.l1]
  rw [GV, GV, hsum, if_pos (by omega), if_pos (by omega), if_pos (by simp; omega), if_pos (by simp; omega), hw, ← e]
  by_cases hc : p.1 + p.2 > 0
  ·rw [if_pos hc, if_pos hc, if_pos hc, wp (by omega) (by omega)]
  ·rw [if_neg hc, if_neg hc, if_neg hc, Int.add_zero]
theorem aad (m : Int) (r : List Int) (hm : 0 < m) : ∀ (rest pre : List (Int × Int)) (b : Int), 0 ≤ b → b ≤ 2147483647 → Good (pre ++ rest) → (∀ p, p ∈ rest → p.1 + p.2 > 0 → m ≤ p.1 + p.2) → (pre ++ rest).length ≤ 100000 →
  Ev (fun k => aX.l0 k (jK m b rest).1 ((pre ++ rest).map Prod.fst) ((pre ++ (jK m b rest).2).map Prod.snd)) r →
  Ev (fun k => aX.l2 k b ((pre ++ rest).map Prod.fst) ((pre ++ rest).map Prod.snd) m ((pre ++ rest).map Prod.fst) ((pre ++ rest).length : Int) (pre.length : Int)) r := by
 intro rest
 induction rest with
 | nil =>
  intro pre b h0 h1 hg hl hlen h
  simp only [jK] at h
  refine Ev.step (fun k => ?_) h
  simp only [aX.l2]
  rw [if_neg (by simp)]
 | cons p rest ih =>
  intro pre b h0 h1 hg hl hlen h
  have hp := hg p (by simp)
  have hlen' : ((pre ++ p :: rest).length : Int) = pre.length + (rest.length + 1) := by simp
  have hl' : (pre.length : Int) + (rest.length + 1) ≤ 100000 := by omega
  have hw : wrap64 ((pre.length : Int) + 1) = (pre.length : Int) + 1 := wp (by omega) (by omega)
  have hsum : wrap64 (p.1 + p.2) = p.1 + p.2 := wp (by omega) (by omega)
  have hmp := hl p (by simp)
  have hmn : 0 ≤ mn m b ∧ mn m b ≤ m ∧ mn m b ≤ b := by unfold mn; split <;> omega
  have step : ∀ (b' : Int) (p' : Int × Int), p'.1 = p.1 → -p'.1 ≤ p'.2 → p'.2 ≤ 0 → 0 ≤ b' → b' ≤ 2147483647 → jK m b (p :: rest) = ((jK m b' rest).1, p' :: (jK m b' rest).2) →
    Ev (fun k => aX.l2 k b' ((pre ++ p :: rest).map Prod.fst) ((pre ++ p' :: rest).map Prod.snd) m ((pre ++ p :: rest).map Prod.fst) ((pre ++ p :: rest).length : Int) ((pre.length : Int) + 1)) r := by
   intro b' p' e1 e2 e3 e4 e5 eb
   have f1 : (pre ++ p :: rest).map Prod.fst = ((pre ++ [p']) ++ rest).map Prod.fst := by simp [e1]
   have f2 : (pre ++ p' :: rest).map Prod.snd = ((pre ++ [p']) ++ rest).map Prod.snd := by simp
   have f3 : ((pre ++ p :: rest).length : Int) = (((pre ++ [p']) ++ rest).length : Int) := by simp
   have f4 : (pre.length : Int) + 1 = ((pre ++ [p']).length : Int) := by simp
   have hg' : Good ((pre ++ [p']) ++ rest) := by
    intro q hq
    simp only [List.append_assoc, List.mem_append, List.mem_cons, List.not_mem_nil, or_false] at hq
    rcases hq with hq | rfl | hq
    ·exact hg q (by simp [hq])
    ·omega
    ·exact hg q (by simp [hq])
   rw [f1, f2, f3, f4]
   refine ih (pre ++ [p']) b' e4 e5 hg' (fun q hq => hl q (by simp [hq])) (by simp; omega) ?_
   rw [eb] at h
   rw [← f1, List.append_assoc]
   exact h
  refine Ev.step (f := fun k => if p.1 + p.2 > 0 then (if b > 0 then aX.l2 k (b - mn m b) ((pre ++ p :: rest).map Prod.fst) ((pre ++ (p.1, p.2 - mn m b) :: rest).map Prod.snd) m ((pre ++ p :: rest).map Prod.fst) ((pre ++ p :: rest).length : Int) ((pre.length : Int) + 1) else aX.l2 k b ((pre ++ p :: rest).map Prod.fst) ((pre ++ p :: rest).map Prod.snd) m ((pre ++ p :: rest).map Prod.fst) ((pre ++ p :: rest).length : Int) ((pre.length : Int) + 1)) else aX.l2 k b ((pre ++ p :: rest).map Prod.fst) ((pre ++ p :: rest).map Prod.snd) m ((pre ++ p :: rest).map Prod.fst) ((pre ++ p :: rest).length : Int) ((pre.length : Int) + 1)) (fun k => ?_) ?_
  ·simp only [aX.l2]
   rw [GV, GV, hsum, if_pos (by omega), if_pos (by omega), if_pos (by simp; omega), if_pos (by simp; omega), hw]
   by_cases hc : p.1 + p.2 > 0
   ·rw [if_pos hc, if_pos hc]
    by_cases hb : b > 0
    ·rw [if_pos hb, if_pos hb, wp (by omega) (by omega), wp (by omega) (by omega)]
     congr 1
     simp
    ·rw [if_neg hb, if_neg hb]
   ·rw [if_neg hc, if_neg hc]
  ·by_cases hc : p.1 + p.2 > 0
   ·by_cases hb : b > 0
    ·refine Ev.AY hc (Ev.AY hb (step (b - mn m b) (p.1, p.2 - mn m b) rfl (by simp only; omega) (by simp only; omega) (by omega) (by omega) ?_))
     simp only [jK]
     rw [if_pos hc, if_pos hb]
    ·refine Ev.AY hc (Ev.AX hb (step b p rfl (by omega) (by omega) h0 h1 ?_))
     simp only [jK]
     rw [if_pos hc, if_neg hb]
   ·refine Ev.AX hc (step b p rfl (by omega) (by omega) h0 h1 ?_)
    simp only [jK]
    rw [if_neg hc]
theorem Yu (ps : List (Int × Int)) : ∀ b : Int, 0 ≤ b → xB (-b) ps = (-(jK 1 b ps).1, (jK 1 b ps).2) := by
 induction ps with
 | nil => intro b _; simp [xB, jK]
 | cons p ps ih =>
  intro b hb
  simp only [xB, jK]
  by_cases hp : p.1 + p.2 > 0
  ·rw [if_pos hp]
   by_cases h : b > 0
   ·rw [if_pos h]
    have h1 : mn 1 b = 1 := by unfold mn; split <;> omega
    have e : yH (-b) p = (-(b - 1), (p.1, p.2 - 1)) := by
     unfold yH
     rw [if_neg (by omega), if_pos ⟨by omega, hp⟩]
     congr 1
     omega
    rw [e, h1]
    simp only
    rw [ih (b - 1) (by omega)]
   ·rw [if_neg h]
    have e : yH (-b) p = (-b, p) := by
     unfold yH
     rw [if_neg (by omega), if_neg (by omega)]
    rw [e]
    simp only
    rw [ih b hb]
  ·rw [if_neg hp]
   have e : yH (-b) p = (-b, p) := by
    unfold yH
    rw [if_neg (by omega), if_neg (by omega)]
   rw [e]
   simp only
   rw [ih b hb]
theorem DJ {b : Int} {ps : List (Int × Int)} {r : List Int × Bool} (hb : 0 < b) (hne : (jK 1 b ps).1 ≠ b) (h : Ev (fun k => vX k (-(jK 1 b ps).1) (jK 1 b ps).2) r) : Ev (fun k => vX k (-b) ps) r := by
 refine Ev.step (fun k => ?_) h
 simp only [vX]
 rw [if_neg (by omega), Yu ps b (by omega)]
 simp only
 rw [if_neg (by omega)]
theorem QT {r : List Int × Bool} : ∀ (m : Nat) (b : Int) (ps : List (Int × Int)), 0 < able ps → ((m : Int) + 1) * able ps ≤ b → (∀ p, p ∈ ps → p.1 + p.2 > 0 → (m : Int) + 1 ≤ p.1 + p.2) →
  Ev (fun k => vX k (-(b - ((m : Int) + 1) * able ps)) (mW ((m : Int) + 1) ps)) r → Ev (fun k => vX k (-b) ps) r := by
 intro m
 induction m with
 | zero =>
  intro b ps ha hb hl h
  have e := E5 (m := 1) (by omega) ps b (by simpa using hb)
  have hb' : able ps ≤ b := by simpa using hb
  refine DJ (by omega) (by rw [e]; simp only; omega) ?_
  rw [e]
  simpa using h
 | succ m ih =>
  intro b ps ha hb hl h
  have hx : 0 ≤ ((m : Int) + 1) * able ps := Int.mul_nonneg (by omega) (by omega)
  have hm : (((m + 1 : Nat) : Int) + 1) * able ps = ((m : Int) + 1) * able ps + able ps := by rw [show (((m + 1 : Nat) : Int) + 1) = ((m : Int) + 1) + 1 by omega, Int.add_mul, Int.one_mul]
  rw [hm] at hb h
  have e := E5 (m := 1) (by omega) ps b (by omega)
  obtain ⟨d1, d2⟩ := SG (m := (m : Int) + 1) (ps := ps) (by omega) (fun p hp hc => by have := hl p hp hc; omega)
  refine DJ (by omega) (by rw [e]; simp only; omega) ?_
  rw [e]
  simp only [Int.one_mul]
  refine ih (b - able ps) (mW 1 ps) (by omega) (by rw [d2]; omega) ?_ ?_
  ·intro q hq hc
   obtain ⟨p, hp, rfl⟩ := List.mem_map.1 hq
   have := hl p hp
   simp only at hc ⊢
   by_cases hc1 : p.1 + p.2 > 0
   ·rw [if_pos hc1] at hc ⊢
    have := this hc1
    omega
   ·rw [if_neg hc1] at hc
    omega
  ·rw [d2, ← d1]
   refine Ev.congr (fun k => ?_) h
   rw [show (((m + 1 : Nat) : Int) + 1) = ((m : Int) + 1) + 1 by omega]
   congr 2
   omega
theorem Uh : ∀ (n : Nat) (b : Int) (ps : List (Int × Int)), b.toNat = n → 0 ≤ b → b ≤ 2147483647 → Good ps → DZ ps → ps.length ≤ 100000 → b ≤ vz ps →
  ∃ qs : List (Int × Int), Ev (fun k => aX.l0 k b (ps.map Prod.fst) (ps.map Prod.snd)) (qs.map Prod.snd) ∧ Ev (fun k => vX k (-b) ps) (qs.map Prod.snd, true) ∧
   qs.map Prod.fst = ps.map Prod.fst ∧ Good qs ∧ JO qs ∧ outs qs = outs ps - b := by
 intro n
 induction n using Nat.strongRecOn with
 | _ n IH =>
 intro b ps hn h0 h1 hg he hl hav
 by_cases hb : b > 0
 ·have hab := Vf hg (by omega)
  have har := yE ps
  have akv := aag ps b hb
  have aku := Ui ps b
  have hm1 : 1 ≤ mx 1 (mn (lst b ps) (b / able ps)) := by unfold mx; split <;> omega
  have X3 : ∀ (m : Int), m = mx 1 (mn (lst b ps) (b / able ps)) → (∀ p, p ∈ ps → p.1 + p.2 > 0 → m ≤ p.1 + p.2) → ∀ r, Ev (fun k => aX.l0 k (jK m b ps).1 (ps.map Prod.fst) ((jK m b ps).2.map Prod.snd)) r → Ev (fun k => aX.l0 k b (ps.map Prod.fst) (ps.map Prod.snd)) r := by
   intro m hm hml r h
   refine Ev.step (f := fun k => aX.l1 k b (ps.map Prod.fst) (ps.map Prod.snd) 0 b (ps.map Prod.fst) ((ps.map Prod.fst).length : Int) 0) (fun k => ?_) ?_
   ·simp only [aX.l0]; rw [if_pos hb]
   ·have l2 := aad m r (by omega) ps [] b h0 h1 (by simpa using hg) hml (by simpa using hl) (by simpa using h)
    have l1 := aac b m r hb h1 ps [] 0 b (by simpa using hg) (by simpa using hl) (by omega) (by simp) (by omega) (by rw [Int.zero_add]; exact hm) (by simpa using l2)
    simpa using l1
  by_cases hfull : able ps ≤ b
  ·
   have hq1 : 1 ≤ b / able ps := by rw [Int.le_ediv_iff_mul_le hab]; omega
   have hm : mx 1 (mn (lst b ps) (b / able ps)) = mn (lst b ps) (b / able ps) := by unfold mx mn; split <;> split at * <;> omega
   have ag1 : 1 ≤ mn (lst b ps) (b / able ps) := by unfold mn; split <;> omega
   generalize hmm : mn (lst b ps) (b / able ps) = m at hm
   have hm0 : 1 ≤ m := by rw [← hmm]; exact ag1
   have agZ : m ≤ lst b ps := by rw [← hmm]; unfold mn; split <;> omega
   have ag0 : m ≤ b / able ps := by rw [← hmm]; unfold mn; split <;> omega
   have hall : ∀ p, p ∈ ps → p.1 + p.2 > 0 → m ≤ p.1 + p.2 := fun p hp hc => Int.le_trans agZ (aaf ps b p hp hc)
   have hmb : m * able ps ≤ b := (Int.le_ediv_iff_mul_le hab).1 ag0
   have hma : able ps ≤ m * able ps := by have := Int.mul_le_mul_of_nonneg_right hm0 (show 0 ≤ able ps by omega); omega
   have acm := E5 (m := m) (by omega) ps b hmb
   obtain ⟨qs, q1, q2, q3, q4, q5, q6⟩ := IH (b - m * able ps).toNat (by omega) (b - m * able ps) (mW m ps) rfl (by omega) (by omega) (SE (by omega) hg hall) (SC hg he (by omega)) (by simpa [mW] using hl) (by rw [Qg]; omega)
   rw [VG] at q1 q3
   have eo : outs (mW m ps) = outs ps - m * able ps := by
    have := Lj m ps b
    rw [acm] at this
    simp only at this
    omega
   refine ⟨qs, X3 m (by rw [hmm, hm]) hall _ (by rw [acm]; exact q1), ?_, q3, q4, q5, by omega⟩
   obtain ⟨m', rfl⟩ : ∃ m' : Nat, m = (m' : Int) + 1 := ⟨(m - 1).toNat, by omega⟩
   exact QT m' b ps hab hmb hall q2
  ·
   have hq0 : b / able ps = 0 := Int.ediv_eq_zero_of_lt h0 (by omega)
   have hm : mx 1 (mn (lst b ps) (b / able ps)) = 1 := by rw [hq0]; unfold mx mn; split <;> split at * <;> omega
   have hz := Vq ps b h0 (by omega)
   have eo := Lj 1 ps b
   refine ⟨(jK 1 b ps).2, X3 1 hm.symm (fun p _ hc => by omega) _ ?_, DJ hb (by omega) ?_, Yt 1 ps b, Vp hg, Vo he, by omega⟩
   ·rw [hz]
    refine Ev.step (fun k => ?_) (Ev.now _)
    simp only [aX.l0]
    rw [if_neg (by omega)]
   ·rw [hz]
    refine Ev.step (fun k => ?_) (Ev.now _)
    simp only [vX]
    rw [if_pos (by omega)]
 ·obtain rfl : b = 0 := by omega
  refine ⟨ps, ?_, ?_, rfl, hg, acu he, by omega⟩
  ·refine Ev.step (fun k => ?_) (Ev.now _)
   simp only [aX.l0]
   rw [if_neg hb]
  ·refine Ev.step (fun k => ?_) (Ev.now _)
   simp only [vX]
   rw [if_pos (by omega)]
def total : List Int → Int
 | [] => 0
 | g :: gs => g + total gs
theorem N8 (gs : List Int) : vz (gs.map fun g => (g, (0 : Int))) = total gs := by
 induction gs with
 | nil => rfl
 | cons g gs ih => simp only [List.map_cons, vz, total, ih]; omega
theorem DU (gs : List Int) (h : ∀ g, g ∈ gs → 0 ≤ g) : 0 ≤ total gs := by
 induction gs with
 | nil => simp [total]
 | cons g gs ih => have h1 := h g (by simp); have h2 := ih fun x hx => h x (by simp [hx]); simp only [total]; omega
def tZ (m : Int) (gs : List Int) : Int := if m + total gs > 2147483647 then 2147483647 else m + total gs
theorem NZ (b : Int) (r : List Int × Bool) : ∀ (rest pre : List Int) (s : Int), 0 ≤ s → s ≤ 2147483647 → (pre ++ rest).length ≤ 100000 →
  (∀ g, g ∈ rest → 0 ≤ g ∧ g ≤ 2147483647) →
  Ev (fun k => if ((pre ++ rest).length : Int) = 0 then (bf.j1 k b (pre ++ rest) true) else (if b < wrap64 (-(tZ s rest)) then (bf.j1 k b (pre ++ rest) true) else (bf.j1 k b (pre ++ rest) (decide (b > 2147483647))))) r →
  Ev (fun k => bf.l0 k b (pre ++ rest) s (pre ++ rest) ((pre ++ rest).length : Int) (pre.length : Int)) r := by
 intro rest
 induction rest with
 | nil =>
  intro pre s h0 h1 hl hg h
  refine Ev.step (fun k => ?_) h
  simp only [bf.l0]
  rw [if_neg (by simp)]
  have : tZ s [] = s := by unfold tZ; simp only [total, Int.add_zero]; rw [if_neg (by omega)]
  rw [this]
 | cons g rest ih =>
  intro pre s h0 h1 hl hg h
  have hgg := hg g (by simp)
  have ht := DU rest fun x hx => (hg x (by simp [hx])).1
  have hlen : ((pre ++ g :: rest).length : Int) = pre.length + (rest.length + 1) := by simp
  have e : pre ++ g :: rest = (pre ++ [g]) ++ rest := by simp
  have hc : tZ (mn 2147483647 (s + g)) rest = tZ s (g :: rest) := by unfold tZ mn; simp only [total]; split <;> split <;> (try split) <;> omega
  refine Ev.step (fun k => ?_) (ih (pre ++ [g]) (mn 2147483647 (s + g)) (by unfold mn; split <;> omega) (by unfold mn; split <;> omega) (by rw [← e]; exact hl) (fun x hx => hg x (by simp [hx])) (by rw [hc, ← e]; exact h))
  simp only [bf.l0]
  rw [IB, if_pos (by omega), if_pos (by omega), if_pos (by omega), if_neg (by omega), if_neg (by omega), wp (x := s + g) (by omega) (by omega), wp (x := (pre.length : Int) + 1) (by omega) (by omega), ← e]
  simp
theorem QV (b : Int) : ∀ (rest pre : List Int) (s : Int), 0 ≤ s → s ≤ 2147483647 → (pre ++ rest).length ≤ 100000 → ¬ (∀ g, g ∈ rest → 0 ≤ g ∧ g ≤ 2147483647) →
  Ev (fun k => bf.l0 k b (pre ++ rest) s (pre ++ rest) ((pre ++ rest).length : Int) (pre.length : Int)) ([], false) := by
 intro rest
 induction rest with
 | nil => intro pre s _ _ _ h; exact absurd (fun g hg => by cases hg) h
 | cons g rest ih =>
  intro pre s h0 h1 hl hg
  have hlen : ((pre ++ g :: rest).length : Int) = pre.length + (rest.length + 1) := by simp
  by_cases hgg : 0 ≤ g ∧ g ≤ 2147483647
  ·have e : pre ++ g :: rest = (pre ++ [g]) ++ rest := by simp
   refine Ev.step (fun k => ?_) (ih (pre ++ [g]) (mn 2147483647 (s + g)) (by unfold mn; split <;> omega) (by unfold mn; split <;> omega) (by rw [← e]; exact hl) (fun h => hg fun x hx => by
    rcases List.mem_cons.1 hx with rfl | hx
    ·exact hgg
    ·exact h x hx))
   simp only [bf.l0]
   rw [IB, if_pos (by omega), if_pos (by omega), if_pos (by omega), if_neg (by omega), if_neg (by omega), wp (x := s + g) (by omega) (by omega), wp (x := (pre.length : Int) + 1) (by omega) (by omega), ← e]
   simp
  ·refine Ev.step (fun k => ?_) (Ev.now _)
   simp only [bf.l0]
   rw [IB, if_pos (by omega), if_pos (by omega), if_pos (by omega)]
   by_cases h : g < 0
   ·rw [if_pos h]
   ·rw [if_neg h, if_pos (by omega)]
theorem NL (xs ys : List Int) : total (xs ++ ys) = total xs + total ys := by
 induction xs with
 | nil => simp [total]
 | cons x xs ih => simp only [List.cons_append, total, ih]; omega
theorem Q4 (a : Int) (n : Int) (_h0 : 0 ≤ a % n) : ∀ m : Nat, total ((List.range m).map fun i => qH a n (i : Nat)) = m * (a / n) + (if (m : Int) ≤ a % n then (m : Int) else a % n) := by
 intro m
 induction m with
 | zero => simp [total]; omega
 | succ m ih =>
  rw [List.range_succ, List.map_append, NL, ih]
  simp only [List.map_cons, List.map_nil, total, qH]
  rw [show ((m + 1 : Nat) : Int) = (m : Int) + 1 by omega, Int.add_mul, Int.one_mul]
  split <;> split <;> split <;> omega
theorem N9 (a : Int) (n : Nat) (h0 : 0 ≤ a) (hn : 0 < n) : total (moreL a n) = a := by
 have h1 := Int.emod_nonneg a (show (n : Int) ≠ 0 by omega)
 have h2 := Int.emod_lt_of_pos a (show (0 : Int) < n by omega)
 have h := Q4 a n h1 n
 unfold moreL
 rw [h, if_neg (by omega)]
 have := Int.mul_ediv_add_emod a n
 omega
theorem Q9 {gs : List Int} (h : ∀ g, g ∈ gs → 0 ≤ g ∧ g ≤ 2147483647) : Good (gs.map fun g => (g, (0 : Int))) := by
 intro p hp
 obtain ⟨g, hg, rfl⟩ := List.mem_map.1 hp
 have := h g hg
 simp only
 omega
theorem Q8 (gs : List Int) : DZ (gs.map fun g => (g, (0 : Int))) := by
 intro p hp q hq h
 obtain ⟨g, hg, rfl⟩ := List.mem_map.1 hp
 obtain ⟨g', hg', rfl⟩ := List.mem_map.1 hq
 simp at h
theorem Q_ (gs : List Int) : outs (gs.map fun g => (g, (0 : Int))) = 0 := by
 induction gs with
 | nil => rfl
 | cons g gs ih => simp only [List.map_cons, outs, ih]; rfl
theorem QH (ps : List (Int × Int)) : outs ps = total (ps.map Prod.snd) := by
 induction ps with
 | nil => rfl
 | cons p ps ih => simp only [List.map_cons, outs, total, ih]
def KL (b : Int) (gs : List Int) (r : List Int × Bool) : Prop :=
 (r = ([], false) ∧ (gs = [] ∨ (¬ ∀ g, g ∈ gs → 0 ≤ g ∧ g ≤ 2147483647) ∨ ((∀ g, g ∈ gs → 0 ≤ g ∧ g ≤ 2147483647) ∧ b < -total gs))) ∨
 (r = (moreL b gs.length, true) ∧ gs ≠ [] ∧ (∀ g, g ∈ gs → 0 ≤ g ∧ g ≤ 2147483647) ∧ 0 ≤ b) ∨
 (∃ qs : List (Int × Int), r = (qs.map Prod.snd, true) ∧ (∀ g, g ∈ gs → 0 ≤ g ∧ g ≤ 2147483647) ∧ b < 0 ∧ qs.map Prod.fst = gs ∧ Good qs ∧ JO qs ∧ outs qs = b ∧ Ev (fun k => vX k b (gs.map fun g => (g, 0))) (qs.map Prod.snd, true))
theorem UN (b : Int) (gs : List Int) (hl : gs.length ≤ 100000) (h0 : -2147483647 ≤ b) (h1 : b ≤ 2147483647) : ∃ r, KL b gs r ∧ Ev (fun k => bf.f k b gs) r := by
 by_cases hg : ∀ g, g ∈ gs → 0 ≤ g ∧ g ≤ 2147483647
 ·have ht := DU gs fun g h => (hg g h).1
  have look := fun r => NZ b r gs [] 0 (by omega) (by omega) (by simpa using hl) hg
  have hcap : tZ 0 gs = if total gs > 2147483647 then 2147483647 else total gs := by unfold tZ; rw [Int.zero_add]
  have hw : wrap64 (-(tZ 0 gs)) = -(tZ 0 gs) := by rw [hcap]; apply wp <;> split <;> omega
  simp only [List.nil_append, List.length_nil] at look
  have j1t : Ev (fun k => bf.j1 k b gs true) ([], false) := by
   refine Ev.step (fun k => ?_) (Ev.now _)
   simp only [bf.j1]
   rw [if_pos trivial]
  by_cases hne : gs = []
  ·refine ⟨_, .inl ⟨rfl, .inl hne⟩, ?_⟩
   refine look _ ?_
   refine Ev.AY (by simp [hne]) j1t
  ·have hpos : 0 < gs.length := List.length_pos_iff.2 hne
   by_cases hb : b < -total gs
   ·refine ⟨_, .inl ⟨rfl, .inr (.inr ⟨hg, hb⟩)⟩, look _ (Ev.AX (by omega) (Ev.AY ?_ j1t))⟩
    rw [hw, hcap]
    split <;> omega
   ·have hdec : decide (b > 2147483647) = false := by simp; omega
    have go : ∀ r, Ev (fun k => bf.j1 k b gs false) r → Ev (fun k => bf.f k b gs) r := fun r h => by
     refine look _ (Ev.AX (by omega) (Ev.AX ?_ ?_))
     ·rw [hw, hcap]; split <;> omega
     ·rw [hdec]; exact h
    by_cases hb0 : 0 ≤ b
    ·refine ⟨_, .inr (.inl ⟨rfl, hne, hg, hb0⟩), go _ (Ev.step (fun k => ?_) (Ev.now _))⟩
     simp only [bf.j1]
     rw [if_neg (by simp), if_pos (by omega)]
     unfold oZ.f
     rw [if_pos ⟨hb0, by omega, by omega, by omega⟩]
     simp
    ·obtain ⟨qs, q1, q2, q3, q4, q5, q6⟩ := Uh (-b).toNat (-b) (gs.map fun g => (g, 0)) rfl (by omega) (by omega) (Q9 hg) (Q8 gs) (by simpa using hl) (by rw [N8]; omega)
     have e1 : (gs.map fun g => (g, (0 : Int))).map Prod.fst = gs := by simp [List.map_map, Function.comp_def]
     have e2 : (gs.map fun g => (g, (0 : Int))).map Prod.snd = List.replicate gs.length 0 := by simp [List.map_map, Function.comp_def, List.map_const']
     rw [e1] at q1 q3
     rw [e2] at q1
     rw [Q_] at q6
     rw [Int.neg_neg] at q2
     refine ⟨_, .inr (.inr ⟨qs, rfl, hg, by omega, q3, q4, q5, by omega, q2⟩), go _ (Ev.step (f := fun k => (aX.f k (-b) gs).bind fun t => some (t, true)) (fun k => ?_) (Ev.bind (a := qs.map Prod.snd) ?_ (Ev.now _)))⟩
     ·simp only [bf.j1]
      rw [if_neg (by simp), if_neg (by omega), wp (by omega) (by omega)]
     ·refine Ev.congr (fun k => ?_) q1
      unfold aX.f
      rw [if_pos (by omega), if_pos (by omega)]
      simp
 ·refine ⟨_, .inl ⟨rfl, .inr (.inl hg)⟩, ?_⟩
  have := QV b gs [] 0 (by omega) (by omega) (by simpa using hl) hg
  simp only [List.nil_append, List.length_nil] at this
  exact this
section
variable {Pr : Program} {ops : Array Oper} {rest : List Oper} {op : Oper} {a : Act} {Q : Exit → Act → World → Prop} {w W : World} {P : Nat → Prop} {bs : List (Option Nat × Obj)} {ow : List (Value × List ai)} {ts : List (Value × List ai)} {ro : List (Addr × Value)}
theorem gX (N : Tmp) (_ : op.dst = some N) (h : wpList Pr ops Q (op :: rest) a W) : wpList Pr ops Q (op :: rest) a W := h
theorem aj9 (t : TypeId) (p x : Operand) (_ : op.op = .store t p x) (h : wpList Pr ops Q (op :: rest) a W) : wpList Pr ops Q (op :: rest) a W := h
theorem boxS (N : Tmp) (cs : Array Value) (t : TypeId) (S : ae (St w P bs ow ts ro W))
  (h : ∀ g w1, ae (St w P ((some g, .cells cs t (0, 0)) :: bs) ow ts ro w1) → wpList Pr ops Q rest (a.put op.dst (.pointer (some ⟨g, 0, none⟩))) w1) (hd : op.dst = some N := by rfl) (hgd : op.guard = none := by rfl)
  (hr : (execOp a.eval op).run Pr W = .ok (.value (.pointer (some ⟨W.heap.size, 0, none⟩))) (W.alloc (.cells cs t (0, 0))) := by first | (go_simp; done) | (go_simp; rfl)) : wpList Pr ops Q (op :: rest) a W :=
 ab1 hd hgd cs t S.out hr (fun g w1 S1 => h g w1 ⟨S1⟩)
theorem QO (i : Nat) {g : Nat} {cs : Array Value} {t0 : TypeId} (hi : bs[i]? = some (some g, .cells cs t0 (0, 0))) (t : TypeId) (p x : Tmp) (cs' : Array Value) (j n : Nat) (S : ae (St w P bs ow ts ro W)) (h : ∀ w1, ae (St w P (bs.set i (some g, .cells cs' t0 (0, 0))) ow ts ro w1) → wpList Pr ops Q rest a w1)
  (ho : op.op = .store t (.tmp p) (.tmp x)) (kD : a.eval (.tmp p) = .pointer (some ⟨g, j, none⟩)) (hu : (a.eval (.tmp x)).cells.toList = (cs'.toList.drop j).take n) (ht : (Pr.info? t).map (·.size) = some n)
  (hn : ((cs'.toList.drop j).take n).length = n) (h1 : ((cs'.toList.drop j).take n).all Value.oneCell' = true) (hj : j + n ≤ cs.size) (he : cs.toList.take j ++ (cs'.toList.drop j).take n ++ cs.toList.drop (j + n) = cs'.toList) (hN : op.dst = none) (hgd : op.guard = none) : wpList Pr ops Q (op :: rest) a W :=
 adS i hi t (.tmp p) (.tmp x) ho cs' S.out kD rfl hu (by rw [hn]; exact ht) (fun q hq => List.all_eq_true.1 h1 q hq) (by rw [hn]; exact hj) (by rw [hn]; exact he) hN hgd (fun w1 S1 => h w1 ⟨S1⟩)
variable {g : Nat} {cs : Array Value} {t0 : TypeId} {b0 b1 b2 b3 b4 : Option Nat × Obj}
theorem ik (t : TypeId) (p x : Tmp) (cs' : Array Value) (j n : Nat) (S : ae (St w P ((some g, .cells cs t0 (0, 0)) :: bs) ow ts ro W)) (h : ∀ w1, ae (St w P ((some g, .cells cs' t0 (0, 0)) :: bs) ow ts ro w1) → wpList Pr ops Q rest a w1)
  (ho : op.op = .store t (.tmp p) (.tmp x) := by rfl) (kD : a.eval (.tmp p) = .pointer (some ⟨g, j, none⟩) := by rfl) (hu : (a.eval (.tmp x)).cells.toList = (cs'.toList.drop j).take n := by rfl) (ht : (Pr.info? t).map (·.size) = some n := by kernel_rfl)
  (hn : ((cs'.toList.drop j).take n).length = n := by rfl) (h1 : ((cs'.toList.drop j).take n).all Value.oneCell' = true := by rfl) (hj : j + n ≤ cs.size := by first | decide | simp) (he : cs.toList.take j ++ (cs'.toList.drop j).take n ++ cs.toList.drop (j + n) = cs'.toList := by rfl) (hN : op.dst = none := by rfl) (hgd : op.guard = none := by rfl) : wpList Pr ops Q (op :: rest) a W :=
 QO 0 rfl t p x cs' j n S h ho kD hu ht hn h1 hj he hN hgd
theorem zV (t : TypeId) (p x : Tmp) (cs' : Array Value) (j n : Nat) (S : ae (St w P (b0 :: (some g, .cells cs t0 (0, 0)) :: bs) ow ts ro W)) (h : ∀ w1, ae (St w P (b0 :: (some g, .cells cs' t0 (0, 0)) :: bs) ow ts ro w1) → wpList Pr ops Q rest a w1)
  (ho : op.op = .store t (.tmp p) (.tmp x) := by rfl) (kD : a.eval (.tmp p) = .pointer (some ⟨g, j, none⟩) := by rfl) (hu : (a.eval (.tmp x)).cells.toList = (cs'.toList.drop j).take n := by rfl) (ht : (Pr.info? t).map (·.size) = some n := by kernel_rfl)
  (hn : ((cs'.toList.drop j).take n).length = n := by rfl) (h1 : ((cs'.toList.drop j).take n).all Value.oneCell' = true := by rfl) (hj : j + n ≤ cs.size := by first | decide | simp) (he : cs.toList.take j ++ (cs'.toList.drop j).take n ++ cs.toList.drop (j + n) = cs'.toList := by rfl) (hN : op.dst = none := by rfl) (hgd : op.guard = none := by rfl) : wpList Pr ops Q (op :: rest) a W :=
 QO 1 rfl t p x cs' j n S h ho kD hu ht hn h1 hj he hN hgd
theorem QN (t : TypeId) (p x : Tmp) (cs' : Array Value) (j n : Nat) (S : ae (St w P (b0 :: b1 :: (some g, .cells cs t0 (0, 0)) :: bs) ow ts ro W)) (h : ∀ w1, ae (St w P (b0 :: b1 :: (some g, .cells cs' t0 (0, 0)) :: bs) ow ts ro w1) → wpList Pr ops Q rest a w1)
  (ho : op.op = .store t (.tmp p) (.tmp x) := by rfl) (kD : a.eval (.tmp p) = .pointer (some ⟨g, j, none⟩) := by rfl) (hu : (a.eval (.tmp x)).cells.toList = (cs'.toList.drop j).take n := by rfl) (ht : (Pr.info? t).map (·.size) = some n := by kernel_rfl)
  (hn : ((cs'.toList.drop j).take n).length = n := by rfl) (h1 : ((cs'.toList.drop j).take n).all Value.oneCell' = true := by rfl) (hj : j + n ≤ cs.size := by first | decide | simp) (he : cs.toList.take j ++ (cs'.toList.drop j).take n ++ cs.toList.drop (j + n) = cs'.toList := by rfl) (hN : op.dst = none := by rfl) (hgd : op.guard = none := by rfl) : wpList Pr ops Q (op :: rest) a W :=
 QO 2 rfl t p x cs' j n S h ho kD hu ht hn h1 hj he hN hgd
theorem WL (t : TypeId) (p x : Tmp) (cs' : Array Value) (j n : Nat) (S : ae (St w P (b0 :: b1 :: b2 :: (some g, .cells cs t0 (0, 0)) :: bs) ow ts ro W)) (h : ∀ w1, ae (St w P (b0 :: b1 :: b2 :: (some g, .cells cs' t0 (0, 0)) :: bs) ow ts ro w1) → wpList Pr ops Q rest a w1)
  (ho : op.op = .store t (.tmp p) (.tmp x) := by rfl) (kD : a.eval (.tmp p) = .pointer (some ⟨g, j, none⟩) := by rfl) (hu : (a.eval (.tmp x)).cells.toList = (cs'.toList.drop j).take n := by rfl) (ht : (Pr.info? t).map (·.size) = some n := by kernel_rfl)
  (hn : ((cs'.toList.drop j).take n).length = n := by rfl) (h1 : ((cs'.toList.drop j).take n).all Value.oneCell' = true := by rfl) (hj : j + n ≤ cs.size := by first | decide | simp) (he : cs.toList.take j ++ (cs'.toList.drop j).take n ++ cs.toList.drop (j + n) = cs'.toList := by rfl) (hN : op.dst = none := by rfl) (hgd : op.guard = none := by rfl) : wpList Pr ops Q (op :: rest) a W :=
 QO 3 rfl t p x cs' j n S h ho kD hu ht hn h1 hj he hN hgd
theorem iw (N : Option Tmp) {f : FuncId} {fn : Func} (hf : Pr.funcs[f]? = some fn) {ar : Array Operand} {DW : Array TypeId} {args : Array Value} {post : Ending → World → Prop} (hc : Calls Pr f args W post)
  (h : ∀ e w1, post e w1 → ∃ v, e = .returned v ∧ wpList Pr ops Q rest (a.put N v) w1) (hd : op.dst = N := by rfl) (hg : op.guard = none := by rfl) (hop : op.op = .call { callee := .value (.func f), args := ar, argTypes := DW } := by rfl)
  (hname : (fn.name == "runtime.NumGoroutine") = false := by kernel_rfl) (hb : fn.body.isSome = true := by rfl) (hargs : ar.map a.eval = args := by ((try simp only [List.map_toArray, List.map_cons, List.map_nil]); first | done | rfl)) : wpList Pr ops Q (op :: rest) a W :=
 mM N hd hg hf hname hb args hop hargs (hc.mono h)
theorem bT (N : Option Tmp) {f : FuncId} {fn : Func} (hf : Pr.funcs[f]? = some fn) {ar : Array Operand} {DW : Array TypeId} {args : Array Value} {v : Value} (S : ae (St w P bs ow ts ro W)) (hc : Calls Pr f args W fun e w' => e = .returned v ∧ Below W.heap.size W w')
  (h : ∀ w1, ae (St w P bs ow ts ro w1) → wpList Pr ops Q rest (a.put N v) w1) (hd : op.dst = N := by rfl) (hg : op.guard = none := by rfl) (hop : op.op = .call { callee := .value (.func f), args := ar, argTypes := DW } := by rfl)
  (hname : (fn.name == "runtime.NumGoroutine") = false := by kernel_rfl) (hb : fn.body.isSome = true := by rfl) (hargs : ar.map a.eval = args := by ((try simp only [List.map_toArray, List.map_cons, List.map_nil]); first | done | rfl)) : wpList Pr ops Q (op :: rest) a W :=
 mM N hd hg hf hname hb args hop hargs (hc.mono fun e w1 ⟨he, hb⟩ => ⟨v, he, h w1 ⟨S.out.call hb⟩⟩)
theorem BG (N : Option Tmp) {f : FuncId} {fn : Func} (hf : Pr.funcs[f]? = some fn) {ar : Array Operand} {DW : Array TypeId} {args : Array Value} {l : List ai} {F : Option Addr → Nat → Value} (S : ae (St w P bs ow ts ro W))
  (hc : Calls Pr f args W fun e w' => ∃ A c, e = .returned (F A c) ∧ Kd.N k26 26 w' W.heap.size (fun k => Ok w P (keys bs ow) k ∨ W.heap.size ≤ k) (.slice A l.length c) l ∧ Below W.heap.size W w')
  (h : ∀ A c w1, ae (St w P bs ow ((.slice A l.length c, l) :: ts) ro w1) → wpList Pr ops Q rest (a.put N (F A c)) w1) (hd : op.dst = N := by rfl) (hg : op.guard = none := by rfl) (hop : op.op = .call { callee := .value (.func f), args := ar, argTypes := DW } := by rfl)
  (hname : (fn.name == "runtime.NumGoroutine") = false := by kernel_rfl) (hb : fn.body.isSome = true := by rfl) (hargs : ar.map a.eval = args := by ((try simp only [List.map_toArray, List.map_cons, List.map_nil]); first | done | rfl)) : wpList Pr ops Q (op :: rest) a W :=
 mM N hd hg hf hname hb args hop hargs (hc.mono fun e w1 ⟨A, c, he, h1, hb⟩ => ⟨_, he, h A c w1 ⟨S.out.res (Kd.qF (base' := 0) h1) hb⟩⟩)
theorem XG (N : Option Tmp) {f : FuncId} {fn : Func} (hf : Pr.funcs[f]? = some fn) {ar : Array Operand} {DW : Array TypeId} {args : Array Value} {l : List ai} {F : Option Addr → Nat → Value} (S : ae (St w P bs ow ts ro W))
  (hc : Calls Pr f args W fun e w' => ∃ A c, e = .returned (F A c) ∧ Kd.V k26 26 w' W.heap.size (fun k => Ok w P (keys bs ow) k ∨ W.heap.size ≤ k) (.slice A l.length c) l ∧ Below W.heap.size W w')
  (h : ∀ A c w1, ae (St w P bs ow ((.slice A l.length c, l) :: ts) ro w1) → wpList Pr ops Q rest (a.put N (F A c)) w1) (hd : op.dst = N := by rfl) (hg : op.guard = none := by rfl) (hop : op.op = .call { callee := .value (.func f), args := ar, argTypes := DW } := by rfl)
  (hname : (fn.name == "runtime.NumGoroutine") = false := by kernel_rfl) (hb : fn.body.isSome = true := by rfl) (hargs : ar.map a.eval = args := by ((try simp only [List.map_toArray, List.map_cons, List.map_nil]); first | done | rfl)) : wpList Pr ops Q (op :: rest) a W :=
 mM N hd hg hf hname hb args hop hargs (hc.mono fun e w1 ⟨A, c, he, h1, hb⟩ => ⟨_, he, h A c w1 ⟨S.out.res h1 hb⟩⟩)
theorem Ql (N : Option Tmp) {f : FuncId} {fn : Func} (hf : Pr.funcs[f]? = some fn) {ar : Array Operand} {DW : Array TypeId} {args : Array Value} {l : List ai} {F : Option Addr → Nat → Value} (S : ae (St w P bs [] ts ro W))
  (hc : Calls Pr f args W fun e w' => ∃ A c, e = .returned (F A c) ∧ Kd.N k26 26 w' W.heap.size (fun k => Ok w P (keys bs []) k ∨ W.heap.size ≤ k) (.slice A l.length c) l ∧ Below W.heap.size W w')
  (h : ∀ A c w1, ae (St w P bs [(.slice A l.length c, l)] ts ro w1) → wpList Pr ops Q rest (a.put N (F A c)) w1) (hd : op.dst = N := by rfl) (hg : op.guard = none := by rfl) (hop : op.op = .call { callee := .value (.func f), args := ar, argTypes := DW } := by rfl)
  (hname : (fn.name == "runtime.NumGoroutine") = false := by kernel_rfl) (hb : fn.body.isSome = true := by rfl) (hargs : ar.map a.eval = args := by ((try simp only [List.map_toArray, List.map_cons, List.map_nil]); first | done | rfl)) : wpList Pr ops Q (op :: rest) a W :=
 mM N hd hg hf hname hb args hop hargs (hc.mono fun e w1 ⟨A, c, he, h1, hb⟩ => ⟨_, he, h A c w1 ⟨S.out.yj h1 hb⟩⟩)
end
section
variable {w W : World} {P : Nat → Prop} {bs : List (Option Nat × Obj)} {ow : List (Value × List ai)} {ts : List (Value × List ai)} {ro : List (Addr × Value)} {g : Nat} {t : TypeId} {v0 v1 v2 v3 v4 v5 v6 : Value} {a0 a1 a2 a3 a4 a5 a6 : Addr}
theorem St.fA (S : ae (St w P bs ow ts ro W)) (hm : (some g, .cells #[v0, v1, v2, v3, v4, v5, v6] t (0, 0)) ∈ bs) :
  W.cell? ⟨g, 0, none⟩ = some v0 ∧ W.cell? ⟨g, 1, none⟩ = some v1 ∧ W.cell? ⟨g, 2, none⟩ = some v2 ∧ W.cell? ⟨g, 3, none⟩ = some v3 ∧ W.cell? ⟨g, 4, none⟩ = some v4 ∧ W.cell? ⟨g, 5, none⟩ = some v5 ∧ W.cell? ⟨g, 6, none⟩ = some v6 :=
 ⟨S.out.at hm 0, S.out.at hm 1, S.out.at hm 2, S.out.at hm 3, S.out.at hm 4, S.out.at hm 5, S.out.at hm 6⟩
theorem St.at4 (S : ae (St w P bs ow ts ro W)) (hm : (some g, .cells #[v0, v1, v2, v3] t (0, 0)) ∈ bs) :
  W.cell? ⟨g, 0, none⟩ = some v0 ∧ W.cell? ⟨g, 1, none⟩ = some v1 ∧ W.cell? ⟨g, 2, none⟩ = some v2 ∧ W.cell? ⟨g, 3, none⟩ = some v3 :=
 ⟨S.out.at hm 0, S.out.at hm 1, S.out.at hm 2, S.out.at hm 3⟩
theorem St.Jh (S : ae (St w P bs ow ts ((a0, v0) :: (a1, v1) :: (a2, v2) :: (a3, v3) :: (a4, v4) :: (a5, v5) :: (a6, v6) :: ro) W)) :
  W.cell? a0 = some v0 ∧ W.cell? a1 = some v1 ∧ W.cell? a2 = some v2 ∧ W.cell? a3 = some v3 ∧ W.cell? a4 = some v4 ∧ W.cell? a5 = some v5 ∧ W.cell? a6 = some v6 :=
 ⟨(S.out.cell _ (.head _)).1, (S.out.cell _ bz).1, (S.out.cell _ dR).1, (S.out.cell _ kX).1, (S.out.cell _ qg).1, (S.out.cell _ AZ).1, (S.out.cell _ Cf).1⟩
end
section
variable {Pr : Program} {md : Region.Mode} {ops : Array Oper} {Q : Exit → Act → World → Prop} {S : World → Prop} {ds : List Nat}
theorem dK (N : Tmp) {fuel : Nat} {l : Array Bool} {b a' : Act} {v : Value} {w : World} (h : bI Pr md ops Q S ds fuel l a' w) (ha : Act.put b (some N) v = a' := by simp only [Act.put, List.setIfInBounds_toArray, List.set_cons_zero, List.set_cons_succ, jR, jQ]; rfl) : bI Pr md ops Q S ds fuel l (Act.put b (some N) v) w := kM ha h
end
theorem yF {Pr : Program} {ops : Array Oper} {Q : Exit → Act → World → Prop} {oi : Oper} {N : Option Tmp} {a : Act} {w : World} {K : Act → World → Prop} {f : FuncId} {fn : Func} {ar : Array Operand} {ts : Array TypeId} (hf : Pr.funcs[f]? = some fn) (args : Array Value) (h : Calls Pr f args w fun e w' => ∃ v, e = .returned v ∧ K (a.put N v) w')
  (hname : (fn.name == "runtime.NumGoroutine") = false := by kernel_rfl) (hb : fn.body.isSome = true := by rfl) (hw : Region.wanted oi (yielded ops a.tmps) = true := by rfl) (hN : oi.dst = N := by rfl) (hop : oi.op = .call { callee := .value (.func f), args := ar, argTypes := ts } := by rfl) (hargs : ar.map a.eval = args := by ((try simp only [List.map_toArray, List.map_cons, List.map_nil]); first | done | rfl)) : if Region.wanted oi (yielded ops a.tmps) = true then Oper.wp Pr oi a w K Q else K (a.put N undef) w :=
 jH hf hname hb args hw hN hop hargs h
theorem jf {Pr : Program} {ops : Array Oper} {md : Region.Mode} {Q : Exit → Act → World → Prop} {S : World → Prop} {ds : List Nat} {T : Bool × List (List Nat × List Nat)} {fuel : Nat} {l : Array Bool} {a : Act} {w : World} {oi : Oper} (i : Nat) (N : Option Tmp) (l' : Array Bool) (HT : ae (iD md ops = T)) (h : ∀ K : Act → World → Prop, Shut (∀ a' w', S w' → (S w' → bI Pr md ops Q S ds fuel l' a' w') → K a' w') → if Region.wanted oi (yielded ops a.tmps) = true then Oper.wp Pr oi a w K Q else K (a.put N undef) w)
  (hi : ops[i]? = some oi := by rfl) (hN : oi.dst = N := by rfl) (hc : (xA T.2 l.toList == [i] && l.toList.set i true == l'.toList) = true := by kernel_rfl) (hd : i ∉ ds := by decide) : bI Pr md ops Q S ds (fuel + 1) l a w :=
 Np l' hi hN (xx HT.out hc) hd h
theorem nT {Pr : Program} {ops : Array Oper} {md : Region.Mode} {Q : Exit → Act → World → Prop} {S : World → Prop} {ds : List Nat} {T : Bool × List (List Nat × List Nat)} {fuel : Nat} {l : Array Bool} {a : Act} {w : World} {oi : Oper} (i : Nat) (N : Option Tmp) (l' : Array Bool) (HT : ae (iD md ops = T)) (h : ∀ K : Act → World → Prop, Shut (∀ a' w', bI Pr md ops Q S ds fuel l' a' w' → K a' w') → if Region.wanted oi (yielded ops a.tmps) = true then Oper.wp Pr oi a w K Q else K (a.put N undef) w)
  (hi : ops[i]? = some oi := by rfl) (hN : oi.dst = N := by rfl) (hc : (xA T.2 l.toList == [i] && l.toList.set i true == l'.toList) = true := by kernel_rfl) (hd : i ∈ ds := by decide) : bI Pr md ops Q S ds (fuel + 1) l a w :=
 QB l' hi hN (xx HT.out hc) hd h
section
variable {α : Type} {d : Kd α} {e : TypeId} {w : World} {P : Nat → Prop} {bs bs' : List (Option Nat × Obj)} {ow : List (Value × List ai)} {ts : List (Value × List ai)} {ro : List (Addr × Value)} {W W1 : World} {b0 : Nat} {o o1 : Obj} {v v1 : Value} {xs : List α} {ok : Nat → Prop}
def KR (d : Kd α) (e : TypeId) (base : Nat) (v : Value) (xs : List α) (o : Obj) : Prop := ∀ W : World, (∀ g, v.ownBlock = some g → W.heap[g]? = some o) → d.R e W base (fun k => some k = v.ownBlock) v xs
theorem JR {b' : Nat} (hE : d.E = []) (h : d.R e W1 b0 ok v xs) (hb : b' ≤ b0) : ∃ o, (∀ g, v.ownBlock = some g → W1.heap[g]? = some o) ∧ KR d e b' v xs o := by
 have ht := Kd.pI (Kd.D6 hE h) hb
 cases hv : v.ownBlock with
 | none => exact ⟨.cells #[] 0 (0, 0), fun g hg => (by cases hg), fun W hW => Kd.yP ht (fun k hk => (by rw [hv] at hk; cases hk))⟩
 | some g =>
  obtain ⟨cells, hc⟩ := Kd.Ho h g hv
  refine ⟨_, fun g' hg => (by injection hg with hg; rw [← hg]; exact hc), fun W hW => Kd.yP ht (fun k hk _ => ?_)⟩
  rw [hv] at hk
  injection hk with hk
  rw [hk, hc]
  exact hW g hv
theorem St.FM (hE : d.E = []) (S : St w P bs ow ts ro W) (h : d.R e W1 W.heap.size ok v xs) (hb : Below W.heap.size W W1) : ∃ o, St w P ((v.ownBlock, o) :: bs) ow ts ro W1 ∧ KR d e w.heap.size v xs o := by
 obtain ⟨o, h1, h2⟩ := JR hE h S.below.size
 exact ⟨o, S.Ll v.ownBlock (fun g hg => ⟨Kd.KJ h g hg, h1 g hg⟩) hb, h2⟩
theorem KC (d : Kd α) (e : TypeId) (base : Nat) : KR d e base (.slice none 0 0) [] (.cells #[] 0 (0, 0)) := fun _ _ => Kd.uz _ _ _ _ _
theorem St.noK (S : St w P bs ow ts ro W) : St w P (((Value.slice none 0 0).ownBlock, .cells #[] 0 (0, 0)) :: bs) ow ts ro W := S.Ll none (fun _ h => by cases h) (Below.refl _ _)
theorem KA {base : Nat} (HI : KR d e base v xs o) (S : St w P bs ow ts ro W) (hm : (v.ownBlock, o) ∈ bs) : d.R e W base (fun k => some k = v.ownBlock) v xs := HI W (S.blk _ hm)
theorem Va {base : Nat} {A : Option Addr} {c : Nat} (HI : KR d e base (.slice A xs.length c) xs o) (S : St w P bs ow ts ro W) (hm : ((Value.slice A xs.length c).ownBlock, o) ∈ bs) : d.C W A xs.length xs ∧ xs.length ≤ c :=
 have h := Kd.dP (KA HI S hm)
 ⟨h.2.2, h.2.1⟩
theorem St.perm (hp : bs.Perm bs') (S : St w P bs ow ts ro W) : St w P bs' ow ts ro W := by
 have hk : (keys bs ow).Perm (keys bs' ow) := (hp.filterMap _).append_right _
 have hm : ∀ k, k ∈ keys bs' ow ↔ k ∈ keys bs ow := fun k => hk.symm.mem_iff
 have hO : ∀ k, Ok w P (keys bs ow) k → Ok w P (keys bs' ow) k := fun k h => ⟨h.1, fun h2 => h.2 ((hm k).1 h2)⟩
 exact ⟨S.below, fun x hx => S.blk x (hp.symm.mem_iff.1 hx), fun k hk => S.new k ((hm k).1 hk), hk.nodup_iff.1 S.nd, fun t ht => Kd.gJ (S.tree t ht) hO, fun r hr => Kd.iM (S.own r hr) (fun k h => h.imp (hO k) id), fun c hc => ⟨(S.cell c hc).1, fun h => (S.cell c hc).2 ((hm _).1 h)⟩⟩
variable {x b1 b2 b3 b4 b5 b6 : Option Nat × Obj}
theorem St.sW (S : St w P (b1 :: x :: bs) ow ts ro W) : St w P (x :: b1 :: bs) ow ts ro W := S.perm (List.perm_middle (l₁ := [b1]))
theorem St.uP (S : St w P (b1 :: b2 :: x :: bs) ow ts ro W) : St w P (x :: b1 :: b2 :: bs) ow ts ro W := S.perm (List.perm_middle (l₁ := [b1, b2]))
theorem St.qV (S : St w P (b1 :: b2 :: b3 :: x :: bs) ow ts ro W) : St w P (x :: b1 :: b2 :: b3 :: bs) ow ts ro W := S.perm (List.perm_middle (l₁ := [b1, b2, b3]))
end
section
variable {α : Type} {d : Kd α} {e : TypeId} {Pr : Program} {ops : Array Oper} {rest : List Oper} {op : Oper} {a : Act} {Q : Exit → Act → World → Prop} {Kc : Act → World → Prop} {w W : World} {P : Nat → Prop} {bs : List (Option Nat × Obj)} {ow : List (Value × List ai)} {ts : List (Value × List ai)} {ro : List (Addr × Value)} {v : Value} {xs : List α} {o : Obj}
theorem lT (d : Kd α) (e : TypeId) (hE : d.E = []) (N : Tmp) (S : ae (St w P bs ow ts ro W)) (h : ∀ A c o w1, ae (St w P (((Value.slice A 0 c).ownBlock, o) :: bs) ow ts ro w1) → ae (KR d e w.heap.size (.slice A 0 c) [] o) → wpList Pr ops Q rest (a.put op.dst (.slice A 0 c)) w1)
  (hd : op.dst = some N := by rfl) (hgd : op.guard = none := by rfl) (hrun : (execOp a.eval op).run Pr W = .ok (.value (.slice (some ⟨W.heap.size, 0, none⟩) 0 0)) (W.alloc (.cells #[] e)) := by first | (go_simp; done) | (go_simp; rfl)) : wpList Pr ops Q (op :: rest) a W :=
 Kd.vw d (w0 := W) W.heap.size e hgd hd (xs := ([] : List α)) (inner := []) (ok := fun _ => True) (fB := fun _ => True) hrun (bQ.none _ _) (fun _ hk => hk) trivial (Below.refl _ _) (Nat.le_refl _) (by simp) (fun v1 w1 hR hb hg _ => by
  obtain ⟨A, c, rfl⟩ := Kd.fU hR
  obtain ⟨o, S1, HI⟩ := S.out.FM hE hR (pO hg)
  exact h A c o w1 ⟨S1⟩ ⟨HI⟩)
theorem uO (d : Kd α) (e : TypeId) (hE : d.E = []) (s x : Tmp) (t : TypeId) (z : Value) (bytes : Nat) (ht : Pr.underlying t = some (.slice e)) (hinfo : (Pr.info? e).map (fun i => (i.zero, i.size, i.bytes)) = some (some z, d.sz, bytes)) (hz : z.cells.size = d.sz) (hs0 : 0 < d.sz) (hb0 : 0 < bytes) (hbb : bytes ≤ 1000)
  (S : ae (St w P ((v.ownBlock, o) :: bs) ow ts ro W)) (hI : ae (KR d e w.heap.size v xs o)) (y : α) (cs : List Value) (hM : ∀ W b ok, d.M W b ok y cs) (hl : xs.length ≤ 10000000)
  (h : ∀ A1 c1 o1 w1, ae (St w P (((Value.slice A1 (xs ++ [y]).length c1).ownBlock, o1) :: bs) ow ts ro w1) → ae (KR d e w.heap.size (.slice A1 (xs ++ [y]).length c1) (xs ++ [y]) o1) → wpList Pr ops Q rest (a.put op.dst (.slice A1 (xs ++ [y]).length c1)) w1)
  (hgd : op.guard = none := by rfl) (ho : op.op = .call { callee := .builtin .append, args := #[.tmp s, .tmp x], argTypes := #[t, t] } := by rfl) (hs : a.eval (.tmp s) = v := by rfl) (hx : a.eval (.tmp x) = .slice (some ⟨W.heap.size, 0, none⟩) 1 1 := by first | rfl | (go_simp; rfl)) :
  wpList Pr ops Q (op :: rest) a (W.alloc (.cells cs.toArray e)) := by
 have hR := hI.out W (S.out.blk _ List.mem_cons_self)
 refine Kd.EX d (w0 := w) w.heap.size hgd (.tmp s) (.tmp x) t e z bytes ho ht hinfo hz hs0 hb0 v xs y cs (fun _ => True) (fun _ => False) hs hx (hM _ _ _) (fun _ hk => hk.elim) (fun _ _ => trivial) (Kd.tN hR (fun _ _ => trivial)) S.out.below S.out.below.size
  (Nat.le_trans (Nat.mul_le_mul (show xs.length + 1 ≤ 10000001 by omega) hbb) (by decide)) ?_
 intro v1 w1 hr hb hg hat
 obtain ⟨A1, c1, rfl⟩ := Kd.fU hr
 obtain ⟨o1, h1, h2⟩ := JR hE hr (Nat.le_refl _)
 exact h A1 c1 o1 w1 ⟨S.out.Bc hb hg hat h1⟩ ⟨h2⟩
theorem Ld (d : Kd α) (e : TypeId) (hE : d.E = []) (s x : Tmp) (t : TypeId) (z : Value) (bytes : Nat) (ht : Pr.underlying t = some (.slice e)) (hinfo : (Pr.info? e).map (fun i => (i.zero, i.size, i.bytes)) = some (some z, d.sz, bytes)) (hz : z.cells.size = d.sz) (hs0 : 0 < d.sz) (hb0 : 0 < bytes) (hbb : bytes ≤ 1000)
  (S : ae (St w P ((v.ownBlock, o) :: bs) ow ts ro W)) (hI : ae (KR d e w.heap.size v xs o)) (y : α) (cs : List Value) (hM : ∀ W b ok, d.M W b ok y cs) (hl : xs.length ≤ 10000000)
  (h : ∀ A1 c1 o1 w1, ae (St w P (((Value.slice A1 (xs ++ [y]).length c1).ownBlock, o1) :: bs) ow ts ro w1) → ae (KR d e w.heap.size (.slice A1 (xs ++ [y]).length c1) (xs ++ [y]) o1) → Kc (a.put op.dst (.slice A1 (xs ++ [y]).length c1)) w1)
  (hw : Region.wanted op (yielded ops a.tmps) = true := by rfl) (ho : op.op = .call { callee := .builtin .append, args := #[.tmp s, .tmp x], argTypes := #[t, t] } := by rfl) (hs : a.eval (.tmp s) = v := by rfl) (hx : a.eval (.tmp x) = .slice (some ⟨W.heap.size, 0, none⟩) 1 1 := by first | rfl | (go_simp; rfl)) :
  if Region.wanted op (yielded ops a.tmps) = true then Oper.wp Pr op a (W.alloc (.cells cs.toArray e)) Kc Q else Kc (a.put op.dst undef) (W.alloc (.cells cs.toArray e)) := by
 have hR := hI.out W (S.out.blk _ List.mem_cons_self)
 refine Kd.JG d (w0 := w) w.heap.size hw (.tmp s) (.tmp x) t e z bytes ho ht hinfo hz hs0 hb0 v xs y cs (fun _ => True) (fun _ => False) hs hx (hM _ _ _) (fun _ hk => hk.elim) (fun _ _ => trivial) (Kd.tN hR (fun _ _ => trivial)) S.out.below S.out.below.size
  (Nat.le_trans (Nat.mul_le_mul (show xs.length + 1 ≤ 10000001 by omega) hbb) (by decide)) ?_
 intro v1 w1 hr hb hg hat
 obtain ⟨A1, c1, rfl⟩ := Kd.fU hr
 obtain ⟨o1, h1, h2⟩ := JR hE hr (Nat.le_refl _)
 exact h A1 c1 o1 w1 ⟨S.out.Bc hb hg hat h1⟩ ⟨h2⟩
theorem Le (d : Kd α) (e : TypeId) (hE : d.E = []) (s x : Tmp) (t : TypeId) (z : Value) (bytes : Nat) (ht : Pr.underlying t = some (.slice e)) (hinfo : (Pr.info? e).map (fun i => (i.zero, i.size, i.bytes)) = some (some z, d.sz, bytes)) (hz : z.cells.size = d.sz) (hs0 : 0 < d.sz) (hb0 : 0 < bytes) (hbb : bytes ≤ 1000)
  (S : ae (St w P ((v.ownBlock, o) :: bs) ow ts ro W)) (hI : ae (KR d e w.heap.size v xs o)) {A : Option Addr} {c : Nat} (ys : List α) (hC : d.C W A ys.length ys) (hK : ∀ W b ok y cs, d.K W y cs → d.M W b ok y cs) (hl : xs.length + ys.length ≤ 1000000000)
  (h : ∀ A1 c1 o1 w1, ae (St w P (((Value.slice A1 (xs ++ ys).length c1).ownBlock, o1) :: bs) ow ts ro w1) → ae (KR d e w.heap.size (.slice A1 (xs ++ ys).length c1) (xs ++ ys) o1) → wpList Pr ops Q rest (a.put op.dst (.slice A1 (xs ++ ys).length c1)) w1)
  (hgd : op.guard = none := by rfl) (ho : op.op = .call { callee := .builtin .append, args := #[.tmp s, .tmp x], argTypes := #[t, t] } := by rfl) (hs : a.eval (.tmp s) = v := by rfl) (hx : a.eval (.tmp x) = .slice A ys.length c := by rfl) :
  wpList Pr ops Q (op :: rest) a W := by
 have hR := hI.out W (S.out.blk _ List.mem_cons_self)
 refine Kd.xW d (Rr := d.K W) (w0 := w) w.heap.size hgd (.tmp s) (.tmp x) t e z bytes ho ht hinfo hz hs0 hb0 v xs ys A ys.length c (fun _ => True) (fun _ => False) hs hx (Kd.tN hR (fun _ _ => trivial)) hC (fun y cs h => hK _ _ _ y cs h) (fun _ hk => hk.elim) (fun _ _ => trivial) S.out.below S.out.below.size
  (Nat.le_trans (Nat.mul_le_mul hl hbb) (by decide)) ?_
 intro v1 w1 hr hb hg hat
 obtain ⟨A1, c1, rfl⟩ := Kd.fU hr
 obtain ⟨o1, h1, h2⟩ := JR hE hr (Nat.le_refl _)
 exact h A1 c1 o1 w1 ⟨S.out.Bc hb hg hat h1⟩ ⟨h2⟩
end
section
variable {w W W1 : World} {P : Nat → Prop} {bs : List (Option Nat × Obj)} {ow : List (Value × List ai)} {ts : List (Value × List ai)} {ro : List (Addr × Value)}
theorem St.aeP (new : List (Option Nat × Obj)) (S : St w P bs ow ts ro W) (hk : ∀ p, p ∈ new → ∀ g, p.1 = some g → W.heap.size ≤ g ∧ W1.heap[g]? = some p.2) (hnd : (new.filterMap (·.1)).Nodup) (hb : Below W.heap.size W W1) : St w P (new ++ bs) ow ts ro W1 := by
 have ke : keys (new ++ bs) ow = new.filterMap (·.1) ++ keys bs ow := by unfold keys; rw [List.filterMap_append, List.append_assoc]
 have hn : ∀ k, k ∈ new.filterMap (·.1) → W.heap.size ≤ k ∧ k < W1.heap.size := fun k h => by
  obtain ⟨p, hp, he⟩ := List.mem_filterMap.1 h
  exact ⟨(hk p hp k he).1, fD (hk p hp k he).2⟩
 have hnot : ∀ k, k < W.heap.size → k ∉ keys bs ow → k ∉ keys (new ++ bs) ow := fun k h1 h2 h3 => by
  rw [ke] at h3
  rcases List.mem_append.1 h3 with h | h
  ·have := (hn k h).1; omega
  ·exact h2 h
 refine ⟨ak S.below hb, fun p hp g hg => ?_, fun k h => ?_, ?_, fun t ht => ?_, fun r hr => ?_, fun c hc => ?_⟩
 ·rcases List.mem_append.1 hp with h | h
  ·exact (hk p h g hg).2
  ·exact aI (S.blk p h g hg) hb
 ·rw [ke] at h
  rcases List.mem_append.1 h with h | h
  ·exact ⟨Nat.le_trans S.below.size (hn k h).1, (hn k h).2⟩
  ·exact ⟨(S.new k h).1, Nat.lt_of_lt_of_le (S.new k h).2 hb.size⟩
 ·rw [ke]
  refine List.nodup_append.2 ⟨hnd, S.nd, fun x hx y hy => ?_⟩
  rintro rfl
  have := (hn x hx).1
  have := S.lt hy
  omega
 ·exact Kd.gJ (Kd.ja (Kd.D7 (S.tree t ht)) hb) (fun k h => ⟨h.1.1, hnot k h.2 h.1.2⟩)
 ·exact Kd.iM (Kd.pF (Kd.Aj (S.own r hr)) hb) (fun k h => h.1.imp (fun h1 => ⟨h1.1, hnot k h.2 h1.2⟩) id)
 ·exact ⟨(hb.cell (World.block_lt_of_cell? W _ (S.cell c hc).1)).trans (S.cell c hc).1, hnot _ (World.block_lt_of_cell? W _ (S.cell c hc).1) (S.cell c hc).2⟩
structure Two {α β : Type} (d : Kd α) (e : TypeId) (d' : Kd β) (e' : TypeId) (w w' : World) (v : Value) (l : List α) (v' : Value) (l' : List β) (o o' : Obj) : Prop where
 one : KR d e w.heap.size v l o
 two : KR d' e' w.heap.size v' l' o'
 at1 : ∀ g, v.ownBlock = some g → w.heap.size ≤ g ∧ w'.heap[g]? = some o
 at2 : ∀ g, v'.ownBlock = some g → w.heap.size ≤ g ∧ w'.heap[g]? = some o'
 ne : ∀ g, v.ownBlock = some g → v'.ownBlock ≠ some g
theorem Bf {α : Type} {d : Kd α} {e : TypeId} {b b' : Nat} {v : Value} {l : List α} {o : Obj} (h : KR d e b v l o) (hb : b' ≤ b) : KR d e b' v l o := fun W hW => Kd.pI (h W hW) hb
theorem St.two {α β : Type} {d : Kd α} {e : TypeId} {d' : Kd β} {e' : TypeId} {v v' : Value} {l : List α} {l' : List β} {o o' : Obj} (S : St w P bs ow ts ro W) (h : Two d e d' e' W W1 v l v' l' o o') (hb : Below W.heap.size W W1) :
  St w P ((v.ownBlock, o) :: (v'.ownBlock, o') :: bs) ow ts ro W1 ∧ KR d e w.heap.size v l o ∧ KR d' e' w.heap.size v' l' o' := by
 refine ⟨S.aeP [(v.ownBlock, o), (v'.ownBlock, o')] (fun p hp g hg => ?_) ?_ hb, Bf h.one S.below.size, Bf h.two S.below.size⟩
 ·simp only [List.mem_cons, List.not_mem_nil, or_false] at hp
  rcases hp with rfl | rfl
  ·exact h.at1 g hg
  ·exact h.at2 g hg
 ·cases h1 : v.ownBlock with
  | none => cases h2 : v'.ownBlock <;> simp
  | some g =>
   have hn := h.ne g h1
   cases h2 : v'.ownBlock with
   | none => simp
   | some g' =>
    rw [h2] at hn
    simp
    intro he
    exact hn (by rw [he])
theorem St.Uu {α β : Type} {d : Kd α} {e : TypeId} {d' : Kd β} {e' : TypeId} {v v' : Value} {l : List α} {l' : List β} {o o' : Obj} (S : St w P ((v.ownBlock, o) :: (v'.ownBlock, o') :: bs) ow ts ro W) (h1 : KR d e w.heap.size v l o) (h2 : KR d' e' w.heap.size v' l' o') : Two d e d' e' w W v l v' l' o o' := by
 refine ⟨h1, h2, fun g hg => ⟨(S.new g (mem_keys (List.mem_cons_self) hg)).1, S.blk _ List.mem_cons_self g hg⟩, fun g hg => ⟨(S.new g (mem_keys (List.mem_cons_of_mem _ List.mem_cons_self) hg)).1, S.blk _ (List.mem_cons_of_mem _ List.mem_cons_self) g hg⟩, fun g hg hg2 => ?_⟩
 have hnd := S.nd
 unfold keys at hnd
 rw [List.filterMap_cons, List.filterMap_cons, hg, hg2] at hnd
 exact (List.nodup_cons.1 hnd).1 (by simp)
theorem St.FB {α : Type} {d : Kd α} {e : TypeId} {v : Value} {l : List α} {o : Obj} (S : St w P bs ow ts ro W) (h : KR d e w.heap.size v l o) (hm : (v.ownBlock, o) ∈ bs) : d.R e W w.heap.size (fun _ => True) v l := Kd.tN (KA h S hm) (fun _ _ => trivial)
end
def tX (ax X Y : Int) : Int := if ax = 2 then Y else X
def x_ (ax X Y W H : Int) : Int → List Int → List dw
 | _, [] => []
 | off, n :: ns => (⟨tX ax (tX ax X Y + off) (tX ax Y X), tX ax (tX ax Y X) (tX ax X Y + off), tX ax n (tX ax H W), tX ax (tX ax H W) n⟩ : dw) :: x_ ax X Y W H (off + n + 1) ns
theorem LQ (ax X Y W H : Int) : ∀ (ns : List Int) (off : Int), (x_ ax X Y W H off ns).length = ns.length := by
 intro ns
 induction ns with
 | nil => intro off; rfl
 | cons n ns ih => intro off; simp [x_, ih]
def nK (ax s t e n : Int) : dw := ⟨tX ax s t, tX ax t s, tX ax n e, tX ax e n⟩
def nH (ax s t d e : Int) : Int → Bool → List dw → List dw → List Int → List dw × List dw × Bool
 | off, _, ps, ls, [] => if off = d then (ps, ls, true) else ([], [], false)
 | off, fst, ps, ls, n :: ns => if n < 1 ∨ d < (if fst then off else off + 1) + n then ([], [], false) else
  nH ax s t d e ((if fst then off else off + 1) + n) false (ps ++ [nK ax (s + (if fst then off else off + 1)) t e n]) (if fst then ls else ls ++ [nK ax (s + off) t e 1]) ns
def ql (X Y W H ax : Int) (sizes : List Int) : List dw × List dw × Bool :=
 if (ax = 1 ∨ ax = 2) ∧ o7 X Y W H = true ∧ sizes ≠ [] then nH ax (tX ax X Y) (tX ax Y X) (tX ax W H) (tX ax H W) 0 true [] [] sizes else ([], [], false)
theorem VF (ax s t d e : Int) : ∀ (ns : List Int) (off : Int) (f : Bool) (ps ls : List dw), (nH ax s t d e off f ps ls ns).1.length ≤ ps.length + ns.length ∧ (nH ax s t d e off f ps ls ns).2.1.length ≤ ls.length + ns.length := by
 intro ns
 induction ns with
 | nil => intro off f ps ls; unfold nH; split <;> simp
 | cons n ns ih =>
  intro off f ps ls
  unfold nH
  have hl : (if f then ls else ls ++ [nK ax (s + off) t e 1]).length ≤ ls.length + 1 := by cases f <;> simp
  generalize (if f then ls else ls ++ [nK ax (s + off) t e 1]) = ls' at hl ⊢
  generalize (if f then off else off + 1) = o
  by_cases hc : n < 1 ∨ d < o + n
  ·rw [if_pos hc]; simp
  ·rw [if_neg hc]
   have h := ih (o + n) false (ps ++ [nK ax (s + o) t e n]) ls'
   rw [List.length_append, List.length_singleton] at h
   rw [List.length_cons]
   omega
theorem SA (ax X Y W H : Int) : ∀ (ns : List Int) (off : Int) (f : Bool) (ps ls : List dw), (nH ax (tX ax X Y) (tX ax Y X) (tX ax W H) (tX ax H W) off f ps ls ns).2.2 = true →
  (nH ax (tX ax X Y) (tX ax Y X) (tX ax W H) (tX ax H W) off f ps ls ns).1 = ps ++ x_ ax X Y W H (if f then off else off + 1) ns ∧ off + ns.sum + (ns.length : Int) - (if f ∧ ns ≠ [] then 1 else 0) = tX ax W H ∧ ∀ m, m ∈ ns → 1 ≤ m := by
 intro ns
 induction ns with
 | nil =>
  intro off f ps ls h
  unfold nH at h ⊢
  split at h
  ·rename_i ho
   rw [if_pos ho]
   exact ⟨by simp [x_], by simp [ho], fun m hm => by cases hm⟩
  ·cases h
 | cons n ns ih =>
  intro off f ps ls h
  unfold nH at h ⊢
  by_cases hn : n < 1 ∨ tX ax W H < (if f then off else off + 1) + n
  ·rw [if_pos hn] at h; cases h
  ·rw [if_neg hn] at h ⊢
   obtain ⟨h1, h2, h3⟩ := ih _ _ _ _ h
   refine ⟨?_, ?_, fun m hm => ?_⟩
   ·rw [h1, List.append_assoc]
    cases f <;> rfl
   ·rw [List.sum_cons, List.length_cons]
    cases f with
    | false => simp only [Bool.false_eq_true, if_false, false_and] at h2 ⊢; omega
    | true => simp only [Bool.false_eq_true, if_false, if_true, false_and] at h2 ⊢; rw [if_pos (by simp)]; omega
   ·rcases List.mem_cons.1 hm with rfl | hm
    ·omega
    ·exact h3 m hm
theorem IE : ∀ (l : List Int), (∀ m, m ∈ l → 1 ≤ m) → (l.length : Int) ≤ l.sum := by
 intro l
 induction l with
 | nil => intro _; simp
 | cons x xs ih =>
  intro h
  have h1 := h x (by simp)
  have h2 := ih (fun m hm => h m (by simp [hm]))
  rw [List.sum_cons, List.length_cons]
  omega
theorem Yx (ax s t d e : Int) : ∀ (ns : List Int) (off : Int) (f : Bool) (ps ls : List dw), off + ns.sum + (ns.length : Int) - (if f ∧ ns ≠ [] then 1 else 0) = d → (∀ m, m ∈ ns → 1 ≤ m) → (nH ax s t d e off f ps ls ns).2.2 = true := by
 intro ns
 induction ns with
 | nil =>
  intro off f ps ls h _
  unfold nH
  simp at h
  rw [if_pos h]
 | cons n ns ih =>
  intro off f ps ls h hp
  have hn := hp n (by simp)
  have hr := IE ns (fun m hm => hp m (by simp [hm]))
  unfold nH
  rw [List.sum_cons, List.length_cons] at h
  rw [if_neg (by
   cases f with
   | false => simp only [Bool.false_eq_true, if_false, false_and] at h ⊢; omega
   | true => simp only [if_true] at h ⊢; rw [if_pos (by simp)] at h; omega)]
  refine ih _ _ _ _ ?_ (fun m hm => hp m (by simp [hm]))
  cases f with
  | false => simp only [Bool.false_eq_true, if_false, false_and] at h ⊢; omega
  | true => simp only [Bool.false_eq_true, if_false, if_true, false_and] at h ⊢; rw [if_pos (by simp)] at h; omega
theorem VE (X Y W H ax : Int) (sizes : List Int) : (ql X Y W H ax sizes).1.length ≤ sizes.length ∧ (ql X Y W H ax sizes).2.1.length ≤ sizes.length := by
 unfold ql
 split
 ·have := VF ax (tX ax X Y) (tX ax Y X) (tX ax W H) (tX ax H W) sizes 0 true [] []
  simpa using this
 ·simp
theorem Sz {X Y W H ax : Int} {sizes : List Int} (h : (ql X Y W H ax sizes).2.2 = true) : (ax = 1 ∨ ax = 2) ∧ (ql X Y W H ax sizes).1 = x_ ax X Y W H 0 sizes ∧ sizes.sum + (sizes.length : Int) - 1 = tX ax W H ∧ ∀ m, m ∈ sizes → 1 ≤ m := by
 unfold ql at h ⊢
 split at h
 ·rename_i hc
  rw [if_pos hc]
  obtain ⟨h1, h2, h3⟩ := SA ax X Y W H sizes 0 true [] [] h
  rw [if_pos ⟨rfl, hc.2.2⟩] at h2
  exact ⟨hc.1, by simpa using h1, by omega, h3⟩
 ·cases h
theorem Yw {X Y W H ax : Int} {sizes : List Int} (hax : ax = 1 ∨ ax = 2) (hm : o7 X Y W H = true) (hne : sizes ≠ []) (hs : sizes.sum + (sizes.length : Int) - 1 = tX ax W H) (hp : ∀ m, m ∈ sizes → 1 ≤ m) : (ql X Y W H ax sizes).2.2 = true := by
 unfold ql
 rw [if_pos ⟨hax, hm, hne⟩]
 exact Yx _ _ _ _ _ _ _ _ _ _ (by rw [if_pos ⟨rfl, hne⟩]; omega) hp
end Go.Proofs.Ytfdmfgaiblfbhaa.P
namespace Go.Proofs.Ytfdmfgaiblfbhaa.P
open Go.RowKit Go.Proofs.ag.aQ Go.Proofs.ag.bu Go.Proofs.ag.bP
attribute [local go_sem] jo jC jU kH jS jT kU kW
def o8.f (ay : Int) (aH : Int) (aA : Int) (aG : Int) (a1 : Int) : Option (Int × Int × Int × Int × Bool) := if a1 = 2 then (some (aH, ay, aG, aA, true)) else (if a1 = 1 then (some (ay, aH, aA, aG, true)) else (some (0, 0, 0, 0, false)))
theorem o8.calls (ay : Int) (aH : Int) (aA : Int) (aG : Int) (a1 : Int) (r1 : Int) (r2 : Int) (r3 : Int) (r4 : Int) (r5 : Bool) (w : World) (h : o8.f ay aH aA aG a1 = some (r1, r2, r3, r4, r5)) :
  Calls Try.prog 127 #[.agg #[.int .i64 ay, .int .i64 aH, .int .i64 aA, .int .i64 aG], .int .u8 a1] w fun e w' => e = .returned (.tuple #[.agg #[.int .i64 r1, .int .i64 r2, .int .i64 r3, .int .i64 r4], .bool r5]) ∧ Below w.heap.size w w' := by
 have MW := Try.underlying23
 have HB := ae.mk (Below.refl w.heap.size w)
 have H : (if a1 = 2 then (some (aH, ay, aG, aA, true)) else (if a1 = 1 then (some (ay, aH, aA, aG, true)) else (some (0, 0, 0, 0, false)))) = some (r1, r2, r3, r4, r5) := h
 clear h
 by_cases c3 : a1 = 2
 ·rw [if_pos c3] at H
  have tC : (a1 == 2) = true := beq_iff_eq.mpr c3
  have yR : (a1 != 2) = false := bne_eq_false_iff_eq.mpr c3
  clear c3
  simp only [Option.some.injEq, Prod.mk.injEq] at H
  obtain ⟨rfl, rfl, rfl, rfl, rfl⟩ := H
  go_enter Try.func127, Try.ntmps127
  go_wp2_with (first | ((with_reducible refine aC (N := 2) rfl ?_); refine aK ?hg (N := 2) ?hd (cs := #[.int .i64 ay, .int .i64 aH, .int .i64 aA, .int .i64 aG]) (t := 23) ?hr ?_; (case hd => rfl); (case hg => rfl); (case hr => (go_simp; done)); intro mX hg w4 hbox hb; have jk := ae.mk (hbox); have PR := ae.mk ((by rw [hg]; exact (dS (by repeat ((with_reducible exact HB.out)))) : w.heap.size ≤ mX)); replace HB := ae.mk (ak (by repeat ((with_reducible exact HB.out))) hb); clear hb hbox hg) | ((with_reducible refine aC (N := 4) rfl ?_); refine aK ?hg (N := 4) ?hd (cs := #[.int .i64 0, .int .i64 0, .int .i64 0, .int .i64 0]) (t := 23) ?hr ?_; (case hd => rfl); (case hg => rfl); (case hr => (go_simp; done)); intro jO hg w5 hbox hb; have jq := ae.mk (hbox); have FX := ae.mk ((by rw [hg]; exact (dS (by repeat ((with_reducible exact HB.out)))) : w.heap.size ≤ jO)); have xh := ae.mk ((by rw [hg]; exact Nat.ne_of_lt (fD jk.out) : mX ≠ jO)); have oD := ae.mk ((by rw [hg]; exact Nat.ne_of_gt (fD jk.out) : jO ≠ mX)); replace jk := ae.mk (aI jk.out hb); replace HB := ae.mk (ak (by repeat ((with_reducible exact HB.out))) hb); clear hb hbox hg; have akw := xh.out; have akx := oD.out; have acX : w5.cell? ⟨mX, 0, none⟩ = some (.int .i64 ay) := (af jk.out 0).trans rfl; have acY : w5.cell? ⟨mX, 1, none⟩ = some (.int .i64 aH) := (af jk.out 1).trans rfl; have acZ : w5.cell? ⟨mX, 2, none⟩ = some (.int .i64 aA) := (af jk.out 2).trans rfl; have ac0 : w5.cell? ⟨mX, 3, none⟩ = some (.int .i64 aG) := (af jk.out 3).trans rfl; have ade := ah jk.out 0; have adf := ah jk.out 1; have adg := ah jk.out 2; have adh := ah jk.out 3; have Ti : w5.cell? ⟨jO, 0, none⟩ = some (.int .i64 0) := (af jq.out 0).trans rfl; have Tj : w5.cell? ⟨jO, 1, none⟩ = some (.int .i64 0) := (af jq.out 1).trans rfl; have Tm : w5.cell? ⟨jO, 2, none⟩ = some (.int .i64 0) := (af jq.out 2).trans rfl; have Tn : w5.cell? ⟨jO, 3, none⟩ = some (.int .i64 0) := (af jq.out 3).trans rfl; have TK := ah jq.out 0; have TL := ah jq.out 1; have TM := ah jq.out 2; have TN := ah jq.out 3))
  refine bodyPost_ret (fE rfl _ _ jO 23 _ (0, 0) _ rfl (by refine jA (cs := #[.int .i64 aH, .int .i64 ay, .int .i64 aG, .int .i64 aA]) ?_ 3 _ rfl; refine jA (cs := #[.int .i64 aH, .int .i64 ay, .int .i64 aG, .int .i64 aA]) ?_ 2 _ rfl; refine jA (cs := #[.int .i64 aH, .int .i64 ay, .int .i64 aG, .int .i64 aA]) ?_ 1 _ rfl; refine jA (cs := #[.int .i64 aH, .int .i64 ay, .int .i64 aG, .int .i64 aA]) ?_ 0 _ rfl; refine jA (cs := #[.int .i64 aH, .int .i64 ay, .int .i64 aG, .int .i64 0]) ?_ 3 _ rfl; refine jA (cs := #[.int .i64 aH, .int .i64 ay, .int .i64 0, .int .i64 0]) ?_ 2 _ rfl; refine jA (cs := #[.int .i64 aH, .int .i64 0, .int .i64 0, .int .i64 0]) ?_ 1 _ rfl; refine jA (cs := #[.int .i64 0, .int .i64 0, .int .i64 0, .int .i64 0]) ?_ 0 _ rfl; refine D9 ?_ oD.out _; refine D9 ?_ oD.out _; refine D9 ?_ oD.out _; refine D9 ?_ oD.out _; exact jq.out) Try.underlying23 rfl (by kernel_rfl)) rfl ?_
  exact ⟨by rfl, by repeat ((with_reducible first | exact HB.out | refine oH ?_ PR.out | refine oH ?_ FX.out))⟩
 ·rw [if_neg c3] at H
  have tC : (a1 == 2) = false := beq_eq_false_iff_ne.mpr c3
  have yR : (a1 != 2) = true := bne_iff_ne.mpr c3
  by_cases c9 : a1 = 1
  ·rw [if_pos c9] at H
   have Lu : (a1 == 1) = true := beq_iff_eq.mpr c9
   have agE : (a1 != 1) = false := bne_eq_false_iff_eq.mpr c9
   clear c9
   simp only [Option.some.injEq, Prod.mk.injEq] at H
   obtain ⟨rfl, rfl, rfl, rfl, rfl⟩ := H
   go_enter Try.func127, Try.ntmps127
   go_wp2_with (first | ((with_reducible refine aC (N := 2) rfl ?_); refine aK ?hg (N := 2) ?hd (cs := #[.int .i64 ay, .int .i64 aH, .int .i64 aA, .int .i64 aG]) (t := 23) ?hr ?_; (case hd => rfl); (case hg => rfl); (case hr => (go_simp; done)); intro mX hg w10 hbox hb; have jk := ae.mk (hbox); have PR := ae.mk ((by rw [hg]; exact (dS (by repeat ((with_reducible exact HB.out)))) : w.heap.size ≤ mX)); replace HB := ae.mk (ak (by repeat ((with_reducible exact HB.out))) hb); clear hb hbox hg) | ((with_reducible refine aC (N := 4) rfl ?_); refine aK ?hg (N := 4) ?hd (cs := #[.int .i64 0, .int .i64 0, .int .i64 0, .int .i64 0]) (t := 23) ?hr ?_; (case hd => rfl); (case hg => rfl); (case hr => (go_simp; done)); intro jO hg zO hbox hb; have jq := ae.mk (hbox); have FX := ae.mk ((by rw [hg]; exact (dS (by repeat ((with_reducible exact HB.out)))) : w.heap.size ≤ jO)); have xh := ae.mk ((by rw [hg]; exact Nat.ne_of_lt (fD jk.out) : mX ≠ jO)); have oD := ae.mk ((by rw [hg]; exact Nat.ne_of_gt (fD jk.out) : jO ≠ mX)); replace jk := ae.mk (aI jk.out hb); replace HB := ae.mk (ak (by repeat ((with_reducible exact HB.out))) hb); clear hb hbox hg; have aj' := xh.out; have akb := oD.out; have YO : zO.cell? ⟨mX, 0, none⟩ = some (.int .i64 ay) := (af jk.out 0).trans rfl; have YP : zO.cell? ⟨mX, 1, none⟩ = some (.int .i64 aH) := (af jk.out 1).trans rfl; have YQ : zO.cell? ⟨mX, 2, none⟩ = some (.int .i64 aA) := (af jk.out 2).trans rfl; have YR : zO.cell? ⟨mX, 3, none⟩ = some (.int .i64 aG) := (af jk.out 3).trans rfl; have Zp := ah jk.out 0; have Zq := ah jk.out 1; have Zr := ah jk.out 2; have Zt := ah jk.out 3; have H9 : zO.cell? ⟨jO, 0, none⟩ = some (.int .i64 0) := (af jq.out 0).trans rfl; have H_ : zO.cell? ⟨jO, 1, none⟩ = some (.int .i64 0) := (af jq.out 1).trans rfl; have Ia : zO.cell? ⟨jO, 2, none⟩ = some (.int .i64 0) := (af jq.out 2).trans rfl; have Ib : zO.cell? ⟨jO, 3, none⟩ = some (.int .i64 0) := (af jq.out 3).trans rfl; have Ic := ah jq.out 0; have Ie := ah jq.out 1; have Ig := ah jq.out 2; have Ih := ah jq.out 3))
   refine bodyPost_ret (fE rfl _ _ jO 23 _ (0, 0) _ rfl (by refine jA (cs := #[.int .i64 ay, .int .i64 aH, .int .i64 aA, .int .i64 aG]) ?_ 3 _ rfl; refine jA (cs := #[.int .i64 ay, .int .i64 aH, .int .i64 aA, .int .i64 aG]) ?_ 2 _ rfl; refine jA (cs := #[.int .i64 ay, .int .i64 aH, .int .i64 aA, .int .i64 aG]) ?_ 1 _ rfl; refine jA (cs := #[.int .i64 ay, .int .i64 aH, .int .i64 aA, .int .i64 aG]) ?_ 0 _ rfl; refine jA (cs := #[.int .i64 ay, .int .i64 aH, .int .i64 aA, .int .i64 0]) ?_ 3 _ rfl; refine jA (cs := #[.int .i64 ay, .int .i64 aH, .int .i64 0, .int .i64 0]) ?_ 2 _ rfl; refine jA (cs := #[.int .i64 ay, .int .i64 0, .int .i64 0, .int .i64 0]) ?_ 1 _ rfl; refine jA (cs := #[.int .i64 0, .int .i64 0, .int .i64 0, .int .i64 0]) ?_ 0 _ rfl; exact jq.out) Try.underlying23 rfl (by kernel_rfl)) rfl ?_
   exact ⟨by rfl, by repeat ((with_reducible first | exact HB.out | refine oH ?_ FX.out))⟩
  ·rw [if_neg c9] at H
   have Lu : (a1 == 1) = false := beq_eq_false_iff_ne.mpr c9
   have agE : (a1 != 1) = true := bne_iff_ne.mpr c9
   simp only [Option.some.injEq, Prod.mk.injEq] at H
   obtain ⟨rfl, rfl, rfl, rfl, rfl⟩ := H
   go_enter Try.func127, Try.ntmps127
   go_wp2_with (first | ((with_reducible refine aC (N := 2) rfl ?_); refine aK ?hg (N := 2) ?hd (cs := #[.int .i64 ay, .int .i64 aH, .int .i64 aA, .int .i64 aG]) (t := 23) ?hr ?_; (case hd => rfl); (case hg => rfl); (case hr => (go_simp; done)); intro mX hg tq hbox hb; have jk := ae.mk (hbox); have PR := ae.mk ((by rw [hg]; exact (dS (by repeat ((with_reducible exact HB.out)))) : w.heap.size ≤ mX)); replace HB := ae.mk (ak (by repeat ((with_reducible exact HB.out))) hb); clear hb hbox hg) | ((with_reducible refine aC (N := 4) rfl ?_); refine aK ?hg (N := 4) ?hd (cs := #[.int .i64 0, .int .i64 0, .int .i64 0, .int .i64 0]) (t := 23) ?hr ?_; (case hd => rfl); (case hg => rfl); (case hr => (go_simp; done)); intro jO hg w16 hbox hb; have jq := ae.mk (hbox); have FX := ae.mk ((by rw [hg]; exact (dS (by repeat ((with_reducible exact HB.out)))) : w.heap.size ≤ jO)); have xh := ae.mk ((by rw [hg]; exact Nat.ne_of_lt (fD jk.out) : mX ≠ jO)); have oD := ae.mk ((by rw [hg]; exact Nat.ne_of_gt (fD jk.out) : jO ≠ mX)); replace jk := ae.mk (aI jk.out hb); replace HB := ae.mk (ak (by repeat ((with_reducible exact HB.out))) hb); clear hb hbox hg; have aka := oD.out; have akc := xh.out; have YY : w16.cell? ⟨jO, 0, none⟩ = some (.int .i64 0) := (af jq.out 0).trans rfl; have YZ : w16.cell? ⟨jO, 1, none⟩ = some (.int .i64 0) := (af jq.out 1).trans rfl; have Y0 : w16.cell? ⟨jO, 2, none⟩ = some (.int .i64 0) := (af jq.out 2).trans rfl; have Y1 : w16.cell? ⟨jO, 3, none⟩ = some (.int .i64 0) := (af jq.out 3).trans rfl; have ZA := ah jq.out 0; have ZB := ah jq.out 1; have ZC := ah jq.out 2; have ZE := ah jq.out 3))
   refine bodyPost_ret (fE rfl _ _ jO 23 _ (0, 0) _ rfl (by refine jA (cs := #[.int .i64 0, .int .i64 0, .int .i64 0, .int .i64 0]) ?_ 3 _ rfl; refine jA (cs := #[.int .i64 0, .int .i64 0, .int .i64 0, .int .i64 0]) ?_ 2 _ rfl; refine jA (cs := #[.int .i64 0, .int .i64 0, .int .i64 0, .int .i64 0]) ?_ 1 _ rfl; refine jA (cs := #[.int .i64 0, .int .i64 0, .int .i64 0, .int .i64 0]) ?_ 0 _ rfl; exact jq.out) Try.underlying23 rfl (by kernel_rfl)) rfl ?_
   exact ⟨by rfl, by repeat ((with_reducible first | exact HB.out | refine oH ?_ FX.out))⟩
end Go.Proofs.Ytfdmfgaiblfbhaa.P
namespace Go.Proofs.Ytfdmfgaiblfbhaa.P
open Go.RowKit Go.Proofs.ag.aQ Go.Proofs.ag.bu Go.Proofs.ag.bP
section
variable {W : World}
theorem N_ {ax : Int} (h : ax = 1 ∨ ax = 2) (X Y W H : Int) : o8.f X Y W H ax = some (tX ax X Y, tX ax Y X, tX ax W H, tX ax H W, true) := by
 unfold o8.f tX
 rcases h with rfl | rfl
 ·rfl
 ·rfl
theorem FU {ax : Int} (h : ax = 1 ∨ ax = 2) (x y u v : Int) : Calls Try.prog 127 #[.agg #[.int .i64 x, .int .i64 y, .int .i64 u, .int .i64 v], .int .u8 ax] W fun e w' => e = .returned (.tuple #[.agg #[.int .i64 (tX ax x y), .int .i64 (tX ax y x), .int .i64 (tX ax u v), .int .i64 (tX ax v u)], .bool true]) ∧ Below W.heap.size W w' :=
 o8.calls _ _ _ _ _ _ _ _ _ _ W (N_ h x y u v)
theorem UU {ax : Int} (h : ¬ (ax = 1 ∨ ax = 2)) (x y u v : Int) : Calls Try.prog 127 #[.agg #[.int .i64 x, .int .i64 y, .int .i64 u, .int .i64 v], .int .u8 ax] W fun e w' => e = .returned (.tuple #[.agg #[.int .i64 0, .int .i64 0, .int .i64 0, .int .i64 0], .bool false]) ∧ Below W.heap.size W w' :=
 o8.calls _ _ _ _ _ _ _ _ _ _ W (by unfold o8.f; rw [if_neg (fun e => h (.inr e)), if_neg (fun e => h (.inl e))])
theorem Nu {x y u v : Int} {b : Bool} (h : o7 x y u v = b) : Calls Try.prog 128 #[.agg #[.int .i64 x, .int .i64 y, .int .i64 u, .int .i64 v]] W fun e w' => e = .returned (.bool b) ∧ Below W.heap.size W w' :=
 wM.calls _ _ _ _ _ W ((Nc _ _ _ _).trans (congrArg some h))
theorem DK {x y u v : Int} {b : Bool} (h : o7 x y u v = b) : Calls Try.prog 57 #[.agg #[.int .i64 x, .int .i64 y, .int .i64 u, .int .i64 v]] W fun e w' => e = .returned (.bool b) ∧ Below W.heap.size W w' :=
 oh.calls _ _ _ _ _ W ((EE _ _ _ _).trans (congrArg some h))
end
abbrev J7 (w : World) (t : List dw × List dw × Bool) (e : Ending) (w' : World) : Prop := ∃ A c A' c' o o', e = .returned (.tuple #[.slice A t.1.length c, .slice A' t.2.1.length c', .bool t.2.2]) ∧ (t.2.2 = true → Two k23 23 k23 23 w w' (.slice A t.1.length c) t.1 (.slice A' t.2.1.length c') t.2.1 o o') ∧ Below w.heap.size w w'
theorem yS {X Y W H ax : Int} {sizes : List Int} (h : ¬ (ax = 1 ∨ ax = 2) ∨ o7 X Y W H = false ∨ sizes.length = 0) : ql X Y W H ax sizes = ([], [], false) := by
 unfold ql
 refine if_neg (fun hc => ?_)
 rcases h with h | h | h
 ·exact h hc.1
 ·rw [hc.2.1] at h; cases h
 ·exact hc.2.2 (List.eq_nil_of_length_eq_zero h)
theorem SB {X Y W H ax : Int} {sizes : List Int} (h1 : ax = 1 ∨ ax = 2) (h2 : o7 X Y W H = true) (h3 : sizes.length ≠ 0) : ql X Y W H ax sizes = nH ax (tX ax X Y) (tX ax Y X) (tX ax W H) (tX ax H W) 0 true [] [] sizes := by
 unfold ql
 exact if_pos ⟨h1, h2, fun h => h3 (by rw [h]; rfl)⟩
theorem LP {ax s t d e off : Int} {f : Bool} {ps ls : List dw} {R : List dw × List dw × Bool} (h : nH ax s t d e off f ps ls [] = R) : R = if off = d then (ps, ls, true) else ([], [], false) := h.symm
def zS (ax s t d e o : Int) (ps ls : List dw) (n : Int) (ns : List Int) : List dw × List dw × Bool := if n < 1 ∨ d < o + n then ([], [], false) else nH ax s t d e (o + n) false (ps ++ [nK ax (s + o) t e n]) ls ns
theorem AL {ax s t d e o : Int} {ps ls : List dw} {n : Int} {ns : List Int} (h : n < 1 ∨ d < o + n) : zS ax s t d e o ps ls n ns = ([], [], false) := if_pos h
theorem Oy {ax s t d e o : Int} {ps ls : List dw} {n : Int} {ns : List Int} (h : ¬ (n < 1 ∨ d < o + n)) : zS ax s t d e o ps ls n ns = nH ax s t d e (o + n) false (ps ++ [nK ax (s + o) t e n]) ls ns := if_neg h
theorem UT {X Y W H ax : Int} (h1 : ax = 1 ∨ ax = 2) (h2 : o7 X Y W H = true) : 0 ≤ tX ax X Y ∧ 1 ≤ tX ax W H ∧ tX ax X Y + tX ax W H ≤ 10000 := by
 have hm := uS.1 h2
 unfold tX
 rcases h1 with rfl | rfl
 ·rw [if_neg (by omega), if_neg (by omega)]; omega
 ·rw [if_pos rfl, if_pos rfl]; omega
end Go.Proofs.Ytfdmfgaiblfbhaa.P
namespace Go.Proofs.Ytfdmfgaiblfbhaa.P
open Go.RowKit Go.Proofs.ag.aQ Go.Proofs.ag.bu Go.Proofs.ag.bP
attribute [local go_sem] jo jC jU kH jS jT kU kW
theorem afd (d : Nat) (w : World) (x0 y0 : Int) (x1 y1 : Int) (x2 y2 : Int) (x3 y3 : Int) :
  (Op.equalIn (d + 2) 23 (.agg #[.int .i64 x0, .int .i64 x1, .int .i64 x2, .int .i64 x3]) (.agg #[.int .i64 y0, .int .i64 y1, .int .i64 y2, .int .i64 y3])).run Try.prog w = .ok (x0 == y0 && (x1 == y1 && (x2 == y2 && (x3 == y3)))) w := by
 refine acn Try.underlying23 (by kernel_rfl) ?_
 refine Fb (by rfl) (by go_simp; rfl) (by go_simp; rfl) (by go_simp) ?_
 refine Fb (by rfl) (by go_simp; rfl) (by go_simp; rfl) (by go_simp) ?_
 refine Fb (by rfl) (by go_simp; rfl) (by go_simp; rfl) (by go_simp) ?_
 exact VN (by rfl) (by go_simp; rfl) (by go_simp; rfl) (by go_simp)
end Go.Proofs.Ytfdmfgaiblfbhaa.P
namespace Go.Proofs.Ytfdmfgaiblfbhaa.P
open Go.RowKit Go.Proofs.ag.aQ Go.Proofs.ag.bu Go.Proofs.ag.bP
attribute [local go_sem] jo jC jU kH jS jT kU kW
attribute [local go_sem high] afd
mutual
def iR.j0 : Nat → Bool → Int → Int → Int → Int → Int → Int → List (ai) → Int → Int → Int → Int → Int → Int → List (ai) → Option (Bool)
 | 0, _, _, _, _, _, _, _, _, _, _, _, _, _, _, _ => none
 | k + 1, x33, IV, IW, IX, IY, IZ, I4, oz, I5, I7, I8, I9, I_, Ja, p_ => if x33 = true then (some false) else (iR.l0 k (oz.length : Int) 0 IV IW IX IY IZ I4 oz I5 I7 I8 I9 I_ Ja p_)
def iR.l0 : Nat → Int → Int → Int → Int → Int → Int → Int → Int → List (ai) → Int → Int → Int → Int → Int → Int → List (ai) → Option (Bool)
 | 0, _, _, _, _, _, _, _, _, _, _, _, _, _, _, _, _ => none
 | k + 1, x36, vZ, IV, IW, IX, IY, IZ, I4, oz, I5, I7, I8, I9, I_, Ja, p_ => if vZ < x36 then (if 0 ≤ vZ then (if vZ < (oz.length : Int) then (if vZ < (p_.length : Int) then ((iR.f k ((az oz vZ).f0) ((az oz vZ).f1.f0) ((az oz vZ).f1.f1) ((az oz vZ).f1.f2) ((az oz vZ).f1.f3) ((az oz vZ).f2) ((az oz vZ).f3) ((az p_ vZ).f0) ((az p_ vZ).f1.f0) ((az p_ vZ).f1.f1) ((az p_ vZ).f1.f2) ((az p_ vZ).f1.f3) ((az p_ vZ).f2) ((az p_ vZ).f3)).bind fun ag9 => (if ag9 = true then (iR.l0 k x36 (wrap64 (vZ + 1)) IV IW IX IY IZ I4 oz I5 I7 I8 I9 I_ Ja p_) else (some false))) else (none)) else (none)) else (none)) else (some true)
def iR.f : Nat → Int → Int → Int → Int → Int → Int → List (ai) → Int → Int → Int → Int → Int → Int → List (ai) → Option (Bool)
 | 0, _, _, _, _, _, _, _, _, _, _, _, _, _, _ => none
 | k + 1, ay, aH, aA, aG, aY, a_, aJ, KQ, KT, KU, KX, KY, KZ, Nb => if ay = KQ then (if (!(aH == KT) || (!(aA == KU) || (!(aG == KX) || (!(aY == KY))))) = true then (iR.j0 k true ay aH aA aG aY a_ aJ KQ KT KU KX KY KZ Nb) else (if a_ = KZ then (iR.j0 k ((aJ.length : Int) != (Nb.length : Int)) ay aH aA aG aY a_ aJ KQ KT KU KX KY KZ Nb) else (iR.j0 k true ay aH aA aG aY a_ aJ KQ KT KU KX KY KZ Nb))) else (iR.j0 k true ay aH aA aG aY a_ aJ KQ KT KU KX KY KZ Nb)
end
def iR.T6 : Bool × List (List Nat × List Nat) := (true, [([], []), ([0], [0]), ([], []), ([1, 2], [1, 2]), ([3], [3]), ([], []), ([5], [5]), ([], []), ([6, 7], [6, 7]), ([8], [8]), ([4, 9], [4, 9]), ([10], [10])])
def iR.B6 : List Nat := [0, 1, 0, 7, 15, 0, 32, 0, 224, 480, 1023, 2047]
end Go.Proofs.Ytfdmfgaiblfbhaa.P
namespace Go.Proofs.Ytfdmfgaiblfbhaa.P
open Go.RowKit Go.Proofs.ag.aQ Go.Proofs.ag.bu Go.Proofs.ag.bP
def qx (a b : dw) : Bool := a.f0 == b.f0 && (a.f1 == b.f1 && (a.f2 == b.f2 && a.f3 == b.f3))
mutual
def aft : ai → ai → Bool
 | ⟨a, r, d, l⟩, ⟨a', r', d', l'⟩ => a == a' && (qx r r' && (d == d' && (l.length == l'.length && XW l l')))
def XW : List ai → List ai → Bool
 | [], _ => true
 | _ :: _, [] => true
 | c :: cs, e :: es => aft c e && XW cs es
end
def rM {α β : Type} (r : α → β → Bool) : List α → List β → Bool
 | a :: ta, b :: tb => r a b && rM r ta tb
 | [], _ => true
 | _ :: _, [] => true
theorem aco {α β : Type} (r : α → β → Bool) (za : α) (zb : β) (la : List α) (lb : List β) (k : Nat) (ha : k < la.length) (hb : k < lb.length) :
  rM r (la.drop k) (lb.drop k) = (r (la.getD (k : Int).toNat za) (lb.getD (k : Int).toNat zb) && rM r (la.drop (k + 1)) (lb.drop (k + 1))) := by
 rw [List.drop_eq_getElem_cons ha, List.drop_eq_getElem_cons hb]
 simp only [rM, Int.toNat_natCast, List.getD_eq_getElem?_getD, List.getElem?_eq_getElem ha, List.getElem?_eq_getElem hb, Option.getD_some]
theorem H5 {α β : Type} (r : α → β → Bool) (lb : List β) : rM r ([] : List α) lb = true := by cases lb <;> rfl
def yx (k : Int) : Int := (((k - 2) % 256) + 1) % 256
def qi (f0 : Int) (k : ai) : Int := if f0 = 2 then k.f1.f2 else k.f1.f3
def szK (c k : ai) : Int := qi c.f0 k
def jh (c : ai) : List Int := c.f3.map (szK c)
def yc (c : ai) : List dw × List dw × Bool := ql c.f1.f0 c.f1.f1 c.f1.f2 c.f1.f3 (yx c.f0) (jh c)
theorem LV (c : ai) : (yc c).1.length ≤ c.f3.length ∧ (yc c).2.1.length ≤ c.f3.length := by
 have h := VE c.f1.f0 c.f1.f1 c.f1.f2 c.f1.f3 (yx c.f0) (jh c)
 rwa [show (jh c).length = c.f3.length from List.length_map _] at h
theorem CU {c : ai} (h : (yc c).2.2 = true) : (yx c.f0 = 1 ∨ yx c.f0 = 2) ∧ (yc c).1 = x_ (yx c.f0) c.f1.f0 c.f1.f1 c.f1.f2 c.f1.f3 0 (jh c) ∧ (jh c).sum + ((jh c).length : Int) - 1 = tX (yx c.f0) c.f1.f2 c.f1.f3 ∧ ∀ m, m ∈ jh c → 1 ≤ m := Sz h
def BM (c : ai) (t : List dw × List dw × Bool) : Bool := c.f0 == 1 || (t.2.2 && (c.f3.length == t.1.length && rM (fun k r => qx k.f1 r) c.f3 t.1))
def mD (c : ai) : Bool := BM c (yc c)
def kJ (c : ai) : Bool := (fP c).all mD
theorem rZ (c : ai) : kJ c = (mD c && c.f3.all kJ) := by
 unfold kJ
 rw [pJ, List.all_cons]
 congr 1
 generalize c.f3 = l
 induction l with
 | nil => rw [o5]; rfl
 | cons x xs ih => rw [lF, List.all_append, List.all_cons, ih]
theorem Oz {W : World} {f : FuncId} {args : Array Value} {t1 t2 : List dw} (h : Calls Try.prog f args W (J7 W (t1, t2, true))) :
  Calls Try.prog f args W fun e w' => ∃ A c A' c' o o', e = .returned (.tuple #[.slice A t1.length c, .slice A' t2.length c', .bool true]) ∧ Two k23 23 k23 23 W w' (.slice A t1.length c) t1 (.slice A' t2.length c') t2 o o' ∧ Below W.heap.size W w' :=
 h.mono (fun _ _ ⟨A, c, A', c', o, o', h1, h2, h3⟩ => ⟨A, c, A', c', o, o', h1, h2 rfl, h3⟩)
theorem LW {W : World} {f : FuncId} {args : Array Value} {t1 t2 : List dw} (h : Calls Try.prog f args W (J7 W (t1, t2, false))) :
  Calls Try.prog f args W fun e w' => ∃ A n c A' n' c', e = .returned (.tuple #[.slice A n c, .slice A' n' c', .bool false]) ∧ Below W.heap.size W w' :=
 h.mono (fun _ _ ⟨A, c, A', c', _, _, h1, _, h3⟩ => ⟨A, _, c, A', _, c', h1, h3⟩)
abbrev P5 (w : World) (c : ai) (e : Ending) (w' : World) : Prop := ∃ A n cc, e = .returned (.tuple #[.slice A n cc, .bool (mD c)]) ∧ (mD c = true → ∃ ls : List dw, n = ls.length ∧ ls.length ≤ c.f3.length ∧ k23.R 23 w' w.heap.size (fun _ => True) (.slice A ls.length cc) ls) ∧ Below w.heap.size w w'
theorem Yr (k : Int) : (k - 1) % 256 = yx k := by unfold yx; omega
theorem OB {α β : Type} {r : α → β → Bool} : ∀ {a b : List α} {a' b' : List β}, a.length = a'.length → rM r (a ++ b) (a' ++ b') = (rM r a a' && rM r b b') := by
 intro a
 induction a with
 | nil => intro b a' b' h; cases a' with
  | nil => rw [H5]; rfl
  | cons y ys => simp at h
 | cons x xs ih =>
  intro b a' b' h
  cases a' with
  | nil => simp at h
  | cons y ys =>
   simp only [List.cons_append, rM]
   rw [ih (by simpa using h), Bool.and_assoc]
theorem adM {α : Type} {r k : dw} (h : qx k r = false) (x y : α) : (if r.f0 = k.f0 then if r.f1 = k.f1 then if r.f2 = k.f2 then if r.f3 = k.f3 then x else y else y else y else y) = y := by
 unfold qx at h
 repeat' split
 all_goals first | rfl | (simp_all; done)
theorem abD {base n c : Nat} {A : Option Addr} {l : List dw} {o : Obj} (h : KR k23 23 base (.slice A n c) l o) {W : World} (hm : ∀ g, (Value.slice A n c).ownBlock = some g → W.heap[g]? = some o) (pre rest : List dw) (r : dw) (hl : pre ++ r :: rest = l) :
  ∃ ad, A = some ad ∧ ∀ W : World, (∀ g, (Value.slice A n c).ownBlock = some g → W.heap[g]? = some o) → W.cell? (ad.add (pre.length * 4)) = some (.int .i64 r.f0) ∧ W.cell? ⟨(ad.add (pre.length * 4)).block, (ad.add (pre.length * 4)).off + 1, none⟩ = some (.int .i64 r.f1) ∧ W.cell? ⟨(ad.add (pre.length * 4)).block, (ad.add (pre.length * 4)).off + 2, none⟩ = some (.int .i64 r.f2) ∧ W.cell? ⟨(ad.add (pre.length * 4)).block, (ad.add (pre.length * 4)).off + 3, none⟩ = some (.int .i64 r.f3) := by
 have hi : (pre.length : Int) < l.length := by rw [← hl, List.length_append, List.length_cons]; omega
 have hr : pX l pre.length = r := by rw [← hl]; simp [pX, List.getD_eq_getElem?_getD]
 have key : ∀ W : World, (∀ g, (Value.slice A n c).ownBlock = some g → W.heap[g]? = some o) → ∃ ad, A = some ad ∧ W.cell? (ad.add (pre.length * 4)) = some (.int .i64 r.f0) ∧ W.cell? ⟨(ad.add (pre.length * 4)).block, (ad.add (pre.length * 4)).off + 1, none⟩ = some (.int .i64 r.f1) ∧ W.cell? ⟨(ad.add (pre.length * 4)).block, (ad.add (pre.length * 4)).off + 2, none⟩ = some (.int .i64 r.f2) ∧ W.cell? ⟨(ad.add (pre.length * 4)).block, (ad.add (pre.length * 4)).off + 3, none⟩ = some (.int .i64 r.f3) := fun W hW => by
  have hC := (Kd.dP (h W hW)).2.2
  have h2 := Lh hC (pre.length : Int) (Int.natCast_nonneg _) hi
  rw [hr] at h2
  exact h2
 obtain ⟨ad, hA, _⟩ := key W hm
 refine ⟨ad, hA, fun W hW => ?_⟩
 obtain ⟨ad2, h1, h2⟩ := key W hW
 rw [hA] at h1
 injection h1 with h1
 rw [h1]
 exact h2
def xK.T20 : Bool × List (List Nat × List Nat) := (true, [([], []), ([], []), ([1], [1]), ([], []), ([2, 3], [2, 3]), ([], []), ([5], [5]), ([], []), ([], []), ([7, 8], [7, 8]), ([9], [9]), ([], []), ([11], [11]), ([4, 6, 10, 12], [4, 6, 10, 12]), ([13], [13]), ([0, 14], [0, 14]), ([15, 15, 0, 1, 2, 3, 4, 5, 6, 7, 8, 9, 10, 11, 12, 13, 14, 15], [0, 15])])
def xK.B20 : List Nat := [0, 0, 2, 0, 14, 0, 32, 0, 0, 384, 896, 0, 2048, 8190, 16382, 32767, 65535]
theorem xK.afB : iD .any (opsOf Try.f46 20) = xK.T20 := by kernel_rfl
theorem xK.abY : iG xK.T20.2 xK.B20 = true := by kernel_rfl
def xM.T21 : Bool × List (List Nat × List Nat) := (true, [([], []), ([], []), ([1], [1]), ([], []), ([3], [3]), ([], []), ([4, 5], [4, 5]), ([], []), ([7], [7]), ([], []), ([], []), ([9, 10], [9, 10]), ([11], [11]), ([2, 6, 8, 12], [2, 6, 8, 12]), ([13], [13]), ([0, 14], [0, 14]), ([15, 15, 0, 1, 2, 3, 4, 5, 6, 7, 8, 9, 10, 11, 12, 13, 14, 15], [0, 15])])
def xM.B21 : List Nat := [0, 0, 2, 0, 8, 0, 56, 0, 128, 0, 0, 1536, 3584, 8190, 16382, 32767, 65535]
theorem xM.afC : iD .any (opsOf Try.f46 21) = xM.T21 := by kernel_rfl
theorem xM.abZ : iG xM.T21.2 xM.B21 = true := by kernel_rfl
theorem piece1 (s t e n : Int) : nK 1 s t e n = ⟨s, t, n, e⟩ := rfl
theorem piece2 (s t e n : Int) : nK 2 s t e n = ⟨t, s, e, n⟩ := rfl
theorem adU (X Y Wd H ax : Int) (sizes : List Int) (hl : sizes.length ≤ 1000000) (B : Option Addr) (cb : Nat) (w : World) (hi : Kd.C (Kd.int .i64) w B sizes.length sizes) :
  Calls Try.prog 46 #[.agg #[.int .i64 X, .int .i64 Y, .int .i64 Wd, .int .i64 H], .int .u8 ax, .slice B sizes.length cb] w (J7 w (ql X Y Wd H ax sizes)) := by
 have S := ae.mk (St.start (ts := []) (b0 := w.heap.size) (w := w) (P := fun _ => True) (fun _ h => by cases h))
 have HI := ae.mk hi
 have jw := ae.mk hl
 clear hi hl
 by_cases hm : o7 X Y Wd H = true
 case neg =>
  have HQ := ae.mk (yS (X := X) (Y := Y) (W := Wd) (H := H) (ax := ax) (sizes := sizes) (.inr (.inl (Bool.eq_false_iff.mpr hm))))
  have xg := ae.mk (Bool.eq_false_iff.mpr hm)
  clear hm
  go_enter Try.func46, Try.ntmps46
  go_wp2_with (first | (refine boxS 3 _ 23 S ?_; clear S; intro b3 dQ S) | (refine gX 15 rfl ?_; refine lT k23 23 rfl 15 S ?_; clear S; intro An cn on eU S yu; obtain ⟨bH, bC, bF, bD⟩ := St.at4 S bz) | (refine bT (some 17) Try.func57 S (DK xg.out) ?_; clear S; intro gV S; clear bH bC bF bD))
  go_ret3
  rw [HQ.out]
  exact ⟨_, _, _, _, .cells #[] 0 (0, 0), .cells #[] 0 (0, 0), rfl, (fun h => by cases h), S.out.below⟩
 have xg := ae.mk hm
 by_cases h1 : ax < 1
 case pos =>
  have HQ := ae.mk (yS (X := X) (Y := Y) (W := Wd) (H := H) (ax := ax) (sizes := sizes) (.inl (by omega)))
  obtain ⟨h1a, h1b⟩ := mZ (a := ax) (b := 1) (by omega)
  clear hm h1
  go_enter Try.func46, Try.ntmps46
  go_wp2_with (first | (refine boxS 3 _ 23 S ?_; clear S; intro b3 dQ S) | (refine gX 15 rfl ?_; refine lT k23 23 rfl 15 S ?_; clear S; intro An cn on eU S yu; obtain ⟨bH, bC, bF, bD⟩ := St.at4 S bz) | (refine bT (some 17) Try.func57 S (DK xg.out) ?_; clear S; intro gV S; clear bH bC bF bD))
  go_ret3
  rw [HQ.out]
  exact ⟨_, _, _, _, .cells #[] 0 (0, 0), .cells #[] 0 (0, 0), rfl, (fun h => by cases h), S.out.below⟩
 obtain ⟨h1a, h1b⟩ := lY (a := ax) (b := 1) (by omega)
 by_cases h2 : 2 < ax
 case pos =>
  have HQ := ae.mk (yS (X := X) (Y := Y) (W := Wd) (H := H) (ax := ax) (sizes := sizes) (.inl (by omega)))
  obtain ⟨h2a, h2b⟩ := mZ (a := 2) (b := ax) (by omega)
  clear hm h1 h2
  go_enter Try.func46, Try.ntmps46
  go_wp2_with (first | (refine boxS 3 _ 23 S ?_; clear S; intro b3 dQ S) | (refine gX 15 rfl ?_; refine lT k23 23 rfl 15 S ?_; clear S; intro An cn on eU S yu; obtain ⟨bH, bC, bF, bD⟩ := St.at4 S bz) | (refine bT (some 17) Try.func57 S (DK xg.out) ?_; clear S; intro gV S; clear bH bC bF bD))
  go_ret3
  rw [HQ.out]
  exact ⟨_, _, _, _, .cells #[] 0 (0, 0), .cells #[] 0 (0, 0), rfl, (fun h => by cases h), S.out.below⟩
 obtain ⟨h2a, h2b⟩ := lY (a := 2) (b := ax) (by omega)
 by_cases h0 : sizes.length = 0
 case pos =>
  have HQ := ae.mk (yS (X := X) (Y := Y) (W := Wd) (H := H) (ax := ax) (sizes := sizes) (.inr (.inr h0)))
  obtain ⟨Jl, wo, SN⟩ := yT (a := (sizes.length : Int)) (b := 0) (by omega)
  have SQ : (sizes.length == 0) = true := beq_iff_eq.mpr (by omega)
  have SS : decide (sizes.length = 0) = true := decide_eq_true (by omega)
  clear hm h1 h2 h0
  go_enter Try.func46, Try.ntmps46
  go_wp2_with (first | (refine boxS 3 _ 23 S ?_; clear S; intro b3 dQ S) | (refine gX 15 rfl ?_; refine lT k23 23 rfl 15 S ?_; clear S; intro An cn on eU S yu; obtain ⟨bH, bC, bF, bD⟩ := St.at4 S bz) | (refine bT (some 17) Try.func57 S (DK xg.out) ?_; clear S; intro gV S; clear bH bC bF bD))
  go_ret3
  rw [HQ.out]
  exact ⟨_, _, _, _, .cells #[] 0 (0, 0), .cells #[] 0 (0, 0), rfl, (fun h => by cases h), S.out.below⟩
 have hax : ax = 1 ∨ ax = 2 := by omega
 have pz := ae.mk hax
 obtain ⟨S0, hS0⟩ : ∃ s, s = tX ax X Y := ⟨_, rfl⟩
 obtain ⟨T0, hT0⟩ : ∃ s, s = tX ax Y X := ⟨_, rfl⟩
 obtain ⟨D, hD⟩ : ∃ s, s = tX ax Wd H := ⟨_, rfl⟩
 obtain ⟨E, hE⟩ : ∃ s, s = tX ax H Wd := ⟨_, rfl⟩
 have HS1 := ae.mk (show ax = 1 → S0 = X ∧ T0 = Y ∧ D = Wd ∧ E = H from fun h => by subst h; exact ⟨hS0, hT0, hD, hE⟩)
 have HS2 := ae.mk (show ax = 2 → S0 = Y ∧ T0 = X ∧ D = H ∧ E = Wd from fun h => by subst h; exact ⟨hS0, hT0, hD, hE⟩)
 have hq := SB hax hm h0
 rw [← hS0, ← hT0, ← hD, ← hE] at hq
 have hb := UT hax hm
 rw [← hS0, ← hD] at hb
 have HB := ae.mk hb
 rw [hq]
 obtain ⟨Jl, wo, SN⟩ := eqF (a := (sizes.length : Int)) (b := 0) (by omega)
 have SQ : (sizes.length == 0) = false := beq_eq_false_iff_ne.mpr (by omega)
 have SS : decide (sizes.length = 0) = false := decide_eq_false (by omega)
 obtain ⟨R, hR⟩ : ∃ R, R = nH ax S0 T0 D E 0 true [] [] sizes := ⟨_, rfl⟩
 rw [← hR]
 have HR := ae.mk hR
 clear hq hb hm h0 h1 h2 hax hS0 hT0 hD hE hR
 go_enter Try.func46, Try.ntmps46
 go_upto_if 37 with (first | (refine boxS 3 _ 23 S ?_; clear S; intro b3 dQ S) | (refine gX 15 rfl ?_; refine lT k23 23 rfl 15 S ?_; clear S; intro An cn on eU S yu; obtain ⟨bH, bC, bF, bD⟩ := St.at4 S bz) | (refine bT (some 17) Try.func57 S (DK xg.out) ?_; clear S; intro gV S; clear bH bC bF bD; have bF := (S.out.at bz 2).trans rfl))
 clear bF
 (skip)
 go_cut [10] (fun v10 wc => v10 = .int .i64 D ∧ ae (St w (fun _ => True) [((Value.slice An 0 cn).ownBlock, on), (some b3, .cells #[.int .i64 X, .int .i64 Y, .int .i64 Wd, .int .i64 H] 23 (0, 0))] [] [] [] wc))
 case first =>
  by_cases hx : ax = 2
  case pos =>
   have hd := (HS2.out hx).2.2.1
   obtain ⟨hxa, hxb, hxd⟩ := yT (a := ax) (b := 2) (by omega)
   have HDD := ae.mk hd
   clear hx hd
   have bD := (S.out.at bz 3).trans rfl
   go_wp2
   clear bD
   go_meet
   case rel => exact ⟨by rw [HDD.out], S⟩
  case neg =>
   have hd := (HS1.out (by have := pz.out; omega)).2.2.1
   obtain ⟨hxa, hxb, hxd⟩ := eqF (a := ax) (b := 2) (by omega)
   have HDD := ae.mk hd
   clear hx hd
   go_wp2
   go_meet
   case rel => exact ⟨by rw [HDD.out], S⟩
 case rest =>
  clear S
  obtain ⟨rfl, S⟩ := hcut
  rename World => wx
  go_wp2_with (first | (refine gX 40 rfl ?_; refine lT k23 23 rfl 40 S ?_; clear S; intro Ap cp op dQ S iI) | (refine gX 41 rfl ?_; refine lT k23 23 rfl 41 S ?_; clear S; intro Aq cq oq eU S l_))
  clear Jl wo SN SQ SS h1a h1b h2a h2b
  go_loopg [11, 12, 13, 44] sizes.length (fun gg v11 v12 v13 v44 wr => ∃ (pre rest : List Int) (off : Int) (ps ls : List dw) (Ap : Option Addr) (cp : Nat) (op : Obj) (Aq : Option Addr) (cq : Nat) (oq : Obj), v11 = .slice Ap ps.length cp ∧ v12 = .slice Aq ls.length cq ∧ v13 = .int .i64 off ∧ v44 = .int .i64 (pre.length : Int) ∧ ae (pre ++ rest = sizes) ∧ rest.length ≤ gg ∧ ae (0 ≤ off ∧ off ≤ D ∧ ps.length ≤ pre.length ∧ ls.length ≤ pre.length) ∧ ae (nH ax S0 T0 D E off (pre.length == 0) ps ls rest = R) ∧ ae (KR k23 23 w.heap.size (.slice Ap ps.length cp) ps op) ∧ ae (KR k23 23 w.heap.size (.slice Aq ls.length cq) ls oq) ∧ ae (St w (fun _ => True) [((Value.slice Ap ps.length cp).ownBlock, op), ((Value.slice Aq ls.length cq).ownBlock, oq), ((Value.slice An 0 cn).ownBlock, on), (some b3, .cells #[.int .i64 X, .int .i64 Y, .int .i64 Wd, .int .i64 H] 23 (0, 0))] [] [] [] wr))
  case atStart => exact ⟨[], sizes, 0, [], [], _, _, _, _, _, _, rfl, rfl, rfl, rfl, ⟨rfl⟩, Nat.le_refl _, ⟨by have := HB.out; simp; omega⟩, ⟨HR.out.symm⟩, iI, l_, ⟨S.out.qV.qV.uP.qV⟩⟩
  case round =>
   clear S HR iI l_
   obtain ⟨pre, rest, off, ps, ls, Ap, cp, op, Aq, cq, oq, rfl, rfl, rfl, rfl, HE, hgg, HO, HG, iI, l_, S⟩ := hrel
   cases rest with
   | nil =>
    have hE := HE.out
    rw [List.append_nil] at hE
    subst hE
    clear HE hgg
    have hlt : ¬ ((pre.length : Int) < (pre.length : Int)) := by omega
    have Rq := ae.mk (LP HG.out)
    by_cases hod : off = D
    case pos =>
     obtain ⟨hza, hzb, hzd⟩ := yT (a := off) (b := D) (by omega)
     have Kt := ae.mk hod
     clear hod
     go_wp2
     go_ret3
     rw [Rq.out, if_pos Kt.out]
     exact ⟨Ap, cp, Aq, cq, op, oq, rfl, fun _ => S.out.Uu iI.out l_.out, S.out.below⟩
    case neg =>
     obtain ⟨hza, hzb, hzd⟩ := eqF (a := off) (b := D) (by omega)
     have Kt := ae.mk hod
     clear hod
     go_wp2
     have HQ := ae.mk (Rq.out.trans (if_neg Kt.out))
     go_ret3
     rw [HQ.out]
     exact ⟨_, _, _, _, .cells #[] 0 (0, 0), .cells #[] 0 (0, 0), rfl, (fun h => by cases h), S.out.below⟩
   | cons n ns =>
    have hlt : (pre.length : Int) < (sizes.length : Int) := by rw [← HE.out, List.length_append, List.length_cons]; omega
    have hw1 : wrap64 ((pre.length : Int) + 1) = ((pre ++ [n]).length : Int) := by have := jw.out; rw [List.length_append, List.length_singleton]; unfold wrap64; omega
    have HW1 := ae.mk hw1
    have iF := ae.mk hgg
    have Oj := ae.mk hlt
    have zA := ae.mk (show ps.length ≤ 1000000 ∧ ls.length ≤ 1000000 by have := HO.out; have := jw.out; omega)
    clear hgg hw1
    go_upto_if 48 with fail
    (skip)
    go_cut [12, 13] (fun v12 v13 wc => ∃ (o' : Int) (ls' : List dw) (Aq : Option Addr) (cq : Nat) (oq : Obj), v12 = .slice Aq ls'.length cq ∧ v13 = .int .i64 o' ∧ ae (0 ≤ o' ∧ o' ≤ D + 1 ∧ ls'.length ≤ pre.length + 1) ∧ ae (zS ax S0 T0 D E o' ps ls' n ns = R) ∧ ae (KR k23 23 w.heap.size (.slice Aq ls'.length cq) ls' oq) ∧ ae (St w (fun _ => True) [((Value.slice Ap ps.length cp).ownBlock, op), ((Value.slice Aq ls'.length cq).ownBlock, oq), ((Value.slice An 0 cn).ownBlock, on), (some b3, .cells #[.int .i64 X, .int .i64 Y, .int .i64 Wd, .int .i64 H] 23 (0, 0))] [] [] [] wc))
    case first =>
     by_cases hp2 : pre.length = 0
     case pos =>
      have hp : (pre.length == 0) = true := beq_iff_eq.mpr hp2
      obtain ⟨hpa, hpb⟩ := lY (a := 0) (b := (pre.length : Int)) (by omega)
      have hpc : decide (0 < pre.length) = false := decide_eq_false (by omega)
      have hpe : ¬ (0 < pre.length) := by omega
      have HG2 := ae.mk (show zS ax S0 T0 D E off ps ls n ns = R by have h := HG.out; rw [hp] at h; exact h)
      clear hp hp2
      go_wp2
      go_meet
      case rel => exact ⟨off, ls, _, _, _, rfl, rfl, ⟨by have := HO.out; omega⟩, HG2, l_, S⟩
     case neg =>
      have hp : (pre.length == 0) = false := beq_eq_false_iff_ne.mpr hp2
      obtain ⟨hpa, hpb⟩ := mZ (a := 0) (b := (pre.length : Int)) (by omega)
      have hpc : decide (0 < pre.length) = true := decide_eq_true (by omega)
      have hpe : 0 < pre.length := by omega
      have Ro := ae.mk (show zS ax S0 T0 D E (off + 1) ps (ls ++ [nK ax (S0 + off) T0 E 1]) n ns = R by have h := HG.out; rw [hp] at h; exact h)
      have Ol := ae.mk (show wrap64 (off + 1) = off + 1 by have := HO.out; have := HB.out; unfold wrap64; omega)
      clear hp hp2
      by_cases hx : ax = 1
      case pos =>
       have HX := ae.mk hx
       obtain ⟨hxa, hxb, hxd⟩ := yT (a := ax) (b := 1) (by omega)
       clear hx
       have Ku := ae.mk (show nK ax (S0 + off) T0 E 1 = (⟨wrap64 (X + off), Y, 1, H⟩ : dw) by have hb := HB.out; have ho := HO.out; have hs := HS1.out HX.out; rw [HX.out, piece1, hs.1, hs.2.1, hs.2.2.2, show wrap64 (X + off) = X + off by rw [hs.1] at hb; unfold wrap64; omega])
       have HG2 := ae.mk (show zS ax S0 T0 D E (off + 1) ps (ls ++ [(⟨wrap64 (X + off), Y, 1, H⟩ : dw)]) n ns = R by rw [← Ku.out]; exact Ro.out)
       have bH := (S.out.at kX 0).trans rfl
       have bC := (S.out.at kX 1).trans rfl
       have bD := (S.out.at kX 3).trans rfl
       go_wp2_with ((refine gX 62 rfl ?_; at_builtin; replace S := ae.mk S.out.sW; refine uO k23 23 rfl 51 61 42 _ 32 Try.underlying42 info23 rfl (by decide) (by decide) (by decide) S l_ ⟨wrap64 (X + off), Y, 1, H⟩ [.int .i64 (wrap64 (X + off)), .int .i64 Y, .int .i64 1, .int .i64 H] (fun _ _ _ => qM _ _ _ _) (by have := zA.out; omega) ?_; clear S l_; intro Aq2 cq2 oq2 dQ S l_; clear bH bC bD))
       go_meet
       case rel => exact ⟨off + 1, _, _, _, _, (by rw [List.length_append]; rfl), (by rw [Ol.out]), ⟨by have := HO.out; rw [List.length_append, List.length_singleton]; omega⟩, HG2, l_, ⟨S.out.qV.qV.uP.qV⟩⟩
      case neg =>
       have HX := ae.mk (show ax = 2 by have := pz.out; omega)
       obtain ⟨hxa, hxb, hxd⟩ := eqF (a := ax) (b := 1) (by omega)
       clear hx
       have Ku := ae.mk (show nK ax (S0 + off) T0 E 1 = (⟨X, wrap64 (Y + off), Wd, 1⟩ : dw) by have hb := HB.out; have ho := HO.out; have hs := HS2.out HX.out; rw [HX.out, piece2, hs.1, hs.2.1, hs.2.2.2, show wrap64 (Y + off) = Y + off by rw [hs.1] at hb; unfold wrap64; omega])
       have HG2 := ae.mk (show zS ax S0 T0 D E (off + 1) ps (ls ++ [(⟨X, wrap64 (Y + off), Wd, 1⟩ : dw)]) n ns = R by rw [← Ku.out]; exact Ro.out)
       have bH := (S.out.at kX 0).trans rfl
       have bC := (S.out.at kX 1).trans rfl
       have bF := (S.out.at kX 2).trans rfl
       go_wp2_with ((refine gX 74 rfl ?_; at_builtin; replace S := ae.mk S.out.sW; refine uO k23 23 rfl 63 73 42 _ 32 Try.underlying42 info23 rfl (by decide) (by decide) (by decide) S l_ ⟨X, wrap64 (Y + off), Wd, 1⟩ [.int .i64 X, .int .i64 (wrap64 (Y + off)), .int .i64 Wd, .int .i64 1] (fun _ _ _ => qM _ _ _ _) (by have := zA.out; omega) ?_; clear S l_; intro Aq2 cq2 oq2 dQ S l_; clear bH bC bF))
       go_meet
       case rel => exact ⟨off + 1, _, _, _, _, (by rw [List.length_append]; rfl), (by rw [Ol.out]), ⟨by have := HO.out; rw [List.length_append, List.length_singleton]; omega⟩, HG2, l_, ⟨S.out.qV.qV.uP.qV⟩⟩
    case rest =>
     clear S l_ HG
     obtain ⟨o', ls', Aq, cq, oq, rfl, rfl, qU, HG, l_, S⟩ := hcut
     rename World => wy
     have zA := ae.mk (show ps.length ≤ 1000000 ∧ ls'.length ≤ 1000001 by have := HO.out; have := qU.out; have := jw.out; omega)
     have hlt := Oj.out
     have hrd : rd sizes (pre.length : Int) = n := by rw [← HE.out]; simp [rd, List.getD_eq_getElem?_getD]
     obtain ⟨Xx, ek, xi⟩ := Kd.iW (Kd.iq HI.out S.out.below) (pre.length : Int) (Int.natCast_nonneg _) hlt
     subst ek
     rw [hrd] at xi
     simp only [Int.toNat_natCast] at xi
     have HXI := fun (W : World) (h : Below w.heap.size w W) => (show W.cell? (Xx.add pre.length) = some (.int .i64 n) by have h2 := Kd.iW (Kd.iq HI.out h) (pre.length : Int) (Int.natCast_nonneg _) Oj.out; obtain ⟨ad, e1, e2⟩ := h2; injection e1 with e1; subst e1; simp only [Int.toNat_natCast] at e2; rw [e2, ← HE.out]; simp [rd, List.getD_eq_getElem?_getD])
     have Af := ae.mk HXI
     clear hrd xi HXI
     by_cases hn : n < 1
     case pos =>
      obtain ⟨hna, hnb⟩ := mZ (a := n) (b := 1) (by omega)
      have HQ := ae.mk (HG.out.symm.trans (AL (.inl hn)))
      have xi := Af.out _ S.out.below
      go_wp2
      clear xi
      go_ret3
      rw [HQ.out]
      exact ⟨_, _, _, _, .cells #[] 0 (0, 0), .cells #[] 0 (0, 0), rfl, (fun h => by cases h), S.out.below⟩
     obtain ⟨hna, hnb⟩ := lY (a := n) (b := 1) (by omega)
     by_cases hd : D < n
     case pos =>
      obtain ⟨hda, hdb⟩ := mZ (a := D) (b := n) (by omega)
      have HQ := ae.mk (HG.out.symm.trans (AL (.inr (by have := qU.out; omega))))
      have xi := Af.out _ S.out.below
      go_wp2
      clear xi
      go_ret3
      rw [HQ.out]
      exact ⟨_, _, _, _, .cells #[] 0 (0, 0), .cells #[] 0 (0, 0), rfl, (fun h => by cases h), S.out.below⟩
     obtain ⟨hda, hdb⟩ := lY (a := D) (b := n) (by omega)
     have hg : wrap64 (o' + n) = o' + n := by have := HB.out; have := qU.out; unfold wrap64; omega
     have HWG := ae.mk hg
     by_cases he : D < o' + n
     case pos =>
      obtain ⟨hea, heb⟩ := mZ (a := D) (b := wrap64 (o' + n)) (by omega)
      obtain ⟨hfa, hfb⟩ := mZ (a := D) (b := o' + n) (by omega)
      have HQ := ae.mk (HG.out.symm.trans (AL (.inr he)))
      have xi := Af.out _ S.out.below
      go_wp2
      clear xi
      go_ret3
      rw [HQ.out]
      exact ⟨_, _, _, _, .cells #[] 0 (0, 0), .cells #[] 0 (0, 0), rfl, (fun h => by cases h), S.out.below⟩
     obtain ⟨hea, heb⟩ := lY (a := D) (b := wrap64 (o' + n)) (by omega)
     obtain ⟨hfa, hfb⟩ := lY (a := D) (b := o' + n) (by omega)
     have Ro := ae.mk ((Oy (fun h => h.elim hn he)).symm.trans HG.out)
     have HN := ae.mk hn
     have HD2 := ae.mk he
     clear hn hd he hg
     by_cases hx : ax = 1
     case pos =>
      have HX := ae.mk hx
      obtain ⟨hxa, hxb, hxd⟩ := yT (a := ax) (b := 1) (by omega)
      clear hx
      have Ku := ae.mk (show nK ax (S0 + o') T0 E n = (⟨wrap64 (X + o'), Y, n, H⟩ : dw) by have hb := HB.out; have ho := qU.out; have hs := HS1.out HX.out; rw [HX.out, piece1, hs.1, hs.2.1, hs.2.2.2, show wrap64 (X + o') = X + o' by rw [hs.1] at hb; unfold wrap64; omega])
      have HG2 := ae.mk (show nH ax S0 T0 D E (o' + n) false (ps ++ [(⟨wrap64 (X + o'), Y, n, H⟩ : dw)]) ls' ns = R by rw [← Ku.out]; exact Ro.out)
      have xi := Af.out _ S.out.below
      go_wp2
      clear xi
      go_wp2
      refine iT (n := 17) (S := fun w' => St w _ _ _ _ _ w') (ds := [15]) (bA 17 0) (by kernel_rfl) rfl rfl (S.out.dA.call (bg (Below.refl _ _))) (fun hHeld => ?_); refine eP xK.afB xK.abY (fun aj dW => ?_)
      replace S := ae.mk (S.out.call (bg (Below.refl _ _)))
      generalize wy.drew = Cj at S hHeld ⊢
      refine au 0 104 (bA 17 1) aj ?_
      refine au 1 105 (bA 17 3) aj ?_
      refine dO 2 106 (bA 17 7) aj dW hHeld ?_ (hv := by intro w' hs_; have bH := (hs_.at dR 0).trans rfl; go_simp; with_reducible rfl)
      refine au 3 107 (bA 17 15) aj ?_
      refine au 4 108 (bA 17 31) aj ?_
      refine au 5 109 (bA 17 63) aj ?_
      refine dO 6 110 (bA 17 127) aj dW hHeld ?_ (hv := by intro w' hs_; have bC := (hs_.at dR 1).trans rfl; go_simp; with_reducible rfl)
      refine au 7 111 (bA 17 255) aj ?_
      refine au 8 112 (bA 17 511) aj ?_
      refine au 9 113 (bA 17 1023) aj ?_
      refine dO 10 114 (bA 17 2047) aj dW hHeld ?_ (hv := by intro w' hs_; have xi := Af.out _ hs_.below; go_simp; with_reducible rfl)
      refine au 11 115 (bA 17 4095) aj ?_
      refine dO 12 116 (bA 17 8191) aj dW hHeld ?_ (hv := by intro w' hs_; have bD := (hs_.at dR 3).trans rfl; go_simp; with_reducible rfl)
      refine au 13 117 (bA 17 16383) aj ?_
      refine jf 14 (some 118) (bA 17 32767) aj (fun K hK => ?_)
      refine UZ (w1 := ?_) (v := ?_) (by rfl) rfl ?_ ?_
      rotate_left 2
      ·go_simp
       constructor
       ·rfl
       ·rfl
      refine hK.out _ _ (S.out.dA.call (iU (Below.refl _ _) _)) (fun hHeld => ?_)
      clear hK K
      refine dK 118 ?_
      refine nT 15 (some 119) (bA 17 65535) aj (fun K hK => ?_)
      refine Ld k23 23 rfl 104 118 42 _ 32 Try.underlying42 info23 rfl (by decide) (by decide) (by decide) S iI ⟨wrap64 (X + o'), Y, n, H⟩ [.int .i64 (wrap64 (X + o')), .int .i64 Y, .int .i64 n, .int .i64 H] (fun _ _ _ => qM _ _ _ _) (by have := zA.out; omega) ?_
      clear S iI
      intro J5 cp2 Nq gV S iI
      refine hK.out _ _ ?_
      clear hK K
      refine dK 119 ?_
      refine au 16 11 (bA 17 131071) aj ?_
      refine jG (gK aj.out (by kernel_rfl)) ?_
      clear hHeld
      have xi := Af.out _ S.out.below
      go_wp2
      clear xi
      have hw1 := HW1.out
      go_wp2
      go_roundg ns.length
      case measure => exact Nat.lt_of_lt_of_le (Nat.lt_succ_self _) iF.out
      case rel => exact ⟨pre ++ [n], ns, o' + n, _, ls', _, _, _, _, _, _, (by rw [List.length_append]; rfl), rfl, (by rw [HWG.out]), (by rw [hw1]), ⟨by rw [List.append_assoc]; exact HE.out⟩, Nat.le_refl _, ⟨by have := HO.out; have := qU.out; have := HN.out; have := HD2.out; simp only [List.length_append, List.length_singleton]; omega⟩, ⟨by rw [show ((pre ++ [n]).length == 0) = false by simp]; exact HG2.out⟩, iI, l_, ⟨S.out.qV.qV.qV.qV⟩⟩
     case neg =>
      have HX := ae.mk (show ax = 2 by have := pz.out; omega)
      obtain ⟨hxa, hxb, hxd⟩ := eqF (a := ax) (b := 1) (by omega)
      clear hx
      have Ku := ae.mk (show nK ax (S0 + o') T0 E n = (⟨X, wrap64 (Y + o'), Wd, n⟩ : dw) by have hb := HB.out; have ho := qU.out; have hs := HS2.out HX.out; rw [HX.out, piece2, hs.1, hs.2.1, hs.2.2.2, show wrap64 (Y + o') = Y + o' by rw [hs.1] at hb; unfold wrap64; omega])
      have HG2 := ae.mk (show nH ax S0 T0 D E (o' + n) false (ps ++ [(⟨X, wrap64 (Y + o'), Wd, n⟩ : dw)]) ls' ns = R by rw [← Ku.out]; exact Ro.out)
      have xi := Af.out _ S.out.below
      go_wp2
      clear xi
      go_wp2
      refine iT (n := 17) (S := fun w' => St w _ _ _ _ _ w') (ds := [15]) (bA 17 0) (by kernel_rfl) rfl rfl (S.out.dA.call (bg (Below.refl _ _))) (fun hHeld => ?_); refine eP xM.afC xM.abZ (fun aj dW => ?_)
      replace S := ae.mk (S.out.call (bg (Below.refl _ _)))
      generalize wy.drew = Cj at S hHeld ⊢
      refine au 0 120 (bA 17 1) aj ?_
      refine au 1 121 (bA 17 3) aj ?_
      refine dO 2 122 (bA 17 7) aj dW hHeld ?_ (hv := by intro w' hs_; have bH := (hs_.at dR 0).trans rfl; go_simp; with_reducible rfl)
      refine au 3 123 (bA 17 15) aj ?_
      refine dO 4 124 (bA 17 31) aj dW hHeld ?_ (hv := by intro w' hs_; have bC := (hs_.at dR 1).trans rfl; go_simp; with_reducible rfl)
      refine au 5 125 (bA 17 63) aj ?_
      refine au 6 126 (bA 17 127) aj ?_
      refine au 7 127 (bA 17 255) aj ?_
      refine dO 8 128 (bA 17 511) aj dW hHeld ?_ (hv := by intro w' hs_; have bF := (hs_.at dR 2).trans rfl; go_simp; with_reducible rfl)
      refine au 9 129 (bA 17 1023) aj ?_
      refine au 10 130 (bA 17 2047) aj ?_
      refine au 11 131 (bA 17 4095) aj ?_
      refine dO 12 132 (bA 17 8191) aj dW hHeld ?_ (hv := by intro w' hs_; have xi := Af.out _ hs_.below; go_simp; with_reducible rfl)
      refine au 13 133 (bA 17 16383) aj ?_
      refine jf 14 (some 134) (bA 17 32767) aj (fun K hK => ?_)
      refine UZ (w1 := ?_) (v := ?_) (by rfl) rfl ?_ ?_
      rotate_left 2
      ·go_simp
       constructor
       ·rfl
       ·rfl
      refine hK.out _ _ (S.out.dA.call (iU (Below.refl _ _) _)) (fun hHeld => ?_)
      clear hK K
      refine dK 134 ?_
      refine nT 15 (some 135) (bA 17 65535) aj (fun K hK => ?_)
      refine Ld k23 23 rfl 120 134 42 _ 32 Try.underlying42 info23 rfl (by decide) (by decide) (by decide) S iI ⟨X, wrap64 (Y + o'), Wd, n⟩ [.int .i64 X, .int .i64 (wrap64 (Y + o')), .int .i64 Wd, .int .i64 n] (fun _ _ _ => qM _ _ _ _) (by have := zA.out; omega) ?_
      clear S iI
      intro J5 cp2 Nq gV S iI
      refine hK.out _ _ ?_
      clear hK K
      refine dK 135 ?_
      refine au 16 11 (bA 17 131071) aj ?_
      refine jG (gK aj.out (by kernel_rfl)) ?_
      clear hHeld
      have xi := Af.out _ S.out.below
      go_wp2
      clear xi
      have hw1 := HW1.out
      go_wp2
      go_roundg ns.length
      case measure => exact Nat.lt_of_lt_of_le (Nat.lt_succ_self _) iF.out
      case rel => exact ⟨pre ++ [n], ns, o' + n, _, ls', _, _, _, _, _, _, (by rw [List.length_append]; rfl), rfl, (by rw [HWG.out]), (by rw [hw1]), ⟨by rw [List.append_assoc]; exact HE.out⟩, Nat.le_refl _, ⟨by have := HO.out; have := qU.out; have := HN.out; have := HD2.out; simp only [List.length_append, List.length_singleton]; omega⟩, ⟨by rw [show ((pre ++ [n]).length == 0) = false by simp]; exact HG2.out⟩, iI, l_, ⟨S.out.qV.qV.qV.qV⟩⟩
theorem W9 (c : ai) (hl : c.f3.length ≤ 1000000) (b : Nat) (P : Nat → Prop) (A : Option Addr) (cc : Nat) (w : World) (hv : Kd.V k26 26 w b P (.slice A c.f3.length cc) c.f3) :
  Calls Try.prog 194 #[.agg #[.int .u8 c.f0, .int .i64 c.f1.f0, .int .i64 c.f1.f1, .int .i64 c.f1.f2, .int .i64 c.f1.f3, .int .i64 c.f2, .slice A c.f3.length cc]] w fun e w' => ∃ A' c', e = .returned (.slice A' (jh c).length c') ∧ (Kd.int .i64).R 3 w' w.heap.size (fun _ => True) (.slice A' (jh c).length c') (jh c) ∧ Below w.heap.size w w' := by
 have S := ae.mk (St.start (ts := [(.slice A c.f3.length cc, c.f3)]) (b0 := w.heap.size) (w := w) (P := P) (fun t ht => by rw [List.mem_singleton.1 ht]; exact gQ hv))
 have jw := ae.mk hl
 clear hl hv
 obtain ⟨ck, ⟨cx, cy, cw, ch⟩, aT, l⟩ := c
 simp only [] at S jw ⊢
 rw [show jh ⟨ck, ⟨cx, cy, cw, ch⟩, aT, l⟩ = l.map (qi ck) from rfl]
 simp only [List.length_map]
 go_enter Try.func194, Try.ntmps194
 go_wp2_with (first
  | (refine boxS 1 _ 26 S ?_; clear S; intro b1 dQ S)
  | (refine gX 5 rfl ?_; refine lT (Kd.int .i64) 3 rfl 5 S ?_; clear S; intro Ap cp op eU S iI; have iL := (S.out.at bz 6).trans rfl)
  | fail)
 clear iL
 go_loopg [3, 9] l.length (fun gg v3 v9 wr => ∃ (pre rest : List ai) (Ap : Option Addr) (cp : Nat) (op : Obj), v3 = .slice Ap pre.length cp ∧ v9 = .int .i64 (pre.length : Int) ∧ ae (pre ++ rest = l) ∧ rest.length ≤ gg ∧ ae (KR (Kd.int .i64) 3 w.heap.size (.slice Ap pre.length cp) (pre.map (qi ck)) op) ∧ ae (St w P [((Value.slice Ap pre.length cp).ownBlock, op), (some b1, .cells #[.int .u8 ck, .int .i64 cx, .int .i64 cy, .int .i64 cw, .int .i64 ch, .int .i64 aT, .slice A l.length cc] 26 (0, 0))] [] [(.slice A l.length cc, l)] [] wr))
 case atStart => exact ⟨[], l, _, _, _, rfl, rfl, ⟨rfl⟩, Nat.le_refl _, iI, S⟩
 case round =>
  clear S iI
  obtain ⟨pre, rest, Ap, cp, op, rfl, rfl, HE, hgg, iI, S⟩ := hrel
  cases rest with
  | nil =>
   have hE := HE.out
   rw [List.append_nil] at hE
   have hE2 := hE.symm
   subst hE2
   clear hE HE hgg
   have hlt : ¬ ((l.length : Int) < (l.length : Int)) := by omega
   go_wp2
   go_ret
   exact ⟨_, _, rfl, S.out.FB iI.out (.head _), S.out.below⟩
  | cons k rest =>
   have hk : k ∈ l := by rw [← HE.out]; simp
   have hlt : (pre.length : Int) < (l.length : Int) := by rw [← HE.out, List.length_append, List.length_cons]; omega
   have hw1 : wrap64 ((pre.length : Int) + 1) = ((pre ++ [k]).length : Int) := by have := jw.out; rw [List.length_append, List.length_singleton]; unfold wrap64; omega
   have HW1 := ae.mk hw1
   have iF := ae.mk hgg
   have HK := ae.mk hk
   have Et := ae.mk (show pre.length ≤ 1048576 by have := jw.out; omega)
   obtain ⟨kG, ua, uc, ek, S1⟩ := S.out.elem (.head _) (pre.length : Int) (Int.natCast_nonneg _) hlt
   subst ek
   have hrd : az l (pre.length : Int) = k := by rw [← HE.out]; exact lU pre k rest
   rw [hrd] at S1
   simp only [Int.toNat_natCast] at S1
   replace S := ae.mk S1
   clear S1 hrd hk hgg hw1
   by_cases hk2 : ck = 2
   case pos =>
    have hka : (ck == 2) = true := beq_iff_eq.mpr hk2
    have hkb : decide (ck = 2) = true := decide_eq_true hk2
    have Ky := ae.mk (show (pre ++ [k]).map (qi ck) = pre.map (qi ck) ++ [k.f1.f2] by rw [List.map_append]; exact congrArg (pre.map (qi ck) ++ [·]) (if_pos hk2))
    clear hk2
    have fV := (S.out.at bz 0).trans rfl
    have iL := (S.out.at bz 6).trans rfl
    have jX := (S.out.cell _ kX).1
    go_wp2_with (first
     | (refine gX 24 rfl ?_; at_builtin; refine uO (Kd.int .i64) 3 rfl 15 23 41 (.int .i64 0) 8 Try.underlying41 info3 rfl (by decide) (by decide) (by decide) S iI k.f1.f2 [.int .i64 k.f1.f2] (fun _ _ _ => rfl) (by have := Et.out; simp only [List.length_map]; omega) ?_; clear S iI; intro J5 cp2 Nq gV S iI; clear fV iL jX)
     | fail)
    have e2 : ((pre.map (qi ck)) ++ [k.f1.f2]).length = (pre ++ [k]).length := by simp
    rw [e2, ← Ky.out] at iI
    rw [e2] at S
    have hw1 := HW1.out
    go_wp2
    go_roundg rest.length
    case measure => exact Nat.lt_of_lt_of_le (Nat.lt_succ_self _) iF.out
    case rel => exact ⟨pre ++ [k], rest, _, _, _, (by rw [List.length_append]; rfl), (by rw [hw1]), ⟨by rw [List.append_assoc]; exact HE.out⟩, Nat.le_refl _, iI, ⟨S.out.sW.sW.dG.bJ.bJ.bJ.bJ.bJ.bJ.bJ⟩⟩
   case neg =>
    have hka : (ck == 2) = false := beq_eq_false_iff_ne.mpr hk2
    have hkb : decide (ck = 2) = false := decide_eq_false hk2
    have Ky := ae.mk (show (pre ++ [k]).map (qi ck) = pre.map (qi ck) ++ [k.f1.f3] by rw [List.map_append]; exact congrArg (pre.map (qi ck) ++ [·]) (if_neg hk2))
    clear hk2
    have fV := (S.out.at bz 0).trans rfl
    have iL := (S.out.at bz 6).trans rfl
    have jY := (S.out.cell _ qg).1
    go_wp2_with (first
     | (refine gX 34 rfl ?_; at_builtin; refine uO (Kd.int .i64) 3 rfl 25 33 41 (.int .i64 0) 8 Try.underlying41 info3 rfl (by decide) (by decide) (by decide) S iI k.f1.f3 [.int .i64 k.f1.f3] (fun _ _ _ => rfl) (by have := Et.out; simp only [List.length_map]; omega) ?_; clear S iI; intro J5 cp2 Nq ji S iI; clear fV iL jY)
     | fail)
    have e2 : ((pre.map (qi ck)) ++ [k.f1.f3]).length = (pre ++ [k]).length := by simp
    rw [e2, ← Ky.out] at iI
    rw [e2] at S
    have hw1 := HW1.out
    go_wp2
    go_roundg rest.length
    case measure => exact Nat.lt_of_lt_of_le (Nat.lt_succ_self _) iF.out
    case rel => exact ⟨pre ++ [k], rest, _, _, _, (by rw [List.length_append]; rfl), (by rw [hw1]), ⟨by rw [List.append_assoc]; exact HE.out⟩, Nat.le_refl _, iI, ⟨S.out.sW.sW.dG.bJ.bJ.bJ.bJ.bJ.bJ.bJ⟩⟩
def uu.T3 : Bool × List (List Nat × List Nat) := (true, [([], []), ([0], [0]), ([], []), ([2], [2]), ([3], [3]), ([], []), ([5], [5]), ([1, 4, 6, 6], [1, 4, 6]), ([7], [7]), ([8], [8]), ([8], [8]), ([8], [8]), ([9, 7, 0, 1, 2, 3, 4, 5, 6, 7, 8, 9], [9]), ([10, 12, 0, 1, 2, 3, 4, 5, 6, 7, 8, 9, 10, 12], [10]), ([11, 13, 0, 1, 2, 3, 4, 5, 6, 7, 8, 9, 10, 11, 12, 13], [11])])
def uu.B3 : List Nat := [0, 1, 0, 4, 12, 0, 32, 127, 255, 511, 511, 511, 1023, 6143, 16383]
theorem uu.QY : iD .any (opsOf Try.f178 3) = uu.T3 := by kernel_rfl
theorem uu.JV : iG uu.T3.2 uu.B3 = true := by kernel_rfl
def uw.T9 : Bool × List (List Nat × List Nat) := (true, [([], []), ([], []), ([0, 1], [0, 1]), ([2], [2]), ([], []), ([4], [4]), ([], []), ([5, 6], [5, 6]), ([7], [7]), ([8], [8]), ([3, 9], [3, 9])])
def uw.B9 : List Nat := [0, 0, 3, 7, 0, 16, 0, 112, 240, 496, 1023]
theorem uw.zu : iD .any (opsOf Try.f178 9) = uw.T9 := by kernel_rfl
theorem uw.vF : iG uw.T9.2 uw.B9 = true := by kernel_rfl
theorem Us (c : ai) (hl : c.f3.length ≤ 1000000) (b : Nat) (P : Nat → Prop) (A : Option Addr) (cc : Nat) (w : World) (hv : Kd.V k26 26 w b P (.slice A c.f3.length cc) c.f3) :
  Calls Try.prog 178 #[.agg #[.int .u8 c.f0, .int .i64 c.f1.f0, .int .i64 c.f1.f1, .int .i64 c.f1.f2, .int .i64 c.f1.f3, .int .i64 c.f2, .slice A c.f3.length cc]] w (P5 w c) := by
 have S := ae.mk (St.start (ts := [(.slice A c.f3.length cc, c.f3)]) (b0 := w.heap.size) (w := w) (P := P) (fun t ht => by rw [List.mem_singleton.1 ht]; exact gQ hv))
 have jw := ae.mk hl
 have hsz := fun b P A cc w hv => W9 c hl b P A cc w hv
 obtain ⟨T, hT⟩ : ∃ T, T = yc c := ⟨_, rfl⟩
 have hlen : T.2.2 = true → T.1.length = c.f3.length := fun h => by rw [hT] at h ⊢; rw [(CU h).2.1, LQ]; simp [jh]
 have hl2 : T.2.1.length ≤ c.f3.length := by rw [hT]; exact (LV c).2
 have hcut := fun B cb w hi => adU c.f1.f0 c.f1.f1 c.f1.f2 c.f1.f3 ((c.f0 - 1) % 256) (jh c) (by simpa [jh] using hl) B cb w hi
 rw [show ql c.f1.f0 c.f1.f1 c.f1.f2 c.f1.f3 ((c.f0 - 1) % 256) (jh c) = T by rw [hT, Yr]; rfl] at hcut
 have ho : mD c = BM c T := by rw [hT]; rfl
 generalize jh c = SL at hsz hcut
 unfold P5
 generalize mD c = v at ho ⊢
 clear hT hl hv
 obtain ⟨ck, ⟨cx, cy, cw, ch⟩, aT, l⟩ := c
 obtain ⟨t1, t2, t3⟩ := T
 simp only [BM] at S jw hsz hlen hl2 hcut ho ⊢
 have HZC := ae.mk hsz
 have HL2 := ae.mk hl2
 clear hsz hl2
 by_cases h1 : ck = 1
 case pos =>
  have hv : v = true := by rw [ho, h1]; rfl
  have ha : (ck == 1) = true := beq_iff_eq.mpr h1
  have hb : decide (ck = 1) = true := decide_eq_true h1
  have HL := ae.mk hv
  clear hv h1 ho hcut hlen
  go_enter Try.func178, Try.ntmps178
  go_wp2_with (first | (refine boxS 1 _ 26 S ?_; clear S; intro b1 dQ S; have fV := (S.out.at (.head _) 0).trans rfl) | (refine gX 11 rfl ?_; refine lT k23 23 rfl 11 S ?_; clear S; intro akd akm aky eU S yu; clear fV))
  go_ret2
  rw [HL.out]
  exact ⟨_, _, _, rfl, fun _ => ⟨[], rfl, Nat.zero_le _, S.out.FB yu.out (.head _)⟩, S.out.below⟩
 have ha : (ck == 1) = false := beq_eq_false_iff_ne.mpr h1
 have hd : decide (ck = 1) = false := decide_eq_false h1
 rw [ha, Bool.false_or] at ho
 clear h1
 cases t3 with
 | false =>
  rw [Bool.false_and] at ho
  have HL := ae.mk ho
  have FY := ae.mk (fun B cb w hi => LW (hcut B cb w hi))
  clear hcut ho hlen
  go_enter Try.func178, Try.ntmps178
  go_wp2_with ((refine boxS 1 _ 26 S ?_; clear S; intro b1 dQ S; have fV := (S.out.at (.head _) 0).trans rfl))
  clear fV
  refine iT (n := 15) (S := fun w' => St w _ _ _ _ _ w') (ds := []) (bA 15 0) (by kernel_rfl) rfl rfl (S.out.call (bg (Below.refl _ _))) (fun hHeld => ?_); refine eP uu.QY uu.JV (fun aj dW => ?_)
  replace S := ae.mk (S.out.call (bg (Below.refl _ _)))
  generalize dQ.drew = wd2 at S hHeld ⊢
  refine au 0 13 (bA 15 1) aj ?_
  refine dO 1 14 (bA 15 3) aj dW hHeld ?_ (hv := by intro w' hs_; have jZ := (hs_.at (.head _) 1).trans rfl; have ku := (hs_.at (.head _) 2).trans rfl; have kz := (hs_.at (.head _) 3).trans rfl; have kC := (hs_.at (.head _) 4).trans rfl; go_simp; with_reducible rfl)
  refine au 2 15 (bA 15 7) aj ?_
  refine dO 3 16 (bA 15 15) aj dW hHeld ?_ (hv := by intro w' hs_; have fV := (hs_.at (.head _) 0).trans rfl; go_simp; with_reducible rfl)
  refine au 4 17 (bA 15 31) aj ?_
  refine dO 5 18 (bA 15 63) aj dW hHeld ?_ (hv := by intro w' hs_; have fV := (hs_.at (.head _) 0).trans rfl; have jZ := (hs_.at (.head _) 1).trans rfl; have ku := (hs_.at (.head _) 2).trans rfl; have kz := (hs_.at (.head _) 3).trans rfl; have kC := (hs_.at (.head _) 4).trans rfl; have lZ := (hs_.at (.head _) 5).trans rfl; have iL := (hs_.at (.head _) 6).trans rfl; go_simp; with_reducible rfl)
  refine jf 6 (some 19) (bA 15 127) aj (fun K hK => ?_)
  refine jH Try.func194 (by kernel_rfl) rfl #[.agg #[.int .u8 ck, .int .i64 cx, .int .i64 cy, .int .i64 cw, .int .i64 ch, .int .i64 aT, .slice A l.length cc]] (by rfl) rfl rfl (by (try simp only [List.map_toArray, List.map_cons, List.map_nil]); rfl) ?_
  refine (HZC.out _ _ _ _ _ (S.out.tree _ (.head _))).mono ?_
  rintro e gV ⟨As, cs, rfl, h1, hb⟩
  refine ⟨_, rfl, ?_⟩
  obtain ⟨os, S1, hI⟩ := S.out.FM (d := Kd.int .i64) (e := 3) rfl h1 hb
  replace S := ae.mk S1
  have HKs := ae.mk hI
  clear S1 hI h1 hb
  refine hK.out _ _ S.out.dA (fun hHeld => ?_)
  clear hK K
  refine dK 19 ?_
  refine jf 7 (some 20) (bA 15 255) aj (fun K hK => ?_)
  refine jH Try.func46 (by kernel_rfl) rfl #[.agg #[.int .i64 cx, .int .i64 cy, .int .i64 cw, .int .i64 ch], .int .u8 ((ck - 1) % 256), .slice As SL.length cs] (by rfl) rfl rfl (by (try simp only [List.map_toArray, List.map_cons, List.map_nil]); rfl) ?_
  refine (FY.out _ _ _ (Kd.dP (KA HKs.out S.out (.head _))).2.2).mono ?_
  rintro e ji ⟨Ap, np, cp, Aq, nq, cq, rfl, hb⟩
  refine ⟨_, rfl, ?_⟩
  replace S := ae.mk (S.out.call hb)
  clear hb
  refine hK.out _ _ S.out.dA (fun hHeld => ?_)
  clear hK K
  refine dK 20 ?_
  refine au 8 12 (bA 15 511) aj ?_
  refine au 9 21 (bA 15 1023) aj ?_
  refine au 10 22 (bA 15 2047) aj ?_
  refine au 11 23 (bA 15 4095) aj ?_
  refine au 12 4 (bA 15 8191) aj ?_
  refine au 13 5 (bA 15 16383) aj ?_
  refine au 14 6 (bA 15 32767) aj ?_
  refine jG (gK aj.out (by kernel_rfl)) ?_
  clear hHeld
  go_wp2
  go_ret2
  rw [HL.out]
  exact ⟨_, _, _, rfl, (fun h => by cases h), S.out.below⟩
 | true =>
  replace hlen := hlen rfl
  rw [Bool.true_and, show (l.length == t1.length) = true from beq_iff_eq.mpr hlen.symm, Bool.true_and] at ho
  have HL := ae.mk ho
  have zA := ae.mk hlen
  have FY := ae.mk (fun B cb w hi => Oz (hcut B cb w hi))
  clear hcut ho hlen
  go_enter Try.func178, Try.ntmps178
  go_wp2_with ((refine boxS 1 _ 26 S ?_; clear S; intro b1 dQ S; have fV := (S.out.at (.head _) 0).trans rfl))
  clear fV
  refine iT (n := 15) (S := fun w' => St w _ _ _ _ _ w') (ds := []) (bA 15 0) (by kernel_rfl) rfl rfl (S.out.call (bg (Below.refl _ _))) (fun hHeld => ?_); refine eP uu.QY uu.JV (fun aj dW => ?_)
  replace S := ae.mk (S.out.call (bg (Below.refl _ _)))
  generalize dQ.drew = wd2 at S hHeld ⊢
  refine au 0 13 (bA 15 1) aj ?_
  refine dO 1 14 (bA 15 3) aj dW hHeld ?_ (hv := by intro w' hs_; have jZ := (hs_.at (.head _) 1).trans rfl; have ku := (hs_.at (.head _) 2).trans rfl; have kz := (hs_.at (.head _) 3).trans rfl; have kC := (hs_.at (.head _) 4).trans rfl; go_simp; with_reducible rfl)
  refine au 2 15 (bA 15 7) aj ?_
  refine dO 3 16 (bA 15 15) aj dW hHeld ?_ (hv := by intro w' hs_; have fV := (hs_.at (.head _) 0).trans rfl; go_simp; with_reducible rfl)
  refine au 4 17 (bA 15 31) aj ?_
  refine dO 5 18 (bA 15 63) aj dW hHeld ?_ (hv := by intro w' hs_; have fV := (hs_.at (.head _) 0).trans rfl; have jZ := (hs_.at (.head _) 1).trans rfl; have ku := (hs_.at (.head _) 2).trans rfl; have kz := (hs_.at (.head _) 3).trans rfl; have kC := (hs_.at (.head _) 4).trans rfl; have lZ := (hs_.at (.head _) 5).trans rfl; have iL := (hs_.at (.head _) 6).trans rfl; go_simp; with_reducible rfl)
  refine jf 6 (some 19) (bA 15 127) aj (fun K hK => ?_)
  refine jH Try.func194 (by kernel_rfl) rfl #[.agg #[.int .u8 ck, .int .i64 cx, .int .i64 cy, .int .i64 cw, .int .i64 ch, .int .i64 aT, .slice A l.length cc]] (by rfl) rfl rfl (by (try simp only [List.map_toArray, List.map_cons, List.map_nil]); rfl) ?_
  refine (HZC.out _ _ _ _ _ (S.out.tree _ (.head _))).mono ?_
  rintro e gV ⟨As, cs, rfl, h1, hb⟩
  refine ⟨_, rfl, ?_⟩
  obtain ⟨os, S1, hI⟩ := S.out.FM (d := Kd.int .i64) (e := 3) rfl h1 hb
  replace S := ae.mk S1
  have HKs := ae.mk hI
  clear S1 hI h1 hb
  refine hK.out _ _ S.out.dA (fun hHeld => ?_)
  clear hK K
  refine dK 19 ?_
  refine jf 7 (some 20) (bA 15 255) aj (fun K hK => ?_)
  refine jH Try.func46 (by kernel_rfl) rfl #[.agg #[.int .i64 cx, .int .i64 cy, .int .i64 cw, .int .i64 ch], .int .u8 ((ck - 1) % 256), .slice As SL.length cs] (by rfl) rfl rfl (by (try simp only [List.map_toArray, List.map_cons, List.map_nil]); rfl) ?_
  refine (FY.out _ _ _ (Kd.dP (KA HKs.out S.out (.head _))).2.2).mono ?_
  rintro e ji ⟨Ap, cp, Aq, cq, op, oq, rfl, h1, hb⟩
  refine ⟨_, rfl, ?_⟩
  obtain ⟨S1, hp, hq⟩ := S.out.two h1 hb
  replace S := ae.mk S1
  have iI := ae.mk hp
  have l_ := ae.mk hq
  clear S1 hp hq h1 hb
  refine hK.out _ _ S.out.dA.dA.dA (fun hHeld => ?_)
  clear hK K
  refine dK 20 ?_
  refine au 8 12 (bA 15 511) aj ?_
  refine au 9 21 (bA 15 1023) aj ?_
  refine au 10 22 (bA 15 2047) aj ?_
  refine au 11 23 (bA 15 4095) aj ?_
  refine au 12 4 (bA 15 8191) aj ?_
  refine au 13 5 (bA 15 16383) aj ?_
  refine au 14 6 (bA 15 32767) aj ?_
  refine jG (gK aj.out (by kernel_rfl)) ?_
  clear hHeld
  go_wp2
  clear ha hd
  go_loopg [29] t1.length (fun gg v29 wr => ∃ (pre rest : List dw) (pb rb : List ai), v29 = .int .i64 (pre.length : Int) ∧ ae (pre ++ rest = t1) ∧ ae (pb ++ rb = l) ∧ ae (pb.length = pre.length) ∧ ae (rM (fun k r => qx k.f1 r) pb pre = true) ∧ rest.length ≤ gg ∧ ae (St w P [((Value.slice Ap t1.length cp).ownBlock, op), ((Value.slice Aq t2.length cq).ownBlock, oq), ((Value.slice As SL.length cs).ownBlock, os), (some b1, .cells #[.int .u8 ck, .int .i64 cx, .int .i64 cy, .int .i64 cw, .int .i64 ch, .int .i64 aT, .slice A l.length cc] 26 (0, 0))] [] [(.slice A l.length cc, l)] [] wr))
  case atStart => exact ⟨[], t1, [], l, rfl, ⟨rfl⟩, ⟨rfl⟩, ⟨rfl⟩, ⟨H5 _ _⟩, Nat.le_refl _, S⟩
  case round =>
   clear S
   obtain ⟨pre, rest, pb, rb, rfl, HE, HE2, Es, HSM, hgg, S⟩ := hrel
   have hlr : rb.length = rest.length := by have h1 := congrArg List.length HE.out; have h2 := congrArg List.length HE2.out; rw [List.length_append] at h1 h2; have := Es.out; have := zA.out; omega
   cases rest with
   | nil =>
    have hrb := List.eq_nil_of_length_eq_zero hlr
    subst hrb
    have hE := HE.out
    rw [List.append_nil] at hE
    have hE3 := HE2.out
    rw [List.append_nil] at hE3
    have HV := ae.mk (show v = true by rw [HL.out, ← hE, ← hE3]; exact HSM.out)
    have hlt : ¬ ((pre.length : Int) < (t1.length : Int)) := by rw [hE]; omega
    have ado : ¬ (pre.length < t1.length) := by omega
    clear HE HE2 hgg hlr hE hE3
    go_wp2
    go_ret2
    rw [HV.out]
    exact ⟨_, _, _, rfl, fun _ => ⟨t2, rfl, HL2.out, S.out.FB l_.out bz⟩, S.out.below⟩
   | cons r rest =>
    cases rb with
    | nil => simp at hlr
    | cons k rb =>
     have hlt : (pre.length : Int) < (t1.length : Int) := by rw [← HE.out, List.length_append, List.length_cons]; omega
     have hlt2 : (pb.length : Int) < (l.length : Int) := by rw [← HE2.out, List.length_append, List.length_cons]; omega
     have hlt3 : pre.length < l.length := by have := Es.out; omega
     have ado : pre.length < t1.length := by omega
     have hlt4 : (pre.length : Int) < (l.length : Int) := by omega
     have hw1 : wrap64 ((pre.length : Int) + 1) = ((pre ++ [r]).length : Int) := by have := jw.out; have := zA.out; rw [List.length_append, List.length_singleton]; unfold wrap64; omega
     have HW1 := ae.mk hw1
     have iF := ae.mk hgg
     obtain ⟨kG, ua, uc, ek, S1⟩ := S.out.elem (.head _) (pb.length : Int) (Int.natCast_nonneg _) hlt2
     subst ek
     have hrd : az l (pb.length : Int) = k := by rw [← HE2.out]; exact lU pb k rb
     rw [hrd] at S1
     simp only [Int.toNat_natCast] at S1
     rw [Es.out] at S1
     replace S := ae.mk S1
     obtain ⟨yw, ep, hel⟩ := abD iI.out (S.out.blk _ (.head _)) pre rest r HE.out
     subst ep
     have FZ := ae.mk hel
     clear S1 hrd hgg hw1 hlr hel hlt2
     cases hq : qx k.f1 r with
     | false =>
      have HQ := ae.mk hq
      have HV := ae.mk (show v = false by rw [HL.out, ← HE.out, ← HE2.out, OB Es.out, HSM.out]; simp [rM, hq])
      clear hq
      go_wp2
      refine iT (n := 11) (S := fun w' => St w _ _ _ _ _ w') (ds := []) (bA 11 0) (by kernel_rfl) rfl rfl (S.out.call (bg (Below.refl _ _))) (fun hHeld => ?_); refine eP uw.zu uw.vF (fun aj dW => ?_)
      replace S := ae.mk (S.out.call (bg (Below.refl _ _)))
      generalize wr.drew = Cj at S hHeld ⊢
      refine au 0 32 (bA 11 1) aj ?_
      refine au 1 33 (bA 11 3) aj ?_
      refine au 2 34 (bA 11 7) aj ?_
      refine dO 3 35 (bA 11 15) aj dW hHeld ?_ (hv := by intro w' hs_; have xp0 := (FZ.out _ (hs_.blk _ (.head _))).1; have xp1 := (FZ.out _ (hs_.blk _ (.head _))).2.1; have xp2 := (FZ.out _ (hs_.blk _ (.head _))).2.2.1; have xp3 := (FZ.out _ (hs_.blk _ (.head _))).2.2.2; go_simp; with_reducible rfl)
      refine au 4 36 (bA 11 31) aj ?_
      refine dO 5 37 (bA 11 63) aj dW hHeld ?_ (hv := by intro w' hs_; have iL := (hs_.at kX 6).trans rfl; go_simp; with_reducible rfl)
      refine au 6 38 (bA 11 127) aj ?_
      refine au 7 39 (bA 11 255) aj ?_
      refine au 8 40 (bA 11 511) aj ?_
      refine dO 9 41 (bA 11 1023) aj dW hHeld ?_ (hv := by intro w' hs_; have jD := (hs_.cell _ bz).1; have kK := (hs_.cell _ dR).1; have jX := (hs_.cell _ kX).1; have jY := (hs_.cell _ qg).1; go_simp; with_reducible rfl)
      refine dO 10 42 (bA 11 2047) aj dW hHeld ?_ (hv := by intro w' hs_; go_simp; exact adM HQ.out _ _)
      refine jG (gK aj.out (by kernel_rfl)) ?_
      clear hHeld
      go_wp2_with ((refine gX 43 rfl ?_; refine lT k23 23 rfl 43 S ?_; clear S; intro ake akn akz eU S yu))
      go_ret2
      rw [HV.out]
      exact ⟨_, _, _, rfl, (fun h => by cases h), S.out.below⟩
     | true =>
      have HEQ := ae.mk (show rM (fun k r => qx k.f1 r) (pb ++ [k]) (pre ++ [r]) = true by rw [OB Es.out, HSM.out]; simp [rM, hq])
      obtain ⟨q0, q1, q2, q3⟩ := r
      unfold qx at hq
      simp only [Bool.and_eq_true, beq_iff_eq] at hq
      obtain ⟨e0, e1, e2, e3⟩ := hq
      subst e0 e1 e2 e3
      simp only [] at FZ
      go_wp2
      refine iT (n := 11) (S := fun w' => St w _ _ _ _ _ w') (ds := []) (bA 11 0) (by kernel_rfl) rfl rfl (S.out.call (bg (Below.refl _ _))) (fun hHeld => ?_); refine eP uw.zu uw.vF (fun aj dW => ?_)
      replace S := ae.mk (S.out.call (bg (Below.refl _ _)))
      generalize wr.drew = Cj at S hHeld ⊢
      refine au 0 32 (bA 11 1) aj ?_
      refine au 1 33 (bA 11 3) aj ?_
      refine au 2 34 (bA 11 7) aj ?_
      refine dO 3 35 (bA 11 15) aj dW hHeld ?_ (hv := by intro w' hs_; have xp0 := (FZ.out _ (hs_.blk _ (.head _))).1; have xp1 := (FZ.out _ (hs_.blk _ (.head _))).2.1; have xp2 := (FZ.out _ (hs_.blk _ (.head _))).2.2.1; have xp3 := (FZ.out _ (hs_.blk _ (.head _))).2.2.2; go_simp; with_reducible rfl)
      refine au 4 36 (bA 11 31) aj ?_
      refine dO 5 37 (bA 11 63) aj dW hHeld ?_ (hv := by intro w' hs_; have iL := (hs_.at kX 6).trans rfl; go_simp; with_reducible rfl)
      refine au 6 38 (bA 11 127) aj ?_
      refine au 7 39 (bA 11 255) aj ?_
      refine au 8 40 (bA 11 511) aj ?_
      refine dO 9 41 (bA 11 1023) aj dW hHeld ?_ (hv := by intro w' hs_; have jD := (hs_.cell _ bz).1; have kK := (hs_.cell _ dR).1; have jX := (hs_.cell _ kX).1; have jY := (hs_.cell _ qg).1; go_simp; with_reducible rfl)
      refine au 10 42 (bA 11 2047) aj ?_
      refine jG (gK aj.out (by kernel_rfl)) ?_
      clear hHeld
      go_wp2
      have hw1 := HW1.out
      go_wp2
      go_roundg rest.length
      case measure => exact Nat.lt_of_lt_of_le (Nat.lt_succ_self _) iF.out
      case rel => exact ⟨pre ++ [_], rest, pb ++ [k], rb, (by rw [hw1]), ⟨by rw [List.append_assoc]; exact HE.out⟩, ⟨by rw [List.append_assoc]; exact HE2.out⟩, ⟨by rw [List.length_append, List.length_append, Es.out]; rfl⟩, HEQ, Nat.le_refl _, ⟨S.out.dG.bJ.bJ.bJ.bJ.bJ.bJ.bJ⟩⟩
section
variable {W : World} {b : Nat} {P : Nat → Prop} {A : Option Addr} {cc : Nat}
theorem Lc (c : ai) (hz : sz c ≤ 1048576) (hV : Kd.V k26 26 W b P (.slice A c.f3.length cc) c.f3) :
  Calls Try.prog 79 #[.agg #[.int .u8 c.f0, .int .i64 c.f1.f0, .int .i64 c.f1.f1, .int .i64 c.f1.f2, .int .i64 c.f1.f3, .int .i64 c.f2, .slice A c.f3.length cc]] W fun e w' => ∃ A' c', e = .returned (.slice A' (fP c).length c') ∧ Kd.N k26 26 w' W.heap.size (fun k => P k ∨ W.heap.size ≤ k) (.slice A' (fP c).length c') (fP c) ∧ Below W.heap.size W w' := by
 obtain ⟨k, hk⟩ := (Jg (sz c) c (Nat.le_refl _) hz).rounds
 exact (dm.calls k _ _ _ _ _ _ P A cc c.f3 _ W (gQ hV) hk).mono (fun e w' ⟨v, he, hN, hB⟩ => by
  obtain ⟨A', c', rfl⟩ := Kd.jy hN
  exact ⟨A', c', he, hN, hB⟩)
theorem Wi (c : ai) (hz : sz c ≤ 1048576) (hV : Kd.V k26 26 W b P (.slice A c.f3.length cc) c.f3) :
  Calls Try.prog 126 #[.agg #[.int .u8 c.f0, .int .i64 c.f1.f0, .int .i64 c.f1.f1, .int .i64 c.f1.f2, .int .i64 c.f1.f3, .int .i64 c.f2, .slice A c.f3.length cc]] W fun e w' => ∃ A' c', e = .returned (.slice A' (lS c).length c') ∧ Kd.N k26 26 w' W.heap.size (fun k => P k ∨ W.heap.size ≤ k) (.slice A' (lS c).length c') (lS c) ∧ Below W.heap.size W w' := by
 obtain ⟨k, hk⟩ := (Ug c hz).rounds
 exact (dI.calls k _ _ _ _ _ _ P A cc c.f3 _ W (gQ hV) hk).mono (fun e w' ⟨v, he, hN, hB⟩ => by
  obtain ⟨A', c', rfl⟩ := Kd.jy hN
  exact ⟨A', c', he, hN, hB⟩)
theorem uo {r : dw} {v : Bool} (h : jW r = v) : Calls Try.prog 57 #[.agg #[.int .i64 r.f0, .int .i64 r.f1, .int .i64 r.f2, .int .i64 r.f3]] W fun e w' => e = .returned (.bool v) ∧ Below W.heap.size W w' :=
 oh.calls _ _ _ _ _ W ((EE _ _ _ _).trans (congrArg some h))
end
def oP (L M : List ai) : Bool := decide (L.length ≤ 20000) && (L.all mf && eG M)
theorem rQ {pre rest M : List ai} {k : ai} (h : mf k = false) : oP (pre ++ k :: rest) M = false := by
 unfold oP
 rw [List.all_append, List.all_cons, h, Bool.false_and, Bool.and_false, Bool.false_and, Bool.and_false]
theorem xw {k : ai} (h : jW k.f1 = false ∨ k.f0 < 1 ∨ 3 < k.f0 ∨ (k.f0 = 1 ∧ (0 < k.f3.length ∨ k.f2 < 0 ∨ 2147483647 < k.f2)) ∨ (1 < k.f0 ∧ (k.f3.length < 2 ∨ k.f2 ≠ 0))) : mf k = false := by
 cases hk : mf k with
 | false => rfl
 | true =>
  exfalso
  unfold mf at hk
  simp only [Bool.and_eq_true, decide_eq_true_eq] at hk
  obtain ⟨⟨⟨h1, h2⟩, h3⟩, h4⟩ := hk
  rcases h with h | h | h | h | h
  ·rw [h1] at h; cases h
  ·omega
  ·omega
  ·have := h3 h.1; omega
  ·have := h4 h.1; omega
theorem O_ {k : ai} (h1 : jW k.f1 = true) (h2 : 1 ≤ k.f0 ∧ k.f0 ≤ 3) (h3 : k.f0 = 1 → k.f3.length = 0 ∧ 0 ≤ k.f2 ∧ k.f2 ≤ 2147483647) (h4 : k.f0 > 1 → 2 ≤ k.f3.length ∧ k.f2 = 0) : mf k = true := by
 unfold mf
 rw [h1, decide_eq_true h2, decide_eq_true h3, decide_eq_true h4]
 rfl
theorem NT {pre rest : List ai} {k : ai} (h : nX pre k = false) : eG (pre ++ k :: rest) = false := by
 have h2 : eG (pre ++ [k]) = false := by rw [qG, h, Bool.and_false]
 have h3 := yf (pre ++ [k]) rest h2
 rwa [List.append_assoc] at h3
theorem afj (c : ai) (hz : sz c ≤ 1048576) (A : Option Addr) (cc : Nat) (w : World) (hr : Kd.C k26 w A c.f3.length c.f3) (hc : c.f3.length ≤ cc) :
  Calls Try.prog 38 #[.agg #[.int .u8 c.f0, .int .i64 c.f1.f0, .int .i64 c.f1.f1, .int .i64 c.f1.f2, .int .i64 c.f1.f3, .int .i64 c.f2, .slice A c.f3.length cc]] w fun e w' => e = .returned (.bool (kV c)) ∧ Below w.heap.size w w' := by
 have S := ae.mk (St.start (ts := [(.slice A c.f3.length cc, c.f3)]) (b0 := w.heap.size) (w := w) (P := fun k => k < w.heap.size) (fun t ht => by
  rw [List.mem_singleton.1 ht]; exact Kd.uD hc (Kd.CB nJ hr)))
 have HZ := ae.mk hz
 have HM := ae.mk (show kV c = oP (fP c) (lS c) from rfl)
 have HLZ := ae.mk (show (fP c).length ≤ 1048576 from hz)
 have Xm := ae.mk (show (lS c).length ≤ 1048576 from Nat.le_trans (List.length_filter_le _ _) hz)
 clear hr hc hz
 obtain ⟨ck, ⟨cx, cy, cw, ch⟩, aT, l⟩ := c
 simp only [] at S HZ HM HLZ Xm
 have VV := fun W b P A cc hV => @Lc W b P A cc ⟨ck, ⟨cx, cy, cw, ch⟩, aT, l⟩ HZ.out hV
 have VW := fun W b P A cc hV => @Wi W b P A cc ⟨ck, ⟨cx, cy, cw, ch⟩, aT, l⟩ HZ.out hV
 rw [HM.out]
 generalize fP ⟨ck, ⟨cx, cy, cw, ch⟩, aT, l⟩ = L at HM HLZ VV ⊢
 generalize lS ⟨ck, ⟨cx, cy, cw, ch⟩, aT, l⟩ = M at HM Xm VW ⊢
 have HA := ae.mk VV
 have HLE := ae.mk VW
 clear HM VV VW
 by_cases hl : 20000 < L.length
 case pos =>
  obtain ⟨hla, hlb⟩ := mZ (a := 20000) (b := (L.length : Int)) (by omega)
  have hlc : decide (20000 < L.length) = true := decide_eq_true (by omega)
  have HB := ae.mk (show oP L M = false by unfold oP; rw [decide_eq_false (by omega), Bool.false_and])
  clear hl
  go_enter Try.func38, Try.ntmps38
  go_wp2_with (first
   | (refine boxS 1 _ 26 S ?_; clear S; intro b1 dQ S; obtain ⟨fV, jZ, ku, kz, kC, lZ, iL⟩ := St.fA S (.head _))
   | (refine BG (some 9) Try.func79 S (HA.out _ _ _ _ _ (S.out.tree _ (.head _))) ?_; clear S; intro Aa ca eU S; clear fV jZ ku kz kC lZ iL)
   | fail)
  go_ret
  refine ⟨?_, S.out.below⟩
  rw [HB.out]
  rfl
 obtain ⟨hla, hlb⟩ := lY (a := 20000) (b := (L.length : Int)) (by omega)
 have hlc : decide (20000 < L.length) = false := decide_eq_false (by omega)
 have HL := ae.mk hl
 clear hl
 go_enter Try.func38, Try.ntmps38
 go_wp2_with (first
  | (refine boxS 1 _ 26 S ?_; clear S; intro b1 gV S; obtain ⟨fV, jZ, ku, kz, kC, lZ, iL⟩ := St.fA S (.head _))
  | (refine BG (some 9) Try.func79 S (HA.out _ _ _ _ _ (S.out.tree _ (.head _))) ?_; clear S; intro Aa ca ji S; clear fV jZ ku kz kC lZ iL)
  | fail)
 clear hla hlb hlc
 go_loopg [15] L.length (fun gg v15 wr => ∃ (pre rest : List ai), v15 = .int .i64 (pre.length : Int) ∧ ae (pre ++ rest = L) ∧ rest.length ≤ gg ∧ ae (pre.all mf = true) ∧ ae (St w (fun k => k < w.heap.size) [(some b1, .cells #[.int .u8 ck, .int .i64 cx, .int .i64 cy, .int .i64 cw, .int .i64 ch, .int .i64 aT, .slice A l.length cc] 26 (0, 0))] [] [(.slice Aa L.length ca, L), (.slice A l.length cc, l)] [] wr))
 case atStart => exact ⟨[], L, rfl, ⟨rfl⟩, Nat.le_refl _, ⟨rfl⟩, ⟨S.out⟩⟩
 case round =>
  clear S
  obtain ⟨pre, rest, rfl, HE, hgg, Rw, S⟩ := hrel
  cases rest with
  | cons k rest =>
   have hlt : (pre.length : Int) < (L.length : Int) := by rw [← HE.out, List.length_append, List.length_cons]; omega
   have hw1 : wrap64 ((pre.length : Int) + 1) = ((pre ++ [k]).length : Int) := by have := HLZ.out; rw [List.length_append, List.length_singleton]; unfold wrap64; omega
   have HW1 := ae.mk hw1
   have iF := ae.mk hgg
   obtain ⟨kG, ua, uc, ek, S1⟩ := S.out.elem (.head _) (pre.length : Int) (Int.natCast_nonneg _) hlt
   subst ek
   have hrd : az L (pre.length : Int) = k := by rw [← HE.out]; exact lU pre k rest
   rw [hrd] at S1
   simp only [Int.toNat_natCast] at S1
   replace S := ae.mk S1
   clear S1 hrd hgg hw1
   cases hmr : jW k.f1 with
   | false =>
    have zB := ae.mk hmr
    clear hmr
    have HB := ae.mk (show oP L M = false by rw [← HE.out]; exact rQ (xw (.inl zB.out)))
    have jD := (S.out.cell _ bz).1
    have kK := (S.out.cell _ dR).1
    have jX := (S.out.cell _ kX).1
    have jY := (S.out.cell _ qg).1
    go_wp2_with (first
     | (refine bT (some 23) Try.func57 S (uo zB.out) ?_; clear S; intro mg S; clear jD kK jX jY)
     | fail)
    go_ret
    refine ⟨?_, S.out.below⟩
    rw [HB.out]
    rfl
   | true =>
    have zB := ae.mk hmr
    clear hmr
    by_cases h1 : k.f0 < 1
    case pos =>
     obtain ⟨h1a, h1b⟩ := mZ (a := k.f0) (b := 1) (by omega)
     have HB := ae.mk (show oP L M = false by rw [← HE.out]; exact rQ (xw (.inr (.inl h1))))
     have jD := (S.out.cell _ bz).1
     have kK := (S.out.cell _ dR).1
     have jX := (S.out.cell _ kX).1
     have jY := (S.out.cell _ qg).1
     go_wp2_with (first
      | (refine bT (some 23) Try.func57 S (uo zB.out) ?_; clear S; intro zQ S; clear jD kK jX jY; have iJ := (S.out.cell _ (.head _)).1)
      | fail)
     clear iJ
     go_ret
     refine ⟨?_, S.out.below⟩
     rw [HB.out]
     rfl
    obtain ⟨h1a, h1b⟩ := lY (a := k.f0) (b := 1) (by omega)
    by_cases h3 : 3 < k.f0
    case pos =>
     obtain ⟨h3a, h3b⟩ := mZ (a := 3) (b := k.f0) (by omega)
     have HB := ae.mk (show oP L M = false by rw [← HE.out]; exact rQ (xw (.inr (.inr (.inl h3)))))
     have jD := (S.out.cell _ bz).1
     have kK := (S.out.cell _ dR).1
     have jX := (S.out.cell _ kX).1
     have jY := (S.out.cell _ qg).1
     go_wp2_with (first
      | (refine bT (some 23) Try.func57 S (uo zB.out) ?_; clear S; intro xO S; clear jD kK jX jY; have iJ := (S.out.cell _ (.head _)).1)
      | fail)
     clear iJ
     go_ret
     refine ⟨?_, S.out.below⟩
     rw [HB.out]
     rfl
    obtain ⟨h3a, h3b⟩ := lY (a := 3) (b := k.f0) (by omega)
    by_cases h4 : k.f0 = 1
    case pos =>
     have Gv : (k.f0 == 1) = true := beq_iff_eq.mpr h4
     have h4d : decide (k.f0 = 1) = true := decide_eq_true h4
     by_cases h5 : 0 < k.f3.length
     case pos =>
      obtain ⟨h5a, Me⟩ := mZ (a := 0) (b := (k.f3.length : Int)) (by omega)
      have SX : decide (0 < k.f3.length) = true := decide_eq_true (by omega)
      have HB := ae.mk (show oP L M = false by rw [← HE.out]; exact rQ (xw (.inr (.inr (.inr (.inl ⟨h4, .inl h5⟩))))))
      have jD := (S.out.cell _ bz).1
      have kK := (S.out.cell _ dR).1
      have jX := (S.out.cell _ kX).1
      have jY := (S.out.cell _ qg).1
      go_wp2_with (first
       | (refine bT (some 23) Try.func57 S (uo zB.out) ?_; clear S; intro xP S; clear jD kK jX jY; have iJ := (S.out.cell _ (.head _)).1; have mP := (S.out.cell _ Cf).1)
       | fail)
      clear iJ mP
      go_ret
      refine ⟨?_, S.out.below⟩
      rw [HB.out]
      rfl
     obtain ⟨h5a, Me⟩ := lY (a := 0) (b := (k.f3.length : Int)) (by omega)
     have SX : decide (0 < k.f3.length) = false := decide_eq_false (by omega)
     by_cases h6 : k.f2 < 0
     case pos =>
      obtain ⟨h6a, h6b⟩ := mZ (a := k.f2) (b := 0) (by omega)
      have HB := ae.mk (show oP L M = false by rw [← HE.out]; exact rQ (xw (.inr (.inr (.inr (.inl ⟨h4, .inr (.inl h6)⟩))))))
      have jD := (S.out.cell _ bz).1
      have kK := (S.out.cell _ dR).1
      have jX := (S.out.cell _ kX).1
      have jY := (S.out.cell _ qg).1
      go_wp2_with (first
       | (refine bT (some 23) Try.func57 S (uo zB.out) ?_; clear S; intro EI S; clear jD kK jX jY; have iJ := (S.out.cell _ (.head _)).1; have mP := (S.out.cell _ Cf).1; have mO := (S.out.cell _ AZ).1)
       | fail)
      clear iJ mP mO
      go_ret
      refine ⟨?_, S.out.below⟩
      rw [HB.out]
      rfl
     obtain ⟨h6a, h6b⟩ := lY (a := k.f2) (b := 0) (by omega)
     by_cases h7 : 2147483647 < k.f2
     case pos =>
      obtain ⟨h7a, h7b⟩ := mZ (a := 2147483647) (b := k.f2) (by omega)
      have HB := ae.mk (show oP L M = false by rw [← HE.out]; exact rQ (xw (.inr (.inr (.inr (.inl ⟨h4, .inr (.inr h7)⟩))))))
      have jD := (S.out.cell _ bz).1
      have kK := (S.out.cell _ dR).1
      have jX := (S.out.cell _ kX).1
      have jY := (S.out.cell _ qg).1
      go_wp2_with (first
       | (refine bT (some 23) Try.func57 S (uo zB.out) ?_; clear S; intro yl S; clear jD kK jX jY; have iJ := (S.out.cell _ (.head _)).1; have mP := (S.out.cell _ Cf).1; have mO := (S.out.cell _ AZ).1)
       | fail)
      clear iJ mP mO
      go_ret
      refine ⟨?_, S.out.below⟩
      rw [HB.out]
      rfl
     obtain ⟨h7a, h7b⟩ := lY (a := 2147483647) (b := k.f2) (by omega)
     obtain ⟨h8a, h8b⟩ := lY (a := 1) (b := k.f0) (by omega)
     have HG := ae.mk (O_ zB.out (by omega) (by omega) (by omega))
     have jD := (S.out.cell _ bz).1
     have kK := (S.out.cell _ dR).1
     have jX := (S.out.cell _ kX).1
     have jY := (S.out.cell _ qg).1
     go_wp2_with (first
      | (refine bT (some 23) Try.func57 S (uo zB.out) ?_; clear S; intro NQ S; clear jD kK jX jY; have iJ := (S.out.cell _ (.head _)).1; have mP := (S.out.cell _ Cf).1; have mO := (S.out.cell _ AZ).1)
      | fail)
     clear iJ mP mO
     have hw1 := HW1.out
     go_wp2
     go_roundg rest.length
     case measure => exact Nat.lt_of_lt_of_le (Nat.lt_succ_self _) iF.out
     case rel => exact ⟨pre ++ [k], rest, (by rw [hw1]), ⟨by rw [List.append_assoc]; exact HE.out⟩, Nat.le_refl _, ⟨by rw [List.all_append, Rw.out, List.all_cons, HG.out]; rfl⟩, ⟨S.out.dG.bJ.bJ.bJ.bJ.bJ.bJ.bJ⟩⟩
    have Gv : (k.f0 == 1) = false := beq_eq_false_iff_ne.mpr h4
    have h4d : decide (k.f0 = 1) = false := decide_eq_false h4
    obtain ⟨h8a, h8b⟩ := mZ (a := 1) (b := k.f0) (by omega)
    by_cases h5 : k.f3.length < 2
    case pos =>
     obtain ⟨h5a, Me⟩ := mZ (a := (k.f3.length : Int)) (b := 2) (by omega)
     have SX : decide (k.f3.length < 2) = true := decide_eq_true (by omega)
     have HB := ae.mk (show oP L M = false by rw [← HE.out]; exact rQ (xw (.inr (.inr (.inr (.inr ⟨by omega, .inl h5⟩))))))
     have jD := (S.out.cell _ bz).1
     have kK := (S.out.cell _ dR).1
     have jX := (S.out.cell _ kX).1
     have jY := (S.out.cell _ qg).1
     go_wp2_with (first
      | (refine bT (some 23) Try.func57 S (uo zB.out) ?_; clear S; intro aee S; clear jD kK jX jY; have iJ := (S.out.cell _ (.head _)).1; have mP := (S.out.cell _ Cf).1)
      | fail)
     clear iJ mP
     go_ret
     refine ⟨?_, S.out.below⟩
     rw [HB.out]
     rfl
    obtain ⟨h5a, Me⟩ := lY (a := (k.f3.length : Int)) (b := 2) (by omega)
    have SX : decide (k.f3.length < 2) = false := decide_eq_false (by omega)
    by_cases h6 : k.f2 = 0
    case neg =>
     have h6b : (k.f2 != 0) = true := bne_iff_ne.mpr h6
     have h6c : (k.f2 == 0) = false := beq_eq_false_iff_ne.mpr h6
     have h6d : decide (k.f2 = 0) = false := decide_eq_false h6
     have HB := ae.mk (show oP L M = false by rw [← HE.out]; exact rQ (xw (.inr (.inr (.inr (.inr ⟨by omega, .inr h6⟩))))))
     have jD := (S.out.cell _ bz).1
     have kK := (S.out.cell _ dR).1
     have jX := (S.out.cell _ kX).1
     have jY := (S.out.cell _ qg).1
     go_wp2_with (first
      | (refine bT (some 23) Try.func57 S (uo zB.out) ?_; clear S; intro Xc S; clear jD kK jX jY; have iJ := (S.out.cell _ (.head _)).1; have mP := (S.out.cell _ Cf).1; have mO := (S.out.cell _ AZ).1)
      | fail)
     clear iJ mP mO
     go_ret
     refine ⟨?_, S.out.below⟩
     rw [HB.out]
     rfl
    have h6b : (k.f2 != 0) = false := bne_eq_false_iff_eq.mpr h6
    have h6c : (k.f2 == 0) = true := beq_iff_eq.mpr h6
    have h6d : decide (k.f2 = 0) = true := decide_eq_true h6
    have HG := ae.mk (O_ zB.out (by omega) (by omega) (by omega))
    have jD := (S.out.cell _ bz).1
    have kK := (S.out.cell _ dR).1
    have jX := (S.out.cell _ kX).1
    have jY := (S.out.cell _ qg).1
    go_wp2_with (first
     | (refine bT (some 23) Try.func57 S (uo zB.out) ?_; clear S; intro Xd S; clear jD kK jX jY; have iJ := (S.out.cell _ (.head _)).1; have mP := (S.out.cell _ Cf).1; have mO := (S.out.cell _ AZ).1)
     | fail)
    clear iJ mP mO
    have hw1 := HW1.out
    go_wp2
    go_roundg rest.length
    case measure => exact Nat.lt_of_lt_of_le (Nat.lt_succ_self _) iF.out
    case rel => exact ⟨pre ++ [k], rest, (by rw [hw1]), ⟨by rw [List.append_assoc]; exact HE.out⟩, Nat.le_refl _, ⟨by rw [List.all_append, Rw.out, List.all_cons, HG.out]; rfl⟩, ⟨S.out.dG.bJ.bJ.bJ.bJ.bJ.bJ.bJ⟩⟩
  | nil =>
   have hE := HE.out
   rw [List.append_nil] at hE
   subst hE
   clear HE hgg
   have hlt : ¬ ((pre.length : Int) < (pre.length : Int)) := by omega
   obtain ⟨fV, jZ, ku, kz, kC, lZ, iL⟩ := St.fA S (.head _)
   go_wp2_with (first
    | (refine BG (some 99) Try.func126 S (HLE.out _ _ _ _ _ (S.out.tree _ bz)) ?_; clear S; intro Al cl Xe S; clear fV jZ ku kz kC lZ iL)
    | fail)
   go_loopg [102] M.length (fun gg ahc wr => ∃ (pm rest : List ai), ahc = .int .i64 (pm.length : Int) ∧ ae (pm ++ rest = M) ∧ rest.length ≤ gg ∧ ae (eG pm = true) ∧ ae (St w (fun k => k < w.heap.size) [(some b1, .cells #[.int .u8 ck, .int .i64 cx, .int .i64 cy, .int .i64 cw, .int .i64 ch, .int .i64 aT, .slice A l.length cc] 26 (0, 0))] [] [(.slice Al M.length cl, M), (.slice Aa pre.length ca, pre), (.slice A l.length cc, l)] [] wr))
   case atStart => exact ⟨[], M, rfl, ⟨rfl⟩, Nat.le_refl _, ⟨rfl⟩, ⟨S.out⟩⟩
   case round =>
    clear S
    rename World => wz
    obtain ⟨pm, rest, rfl, HE, hgg, HD, S⟩ := hrel
    cases rest with
    | nil =>
     have hE := HE.out
     rw [List.append_nil] at hE
     subst hE
     have hlt : ¬ ((pm.length : Int) < (pm.length : Int)) := by omega
     have HB := ae.mk (show oP pre pm = true by unfold oP; rw [Rw.out, HD.out, decide_eq_true (by have := HL.out; omega)]; rfl)
     go_wp2
     go_ret
     refine ⟨?_, S.out.below⟩
     rw [HB.out]
     rfl
    | cons k rest =>
     have hlt : (pm.length : Int) < (M.length : Int) := by rw [← HE.out, List.length_append, List.length_cons]; omega
     have hw1 : wrap64 ((pm.length : Int) + 1) = ((pm ++ [k]).length : Int) := by have := Xm.out; rw [List.length_append, List.length_singleton]; unfold wrap64; omega
     have HW1 := ae.mk hw1
     have iF := ae.mk hgg
     have HPM := ae.mk (show pm.length ≤ 1048576 by have := Xm.out; omega)
     have Oj := ae.mk hlt
     obtain ⟨kG, ua, uc, ek, S1⟩ := S.out.elem (.head _) (pm.length : Int) (Int.natCast_nonneg _) hlt
     subst ek
     have hrd : az M (pm.length : Int) = k := by rw [← HE.out]; exact lU pm k rest
     rw [hrd] at S1
     simp only [Int.toNat_natCast] at S1
     replace S := ae.mk S1
     clear S1 hrd hgg hw1
     go_wp2
     have HK0 := ae.mk (show nX [] k = true from rfl)
     go_loopg [7] pm.length (fun gg v7 wr => ∃ (pa pb : List ai), v7 = .int .i64 (pa.length : Int) ∧ ae (pa ++ pb = pm) ∧ pb.length ≤ gg ∧ ae (nX pa k = true) ∧ ae (St w (fun k => k < w.heap.size) [(some b1, .cells #[.int .u8 ck, .int .i64 cx, .int .i64 cy, .int .i64 cw, .int .i64 ch, .int .i64 aT, .slice A l.length cc] 26 (0, 0))] [] [(.slice ua k.f3.length uc, k.f3), (.slice (some kG) M.length cl, M), (.slice Aa pre.length ca, pre), (.slice A l.length cc, l)] [((kG.add (pm.length * 7)), .int .u8 k.f0), (⟨(kG.add (pm.length * 7)).block, (kG.add (pm.length * 7)).off + 1, none⟩, .int .i64 k.f1.f0), (⟨(kG.add (pm.length * 7)).block, (kG.add (pm.length * 7)).off + 2, none⟩, .int .i64 k.f1.f1), (⟨(kG.add (pm.length * 7)).block, (kG.add (pm.length * 7)).off + 3, none⟩, .int .i64 k.f1.f2), (⟨(kG.add (pm.length * 7)).block, (kG.add (pm.length * 7)).off + 4, none⟩, .int .i64 k.f1.f3), (⟨(kG.add (pm.length * 7)).block, (kG.add (pm.length * 7)).off + 5, none⟩, .int .i64 k.f2), (⟨(kG.add (pm.length * 7)).block, (kG.add (pm.length * 7)).off + 6, none⟩, .slice ua k.f3.length uc)] wr))
     case atStart => exact ⟨[], pm, rfl, ⟨rfl⟩, Nat.le_refl _, ⟨rfl⟩, ⟨S.out⟩⟩
     case round =>
      clear S
      rename World => wy
      obtain ⟨pa, pb, rfl, HE2, hgg, HAP, S⟩ := hrel
      cases pb with
      | nil =>
       have hE := HE2.out
       rw [List.append_nil] at hE
       subst hE
       have hlt : ¬ ((pa.length : Int) < (pa.length : Int)) := by omega
       go_wp2
       have hw1 := HW1.out
       go_wp2
       go_roundg rest.length
       case measure => exact Nat.lt_of_lt_of_le (Nat.lt_succ_self _) iF.out
       case rel => exact ⟨pa ++ [k], rest, (by rw [hw1]), ⟨by rw [List.append_assoc]; exact HE.out⟩, Nat.le_refl _, ⟨by rw [qG, HD.out, HAP.out]; rfl⟩, ⟨S.out.dG.bJ.bJ.bJ.bJ.bJ.bJ.bJ⟩⟩
      | cons q pb =>
       have hlt : (pa.length : Int) < (pm.length : Int) := by rw [← HE2.out, List.length_append, List.length_cons]; omega
       have hlt0 := Oj.out
       have hlt2 : (pa.length : Int) < (M.length : Int) := by omega
       have hw1 : wrap64 ((pa.length : Int) + 1) = ((pa ++ [q]).length : Int) := by have := HPM.out; rw [List.length_append, List.length_singleton]; unfold wrap64; omega
       have HW2 := ae.mk hw1
       have agw := ae.mk hgg
       obtain ⟨adq, va, vc, eq_, S1⟩ := S.out.elem bz (pa.length : Int) (Int.natCast_nonneg _) hlt2
       injection eq_ with eq_
       subst eq_
       have hrd : az M (pa.length : Int) = q := by rw [← HE.out, ← HE2.out, List.append_assoc]; exact lU pa q (pb ++ k :: rest)
       rw [hrd] at S1
       simp only [Int.toNat_natCast] at S1
       replace S := ae.mk S1
       clear S1 hrd hgg hw1
       by_cases hq : k.f2 = q.f2
       case pos =>
        have hqb : (k.f2 == q.f2) = true := beq_iff_eq.mpr hq
        have hqd : decide (k.f2 = q.f2) = true := decide_eq_true hq
        have HQ := ae.mk hq
        clear hq
        have Xg := (S.out.cell _ (.tail _ (.tail _ (.tail _ mm9)))).1
        have mO := (S.out.cell _ AZ).1
        go_wp2
        go_quiet (fail)
        clear Xg mO
        replace S := ae.mk (S.out.call (eH (Below.refl _ _) nq))
        generalize wr.drewN nq = akL at S ⊢
        go_wp2
        have HB := ae.mk (show oP pre M = false by unfold oP; rw [← HE.out, NT (by rw [← HE2.out]; unfold nX; rw [List.all_append, List.all_cons, decide_eq_false (by have := HQ.out; simpa using this), Bool.false_and, Bool.and_false]), Bool.and_false, Bool.and_false])
        go_ret
        refine ⟨?_, S.out.below⟩
        rw [HB.out]
        rfl
       case neg =>
        have hqb : (k.f2 == q.f2) = false := beq_eq_false_iff_ne.mpr hq
        have hqd : decide (k.f2 = q.f2) = false := decide_eq_false hq
        have HQ := ae.mk hq
        clear hq
        have Xg := (S.out.cell _ (.tail _ (.tail _ (.tail _ mm9)))).1
        have mO := (S.out.cell _ AZ).1
        go_wp2
        go_quiet (fail)
        clear Xg mO
        replace S := ae.mk (S.out.call (eH (Below.refl _ _) nq))
        generalize wr.drewN nq = akM at S ⊢
        go_wp2
        have hw1 := HW2.out
        go_wp2
        go_roundg pb.length
        case measure => exact Nat.lt_of_lt_of_le (Nat.lt_succ_self _) agw.out
        case rel => exact ⟨pa ++ [q], pb, (by rw [hw1]), ⟨by rw [List.append_assoc]; exact HE2.out⟩, Nat.le_refl _, ⟨by unfold nX; rw [List.all_append, List.all_cons, decide_eq_true HQ.out]; rw [show (pa.all fun y => decide (k.f2 ≠ y.f2)) = true from HAP.out]; rfl⟩, ⟨S.out.dG.bJ.bJ.bJ.bJ.bJ.bJ.bJ⟩⟩
def aaY.f (_ : Nat) (a0 a1 a2 a3 a4 a5 : Int) (l : List ai) : Option Bool := if sz ⟨a0, ⟨a1, a2, a3, a4⟩, a5, l⟩ ≤ 1048576 then some (kV ⟨a0, ⟨a1, a2, a3, a4⟩, a5, l⟩) else none
def dB (c : ai) : Bool := kV c && kJ c
theorem m_ {c : ai} (h : kV c = true) : sz c ≤ 20000 := by
 unfold kV at h
 simp only [Bool.and_eq_true, decide_eq_true_eq] at h
 omega
theorem abT : ∀ (N : Nat), (∀ c : ai, sz c ≤ N → ∀ d, d ∈ fP c → sz d ≤ sz c) ∧ (∀ l : List ai, dN l ≤ N → ∀ d, d ∈ allL l → sz d ≤ dN l) := by
 intro N
 induction N with
 | zero =>
  refine ⟨fun c h => ?_, fun l h => ?_⟩
  ·rw [bZ] at h; omega
  ·cases l with
   | nil => intro d hd; rw [o5] at hd; cases hd
   | cons z zs => rw [bU, bZ] at h; omega
 | succ N ih =>
  have hC : ∀ c : ai, sz c ≤ N + 1 → ∀ d, d ∈ fP c → sz d ≤ sz c := by
   intro c h d hd
   have hs := bZ c
   rw [pJ] at hd
   rcases List.mem_cons.1 hd with rfl | hd
   ·exact Nat.le_refl _
   ·have := ih.2 c.f3 (by omega) d hd
    omega
  refine ⟨hC, fun l => ?_⟩
  induction l with
  | nil => intro _ d hd; rw [o5] at hd; cases hd
  | cons x xs ihl =>
   intro h d hd
   rw [bU] at h ⊢
   rw [lF] at hd
   rcases List.mem_append.1 hd with hd | hd
   ·have := hC x (by omega) d hd
    omega
   ·have := ihl (by omega) d hd
    omega
theorem Vk {c d : ai} (h : d ∈ fP c) : d.f3.length + 1 ≤ sz c := by
 have h1 := (abT (sz c)).1 c (Nat.le_refl _) d h
 have h2 := bZ d
 have h3 := jJ d.f3
 omega
section
variable {W : World} {b : Nat} {P : Nat → Prop} {A : Option Addr} {cc : Nat}
theorem adO (c : ai) (h : mD c = false) (hl : c.f3.length ≤ 1000000) (hV : Kd.V k26 26 W b P (.slice A c.f3.length cc) c.f3) : Calls Try.prog 178 #[.agg #[.int .u8 c.f0, .int .i64 c.f1.f0, .int .i64 c.f1.f1, .int .i64 c.f1.f2, .int .i64 c.f1.f3, .int .i64 c.f2, .slice A c.f3.length cc]] W fun e w' => ∃ A n cc, e = .returned (.tuple #[.slice A n cc, .bool false]) ∧ Below W.heap.size W w' :=
 (Us c hl b P A cc W hV).mono (fun _ _ ⟨A, n, cc, h1, _, h3⟩ => ⟨A, n, cc, by rw [h1, h], h3⟩)
theorem aal (c : ai) (h : mD c = true) (hl : c.f3.length ≤ 1000000) (hV : Kd.V k26 26 W b P (.slice A c.f3.length cc) c.f3) : Calls Try.prog 178 #[.agg #[.int .u8 c.f0, .int .i64 c.f1.f0, .int .i64 c.f1.f1, .int .i64 c.f1.f2, .int .i64 c.f1.f3, .int .i64 c.f2, .slice A c.f3.length cc]] W fun e w' => ∃ A cc ls, e = .returned (.tuple #[.slice A ls.length cc, .bool true]) ∧ ls.length ≤ c.f3.length ∧ k23.R 23 w' W.heap.size (fun _ => True) (.slice A ls.length cc) ls ∧ Below W.heap.size W w' :=
 (Us c hl b P A cc W hV).mono (fun _ _ ⟨A, n, cc, h1, h2, h3⟩ => by
  obtain ⟨ls, rfl, h4, h5⟩ := h2 h
  exact ⟨A, cc, ls, by rw [h1, h], h4, h5, h3⟩)
theorem XQ {c : ai} {v : Bool} (h : kV c = v) (hz : sz c ≤ 1048576) (b : Nat) (P : Nat → Prop) (A : Option Addr) (cc : Nat) (W : World) (hV : Kd.V k26 26 W b P (.slice A c.f3.length cc) c.f3) : Calls Try.prog 38 #[.agg #[.int .u8 c.f0, .int .i64 c.f1.f0, .int .i64 c.f1.f1, .int .i64 c.f1.f2, .int .i64 c.f1.f3, .int .i64 c.f2, .slice A c.f3.length cc]] W fun e w' => e = .returned (.bool v) ∧ Below W.heap.size W w' := by
 have h1 := Kd.kR hV
 have h2 := afj c hz A cc W h1.2.2 h1.2.1
 rwa [h] at h2
end
abbrev J6 (w : World) (c : ai) (e : Ending) (w' : World) : Prop := ∃ A n cc n1 n2, e = .returned (.tuple #[.slice A n cc, .int .i64 n1, .int .i64 n2]) ∧ (n1 == 0) = dB c ∧ Below w.heap.size w w'
theorem Vy (c : ai) (hz : sz c ≤ 1048576) (b : Nat) (P : Nat → Prop) (A : Option Addr) (cc : Nat) (w : World) (hv : Kd.V k26 26 w b P (.slice A c.f3.length cc) c.f3) :
  Calls Try.prog 146 #[.agg #[.int .u8 c.f0, .int .i64 c.f1.f0, .int .i64 c.f1.f1, .int .i64 c.f1.f2, .int .i64 c.f1.f3, .int .i64 c.f2, .slice A c.f3.length cc]] w (J6 w c) := by
 have S := ae.mk (St.start (ts := [(.slice A c.f3.length cc, c.f3)]) (b0 := w.heap.size) (w := w) (P := P) (fun t ht => by rw [List.mem_singleton.1 ht]; exact gQ hv))
 unfold J6
 cases hm : kV c with
 | false =>
  have xg := ae.mk (fun b P A cc W hV => XQ hm hz b P A cc W hV)
  rw [show dB c = false by unfold dB; rw [hm]; rfl]
  clear hm hv hz
  obtain ⟨ck, ⟨cx, cy, cw, ch⟩, aT, l⟩ := c
  simp only [] at S xg ⊢
  go_enter Try.func146, Try.ntmps146
  go_wp2_with (first
   | (refine boxS 1 _ 26 S ?_; clear S; intro b1 dQ S)
   | (refine gX 11 rfl ?_; refine lT k23 23 rfl 11 S ?_; clear S; intro Ae ce oe eU S HKe; obtain ⟨fV, jZ, ku, kz, kC, lZ, iL⟩ := St.fA S bz)
   | (refine bT (some 13) Try.func38 S (xg.out _ _ _ _ _ (S.out.tree _ (.head _))) ?_; clear S; intro gV S; clear fV jZ ku kz kC lZ iL)
   | fail)
  go_ret3
  exact ⟨_, _, _, _, _, rfl, rfl, S.out.below⟩
 | true =>
  have xg := ae.mk (fun b P A cc W hV => XQ hm hz b P A cc W hV)
  have HAL := ae.mk (fun b P A cc W hV => @Lc W b P A cc c hz hV)
  have hs := m_ hm
  have hk : ∀ k, k ∈ fP c → k.f3.length ≤ 20000 := fun k hk => by have := Vk hk; omega
  have hlen : (fP c).length ≤ 20000 := hs
  have ht : dB c = (fP c).all mD := by unfold dB; rw [hm, Bool.true_and]; rfl
  rw [ht]
  generalize fP c = L at HAL hk hlen ⊢
  have jw := ae.mk hlen
  have HKK := ae.mk hk
  clear hm hv hz ht hs hk hlen
  obtain ⟨ck, ⟨cx, cy, cw, ch⟩, aT, l⟩ := c
  simp only [] at S xg HAL ⊢
  go_enter Try.func146, Try.ntmps146
  go_wp2_with (first
   | (refine boxS 1 _ 26 S ?_; clear S; intro b1 dQ S)
   | (refine gX 11 rfl ?_; refine lT k23 23 rfl 11 S ?_; clear S; intro Ae ce oe eU S HKe; obtain ⟨fV, jZ, ku, kz, kC, lZ, iL⟩ := St.fA S bz)
   | (refine bT (some 13) Try.func38 S (xg.out _ _ _ _ _ (S.out.tree _ (.head _))) ?_; clear S; intro gV S; clear fV jZ ku kz kC lZ iL; obtain ⟨fV, jZ, ku, kz, kC, lZ, iL⟩ := St.fA S bz)
   | (refine BG (some 17) Try.func79 S (HAL.out _ _ _ _ _ (S.out.tree _ (.head _))) ?_; clear S; intro Aa ca ji S; clear fV jZ ku kz kC lZ iL)
   | (refine gX 18 rfl ?_; refine lT k23 23 rfl 18 S ?_; clear S; intro Ap cp op mg S iI)
   | fail)
  go_loopg [7, 21] L.length (fun gg v7 v21 wr => ∃ (pre rest : List ai) (out : List dw) (Ap : Option Addr) (cp : Nat) (op : Obj), v7 = .slice Ap out.length cp ∧ v21 = .int .i64 (pre.length : Int) ∧ ae (pre ++ rest = L) ∧ ae (pre.all mD = true) ∧ ae (out.length ≤ 20000 * pre.length) ∧ rest.length ≤ gg ∧ ae (KR k23 23 w.heap.size (.slice Ap out.length cp) out op) ∧ ae (St w P [((Value.slice Ap out.length cp).ownBlock, op), ((Value.slice Ae 0 ce).ownBlock, oe), (some b1, .cells #[.int .u8 ck, .int .i64 cx, .int .i64 cy, .int .i64 cw, .int .i64 ch, .int .i64 aT, .slice A l.length cc] 26 (0, 0))] [] [(.slice Aa L.length ca, L), (.slice A l.length cc, l)] [] wr))
  case atStart => exact ⟨[], L, [], _, _, _, rfl, rfl, ⟨rfl⟩, ⟨rfl⟩, ⟨Nat.zero_le _⟩, Nat.le_refl _, iI, S⟩
  case round =>
   clear S iI
   obtain ⟨pre, rest, out, Ap, cp, op, rfl, rfl, HE, HA, HOL, hgg, iI, S⟩ := hrel
   cases rest with
   | nil =>
    have hE := HE.out
    rw [List.append_nil] at hE
    have hE2 := hE.symm
    subst hE2
    clear hE HE hgg
    have hlt : ¬ ((L.length : Int) < (L.length : Int)) := by omega
    go_wp2
    go_ret3
    exact ⟨_, _, _, _, ⟨_, rfl⟩, HA.out.symm, S.out.below⟩
   | cons k rest =>
    have U9 := ae.mk (HKK.out k (by rw [← HE.out]; simp))
    have Ep := ae.mk (show k.f3.length ≤ 1000000 by have := U9.out; omega)
    have agx := ae.mk (show pre.length ≤ 20000 by have := jw.out; rw [← HE.out, List.length_append] at this; omega)
    have hk : k ∈ L := by rw [← HE.out]; simp
    have hlt : (pre.length : Int) < (L.length : Int) := by rw [← HE.out, List.length_append, List.length_cons]; omega
    have hw1 : wrap64 ((pre.length : Int) + 1) = ((pre ++ [k]).length : Int) := by have := jw.out; rw [List.length_append, List.length_singleton]; unfold wrap64; omega
    have HW1 := ae.mk hw1
    have iF := ae.mk hgg
    have HK := ae.mk hk
    have Et := ae.mk (show pre.length ≤ 1048576 by have := jw.out; omega)
    obtain ⟨kG, ua, uc, ek, S1⟩ := S.out.elem (.head _) (pre.length : Int) (Int.natCast_nonneg _) hlt
    subst ek
    have hrd : az L (pre.length : Int) = k := by rw [← HE.out]; exact lU pre k rest
    rw [hrd] at S1
    simp only [Int.toNat_natCast] at S1
    replace S := ae.mk S1
    clear S1 hrd hk hgg hw1
    cases ho : mD k with
    | false =>
     have HO := ae.mk ho
     clear ho
     obtain ⟨iJ, jD, kK, jX, jY, mO, mP⟩ := St.Jh S
     go_wp2_with (first
      | (refine iw (some 29) Try.func178 (adO k HO.out Ep.out (S.out.tree _ (.head _))) ?_; rintro e dQ ⟨Ax, nx, XE, rfl, hb⟩; refine ⟨_, rfl, ?_⟩; replace S := ae.mk (S.out.call hb); clear hb; clear iJ jD kK jX jY mO mP)
      | fail)
     go_ret3
     exact ⟨_, _, _, _, _, rfl, (by rw [← HE.out, List.all_append, List.all_cons, HO.out, Bool.false_and, Bool.and_false]; rfl), S.out.below⟩
    | true =>
     have HO := ae.mk ho
     clear ho
     obtain ⟨iJ, jD, kK, jX, jY, mO, mP⟩ := St.Jh S
     go_wp2_with (first
      | (refine iw (some 29) Try.func178 (aal k HO.out Ep.out (S.out.tree _ (.head _))) ?_; rintro e dQ ⟨Ax, XE, ls, rfl, h0, h1, hb⟩; refine ⟨_, rfl, ?_⟩; obtain ⟨ox, S1, hI⟩ := S.out.FM (d := k23) (e := 23) rfl h1 hb; replace S := ae.mk S1; have HKx := ae.mk hI; have Oi := ae.mk h0; clear S1 hI h0 h1 hb; clear iJ jD kK jX jY mO mP)
      | (refine gX 38 rfl ?_; at_builtin; replace S := ae.mk S.out.sW; refine Le k23 23 rfl 36 37 42 _ 32 Try.underlying42 info23 rfl (by decide) (by decide) (by decide) S iI ls (Va HKx.out S.out bz).1 (fun _ _ _ _ _ h => h) (by have := HOL.out; have := Oi.out; have := U9.out; have := agx.out; omega) ?_; clear S iI; intro J5 cp2 Nq eU S iI)
      | fail)
     have hw1 := HW1.out
     go_wp2
     go_roundg rest.length
     case measure => exact Nat.lt_of_lt_of_le (Nat.lt_succ_self _) iF.out
     case rel => exact ⟨pre ++ [k], rest, out ++ ls, _, _, _, (by rw [List.length_append]), (by rw [hw1]), ⟨by rw [List.append_assoc]; exact HE.out⟩, ⟨by rw [List.all_append, HA.out, List.all_cons, HO.out]; rfl⟩, ⟨by have := HOL.out; have := Oi.out; have := U9.out; rw [List.length_append, List.length_append, List.length_singleton]; omega⟩, Nat.le_refl _, iI, ⟨S.out.sW.dA.uP.uP.uP.dG.bJ.bJ.bJ.bJ.bJ.bJ.bJ⟩⟩
theorem wO (c : ai) (hz : sz c ≤ 1048576) (b : Nat) (P : Nat → Prop) (A : Option Addr) (cc : Nat) (w : World) (hv : Kd.V k26 26 w b P (.slice A c.f3.length cc) c.f3) :
  Calls Try.prog 84 #[.agg #[.int .u8 c.f0, .int .i64 c.f1.f0, .int .i64 c.f1.f1, .int .i64 c.f1.f2, .int .i64 c.f1.f3, .int .i64 c.f2, .slice A c.f3.length cc]] w fun e w' => e = .returned (.bool (dB c)) ∧ Below w.heap.size w w' := by
 have S := ae.mk (St.start (ts := [(.slice A c.f3.length cc, c.f3)]) (b0 := w.heap.size) (w := w) (P := P) (fun t ht => by rw [List.mem_singleton.1 ht]; exact gQ hv))
 have Xk := ae.mk (fun b P A cc W hV => Vy c hz b P A cc W hV)
 unfold J6 at Xk
 generalize dB c = v at Xk ⊢
 clear hv hz
 obtain ⟨ck, ⟨cx, cy, cw, ch⟩, aT, l⟩ := c
 simp only [] at S Xk ⊢
 go_enter Try.func84, Try.ntmps84
 go_wp2_with (first
  | (refine boxS 1 _ 26 S ?_; clear S; intro b1 dQ S; obtain ⟨fV, jZ, ku, kz, kC, lZ, iL⟩ := St.fA S (.head _))
  | (refine iw (some 8) Try.func146 (Xk.out _ _ _ _ _ (S.out.tree _ (.head _))) ?_; rintro e eU ⟨Ax, nx, XE, n1, n2, rfl, hn, hb⟩; refine ⟨_, rfl, ?_⟩; have hn2 : decide (n1 = 0) = v := (by rw [← hn]; by_cases h : n1 = 0 <;> simp [h]); replace S := ae.mk (S.out.call hb); clear hb; clear fV jZ ku kz kC lZ iL)
  | fail)
 go_ret
 exact ⟨rfl, S.out.below⟩
def X0.f (_ : Nat) (a0 a1 a2 a3 a4 a5 : Int) (l : List ai) : Option Bool := if sz ⟨a0, ⟨a1, a2, a3, a4⟩, a5, l⟩ ≤ 1048576 then some (dB ⟨a0, ⟨a1, a2, a3, a4⟩, a5, l⟩) else none
end Go.Proofs.Ytfdmfgaiblfbhaa.P
namespace Go.Proofs.Ytfdmfgaiblfbhaa.P
open Go.RowKit Go.Proofs.ag.aQ Go.Proofs.ag.bu Go.Proofs.ag.bP
attribute [local go_sem] jo jC jU kH jS jT kU kW
def qZ.f (ay : Int) (aH : Int) (aA : Int) (aG : Int) (aY : Int) (a_ : Int) (aJ : List (ai)) (a1 : Int) : Option (Bool) := if ay = 2 then (if a1 = 1 then (some true) else (if ay = 3 then (some (a1 == 2)) else (some false))) else (if ay = 3 then (some (a1 == 2)) else (some false))
theorem qZ.calls (ay : Int) (aH : Int) (aA : Int) (aG : Int) (aY : Int) (a_ : Int) (dE : Option Addr) (dF : Nat) (aJ : List (ai)) (a1 : Int) (r : Bool) (w : World) (qW : Kd.C k26 w dE aJ.length aJ) (sG : aJ.length ≤ dF) (h : qZ.f ay aH aA aG aY a_ aJ a1 = some r) :
  Calls Try.prog 88 #[.agg #[.int .u8 ay, .int .i64 aH, .int .i64 aA, .int .i64 aG, .int .i64 aY, .int .i64 a_, .slice dE aJ.length dF], .int .u8 a1] w fun e w' => e = .returned (.bool r) ∧ Below w.heap.size w w' := by
 have Il := Try.underlying26
 clear qW sG
 have HB := ae.mk (Below.refl w.heap.size w)
 have H : (if ay = 2 then (if a1 = 1 then (some true) else (if ay = 3 then (some (a1 == 2)) else (some false))) else (if ay = 3 then (some (a1 == 2)) else (some false))) = some r := h
 clear h
 by_cases c3 : ay = 2
 ·rw [if_pos c3] at H
  have tC : (ay == 2) = true := beq_iff_eq.mpr c3
  have yR : (ay != 2) = false := bne_eq_false_iff_eq.mpr c3
  clear c3
  by_cases c4 : a1 = 1
  ·rw [if_pos c4] at H
   have CQ : (a1 == 1) = true := beq_iff_eq.mpr c4
   have Lt : (a1 != 1) = false := bne_eq_false_iff_eq.mpr c4
   clear c4
   obtain rfl := Option.some.inj H
   go_enter Try.func88, Try.ntmps88
   go_wp2_with (((with_reducible refine aC (N := 2) rfl ?_); refine aK ?hg (N := 2) ?hd (cs := #[.int .u8 ay, .int .i64 aH, .int .i64 aA, .int .i64 aG, .int .i64 aY, .int .i64 a_, .slice dE aJ.length dF]) (t := 26) ?hr ?_; (case hd => rfl); (case hg => rfl); (case hr => (go_simp; done)); intro gI hg w5 hbox hb; have dh := ae.mk (hbox); replace HB := ae.mk (ak (by repeat ((with_reducible exact HB.out))) hb); clear hb hbox hg; have CX : w5.cell? ⟨gI, 0, none⟩ = some (.int .u8 ay) := (af dh.out 0).trans rfl; have CY : w5.cell? ⟨gI, 1, none⟩ = some (.int .i64 aH) := (af dh.out 1).trans rfl; have CZ : w5.cell? ⟨gI, 2, none⟩ = some (.int .i64 aA) := (af dh.out 2).trans rfl; have C9 : w5.cell? ⟨gI, 3, none⟩ = some (.int .i64 aG) := (af dh.out 3).trans rfl; have C_ : w5.cell? ⟨gI, 4, none⟩ = some (.int .i64 aY) := (af dh.out 4).trans rfl; have Dc : w5.cell? ⟨gI, 5, none⟩ = some (.int .i64 a_) := (af dh.out 5).trans rfl; have Df : w5.cell? ⟨gI, 6, none⟩ = some (.slice dE aJ.length dF) := (af dh.out 6).trans rfl; have Dh := ah dh.out 0; have Di := ah dh.out 1; have Dj := ah dh.out 2; have Dk := ah dh.out 3; have Dl := ah dh.out 4; have Dn := ah dh.out 5; have Dp := ah dh.out 6))
   go_ret
   exact ⟨by rfl, by repeat ((with_reducible exact HB.out))⟩
  ·rw [if_neg c4] at H
   have CQ : (a1 == 1) = false := beq_eq_false_iff_ne.mpr c4
   have Lt : (a1 != 1) = true := bne_iff_ne.mpr c4
   by_cases c7 : ay = 3
   ·rw [if_pos c7] at H
    have wH : (ay == 3) = true := beq_iff_eq.mpr c7
    have Vu : (ay != 3) = false := bne_eq_false_iff_eq.mpr c7
    clear c7
    obtain rfl := Option.some.inj H
    go_enter Try.func88, Try.ntmps88
    go_wp2_with (((with_reducible refine aC (N := 2) rfl ?_); refine aK ?hg (N := 2) ?hd (cs := #[.int .u8 ay, .int .i64 aH, .int .i64 aA, .int .i64 aG, .int .i64 aY, .int .i64 a_, .slice dE aJ.length dF]) (t := 26) ?hr ?_; (case hd => rfl); (case hg => rfl); (case hr => (go_simp; done)); intro gI hg w8 hbox hb; have dh := ae.mk (hbox); replace HB := ae.mk (ak (by repeat ((with_reducible exact HB.out))) hb); clear hb hbox hg; have Tq : w8.cell? ⟨gI, 0, none⟩ = some (.int .u8 ay) := (af dh.out 0).trans rfl; have Tt : w8.cell? ⟨gI, 1, none⟩ = some (.int .i64 aH) := (af dh.out 1).trans rfl; have Tu : w8.cell? ⟨gI, 2, none⟩ = some (.int .i64 aA) := (af dh.out 2).trans rfl; have Tv : w8.cell? ⟨gI, 3, none⟩ = some (.int .i64 aG) := (af dh.out 3).trans rfl; have Tz : w8.cell? ⟨gI, 4, none⟩ = some (.int .i64 aY) := (af dh.out 4).trans rfl; have TA : w8.cell? ⟨gI, 5, none⟩ = some (.int .i64 a_) := (af dh.out 5).trans rfl; have TB : w8.cell? ⟨gI, 6, none⟩ = some (.slice dE aJ.length dF) := (af dh.out 6).trans rfl; have TP := ah dh.out 0; have TQ := ah dh.out 1; have TR := ah dh.out 2; have TS := ah dh.out 3; have TT := ah dh.out 4; have TU := ah dh.out 5; have TV := ah dh.out 6))
    go_ret
    exact ⟨by rfl, by repeat ((with_reducible exact HB.out))⟩
   ·rw [if_neg c7] at H
    have wH : (ay == 3) = false := beq_eq_false_iff_ne.mpr c7
    have Vu : (ay != 3) = true := bne_iff_ne.mpr c7
    obtain rfl := Option.some.inj H
    go_enter Try.func88, Try.ntmps88
    go_wp2_with (((with_reducible refine aC (N := 2) rfl ?_); refine aK ?hg (N := 2) ?hd (cs := #[.int .u8 ay, .int .i64 aH, .int .i64 aA, .int .i64 aG, .int .i64 aY, .int .i64 a_, .slice dE aJ.length dF]) (t := 26) ?hr ?_; (case hd => rfl); (case hg => rfl); (case hr => (go_simp; done)); intro gI hg w10 hbox hb; have dh := ae.mk (hbox); replace HB := ae.mk (ak (by repeat ((with_reducible exact HB.out))) hb); clear hb hbox hg; have YD : w10.cell? ⟨gI, 0, none⟩ = some (.int .u8 ay) := (af dh.out 0).trans rfl; have YE : w10.cell? ⟨gI, 1, none⟩ = some (.int .i64 aH) := (af dh.out 1).trans rfl; have YF : w10.cell? ⟨gI, 2, none⟩ = some (.int .i64 aA) := (af dh.out 2).trans rfl; have YG : w10.cell? ⟨gI, 3, none⟩ = some (.int .i64 aG) := (af dh.out 3).trans rfl; have YH : w10.cell? ⟨gI, 4, none⟩ = some (.int .i64 aY) := (af dh.out 4).trans rfl; have YI : w10.cell? ⟨gI, 5, none⟩ = some (.int .i64 a_) := (af dh.out 5).trans rfl; have YJ : w10.cell? ⟨gI, 6, none⟩ = some (.slice dE aJ.length dF) := (af dh.out 6).trans rfl; have Ze := ah dh.out 0; have Zf := ah dh.out 1; have Zg := ah dh.out 2; have Zh := ah dh.out 3; have Zi := ah dh.out 4; have Zj := ah dh.out 5; have Zk := ah dh.out 6))
    go_ret
    exact ⟨by rfl, by repeat ((with_reducible exact HB.out))⟩
 ·rw [if_neg c3] at H
  have tC : (ay == 2) = false := beq_eq_false_iff_ne.mpr c3
  have yR : (ay != 2) = true := bne_iff_ne.mpr c3
  by_cases c12 : ay = 3
  ·rw [if_pos c12] at H
   have Bq : (ay == 3) = true := beq_iff_eq.mpr c12
   have Gh : (ay != 3) = false := bne_eq_false_iff_eq.mpr c12
   clear c12
   obtain rfl := Option.some.inj H
   go_enter Try.func88, Try.ntmps88
   go_wp2_with (((with_reducible refine aC (N := 2) rfl ?_); refine aK ?hg (N := 2) ?hd (cs := #[.int .u8 ay, .int .i64 aH, .int .i64 aA, .int .i64 aG, .int .i64 aY, .int .i64 a_, .slice dE aJ.length dF]) (t := 26) ?hr ?_; (case hd => rfl); (case hg => rfl); (case hr => (go_simp; done)); intro gI hg sZ hbox hb; have dh := ae.mk (hbox); replace HB := ae.mk (ak (by repeat ((with_reducible exact HB.out))) hb); clear hb hbox hg; have H9 : sZ.cell? ⟨gI, 0, none⟩ = some (.int .u8 ay) := (af dh.out 0).trans rfl; have H_ : sZ.cell? ⟨gI, 1, none⟩ = some (.int .i64 aH) := (af dh.out 1).trans rfl; have Ia : sZ.cell? ⟨gI, 2, none⟩ = some (.int .i64 aA) := (af dh.out 2).trans rfl; have Ib : sZ.cell? ⟨gI, 3, none⟩ = some (.int .i64 aG) := (af dh.out 3).trans rfl; have YS : sZ.cell? ⟨gI, 4, none⟩ = some (.int .i64 aY) := (af dh.out 4).trans rfl; have YT : sZ.cell? ⟨gI, 5, none⟩ = some (.int .i64 a_) := (af dh.out 5).trans rfl; have YU : sZ.cell? ⟨gI, 6, none⟩ = some (.slice dE aJ.length dF) := (af dh.out 6).trans rfl; have Ic := ah dh.out 0; have Ie := ah dh.out 1; have Ig := ah dh.out 2; have Ih := ah dh.out 3; have Zu := ah dh.out 4; have Zv := ah dh.out 5; have Zw := ah dh.out 6))
   go_ret
   exact ⟨by rfl, by repeat ((with_reducible exact HB.out))⟩
  ·rw [if_neg c12] at H
   have Bq : (ay == 3) = false := beq_eq_false_iff_ne.mpr c12
   have Gh : (ay != 3) = true := bne_iff_ne.mpr c12
   obtain rfl := Option.some.inj H
   go_enter Try.func88, Try.ntmps88
   go_wp2_with (((with_reducible refine aC (N := 2) rfl ?_); refine aK ?hg (N := 2) ?hd (cs := #[.int .u8 ay, .int .i64 aH, .int .i64 aA, .int .i64 aG, .int .i64 aY, .int .i64 a_, .slice dE aJ.length dF]) (t := 26) ?hr ?_; (case hd => rfl); (case hg => rfl); (case hr => (go_simp; done)); intro gI hg tq hbox hb; have dh := ae.mk (hbox); replace HB := ae.mk (ak (by repeat ((with_reducible exact HB.out))) hb); clear hb hbox hg; have OM : tq.cell? ⟨gI, 0, none⟩ = some (.int .u8 ay) := (af dh.out 0).trans rfl; have OO : tq.cell? ⟨gI, 1, none⟩ = some (.int .i64 aH) := (af dh.out 1).trans rfl; have OQ : tq.cell? ⟨gI, 2, none⟩ = some (.int .i64 aA) := (af dh.out 2).trans rfl; have OT : tq.cell? ⟨gI, 3, none⟩ = some (.int .i64 aG) := (af dh.out 3).trans rfl; have YV : tq.cell? ⟨gI, 4, none⟩ = some (.int .i64 aY) := (af dh.out 4).trans rfl; have YW : tq.cell? ⟨gI, 5, none⟩ = some (.int .i64 a_) := (af dh.out 5).trans rfl; have YX : tq.cell? ⟨gI, 6, none⟩ = some (.slice dE aJ.length dF) := (af dh.out 6).trans rfl; have OY := ah dh.out 0; have OZ := ah dh.out 1; have O0 := ah dh.out 2; have O1 := ah dh.out 3; have Zx := ah dh.out 4; have Zy := ah dh.out 5; have Zz := ah dh.out 6))
   go_ret
   exact ⟨by rfl, by repeat ((with_reducible exact HB.out))⟩
def qN.f (ay : Int) (aH : Int) (aA : Int) (aG : Int) (aY : Int) (a_ : Int) (aJ : List (ai)) (a1 : Int) : Option (Bool) := if ay = 2 then (if a1 = 1 then (some true) else (if ay = 3 then (some (a1 == 2)) else (some false))) else (if ay = 3 then (some (a1 == 2)) else (some false))
theorem qN.calls (ay : Int) (aH : Int) (aA : Int) (aG : Int) (aY : Int) (a_ : Int) (dE : Option Addr) (dF : Nat) (aJ : List (ai)) (a1 : Int) (r : Bool) (w : World) (qW : Kd.C k26 w dE aJ.length aJ) (sG : aJ.length ≤ dF) (h : qN.f ay aH aA aG aY a_ aJ a1 = some r) :
  Calls Try.prog 99 #[.agg #[.int .u8 ay, .int .i64 aH, .int .i64 aA, .int .i64 aG, .int .i64 aY, .int .i64 a_, .slice dE aJ.length dF], .int .u8 a1] w fun e w' => e = .returned (.bool r) ∧ Below w.heap.size w w' := by
 have Il := Try.underlying26
 clear qW sG
 have HB := ae.mk (Below.refl w.heap.size w)
 have H : (if ay = 2 then (if a1 = 1 then (some true) else (if ay = 3 then (some (a1 == 2)) else (some false))) else (if ay = 3 then (some (a1 == 2)) else (some false))) = some r := h
 clear h
 by_cases c3 : ay = 2
 ·rw [if_pos c3] at H
  have tC : (ay == 2) = true := beq_iff_eq.mpr c3
  have yR : (ay != 2) = false := bne_eq_false_iff_eq.mpr c3
  clear c3
  by_cases c4 : a1 = 1
  ·rw [if_pos c4] at H
   have CQ : (a1 == 1) = true := beq_iff_eq.mpr c4
   have Lt : (a1 != 1) = false := bne_eq_false_iff_eq.mpr c4
   clear c4
   obtain rfl := Option.some.inj H
   go_enter Try.func99, Try.ntmps99
   go_wp2_with (((with_reducible refine aC (N := 2) rfl ?_); refine aK ?hg (N := 2) ?hd (cs := #[.int .u8 ay, .int .i64 aH, .int .i64 aA, .int .i64 aG, .int .i64 aY, .int .i64 a_, .slice dE aJ.length dF]) (t := 26) ?hr ?_; (case hd => rfl); (case hg => rfl); (case hr => (go_simp; done)); intro gG hg w5 hbox hb; have df := ae.mk (hbox); replace HB := ae.mk (ak (by repeat ((with_reducible exact HB.out))) hb); clear hb hbox hg; have CX : w5.cell? ⟨gG, 0, none⟩ = some (.int .u8 ay) := (af df.out 0).trans rfl; have CY : w5.cell? ⟨gG, 1, none⟩ = some (.int .i64 aH) := (af df.out 1).trans rfl; have CZ : w5.cell? ⟨gG, 2, none⟩ = some (.int .i64 aA) := (af df.out 2).trans rfl; have C9 : w5.cell? ⟨gG, 3, none⟩ = some (.int .i64 aG) := (af df.out 3).trans rfl; have C_ : w5.cell? ⟨gG, 4, none⟩ = some (.int .i64 aY) := (af df.out 4).trans rfl; have Dc : w5.cell? ⟨gG, 5, none⟩ = some (.int .i64 a_) := (af df.out 5).trans rfl; have Df : w5.cell? ⟨gG, 6, none⟩ = some (.slice dE aJ.length dF) := (af df.out 6).trans rfl; have Dh := ah df.out 0; have Di := ah df.out 1; have Dj := ah df.out 2; have Dk := ah df.out 3; have Dl := ah df.out 4; have Dn := ah df.out 5; have Dp := ah df.out 6))
   go_ret
   exact ⟨by rfl, by repeat ((with_reducible exact HB.out))⟩
  ·rw [if_neg c4] at H
   have CQ : (a1 == 1) = false := beq_eq_false_iff_ne.mpr c4
   have Lt : (a1 != 1) = true := bne_iff_ne.mpr c4
   by_cases c7 : ay = 3
   ·rw [if_pos c7] at H
    have wH : (ay == 3) = true := beq_iff_eq.mpr c7
    have Vu : (ay != 3) = false := bne_eq_false_iff_eq.mpr c7
    clear c7
    obtain rfl := Option.some.inj H
    go_enter Try.func99, Try.ntmps99
    go_wp2_with (((with_reducible refine aC (N := 2) rfl ?_); refine aK ?hg (N := 2) ?hd (cs := #[.int .u8 ay, .int .i64 aH, .int .i64 aA, .int .i64 aG, .int .i64 aY, .int .i64 a_, .slice dE aJ.length dF]) (t := 26) ?hr ?_; (case hd => rfl); (case hg => rfl); (case hr => (go_simp; done)); intro gG hg w8 hbox hb; have df := ae.mk (hbox); replace HB := ae.mk (ak (by repeat ((with_reducible exact HB.out))) hb); clear hb hbox hg; have Tq : w8.cell? ⟨gG, 0, none⟩ = some (.int .u8 ay) := (af df.out 0).trans rfl; have Tt : w8.cell? ⟨gG, 1, none⟩ = some (.int .i64 aH) := (af df.out 1).trans rfl; have Tu : w8.cell? ⟨gG, 2, none⟩ = some (.int .i64 aA) := (af df.out 2).trans rfl; have Tv : w8.cell? ⟨gG, 3, none⟩ = some (.int .i64 aG) := (af df.out 3).trans rfl; have Tz : w8.cell? ⟨gG, 4, none⟩ = some (.int .i64 aY) := (af df.out 4).trans rfl; have TA : w8.cell? ⟨gG, 5, none⟩ = some (.int .i64 a_) := (af df.out 5).trans rfl; have TB : w8.cell? ⟨gG, 6, none⟩ = some (.slice dE aJ.length dF) := (af df.out 6).trans rfl; have TP := ah df.out 0; have TQ := ah df.out 1; have TR := ah df.out 2; have TS := ah df.out 3; have TT := ah df.out 4; have TU := ah df.out 5; have TV := ah df.out 6))
    go_ret
    exact ⟨by rfl, by repeat ((with_reducible exact HB.out))⟩
   ·rw [if_neg c7] at H
    have wH : (ay == 3) = false := beq_eq_false_iff_ne.mpr c7
    have Vu : (ay != 3) = true := bne_iff_ne.mpr c7
    obtain rfl := Option.some.inj H
    go_enter Try.func99, Try.ntmps99
    go_wp2_with (((with_reducible refine aC (N := 2) rfl ?_); refine aK ?hg (N := 2) ?hd (cs := #[.int .u8 ay, .int .i64 aH, .int .i64 aA, .int .i64 aG, .int .i64 aY, .int .i64 a_, .slice dE aJ.length dF]) (t := 26) ?hr ?_; (case hd => rfl); (case hg => rfl); (case hr => (go_simp; done)); intro gG hg w10 hbox hb; have df := ae.mk (hbox); replace HB := ae.mk (ak (by repeat ((with_reducible exact HB.out))) hb); clear hb hbox hg; have YD : w10.cell? ⟨gG, 0, none⟩ = some (.int .u8 ay) := (af df.out 0).trans rfl; have YE : w10.cell? ⟨gG, 1, none⟩ = some (.int .i64 aH) := (af df.out 1).trans rfl; have YF : w10.cell? ⟨gG, 2, none⟩ = some (.int .i64 aA) := (af df.out 2).trans rfl; have YG : w10.cell? ⟨gG, 3, none⟩ = some (.int .i64 aG) := (af df.out 3).trans rfl; have YH : w10.cell? ⟨gG, 4, none⟩ = some (.int .i64 aY) := (af df.out 4).trans rfl; have YI : w10.cell? ⟨gG, 5, none⟩ = some (.int .i64 a_) := (af df.out 5).trans rfl; have YJ : w10.cell? ⟨gG, 6, none⟩ = some (.slice dE aJ.length dF) := (af df.out 6).trans rfl; have Ze := ah df.out 0; have Zf := ah df.out 1; have Zg := ah df.out 2; have Zh := ah df.out 3; have Zi := ah df.out 4; have Zj := ah df.out 5; have Zk := ah df.out 6))
    go_ret
    exact ⟨by rfl, by repeat ((with_reducible exact HB.out))⟩
 ·rw [if_neg c3] at H
  have tC : (ay == 2) = false := beq_eq_false_iff_ne.mpr c3
  have yR : (ay != 2) = true := bne_iff_ne.mpr c3
  by_cases c12 : ay = 3
  ·rw [if_pos c12] at H
   have Bq : (ay == 3) = true := beq_iff_eq.mpr c12
   have Gh : (ay != 3) = false := bne_eq_false_iff_eq.mpr c12
   clear c12
   obtain rfl := Option.some.inj H
   go_enter Try.func99, Try.ntmps99
   go_wp2_with (((with_reducible refine aC (N := 2) rfl ?_); refine aK ?hg (N := 2) ?hd (cs := #[.int .u8 ay, .int .i64 aH, .int .i64 aA, .int .i64 aG, .int .i64 aY, .int .i64 a_, .slice dE aJ.length dF]) (t := 26) ?hr ?_; (case hd => rfl); (case hg => rfl); (case hr => (go_simp; done)); intro gG hg sZ hbox hb; have df := ae.mk (hbox); replace HB := ae.mk (ak (by repeat ((with_reducible exact HB.out))) hb); clear hb hbox hg; have H9 : sZ.cell? ⟨gG, 0, none⟩ = some (.int .u8 ay) := (af df.out 0).trans rfl; have H_ : sZ.cell? ⟨gG, 1, none⟩ = some (.int .i64 aH) := (af df.out 1).trans rfl; have Ia : sZ.cell? ⟨gG, 2, none⟩ = some (.int .i64 aA) := (af df.out 2).trans rfl; have Ib : sZ.cell? ⟨gG, 3, none⟩ = some (.int .i64 aG) := (af df.out 3).trans rfl; have YS : sZ.cell? ⟨gG, 4, none⟩ = some (.int .i64 aY) := (af df.out 4).trans rfl; have YT : sZ.cell? ⟨gG, 5, none⟩ = some (.int .i64 a_) := (af df.out 5).trans rfl; have YU : sZ.cell? ⟨gG, 6, none⟩ = some (.slice dE aJ.length dF) := (af df.out 6).trans rfl; have Ic := ah df.out 0; have Ie := ah df.out 1; have Ig := ah df.out 2; have Ih := ah df.out 3; have Zu := ah df.out 4; have Zv := ah df.out 5; have Zw := ah df.out 6))
   go_ret
   exact ⟨by rfl, by repeat ((with_reducible exact HB.out))⟩
  ·rw [if_neg c12] at H
   have Bq : (ay == 3) = false := beq_eq_false_iff_ne.mpr c12
   have Gh : (ay != 3) = true := bne_iff_ne.mpr c12
   obtain rfl := Option.some.inj H
   go_enter Try.func99, Try.ntmps99
   go_wp2_with (((with_reducible refine aC (N := 2) rfl ?_); refine aK ?hg (N := 2) ?hd (cs := #[.int .u8 ay, .int .i64 aH, .int .i64 aA, .int .i64 aG, .int .i64 aY, .int .i64 a_, .slice dE aJ.length dF]) (t := 26) ?hr ?_; (case hd => rfl); (case hg => rfl); (case hr => (go_simp; done)); intro gG hg tq hbox hb; have df := ae.mk (hbox); replace HB := ae.mk (ak (by repeat ((with_reducible exact HB.out))) hb); clear hb hbox hg; have OM : tq.cell? ⟨gG, 0, none⟩ = some (.int .u8 ay) := (af df.out 0).trans rfl; have OO : tq.cell? ⟨gG, 1, none⟩ = some (.int .i64 aH) := (af df.out 1).trans rfl; have OQ : tq.cell? ⟨gG, 2, none⟩ = some (.int .i64 aA) := (af df.out 2).trans rfl; have OT : tq.cell? ⟨gG, 3, none⟩ = some (.int .i64 aG) := (af df.out 3).trans rfl; have YV : tq.cell? ⟨gG, 4, none⟩ = some (.int .i64 aY) := (af df.out 4).trans rfl; have YW : tq.cell? ⟨gG, 5, none⟩ = some (.int .i64 a_) := (af df.out 5).trans rfl; have YX : tq.cell? ⟨gG, 6, none⟩ = some (.slice dE aJ.length dF) := (af df.out 6).trans rfl; have OY := ah df.out 0; have OZ := ah df.out 1; have O0 := ah df.out 2; have O1 := ah df.out 3; have Zx := ah df.out 4; have Zy := ah df.out 5; have Zz := ah df.out 6))
   go_ret
   exact ⟨by rfl, by repeat ((with_reducible exact HB.out))⟩
end Go.Proofs.Ytfdmfgaiblfbhaa.P
namespace Go.Proofs.Ytfdmfgaiblfbhaa.P
open Go.RowKit Go.Proofs.ag.aQ Go.Proofs.ag.bu Go.Proofs.ag.bP
def fM (ax k : Int) : Bool := (k == 2 && ax == 1) || (k == 3 && ax == 2)
theorem Bo (c : ai) (ax : Int) : qN.f c.f0 c.f1.f0 c.f1.f1 c.f1.f2 c.f1.f3 c.f2 c.f3 ax = some (fM ax c.f0) := by
 unfold qN.f fM
 by_cases h2 : c.f0 = 2
 ·by_cases h1 : ax = 1
  ·rw [if_pos h2, if_pos h1]; simp [h2, h1]
  ·rw [if_pos h2, if_neg h1, if_neg (by omega)]; simp [h2, h1]
 ·rw [if_neg h2]
  by_cases h3 : c.f0 = 3
  ·rw [if_pos h3]; simp [h3]
  ·rw [if_neg h3]; simp [h2, h3]
theorem NW (c : ai) (ax : Int) : qZ.f c.f0 c.f1.f0 c.f1.f1 c.f1.f2 c.f1.f3 c.f2 c.f3 ax = some (fM ax c.f0) := Bo c ax
mutual
def dH (ax : Int) : ai → Int
 | ⟨a, _, _, l⟩ => if a = 1 then 1 else if fM ax a = true then ((l.length : Int) - 1) + l9 ax l else lJ ax 0 l
def l9 (ax : Int) : List ai → Int
 | [] => 0
 | k :: ks => dH ax k + l9 ax ks
def lJ (ax : Int) : Int → List ai → Int
 | m, [] => m
 | m, k :: ks => lJ ax (mx m (dH ax k)) ks
end
theorem qf (ax : Int) (c : ai) : dH ax c = if c.f0 = 1 then 1 else if fM ax c.f0 = true then ((c.f3.length : Int) - 1) + l9 ax c.f3 else lJ ax 0 c.f3 := by cases c; simp [dH]
theorem rY (ax : Int) : l9 ax [] = 0 := by simp [l9]
theorem oV (ax : Int) (k : ai) (ks : List ai) : l9 ax (k :: ks) = dH ax k + l9 ax ks := by simp [l9]
theorem W_ (ax : Int) (a b : List ai) : l9 ax (a ++ b) = l9 ax a + l9 ax b := by
 induction a with
 | nil => rw [List.nil_append, rY]; omega
 | cons x xs ih => rw [List.cons_append, oV, oV, ih]; omega
theorem qh (ax m : Int) : lJ ax m [] = m := by simp [lJ]
theorem kF (ax m : Int) (k : ai) (ks : List ai) : lJ ax m (k :: ks) = lJ ax (mx m (dH ax k)) ks := by simp [lJ]
theorem XR {a b c : Int} (h : a ≤ c) (k : b ≤ c) : mx a b ≤ c := by unfold mx; split <;> omega
theorem Ue (a b : Int) : a ≤ mx a b := by unfold mx; split <;> omega
theorem Uf (a b : Int) : b ≤ mx a b := by unfold mx; split <;> omega
theorem Jr (ax : Int) : ∀ (N : Nat), (∀ c : ai, sz c ≤ N → -(sz c : Int) ≤ dH ax c ∧ dH ax c ≤ 2 * (sz c : Int) - 1) ∧
  (∀ l : List ai, dN l ≤ N → -(dN l : Int) ≤ l9 ax l ∧ l9 ax l ≤ 2 * (dN l : Int) - (l.length : Int)) ∧ (∀ l : List ai, dN l ≤ N → ∀ m : Int, m ≤ lJ ax m l ∧ ∀ u, m ≤ u → 2 * (dN l : Int) ≤ u → lJ ax m l ≤ u) := by
 intro N
 induction N with
 | zero =>
  refine ⟨fun c h => ?_, fun l h => ?_, fun l h => ?_⟩
  ·rw [bZ] at h; omega
  ·cases l with
   | nil => rw [rY, wP]; simp
   | cons z zs => rw [bU, bZ] at h; omega
  ·cases l with
   | nil => intro m; rw [qh]; exact ⟨Int.le_refl _, fun u h _ => h⟩
   | cons z zs => rw [bU, bZ] at h; omega
 | succ N ih =>
  have hC : ∀ c : ai, sz c ≤ N + 1 → -(sz c : Int) ≤ dH ax c ∧ dH ax c ≤ 2 * (sz c : Int) - 1 := by
   intro c h
   have hs := bZ c
   have h1 := ih.2.1 c.f3 (by omega)
   have h2 := ih.2.2 c.f3 (by omega) 0
   have h3 := h2.2 (2 * (dN c.f3 : Int)) (by omega) (Int.le_refl _)
   rw [qf]
   split
   ·omega
   ·split
    ·omega
    ·omega
  refine ⟨hC, fun l => ?_, fun l => ?_⟩
  ·induction l with
   | nil => intro _; rw [rY, wP]; simp
   | cons x xs ihl =>
    intro h
    rw [bU] at h ⊢
    have h1 := hC x (by omega)
    have h2 := ihl (by omega)
    rw [oV, List.length_cons]
    omega
  ·induction l with
   | nil => intro _ m; rw [qh]; exact ⟨Int.le_refl _, fun u h _ => h⟩
   | cons x xs ihl =>
    intro h m
    rw [bU] at h ⊢
    have h1 := hC x (by omega)
    have h2 := ihl (by omega) (mx m (dH ax x))
    rw [kF]
    refine ⟨Int.le_trans (Ue m (dH ax x)) h2.1, fun u hu hu2 => h2.2 u (XR hu (by omega)) (by omega)⟩
theorem Pg {c x : ai} (h : (fP c).all mf = true) (hx : x ∈ c.f3) : (fP x).all mf = true := by
 rw [pJ, List.all_cons, Bool.and_eq_true] at h
 obtain ⟨p, q, e⟩ := List.append_of_mem hx
 have h2 := h.2
 rw [e, Bl, lF, List.all_append, List.all_append] at h2
 simp only [Bool.and_eq_true] at h2
 exact h2.2.1
theorem nZ {c : ai} (h : (fP c).all mf = true) : mf c = true := by
 rw [pJ, List.all_cons, Bool.and_eq_true] at h
 exact h.1
theorem y9 {c : ai} (h : mf c = true) : (c.f0 = 1 ∧ c.f3.length = 0) ∨ ((c.f0 = 2 ∨ c.f0 = 3) ∧ 2 ≤ c.f3.length) := by
 unfold mf at h
 simp only [Bool.and_eq_true, decide_eq_true_eq] at h
 obtain ⟨⟨⟨_, h1⟩, h2⟩, h3⟩ := h
 by_cases e : c.f0 = 1
 ·exact .inl ⟨e, (h2 e).1⟩
 ·exact .inr ⟨by omega, (h3 (by omega)).1⟩
theorem QG (ax m : Int) (l : List ai) (k : ai) : lJ ax m (l ++ [k]) = mx (lJ ax m l) (dH ax k) := by
 induction l generalizing m with
 | nil => rw [List.nil_append, kF, qh, qh]
 | cons x xs ih => rw [List.cons_append, kF, kF, ih]
def ofA (ax : Int) (a : Bool) (pre : List ai) : Int := if a = true then l9 ax pre + (if pre.length = 0 then 0 else (pre.length : Int) - 1) else lJ ax 0 pre
theorem UR (ax : Int) (pre : List ai) (k : ai) : l9 ax (pre ++ [k]) = l9 ax pre + dH ax k := by rw [W_, oV, rY, Int.add_zero]
theorem ad6 {ax : Int} {pre : List ai} {k : ai} (h : dN pre + sz k ≤ 1048576) : -2097152 ≤ l9 ax pre ∧ l9 ax pre ≤ 2097152 ∧ -2097152 ≤ dH ax k ∧ dH ax k ≤ 2097152 := by
 have b1 := (Jr ax (sz k)).1 k (Nat.le_refl _)
 have b2 := (Jr ax (dN pre)).2.1 pre (Nat.le_refl _)
 omega
theorem aak {ax : Int} {c : ai} (h1 : ¬ c.f0 = 1) (h2 : c.f3.length ≠ 0) : ofA ax (fM ax c.f0) c.f3 = dH ax c := by
 rw [qf, if_neg h1]
 unfold ofA
 rw [if_neg h2]
 split <;> omega
theorem QC {ax : Int} {pre : List ai} {k : ai} {n : Int} (h : dN pre + sz k ≤ 1048576) (hn : -1 ≤ n ∧ n ≤ 1048576) : wrap64 (n + l9 ax pre + dH ax k) = n + l9 ax (pre ++ [k]) := by
 have b := ad6 (ax := ax) h
 rw [UR, wq (by omega) (by omega)]
 omega
theorem GU (l : List ai) (i : Int) (h0 : 0 ≤ i) (h1 : i < (l.length : Int)) : az l i ∈ l := by
 unfold az
 rw [List.getD_eq_getElem?_getD, List.getElem?_eq_getElem (by omega), Option.getD_some]
 exact List.getElem_mem _
theorem xC {l : List ai} {k : ai} (h : k ∈ l) : sz k ≤ dN l := by
 obtain ⟨p, q, e⟩ := List.append_of_mem h
 rw [e, ou, bU]
 omega
def jE (c : ai) : List Int → Option ai
 | [] => some c
 | i :: is => if i < 0 ∨ i ≥ (c.f3.length : Int) then none else jE (az c.f3 i) is
end Go.Proofs.Ytfdmfgaiblfbhaa.P
namespace Go.Proofs.Ytfdmfgaiblfbhaa.P
open Go.RowKit Go.Proofs.ag.aQ Go.Proofs.ag.bu Go.Proofs.ag.bP
attribute [local go_sem] jo jU
section
variable {W : World} {b : Nat} {P : Nat → Prop} {A : Option Addr} {cc : Nat}
theorem Aw {c : ai} {ax : Int} {v : Bool} (h : fM ax c.f0 = v) (hV : Kd.V k26 26 W b P (.slice A c.f3.length cc) c.f3) :
  Calls Try.prog 99 #[.agg #[.int .u8 c.f0, .int .i64 c.f1.f0, .int .i64 c.f1.f1, .int .i64 c.f1.f2, .int .i64 c.f1.f3, .int .i64 c.f2, .slice A c.f3.length cc], .int .u8 ax] W fun e w' => e = .returned (.bool v) ∧ Below W.heap.size W w' :=
 have h2 := Kd.kR hV
 qN.calls _ _ _ _ _ _ A cc c.f3 ax _ W h2.2.2 h2.2.1 ((Bo c ax).trans (congrArg some h))
end
theorem We (ax : Int) : ∀ (N : Nat) (c : ai), sz c ≤ N → N ≤ 1048576 → ∀ (b : Nat) (P : Nat → Prop) (A : Option Addr) (cc : Nat) (w : World), Kd.V k26 26 w b P (.slice A c.f3.length cc) c.f3 →
  Calls Try.prog 149 #[.agg #[.int .u8 c.f0, .int .i64 c.f1.f0, .int .i64 c.f1.f1, .int .i64 c.f1.f2, .int .i64 c.f1.f3, .int .i64 c.f2, .slice A c.f3.length cc], .int .u8 ax] w fun e w' => e = .returned (.int .i64 (dH ax c)) ∧ Below w.heap.size w w' := by
 intro N
 induction N with
 | zero => intro c h; rw [bZ] at h; omega
 | succ N ih =>
  intro c hc hN b P A cc w hv
  have hsz := bZ c
  have hlen := jJ c.f3
  have S := ae.mk (St.start (ts := [(.slice A c.f3.length cc, c.f3)]) (b0 := w.heap.size) (w := w) (P := P) (fun t ht => by rw [List.mem_singleton.1 ht]; exact gQ hv))
  have jw := ae.mk (show c.f3.length ≤ 1048576 by omega)
  have Xp := ae.mk (show dN c.f3 ≤ 1048576 by omega)
  have IH := ae.mk fun (k : ai) (hk : k ∈ c.f3) A cc w {b P} h => ih k (by have := xC hk; omega) (by omega) b P A cc w h
  have hE := fun h1 h2 => @aak ax c h1 h2
  have hL := qf ax c
  generalize dH ax c = R at hE hL ⊢
  obtain ⟨ck, ⟨cx, cy, cw, ch⟩, aT, l⟩ := c
  simp only [] at S jw Xp IH hE hL ⊢
  clear ih hc hN hv hsz hlen
  by_cases h1 : ck = 1
  case pos =>
   have HR := ae.mk (show R = 1 by rw [hL, if_pos h1])
   obtain ⟨h1a, h1b, h1d⟩ := yT (a := ck) (b := 1) (by omega)
   clear h1 hE hL
   go_enter Try.func149, Try.ntmps149
   go_wp2_with ((refine boxS 2 _ 26 S ?_; clear S; intro b2 dQ S; have oI := (S.out.at (.head _) 0).trans rfl))
   clear oI
   go_ret
   rw [HR.out]
   exact ⟨rfl, S.out.below⟩
  rw [if_neg h1] at hL
  have HR := ae.mk hL
  obtain ⟨h1a, h1b, h1d⟩ := eqF (a := ck) (b := 1) (by omega)
  have HWL := ae.mk (show wrap64 ((l.length : Int) - 1) = (l.length : Int) - 1 by have := jw.out; unfold wrap64; omega)
  clear h1 hE hL
  go_enter Try.func149, Try.ntmps149
  go_wp2_with ((refine boxS 2 _ 26 S ?_; clear S; intro b2 eU S; have oI := (S.out.at (.head _) 0).trans rfl; have jr := (S.out.at (.head _) 6).trans rfl))
  clear oI jr
  go_loopg [5, 6, 20] l.length (fun gg v5 v6 v20 wr => ∃ (pre rest : List ai), v5 = .int .i64 ((l.length : Int) - 1 + l9 ax pre) ∧ v6 = .int .i64 (lJ ax 0 pre) ∧ v20 = .int .i64 (pre.length : Int) ∧ ae (pre ++ rest = l) ∧ rest.length ≤ gg ∧ ae (St w P [(some b2, .cells #[.int .u8 ck, .int .i64 cx, .int .i64 cy, .int .i64 cw, .int .i64 ch, .int .i64 aT, .slice A l.length cc] 26 (0, 0))] [] [(.slice A l.length cc, l)] [] wr))
  case atStart => exact ⟨[], l, (by rw [rY, Int.add_zero, HWL.out]), (by rw [qh]), rfl, ⟨rfl⟩, Nat.le_refl _, S⟩
  case round =>
   clear S
   obtain ⟨pre, rest, rfl, rfl, rfl, HE, hgg, S⟩ := hrel
   cases rest with
   | nil =>
    have hE := HE.out
    rw [List.append_nil] at hE
    have hE2 := hE.symm
    subst hE2
    clear hE HE hgg
    have hlt : ¬ ((l.length : Int) < (l.length : Int)) := by omega
    cases ha : fM ax ck with
    | true =>
     have HA := ae.mk ha
     rw [ha] at HR
     clear ha
     obtain ⟨oI, vN, vO, vP, vS, su, jr⟩ := St.fA S (.head _)
     go_wp2_with ((refine bT (some 36) Try.func99 S (Aw (c := ⟨ck, ⟨cx, cy, cw, ch⟩, aT, l⟩) HA.out (S.out.tree _ (.head _))) ?_; clear S; intro dQ S; clear oI vN vO vP vS su jr))
     go_ret
     rw [HR.out]
     exact ⟨rfl, S.out.below⟩
    | false =>
     have HA := ae.mk ha
     rw [ha] at HR
     clear ha
     obtain ⟨oI, vN, vO, vP, vS, su, jr⟩ := St.fA S (.head _)
     go_wp2_with ((refine bT (some 36) Try.func99 S (Aw (c := ⟨ck, ⟨cx, cy, cw, ch⟩, aT, l⟩) HA.out (S.out.tree _ (.head _))) ?_; clear S; intro dQ S; clear oI vN vO vP vS su jr))
     go_ret
     rw [HR.out]
     exact ⟨rfl, S.out.below⟩
   | cons k rest =>
    have hk : k ∈ l := by rw [← HE.out]; simp
    have hlt : (pre.length : Int) < (l.length : Int) := by rw [← HE.out, List.length_append, List.length_cons]; omega
    have hw1 : wrap64 ((pre.length : Int) + 1) = ((pre ++ [k]).length : Int) := by have := jw.out; rw [List.length_append, List.length_singleton]; unfold wrap64; omega
    have HW1 := ae.mk hw1
    have iF := ae.mk hgg
    have HK := ae.mk hk
    have HSB := ae.mk (show dN pre + sz k ≤ 1048576 by have h := Xp.out; rw [← HE.out, ou, bU] at h; omega)
    obtain ⟨kG, ua, uc, ek, S1⟩ := S.out.elem (.head _) (pre.length : Int) (Int.natCast_nonneg _) hlt
    subst ek
    have hrd : az l (pre.length : Int) = k := by rw [← HE.out]; exact lU pre k rest
    rw [hrd] at S1
    simp only [Int.toNat_natCast] at S1
    replace S := ae.mk S1
    clear S1 hrd hk hgg hw1
    obtain ⟨iJ, jD, kK, jX, jY, mO, mP⟩ := St.Jh S
    go_wp2_with (first | (refine boxS 8 _ 26 S ?_; clear S; intro b8 dQ S; clear iJ jD kK jX jY mO mP) | (refine ik 26 8 23 #[.int .u8 k.f0, .int .i64 k.f1.f0, .int .i64 k.f1.f1, .int .i64 k.f1.f2, .int .i64 k.f1.f3, .int .i64 k.f2, .slice ua k.f3.length uc] 0 7 S ?_; clear S; intro eU S; obtain ⟨ae6, ae7, ae8, ae9, ae_, ae', afa⟩ := St.fA S (.head _)) | (refine bT (some 26) Try.func149 S (IH.out k HK.out ua uc _ (S.out.tree _ (.head _))) ?_; clear S; intro gV S; clear ae6 ae7 ae8 ae9 ae_ ae' afa))
    all_goals
     have hw1 := HW1.out
     go_wp2
     go_roundg rest.length
     case measure => exact Nat.lt_of_lt_of_le (Nat.lt_succ_self _) iF.out
     case rel => exact ⟨pre ++ [k], rest, (by rw [QC HSB.out (by have := jw.out; omega)]), (by rw [QG]; congr 1; unfold mx; split <;> omega), (by rw [hw1]), ⟨by rw [List.append_assoc]; exact HE.out⟩, Nat.le_refl _, ⟨S.out.dA.dG.bJ.bJ.bJ.bJ.bJ.bJ.bJ⟩⟩
def kQ.f (_ : Nat) (a0 a1 a2 a3 a4 a5 : Int) (l : List ai) (ax : Int) : Option Int := if sz ⟨a0, ⟨a1, a2, a3, a4⟩, a5, l⟩ ≤ 1048576 then some (dH ax ⟨a0, ⟨a1, a2, a3, a4⟩, a5, l⟩) else none
theorem kQ.calls (k : Nat) (ay : Int) (aH : Int) (aA : Int) (aG : Int) (aY : Int) (a_ : Int) (dE : Option Addr) (dF : Nat) (aJ : List (ai)) (a1 : Int) (r : Int) (w : World) (qW : Kd.C k26 w dE aJ.length aJ) (sG : aJ.length ≤ dF) (h : kQ.f k ay aH aA aG aY a_ aJ a1 = some r) :
  Calls Try.prog 149 #[.agg #[.int .u8 ay, .int .i64 aH, .int .i64 aA, .int .i64 aG, .int .i64 aY, .int .i64 a_, .slice dE aJ.length dF], .int .u8 a1] w fun e w' => e = .returned (.int .i64 r) ∧ Below w.heap.size w w' := by
 unfold kQ.f at h
 split at h
 ·rename_i hz
  injection h with h
  subst h
  exact We a1 _ ⟨ay, ⟨aH, aA, aG, aY⟩, a_, aJ⟩ (Nat.le_refl _) hz w.heap.size (fun _ => True) dE dF w (Kd.uD sG (Kd.ru (Kd.CB nJ qW) (fun _ _ => trivial)))
 ·cases h
theorem Wh (ax : Int) (N : Nat) (c : ai) (hc : sz c ≤ N) (hN : N ≤ 1048576) : Ev (fun k => kQ.f k c.f0 c.f1.f0 c.f1.f1 c.f1.f2 c.f1.f3 c.f2 c.f3 ax) (dH ax c) := by
 refine Ev.congr (f := fun _ => some (dH ax c)) (fun k => ?_) (Ev.now _)
 unfold kQ.f
 rw [Gs, if_pos (Nat.le_trans hc hN)]
end Go.Proofs.Ytfdmfgaiblfbhaa.P
namespace Go.Proofs.Ytfdmfgaiblfbhaa.P
open Go.RowKit Go.Proofs.ag.aQ Go.Proofs.ag.bu Go.Proofs.ag.bP
section
variable {W : World} {b : Nat} {P : Nat → Prop} {A : Option Addr} {cc : Nat}
theorem BQ {c : ai} {ax : Int} {v : Bool} (h : fM ax c.f0 = v) (hV : Kd.V k26 26 W b P (.slice A c.f3.length cc) c.f3) :
  Calls Try.prog 88 #[.agg #[.int .u8 c.f0, .int .i64 c.f1.f0, .int .i64 c.f1.f1, .int .i64 c.f1.f2, .int .i64 c.f1.f3, .int .i64 c.f2, .slice A c.f3.length cc], .int .u8 ax] W fun e w' => e = .returned (.bool v) ∧ Below W.heap.size W w' :=
 have h2 := Kd.kR hV
 qZ.calls _ _ _ _ _ _ A cc c.f3 ax _ W h2.2.2 h2.2.1 ((NW c ax).trans (congrArg some h))
end
def adX.f (_ : Nat) (a0 a1 a2 a3 a4 a5 : Int) (l : List ai) (ax : Int) : Option Int := if sz ⟨a0, ⟨a1, a2, a3, a4⟩, a5, l⟩ ≤ 1048576 ∧ (fP ⟨a0, ⟨a1, a2, a3, a4⟩, a5, l⟩).all mf = true then some (dH ax ⟨a0, ⟨a1, a2, a3, a4⟩, a5, l⟩) else none
end Go.Proofs.Ytfdmfgaiblfbhaa.P

namespace Go.Proofs.Ytfdmfgaiblfbhaa.P
open Go.RowKit Go.Proofs.ag.aQ Go.Proofs.ag.bu Go.Proofs.ag.bP
attribute [local go_sem] jo jC jU kH jS jT kU kW
def oN.f (ay : Int) (aH : Int) (aA : Int) (aG : Int) (a1 : Int) : Option (Int) := if a1 = 2 then (some aG) else (if a1 = 1 then (some aA) else (some 0))
theorem oN.calls (ay : Int) (aH : Int) (aA : Int) (aG : Int) (a1 : Int) (r : Int) (w : World) (h : oN.f ay aH aA aG a1 = some r) :
  Calls Try.prog 98 #[.agg #[.int .i64 ay, .int .i64 aH, .int .i64 aA, .int .i64 aG], .int .u8 a1] w fun e w' => e = .returned (.int .i64 r) ∧ Below w.heap.size w w' := by
 have MW := Try.underlying23
 have HB := ae.mk (Below.refl w.heap.size w)
 have H : (if a1 = 2 then (some aG) else (if a1 = 1 then (some aA) else (some 0))) = some r := h
 clear h
 by_cases c3 : a1 = 2
 ·rw [if_pos c3] at H
  have tC : (a1 == 2) = true := beq_iff_eq.mpr c3
  have yR : (a1 != 2) = false := bne_eq_false_iff_eq.mpr c3
  clear c3
  obtain rfl := Option.some.inj H
  go_enter Try.func98, Try.ntmps98
  go_wp2_with (((with_reducible refine aC (N := 2) rfl ?_); refine aK ?hg (N := 2) ?hd (cs := #[.int .i64 ay, .int .i64 aH, .int .i64 aA, .int .i64 aG]) (t := 23) ?hr ?_; (case hd => rfl); (case hg => rfl); (case hr => (go_simp; done)); intro sF hg w4 hbox hb; have nP := ae.mk (hbox); have PS := ae.mk ((by rw [hg]; exact (dS (by repeat ((with_reducible exact HB.out)))) : w.heap.size ≤ sF)); replace HB := ae.mk (ak (by repeat ((with_reducible exact HB.out))) hb); clear hb hbox hg; have acT : w4.cell? ⟨sF, 0, none⟩ = some (.int .i64 ay) := (af nP.out 0).trans rfl; have acU : w4.cell? ⟨sF, 1, none⟩ = some (.int .i64 aH) := (af nP.out 1).trans rfl; have acV : w4.cell? ⟨sF, 2, none⟩ = some (.int .i64 aA) := (af nP.out 2).trans rfl; have acW : w4.cell? ⟨sF, 3, none⟩ = some (.int .i64 aG) := (af nP.out 3).trans rfl; have ac_ := ah nP.out 0; have ac' := ah nP.out 1; have ada := ah nP.out 2; have adb := ah nP.out 3))
  go_ret
  exact ⟨by rfl, by repeat ((with_reducible first | exact HB.out | refine oH ?_ PS.out))⟩
 ·rw [if_neg c3] at H
  have tC : (a1 == 2) = false := beq_eq_false_iff_ne.mpr c3
  have yR : (a1 != 2) = true := bne_iff_ne.mpr c3
  by_cases c6 : a1 = 1
  ·rw [if_pos c6] at H
   have Bv : (a1 == 1) = true := beq_iff_eq.mpr c6
   have Vt : (a1 != 1) = false := bne_eq_false_iff_eq.mpr c6
   clear c6
   obtain rfl := Option.some.inj H
   go_enter Try.func98, Try.ntmps98
   go_wp2_with (((with_reducible refine aC (N := 2) rfl ?_); refine aK ?hg (N := 2) ?hd (cs := #[.int .i64 ay, .int .i64 aH, .int .i64 aA, .int .i64 aG]) (t := 23) ?hr ?_; (case hd => rfl); (case hg => rfl); (case hr => (go_simp; done)); intro sF hg w7 hbox hb; have nP := ae.mk (hbox); have PS := ae.mk ((by rw [hg]; exact (dS (by repeat ((with_reducible exact HB.out)))) : w.heap.size ≤ sF)); replace HB := ae.mk (ak (by repeat ((with_reducible exact HB.out))) hb); clear hb hbox hg; have Ti : w7.cell? ⟨sF, 0, none⟩ = some (.int .i64 ay) := (af nP.out 0).trans rfl; have Tj : w7.cell? ⟨sF, 1, none⟩ = some (.int .i64 aH) := (af nP.out 1).trans rfl; have Tm : w7.cell? ⟨sF, 2, none⟩ = some (.int .i64 aA) := (af nP.out 2).trans rfl; have Tn : w7.cell? ⟨sF, 3, none⟩ = some (.int .i64 aG) := (af nP.out 3).trans rfl; have TK := ah nP.out 0; have TL := ah nP.out 1; have TM := ah nP.out 2; have TN := ah nP.out 3))
   go_ret
   exact ⟨by rfl, by repeat ((with_reducible exact HB.out))⟩
  ·rw [if_neg c6] at H
   have Bv : (a1 == 1) = false := beq_eq_false_iff_ne.mpr c6
   have Vt : (a1 != 1) = true := bne_iff_ne.mpr c6
   obtain rfl := Option.some.inj H
   go_enter Try.func98, Try.ntmps98
   go_wp2_with (((with_reducible refine aC (N := 2) rfl ?_); refine aK ?hg (N := 2) ?hd (cs := #[.int .i64 ay, .int .i64 aH, .int .i64 aA, .int .i64 aG]) (t := 23) ?hr ?_; (case hd => rfl); (case hg => rfl); (case hr => (go_simp; done)); intro sF hg w9 hbox hb; have nP := ae.mk (hbox); have PS := ae.mk ((by rw [hg]; exact (dS (by repeat ((with_reducible exact HB.out)))) : w.heap.size ≤ sF)); replace HB := ae.mk (ak (by repeat ((with_reducible exact HB.out))) hb); clear hb hbox hg))
   go_ret
   exact ⟨by rfl, by repeat ((with_reducible exact HB.out))⟩
end Go.Proofs.Ytfdmfgaiblfbhaa.P
namespace Go.Proofs.Ytfdmfgaiblfbhaa.P
open Go.RowKit Go.Proofs.ag.aQ Go.Proofs.ag.bu Go.Proofs.ag.bP
def aV (ax : Int) (r : dw) : Int := if ax = 1 then r.f2 else if ax = 2 then r.f3 else 0
theorem JC (r : dw) (ax : Int) : oN.f r.f0 r.f1 r.f2 r.f3 ax = some (aV ax r) := by
 unfold oN.f aV
 by_cases h1 : ax = 1
 ·rw [if_neg (by omega), if_pos h1, if_pos h1]
 ·by_cases h2 : ax = 2
  ·rw [if_pos h2, if_neg h1, if_pos h2]
  ·rw [if_neg h2, if_neg h1, if_neg h1, if_neg h2]
end Go.Proofs.Ytfdmfgaiblfbhaa.P
namespace Go.Proofs.Ytfdmfgaiblfbhaa.P
open Go.RowKit Go.Proofs.ag.aQ Go.Proofs.ag.bu Go.Proofs.ag.bP
attribute [local go_sem] jo jC jU kH jS jT kU kW
def kE.f (a0 : Int) : Option (Bool) := if a0 = 1 then (some true) else (some (a0 == 2))
theorem kE.ab4 (a0 : Int) (r : Bool) (w : World) (h : kE.f a0 = some r) :
  Calls Try.prog 147 #[.int .u8 a0] w fun e w' => e = .returned (.bool r) ∧ qE w w' := by
 have H : (if a0 = 1 then (some true) else (some (a0 == 2))) = some r := h
 clear h
 by_cases c2 : a0 = 1
 ·rw [if_pos c2] at H
  have Lr : (a0 == 1) = true := beq_iff_eq.mpr c2
  have agD : (a0 != 1) = false := bne_eq_false_iff_eq.mpr c2
  clear c2
  obtain rfl := Option.some.inj H
  go_enter Try.func147, Try.ntmps147
  go_wp2
  go_ret
  exact ⟨by rfl, by repeat (exact qE.refl _)⟩
 ·rw [if_neg c2] at H
  have Lr : (a0 == 1) = false := beq_eq_false_iff_ne.mpr c2
  have agD : (a0 != 1) = true := bne_iff_ne.mpr c2
  obtain rfl := Option.some.inj H
  go_enter Try.func147, Try.ntmps147
  go_wp2
  go_ret
  exact ⟨by rfl, by repeat (exact qE.refl _)⟩
theorem kE.calls (a0 : Int) (r : Bool) (w : World) (h : kE.f a0 = some r) :
  Calls Try.prog 147 #[.int .u8 a0] w fun e w' => e = .returned (.bool r) ∧ Below w.heap.size w w' := by
 refine (kE.ab4 a0 r w h).mono ?_
 rintro e w' ⟨he, n, rfl⟩
 exact ⟨he, eH (Below.refl _ _) n⟩
end Go.Proofs.Ytfdmfgaiblfbhaa.P
namespace Go.Proofs.Ytfdmfgaiblfbhaa.P
open Go.RowKit Go.Proofs.ag.aQ Go.Proofs.ag.bu Go.Proofs.ag.bP
theorem Z_ (Inv : List ai → World → Prop) (r : ai → Bool) (g : Nat) (lb : Array Value) (eg : ∀ args w, (callFunc g args).run Try.prog w = .ok (.enter g args) w) (l : List ai) (A : Option Addr) (c : Nat)
  (w0 : World) (hR : Kd.C k26 w0 A l.length l) (hW : ∀ s W, Inv s W → Below w0.heap.size w0 W) (hD : ∀ s W n, Inv s W → Inv s (W.drewN n))
  (hcall : ∀ (x : ai) (rest : List ai) (W : World) (B : Option Addr) (cb : Nat), x ∈ l → (∃ pre, pre ++ x :: rest = l) → Inv (x :: rest) W → Kd.C k26 w0 B x.f3.length x.f3 → x.f3.length ≤ cb → Calls Try.prog g (#[.agg #[.int .u8 x.f0, .int .i64 x.f1.f0, .int .i64 x.f1.f1, .int .i64 x.f1.f2, .int .i64 x.f1.f3, .int .i64 x.f2, .slice B x.f3.length cb]] ++ lb) W fun e w' => e = .returned (.bool (r x)) ∧ Inv (if r x = true then [] else rest) w')
  (w : World) (hI : Inv l w) (hl : l.length ≤ 9223372036854775807) :
  Calls Try.prog 192 #[.slice A l.length c, .func (.func g) #[] lb] w fun e w' => ∃ i : Int, e = .returned (.int .i64 i) ∧ decide (i ≥ 0) = l.any r ∧ Inv [] w' := by
 have HR := ae.mk hR
 have HW := ae.mk hW
 have HD := ae.mk hD
 have HI := ae.mk hI
 have yz := ae.mk hcall
 clear hR hW hcall hD hI
 go_enter Try.func192, Try.ntmps192
 go_wp2
 go_loopg [5, 8] l.length (fun gg _ v8 wr => ∃ (kk : Nat), kk ≤ l.length ∧ l.length - kk ≤ gg ∧ v8 = .int .i64 kk ∧ ae (Inv (l.drop kk) wr) ∧ ae (l.any r = (l.drop kk).any r))
 case atStart => exact ⟨0, Nat.zero_le _, by omega, rfl, ⟨by simpa using HI.out⟩, ⟨by simp⟩⟩
 case round =>
  clear HI
  obtain ⟨kk, hkk, hg, rfl, HI, HS⟩ := hrel
  by_cases hlt : kk < l.length
  ·have hltz : (kk : Int) < (l.length : Int) := by omega
   obtain ⟨ad, B, cb, rfl, hc0, hc1, hc2, hc3, hc4, hc5, hc6, hlb, hgb⟩ := rF HR.out (kk : Int) (by omega) (by omega)
   have hbw := HW.out _ wr HI.out
   replace hc0 := (hbw.cell (World.block_lt_of_cell? w0 _ hc0)).trans hc0
   replace hc1 := (hbw.cell (World.block_lt_of_cell? w0 _ hc1)).trans hc1
   replace hc2 := (hbw.cell (World.block_lt_of_cell? w0 _ hc2)).trans hc2
   replace hc3 := (hbw.cell (World.block_lt_of_cell? w0 _ hc3)).trans hc3
   replace hc4 := (hbw.cell (World.block_lt_of_cell? w0 _ hc4)).trans hc4
   replace hc5 := (hbw.cell (World.block_lt_of_cell? w0 _ hc5)).trans hc5
   replace hc6 := (hbw.cell (World.block_lt_of_cell? w0 _ hc6)).trans hc6
   clear hbw
   have hmem : (az l (kk : Int)) ∈ l := BR z26 l kk hlt
   have hdr : l.drop kk = az l (kk : Int) :: l.drop (kk + 1) := by
    rw [List.drop_eq_getElem_cons hlt]
    simp only [az, Int.toNat_natCast, List.getD_eq_getElem?_getD, List.getElem?_eq_getElem hlt, Option.getD_some]
   have HX : ae ((l.drop kk).any r = (r (az l (kk : Int)) || (l.drop (kk + 1)).any r)) := ⟨by rw [hdr, List.any_cons]⟩
   have hcall := yz.out _ (l.drop (kk + 1)) wr B cb hmem ⟨l.take kk, by rw [← hdr]; exact List.take_append_drop kk l⟩ (by rw [← hdr]; exact HI.out) hgb hlb
   clear hmem hgb hlb hdr
   simp only [Int.toNat_natCast] at hc0 hc1 hc2 hc3 hc4 hc5 hc6
   generalize az l (kk : Int) = x at hc0 hc1 hc2 hc3 hc4 hc5 hc6 HX hcall
   have HC := ae.mk hcall
   clear hcall
   cases hq : r x with
   | true =>
    have h := HC.out
    rw [hq, if_pos rfl] at h
    have HH := ae.mk h
    have HQ := ae.mk hq
    clear hq HC h
    go_wp2_with fail
    refine HH.out.mono ?_
    rintro e w' ⟨rfl, hb'⟩
    have HB := ae.mk hb'
    clear hb'
    go_wp2
    go_ret
    refine ⟨_, rfl, ?_, HB.out⟩
    rw [HS.out, HX.out, HQ.out, Bool.true_or]
    exact decide_eq_true (by omega)
   | false =>
    have h := HC.out
    rw [hq, if_neg (by simp)] at h
    have HH := ae.mk h
    have HQ := ae.mk hq
    clear hq HC h
    go_wp2_with fail
    refine HH.out.mono ?_
    rintro e w' ⟨rfl, hb'⟩
    have HB := ae.mk hb'
    clear hb'
    go_wp2
    go_roundg (l.length - (kk + 1))
    case measure => omega
    case rel =>
     refine ⟨kk + 1, by omega, by omega, by go_num, HB, ⟨?_⟩⟩
     rw [HS.out, HX.out, HQ.out, Bool.false_or]
  ·have hltz : ¬ (kk : Int) < (l.length : Int) := by omega
   have hd : l.drop kk = [] := List.drop_eq_nil_of_le (by omega)
   have HI2 := ae.mk (hd ▸ HI.out)
   have HS2 := ae.mk (hd ▸ HS.out)
   clear HI HS hd
   go_wp2
   go_ret
   refine ⟨_, rfl, ?_, HI2.out⟩
   rw [HS2.out]
   rfl
theorem Ox (Inv : List ai → World → Prop) (r : ai → Bool) (g : Nat) (lb : Array Value) (eg : ∀ args w, (callFunc g args).run Try.prog w = .ok (.enter g args) w) (l : List ai) (A : Option Addr) (c : Nat)
  (w0 : World) (hR : Kd.C k26 w0 A l.length l) (hW : ∀ s W, Inv s W → Below w0.heap.size w0 W) (hD : ∀ s W n, Inv s W → Inv s (W.drewN n))
  (hcall : ∀ (x : ai) (rest : List ai) (W : World) (B : Option Addr) (cb : Nat), x ∈ l → (∃ pre, pre ++ x :: rest = l) → Inv (x :: rest) W → Kd.C k26 w0 B x.f3.length x.f3 → x.f3.length ≤ cb → Calls Try.prog g (#[.agg #[.int .u8 x.f0, .int .i64 x.f1.f0, .int .i64 x.f1.f1, .int .i64 x.f1.f2, .int .i64 x.f1.f3, .int .i64 x.f2, .slice B x.f3.length cb]] ++ lb) W fun e w' => e = .returned (.bool (r x)) ∧ Inv (if r x = true then [] else rest) w')
  (w : World) (hI : Inv l w) (hl : l.length ≤ 9223372036854775807) :
  Calls Try.prog 174 #[.slice A l.length c, .func (.func g) #[] lb] w fun e w' => e = .returned (.bool (l.any r)) ∧ Inv [] w' := by
 have hi := Z_ Inv r g lb eg l A c w0 hR hW hD hcall w hI hl
 clear hR hW hD hcall hI
 have HI := ae.mk hi
 clear hi
 go_enter Try.func174, Try.ntmps174
 go_wp2_with fail
 refine HI.out.mono ?_
 rintro e w' ⟨i, rfl, hd, hb'⟩
 have HB := ae.mk hb'
 have HN := ae.mk hd
 clear hb' hd
 go_wp2
 go_ret
 exact ⟨by rw [← HN.out]; rfl, HB.out⟩
theorem acr (r : ai → dw → Bool) (g : Nat) (eg : ∀ args w, (callFunc g args).run Try.prog w = .ok (.enter g args) w) (la : List ai) (lb : List dw) (A B : Option Addr) (ca cb : Nat) (w : World) (hA : Kd.C k26 w A la.length la) (hB : Kd.C k23 w B lb.length lb)
  (hcall : ∀ W (x : ai) (X : Option Addr) (cx : Nat) (y : dw), x ∈ la → Below w.heap.size w W → Kd.C k26 w X x.f3.length x.f3 → x.f3.length ≤ cx → Calls Try.prog g #[.agg #[.int .u8 x.f0, .int .i64 x.f1.f0, .int .i64 x.f1.f1, .int .i64 x.f1.f2, .int .i64 x.f1.f3, .int .i64 x.f2, .slice X x.f3.length cx], .agg #[.int .i64 y.f0, .int .i64 y.f1, .int .i64 y.f2, .int .i64 y.f3]] W fun e w' => e = .returned (.bool (r x y)) ∧ Below W.heap.size W w') :
  Calls Try.prog 211 #[.slice A la.length ca, .slice B lb.length cb, .func (.func g) #[] #[]] w fun e w' => e = .returned (.bool (la.length == lb.length && rM r la lb)) ∧ Below w.heap.size w w' := by
 have HA := ae.mk hA
 have HLB := ae.mk hB
 have HC := ae.mk hcall
 have HB := ae.mk (Below.refl w.heap.size w)
 have HL := ae.mk (show la.length ≤ 9223372036854775807 from hA.2.1)
 clear hA hB hcall
 by_cases hl : la.length = lb.length
 ·have hl1 : ((la.length : Int) != (lb.length : Int)) = false := by simp [hl]
  have hl2 : (la.length == lb.length) = true := by simp [hl]
  rw [hl2, Bool.true_and]
  have HE := ae.mk hl
  clear hl hl2
  go_enter Try.func211, Try.ntmps211
  go_wp2
  go_loopg [17] la.length (fun gg v17 wr => ∃ (kk : Nat), kk ≤ la.length ∧ la.length - kk ≤ gg ∧ v17 = .int .i64 kk ∧ ae (rM r la lb = rM r (la.drop kk) (lb.drop kk)) ∧ ae (Below w.heap.size w wr))
  case atStart => exact ⟨0, Nat.zero_le _, by omega, rfl, ⟨by simp⟩, HB⟩
  case round =>
   clear HB
   obtain ⟨kk, hkk, hgg, rfl, HS, HB⟩ := hrel
   by_cases hlt : kk < la.length
   ·have hltz : (kk : Int) < (la.length : Int) := by omega
    have agY : (kk : Int) < (lb.length : Int) := by have := HE.out; omega
    have hw : wrap64 ((kk : Int) + 1) = ((kk + 1 : Nat) : Int) := by unfold wrap64; have := HL.out; omega
    have HX := ae.mk (aco r z26 z23 la lb kk hlt (by omega))
    have hmem : az la (kk : Int) ∈ la := BR z26 la kk hlt
    obtain ⟨cd, X, cx, rfl, c0, c1, c2, c3, c4, c5, c6, cl, cg⟩ := rF HA.out (kk : Int) (by omega) hltz
    obtain ⟨dd, rfl, d0, d1, d2, d3⟩ := Lh HLB.out (kk : Int) (by omega) agY
    simp only [Int.toNat_natCast] at c0 c1 c2 c3 c4 c5 c6 d0 d1 d2 d3
    replace c0 := (HB.out.cell (World.block_lt_of_cell? w _ c0)).trans c0
    replace c1 := (HB.out.cell (World.block_lt_of_cell? w _ c1)).trans c1
    replace c2 := (HB.out.cell (World.block_lt_of_cell? w _ c2)).trans c2
    replace c3 := (HB.out.cell (World.block_lt_of_cell? w _ c3)).trans c3
    replace c4 := (HB.out.cell (World.block_lt_of_cell? w _ c4)).trans c4
    replace c5 := (HB.out.cell (World.block_lt_of_cell? w _ c5)).trans c5
    replace c6 := (HB.out.cell (World.block_lt_of_cell? w _ c6)).trans c6
    have D0 := ae.mk d0
    have D1 := ae.mk d1
    have D2 := ae.mk d2
    have D3 := ae.mk d3
    clear d0 d1 d2 d3
    have HX := ae.mk (show rM r (la.drop kk) (lb.drop kk) = (r (az la (kk : Int)) (pX lb (kk : Int)) && rM r (la.drop (kk + 1)) (lb.drop (kk + 1))) from HX.out)
    have cG := ae.mk cg
    have cL := ae.mk cl
    clear cg cl
    have HM := ae.mk hmem
    clear hmem
    generalize az la (kk : Int) = x at *
    generalize pX lb (kk : Int) = y at *
    have HCx := ae.mk (fun W hW => HC.out W x X cx y HM.out hW cG.out cL.out )
    have HW := ae.mk hw
    have HKK := ae.mk (show kk + 1 ≤ la.length from hlt)
    have iF := ae.mk hgg
    clear hw hlt hgg hkk HM
    go_wp2_with (first | ((with_reducible refine aC (N := 8) rfl ?_); refine aK ?hg (N := 8) ?hd (cs := #[.int .u8 0, .int .i64 0, .int .i64 0, .int .i64 0, .int .i64 0, .int .i64 0, .slice none 0 0]) (t := 26) ?hr ?_; (case hd => rfl); (case hg => rfl); (case hr => (go_simp; done)); intro b8 hg wb8 hbox hb; have K8 := ae.mk hbox; have G8 := ae.mk (show w.heap.size ≤ b8 by rw [hg]; exact HB.out.size); have q_ := ae.mk (ak HB.out hb); clear HB; have HB := q_; clear q_; clear hb hbox hg) | ((with_reducible refine lH (.store 26 (.tmp 8) (.tmp 21)) rfl ?_); go_loud (refine f_ (w0 := w) rfl rfl 26 (.tmp 8) (.tmp 21) rfl (g := b8) (j := 0) (base := w.heap.size) #[.int .u8 x.f0, .int .i64 x.f1.f0, .int .i64 x.f1.f1, .int .i64 x.f1.f2, .int .i64 x.f1.f3, .int .i64 x.f2, .slice X x.f3.length cx] (u := .agg #[.int .u8 x.f0, .int .i64 x.f1.f0, .int .i64 x.f1.f1, .int .i64 x.f1.f2, .int .i64 x.f1.f3, .int .i64 x.f2, .slice X x.f3.length cx]) (bG := [.int .u8 x.f0, .int .i64 x.f1.f0, .int .i64 x.f1.f1, .int .i64 x.f1.f2, .int .i64 x.f1.f3, .int .i64 x.f2, .slice X x.f3.length cx]) ?sA ?sX rfl ?sT ?s1 K8.out ?sJ rfl HB.out HB.out.size G8.out ?_; (case sA => rfl); (case sX => rfl); (case sT => rfl); (case s1 => (simp [Value.oneCell'])); (case sJ => (simp)); intro ws8 hbk hbb hgg; clear K8 HB; have K8 := ae.mk hbk; have HB := ae.mk hbb; clear hbk hbb hgg; clear c0 c1 c2 c3 c4 c5 c6; have d0 := (HB.out.cell (World.block_lt_of_cell? w _ D0.out)).trans D0.out; have d1 := (HB.out.cell (World.block_lt_of_cell? w _ D1.out)).trans D1.out; have d2 := (HB.out.cell (World.block_lt_of_cell? w _ D2.out)).trans D2.out; have d3 := (HB.out.cell (World.block_lt_of_cell? w _ D3.out)).trans D3.out)) | ((with_reducible refine aC (N := 9) rfl ?_); refine aK ?hg (N := 9) ?hd (cs := #[.int .i64 0, .int .i64 0, .int .i64 0, .int .i64 0]) (t := 23) ?hr ?_; (case hd => rfl); (case hg => rfl); (case hr => (go_simp; done)); intro b9 hg wb9 hbox hb; have K9 := ae.mk hbox; have G9 := ae.mk (show w.heap.size ≤ b9 by rw [hg]; exact HB.out.size); have NE := ae.mk (show b8 ≠ b9 by rw [hg]; exact Nat.ne_of_lt (fD K8.out)); have UD := ae.mk (aI K8.out hb); clear K8; have K8 := UD; clear UD; have q_ := ae.mk (ak HB.out hb); clear HB; have HB := q_; clear q_; clear hb hbox hg d0 d1 d2 d3) | ((with_reducible refine lH (.store 23 (.tmp 9) (.tmp 25)) rfl ?_); go_loud (refine f_ (w0 := w) rfl rfl 23 (.tmp 9) (.tmp 25) rfl (g := b9) (j := 0) (base := w.heap.size) #[.int .i64 y.f0, .int .i64 y.f1, .int .i64 y.f2, .int .i64 y.f3] (u := .agg #[.int .i64 y.f0, .int .i64 y.f1, .int .i64 y.f2, .int .i64 y.f3]) (bG := [.int .i64 y.f0, .int .i64 y.f1, .int .i64 y.f2, .int .i64 y.f3]) ?sA ?sX rfl ?sT ?s1 K9.out ?sJ rfl HB.out HB.out.size G9.out ?_; (case sA => rfl); (case sX => rfl); (case sT => rfl); (case s1 => (simp [Value.oneCell'])); (case sJ => (simp)); intro ws9 hbk hbb hgg; have UD := ae.mk (cO K8.out hgg (fun e_ => absurd (Option.some.inj e_) NE.out)); clear K8; have K8 := UD; clear UD; clear K9 HB; have K9 := ae.mk hbk; have HB := ae.mk hbb; clear hbk hbb hgg; have e0 := (af K8.out 0).trans rfl; have e1 := (af K8.out 1).trans rfl; have e2 := (af K8.out 2).trans rfl; have e3 := (af K8.out 3).trans rfl; have e4 := (af K8.out 4).trans rfl; have e5 := (af K8.out 5).trans rfl; have e6 := (af K8.out 6).trans rfl; have f0 := (af K9.out 0).trans rfl; have f1 := (af K9.out 1).trans rfl; have f2 := (af K9.out 2).trans rfl; have f3 := (af K9.out 3).trans rfl)))
    clear e0 e1 e2 e3 e4 e5 e6 f0 f1 f2 f3 K8 K9 NE G8 G9
    refine (HCx.out _ HB.out).mono ?_
    rintro e w' ⟨rfl, hb⟩
    have q_ := ae.mk (ak HB.out hb); clear HB; have HB := q_; clear q_
    clear hb
    cases hq : r x y with
    | true =>
     have HQ := ae.mk hq
     clear hq
     go_wp2
     go_roundg (la.length - (kk + 1))
     case measure => have h1 := iF.out; have h2 := HKK.out; omega
     case rel => exact ⟨kk + 1, HKK.out, Nat.le_refl _, (by rw [HW.out]), ⟨by rw [HS.out, HX.out, HQ.out, Bool.true_and]⟩, HB⟩
    | false =>
     have HQ := ae.mk hq
     clear hq
     go_wp2
     go_ret
     rw [HS.out, HX.out, HQ.out, Bool.false_and]
     exact ⟨rfl, HB.out⟩
   ·have hltz : ¬ (kk : Int) < (la.length : Int) := by omega
    go_wp2
    go_ret
    rw [HS.out, List.drop_eq_nil_of_le (by omega), H5]
    exact ⟨rfl, HB.out⟩
 ·have hl1 : ((la.length : Int) != (lb.length : Int)) = true := by simp; omega
  have hl2 : (la.length == lb.length) = false := by simp [hl]
  rw [hl2, Bool.false_and]
  clear hl hl2
  go_enter Try.func211, Try.ntmps211
  go_wp2
  go_ret
  exact ⟨rfl, HB.out⟩
theorem afc (X Y Wd H ax : Int) (sizes : List Int) (hl : sizes.length ≤ 1000000) (B : Option Addr) (cb : Nat) (w : World) (hi : Kd.C (Kd.int .i64) w B sizes.length sizes) :
  Calls Try.prog 45 #[.agg #[.int .i64 X, .int .i64 Y, .int .i64 Wd, .int .i64 H], .int .u8 ax, .slice B sizes.length cb] w (J7 w (ql X Y Wd H ax sizes)) := by
 have S := ae.mk (St.start (ts := []) (b0 := w.heap.size) (w := w) (P := fun _ => True) (fun _ h => by cases h))
 have HI := ae.mk hi
 have jw := ae.mk hl
 clear hi hl
 by_cases hax : ax = 1 ∨ ax = 2
 case neg =>
  have HQ := ae.mk (yS (X := X) (Y := Y) (W := Wd) (H := H) (sizes := sizes) (.inl hax))
  have pz := ae.mk hax
  clear hax
  go_enter Try.func45, Try.ntmps45
  go_wp2_with (first | (refine boxS 3 _ 23 S ?_; clear S; intro b3 dQ S; obtain ⟨bH, bC, bF, bD⟩ := St.at4 S (.head _)) | (refine bT (some 23) Try.func127 S (UU pz.out _ _ _ _) ?_; clear S; intro eU S; clear bH bC bF bD) | (refine boxS 9 _ 23 S ?_; clear S; intro b9 gV S) | (refine ik 23 9 24 #[.int .i64 0, .int .i64 0, .int .i64 0, .int .i64 0] 0 4 S ?_; clear S; intro ji S))
  go_ret3
  rw [HQ.out]
  exact ⟨none, 0, none, 0, .cells #[] 0 (0, 0), .cells #[] 0 (0, 0), rfl, (fun h => by cases h), S.out.below⟩
 have pz := ae.mk hax
 obtain ⟨S0, hS0⟩ : ∃ s, s = tX ax X Y := ⟨_, rfl⟩
 obtain ⟨T0, hT0⟩ : ∃ s, s = tX ax Y X := ⟨_, rfl⟩
 obtain ⟨D, hD⟩ : ∃ s, s = tX ax Wd H := ⟨_, rfl⟩
 obtain ⟨E, hE⟩ : ∃ s, s = tX ax H Wd := ⟨_, rfl⟩
 have HTU := ae.mk (fun (W : World) => show Calls Try.prog 127 #[.agg #[.int .i64 X, .int .i64 Y, .int .i64 Wd, .int .i64 H], .int .u8 ax] W fun e w' => e = .returned (.tuple #[.agg #[.int .i64 S0, .int .i64 T0, .int .i64 D, .int .i64 E], .bool true]) ∧ Below W.heap.size W w' by rw [hS0, hT0, hD, hE]; exact FU hax X Y Wd H)
 by_cases hm : o7 X Y Wd H = true
 case neg =>
  have hm2 := Bool.eq_false_iff.mpr hm
  have HQ := ae.mk (yS (ax := ax) (sizes := sizes) (.inr (.inl hm2)))
  have xg := ae.mk hm2
  clear hm hm2 hax hS0 hT0 hD hE
  go_enter Try.func45, Try.ntmps45
  go_wp2_with (first | (refine boxS 3 _ 23 S ?_; clear S; intro b3 dQ S; obtain ⟨bH, bC, bF, bD⟩ := St.at4 S (.head _)) | (refine bT (some 23) Try.func127 S (HTU.out _) ?_; clear S; intro eU S; clear bH bC bF bD) | (refine boxS 9 _ 23 S ?_; clear S; intro b9 gV S) | (refine ik 23 9 24 #[.int .i64 S0, .int .i64 T0, .int .i64 D, .int .i64 E] 0 4 S ?_; clear S; intro ji S; obtain ⟨bH, bC, bF, bD⟩ := St.at4 S bz) | (refine gX 30 rfl ?_; (refine gy (by rfl) ?_; dsimp only); refine bT (some 30) Try.func128 S (Nu xg.out) ?_; clear S; intro mg S; clear bH bC bF bD))
  go_ret3
  rw [HQ.out]
  exact ⟨none, 0, none, 0, .cells #[] 0 (0, 0), .cells #[] 0 (0, 0), rfl, (fun h => by cases h), S.out.below⟩
 have xg := ae.mk hm
 by_cases h0 : sizes.length = 0
 case pos =>
  have HQ := ae.mk (yS (X := X) (Y := Y) (W := Wd) (H := H) (ax := ax) (.inr (.inr h0)))
  obtain ⟨Jl, wo, SN⟩ := yT (a := (sizes.length : Int)) (b := 0) (by omega)
  have SQ : (sizes.length == 0) = true := beq_iff_eq.mpr (by omega)
  have SS : decide (sizes.length = 0) = true := decide_eq_true (by omega)
  clear hm h0 hax hS0 hT0 hD hE
  go_enter Try.func45, Try.ntmps45
  go_wp2_with (first | (refine boxS 3 _ 23 S ?_; clear S; intro b3 dQ S; obtain ⟨bH, bC, bF, bD⟩ := St.at4 S (.head _)) | (refine bT (some 23) Try.func127 S (HTU.out _) ?_; clear S; intro eU S; clear bH bC bF bD) | (refine boxS 9 _ 23 S ?_; clear S; intro b9 gV S) | (refine ik 23 9 24 #[.int .i64 S0, .int .i64 T0, .int .i64 D, .int .i64 E] 0 4 S ?_; clear S; intro ji S; obtain ⟨bH, bC, bF, bD⟩ := St.at4 S bz) | (refine gX 30 rfl ?_; (refine gy (by rfl) ?_; dsimp only); refine bT (some 30) Try.func128 S (Nu xg.out) ?_; clear S; intro mg S; clear bH bC bF bD))
  go_ret3
  rw [HQ.out]
  exact ⟨none, 0, none, 0, .cells #[] 0 (0, 0), .cells #[] 0 (0, 0), rfl, (fun h => by cases h), S.out.below⟩
 have hq := SB hax hm h0
 rw [← hS0, ← hT0, ← hD, ← hE] at hq
 have hb := UT hax hm
 rw [← hS0, ← hD] at hb
 have HB := ae.mk hb
 rw [hq]
 obtain ⟨Jl, wo, SN⟩ := eqF (a := (sizes.length : Int)) (b := 0) (by omega)
 have SQ : (sizes.length == 0) = false := beq_eq_false_iff_ne.mpr (by omega)
 have SS : decide (sizes.length = 0) = false := decide_eq_false (by omega)
 obtain ⟨R, hR⟩ : ∃ R, R = nH ax S0 T0 D E 0 true [] [] sizes := ⟨_, rfl⟩
 rw [← hR]
 have HR := ae.mk hR
 clear hq hb hm h0 hax hS0 hT0 hD hE hR
 go_enter Try.func45, Try.ntmps45
 go_wp2_with (first | (refine boxS 3 _ 23 S ?_; clear S; intro b3 dQ S; obtain ⟨bH, bC, bF, bD⟩ := St.at4 S (.head _)) | (refine bT (some 23) Try.func127 S (HTU.out _) ?_; clear S; intro eU S; clear bH bC bF bD) | (refine boxS 9 _ 23 S ?_; clear S; intro b9 gV S) | (refine ik 23 9 24 #[.int .i64 S0, .int .i64 T0, .int .i64 D, .int .i64 E] 0 4 S ?_; clear S; intro ji S; obtain ⟨bH, bC, bF, bD⟩ := St.at4 S bz) | (refine gX 30 rfl ?_; (refine gy (by rfl) ?_; dsimp only); refine bT (some 30) Try.func128 S (Nu xg.out) ?_; clear S; intro mg S; clear bH bC bF bD; have sD := (S.out.at (.head _) 0).trans rfl))
 clear sD
 clear Jl wo SN SQ SS
 go_loopg [11, 12, 13, 42] sizes.length (fun gg v11 v12 v13 v42 wr => ∃ (pre rest : List Int) (off : Int) (ps ls : List dw) (Ap : Option Addr) (cp : Nat) (op : Obj) (Aq : Option Addr) (cq : Nat) (oq : Obj), v11 = .slice Ap ps.length cp ∧ v12 = .slice Aq ls.length cq ∧ v13 = .int .i64 (S0 + off) ∧ v42 = .int .i64 (pre.length : Int) ∧ ae (pre ++ rest = sizes) ∧ rest.length ≤ gg ∧ ae (0 ≤ off ∧ off ≤ D ∧ ps.length ≤ pre.length ∧ ls.length ≤ pre.length) ∧ ae (nH ax S0 T0 D E off (pre.length == 0) ps ls rest = R) ∧ ae (KR k23 23 w.heap.size (.slice Ap ps.length cp) ps op) ∧ ae (KR k23 23 w.heap.size (.slice Aq ls.length cq) ls oq) ∧ ae (St w (fun _ => True) [((Value.slice Aq ls.length cq).ownBlock, oq), ((Value.slice Ap ps.length cp).ownBlock, op), (some b9, .cells #[.int .i64 S0, .int .i64 T0, .int .i64 D, .int .i64 E] 23 (0, 0)), (some b3, .cells #[.int .i64 X, .int .i64 Y, .int .i64 Wd, .int .i64 H] 23 (0, 0))] [] [] [] wr))
 case atStart => exact ⟨[], sizes, 0, [], [], none, 0, _, none, 0, _, rfl, rfl, by rw [Int.add_zero], rfl, ⟨rfl⟩, Nat.le_refl _, ⟨by have := HB.out; simp; omega⟩, ⟨HR.out.symm⟩, ⟨KC _ _ _⟩, ⟨KC _ _ _⟩, ⟨S.out.noK.noK⟩⟩
 case round =>
  clear S HR
  obtain ⟨pre, rest, off, ps, ls, Ap, cp, op, Aq, cq, oq, rfl, rfl, rfl, rfl, HE, hgg, HO, HG, iI, l_, S⟩ := hrel
  cases rest with
  | nil =>
   have hE := HE.out
   rw [List.append_nil] at hE
   subst hE
   clear HE hgg
   have hlt : ¬ ((pre.length : Int) < (pre.length : Int)) := by omega
   have hw : wrap64 (S0 + D) = S0 + D := by have := HB.out; unfold wrap64; omega
   have Rq := ae.mk (LP HG.out)
   by_cases hod : off = D
   case pos =>
    obtain ⟨hza, hzb, hzd⟩ := yT (a := (S0 + off)) (b := wrap64 (S0 + D)) (by omega)
    obtain ⟨hya, hyb, hyd⟩ := yT (a := (S0 + off)) (b := (S0 + D)) (by omega)
    have Kt := ae.mk hod
    clear hod hw
    have sD := (S.out.at dR 0).trans rfl
    have oJ := (S.out.at dR 2).trans rfl
    go_wp2
    clear sD oJ
    go_ret3
    rw [Rq.out, if_pos Kt.out]
    have S2 := S.out.sW
    exact ⟨Ap, cp, Aq, cq, op, oq, rfl, fun _ => S2.Uu iI.out l_.out, S.out.below⟩
   case neg =>
    obtain ⟨hza, hzb, hzd⟩ := eqF (a := (S0 + off)) (b := wrap64 (S0 + D)) (by omega)
    obtain ⟨hya, hyb, hyd⟩ := eqF (a := (S0 + off)) (b := (S0 + D)) (by omega)
    have Kt := ae.mk hod
    clear hod hw
    have sD := (S.out.at dR 0).trans rfl
    have oJ := (S.out.at dR 2).trans rfl
    go_wp2
    clear sD oJ
    have HQ := ae.mk (Rq.out.trans (if_neg Kt.out))
    go_ret3
    rw [HQ.out]
    exact ⟨none, 0, none, 0, .cells #[] 0 (0, 0), .cells #[] 0 (0, 0), rfl, (fun h => by cases h), S.out.below⟩
  | cons n ns =>
   have hlt : (pre.length : Int) < (sizes.length : Int) := by rw [← HE.out, List.length_append, List.length_cons]; omega
   have hw1 : wrap64 ((pre.length : Int) + 1) = ((pre ++ [n]).length : Int) := by have := jw.out; rw [List.length_append, List.length_singleton]; unfold wrap64; omega
   have HW1 := ae.mk hw1
   have iF := ae.mk hgg
   have zA := ae.mk (show ps.length ≤ 1000000 ∧ ls.length ≤ 1000000 by have := HO.out; have := jw.out; omega)
   have hrd : rd sizes (pre.length : Int) = n := by rw [← HE.out]; simp [rd, List.getD_eq_getElem?_getD]
   obtain ⟨Xx, ek, xi⟩ := Kd.iW (Kd.iq HI.out S.out.below) (pre.length : Int) (Int.natCast_nonneg _) hlt
   subst ek
   rw [hrd] at xi
   simp only [Int.toNat_natCast] at xi
   clear hrd hgg hw1
   go_upto_if 48 with fail
   clear xi
   go_cut [12, 13] (fun v12 v13 wc => ∃ (o' : Int) (ls' : List dw) (Aq : Option Addr) (cq : Nat) (oq : Obj), v12 = .slice Aq ls'.length cq ∧ v13 = .int .i64 (S0 + o') ∧ ae (0 ≤ o' ∧ o' ≤ D + 1 ∧ ls'.length ≤ pre.length + 1) ∧ ae (zS ax S0 T0 D E o' ps ls' n ns = R) ∧ ae (KR k23 23 w.heap.size (.slice Aq ls'.length cq) ls' oq) ∧ ae (St w (fun _ => True) [((Value.slice Aq ls'.length cq).ownBlock, oq), ((Value.slice Ap ps.length cp).ownBlock, op), (some b9, .cells #[.int .i64 S0, .int .i64 T0, .int .i64 D, .int .i64 E] 23 (0, 0)), (some b3, .cells #[.int .i64 X, .int .i64 Y, .int .i64 Wd, .int .i64 H] 23 (0, 0))] [] [] [] wc))
   case first =>
    by_cases hp2 : pre.length = 0
    case pos =>
     have hp : (pre.length == 0) = true := beq_iff_eq.mpr hp2
     obtain ⟨hpa, hpb⟩ := lY (a := 0) (b := (pre.length : Int)) (by omega)
     have hpc : decide (0 < pre.length) = false := decide_eq_false (by omega)
     have hpe : ¬ (0 < pre.length) := by omega
     have HG2 := ae.mk (show zS ax S0 T0 D E off ps ls n ns = R by have h := HG.out; rw [hp] at h; exact h)
     clear hp hp2
     go_wp2
     go_meet
     case rel => exact ⟨off, ls, _, _, _, rfl, rfl, ⟨by have := HO.out; omega⟩, HG2, l_, S⟩
    case neg =>
     have hp : (pre.length == 0) = false := beq_eq_false_iff_ne.mpr hp2
     obtain ⟨hpa, hpb⟩ := mZ (a := 0) (b := (pre.length : Int)) (by omega)
     have hpc : decide (0 < pre.length) = true := decide_eq_true (by omega)
     have hpe : 0 < pre.length := by omega
     have HG2 := ae.mk (show zS ax S0 T0 D E (off + 1) ps (ls ++ [nK ax (S0 + off) T0 E 1]) n ns = R by have h := HG.out; rw [hp] at h; exact h)
     have Ol := ae.mk (show wrap64 ((S0 + off) + 1) = S0 + (off + 1) by have := HO.out; have := HB.out; unfold wrap64; omega)
     clear hp hp2
     have Bz := (S.out.at dR 1).trans rfl
     have BA := (S.out.at dR 3).trans rfl
     go_wp2_with (first | (refine bT (some 57) Try.func127 S (FU pz.out (S0 + off) T0 1 E) ?_; clear S; intro dQ S; clear Bz BA) | (refine boxS 16 _ 23 S ?_; clear S; intro b16 eU S) | (refine ik 23 16 58 #[.int .i64 (tX ax (S0 + off) T0), .int .i64 (tX ax T0 (S0 + off)), .int .i64 (tX ax 1 E), .int .i64 (tX ax E 1)] 0 4 S ?_; clear S; intro gV S; obtain ⟨ab6, R_, Si, Sj⟩ := St.at4 S (.head _)) | (refine gX 63 rfl ?_; at_builtin; replace S := ae.mk S.out.sW; refine uO k23 23 rfl 60 62 42 _ 32 Try.underlying42 info23 rfl (by decide) (by decide) (by decide) S l_ ⟨tX ax (S0 + off) T0, tX ax T0 (S0 + off), tX ax 1 E, tX ax E 1⟩ [.int .i64 (tX ax (S0 + off) T0), .int .i64 (tX ax T0 (S0 + off)), .int .i64 (tX ax 1 E), .int .i64 (tX ax E 1)] (fun _ _ _ => qM _ _ _ _) (by have := zA.out; omega) ?_; clear S l_; intro Aq2 cq2 oq2 ji S l_; clear ab6 R_ Si Sj))
     go_meet
     case rel => exact ⟨off + 1, _, _, _, _, (by rw [List.length_append]; rfl), (by rw [Ol.out]), ⟨by have := HO.out; rw [List.length_append, List.length_singleton]; omega⟩, HG2, l_, ⟨S.out.sW.dA.qV.qV.qV.qV⟩⟩
   case rest =>
    clear S l_ HG
    obtain ⟨o', ls', Aq, cq, oq, rfl, rfl, qU, HG, l_, S⟩ := hcut
    rename World => wx
    have zA := ae.mk (show ps.length ≤ 1000000 ∧ ls'.length ≤ 1000001 by have := HO.out; have := qU.out; have := jw.out; omega)
    have hg : wrap64 (wrap64 (S0 + D) - (S0 + o')) = D - o' := by have := HB.out; have := qU.out; unfold wrap64; omega
    by_cases hn : n < 1
    case pos =>
     obtain ⟨hna, hnb⟩ := mZ (a := n) (b := 1) (by omega)
     have HQ := ae.mk (HG.out.symm.trans (AL (.inl hn)))
     go_wp2
     go_ret3
     rw [HQ.out]
     exact ⟨none, 0, none, 0, .cells #[] 0 (0, 0), .cells #[] 0 (0, 0), rfl, (fun h => by cases h), S.out.below⟩
    obtain ⟨hna, hnb⟩ := lY (a := n) (b := 1) (by omega)
    by_cases hd : D < o' + n
    case pos =>
     obtain ⟨hda, hdb⟩ := mZ (a := wrap64 (wrap64 (S0 + D) - (S0 + o'))) (b := n) (by omega)
     obtain ⟨hea, heb⟩ := mZ (a := D - o') (b := n) (by omega)
     have HQ := ae.mk (HG.out.symm.trans (AL (.inr hd)))
     have sD := (S.out.at dR 0).trans rfl
     have oJ := (S.out.at dR 2).trans rfl
     go_wp2
     clear sD oJ
     go_ret3
     rw [HQ.out]
     exact ⟨none, 0, none, 0, .cells #[] 0 (0, 0), .cells #[] 0 (0, 0), rfl, (fun h => by cases h), S.out.below⟩
    obtain ⟨hda, hdb⟩ := lY (a := wrap64 (wrap64 (S0 + D) - (S0 + o'))) (b := n) (by omega)
    obtain ⟨hea, heb⟩ := lY (a := D - o') (b := n) (by omega)
    have HG2 := ae.mk ((Oy (fun h => h.elim hn hd)).symm.trans HG.out)
    have HN := ae.mk hn
    have HD2 := ae.mk hd
    have Ol := ae.mk (show wrap64 ((S0 + o') + n) = S0 + (o' + n) by have := qU.out; have := HB.out; unfold wrap64; omega)
    clear hn hd hg
    obtain ⟨sD, Bz, oJ, BA⟩ := St.at4 S dR
    go_wp2_with (first | (refine bT (some 88) Try.func127 S (FU pz.out (S0 + o') T0 n E) ?_; clear S; intro dQ S; clear sD Bz oJ BA) | (refine boxS 18 _ 23 S ?_; clear S; intro b18 eU S) | (refine ik 23 18 89 #[.int .i64 (tX ax (S0 + o') T0), .int .i64 (tX ax T0 (S0 + o')), .int .i64 (tX ax n E), .int .i64 (tX ax E n)] 0 4 S ?_; clear S; intro gV S; obtain ⟨ab7, ab8, ab9, ab_⟩ := St.at4 S (.head _)) | (refine gX 94 rfl ?_; at_builtin; replace S := ae.mk S.out.uP; refine uO k23 23 rfl 91 93 42 _ 32 Try.underlying42 info23 rfl (by decide) (by decide) (by decide) S iI ⟨tX ax (S0 + o') T0, tX ax T0 (S0 + o'), tX ax n E, tX ax E n⟩ [.int .i64 (tX ax (S0 + o') T0), .int .i64 (tX ax T0 (S0 + o')), .int .i64 (tX ax n E), .int .i64 (tX ax E n)] (fun _ _ _ => qM _ _ _ _) (by have := zA.out; omega) ?_; clear S iI; intro J5 cp2 Nq ji S iI; clear ab7 ab8 ab9 ab_))
    have hw1 := HW1.out
    go_wp2
    go_roundg ns.length
    case measure => exact Nat.lt_of_lt_of_le (Nat.lt_succ_self _) iF.out
    case rel => exact ⟨pre ++ [n], ns, o' + n, _, ls', _, _, _, _, _, _, (by rw [List.length_append]; rfl), rfl, (by rw [Ol.out]), (by rw [hw1]), ⟨by rw [List.append_assoc]; exact HE.out⟩, Nat.le_refl _, ⟨by have := HO.out; have := qU.out; have := HN.out; have := HD2.out; simp only [List.length_append, List.length_singleton]; omega⟩, ⟨by rw [show ((pre ++ [n]).length == 0) = false by simp]; exact HG2.out⟩, iI, l_, ⟨S.out.sW.dA.qV.qV.uP.qV⟩⟩
def ag4.f (_ : Nat) (X Y Wd H ax : Int) (sizes : List Int) : Option (List dw × List dw × Bool) := if sizes.length ≤ 1000000 then some (ql X Y Wd H ax sizes) else none
theorem Two.lower {α β : Type} {d : Kd α} {e : TypeId} {d' : Kd β} {e' : TypeId} {w W W1 : World} {v v' : Value} {l : List α} {l' : List β} {o o' : Obj} (h : Two d e d' e' W W1 v l v' l' o o') (hs : w.heap.size ≤ W.heap.size) : Two d e d' e' w W1 v l v' l' o o' :=
 ⟨Bf h.one hs, Bf h.two hs, fun g hg => ⟨Nat.le_trans hs (h.at1 g hg).1, (h.at1 g hg).2⟩, fun g hg => ⟨Nat.le_trans hs (h.at2 g hg).1, (h.at2 g hg).2⟩, h.ne⟩
theorem ach (c : ai) (hl : c.f3.length ≤ 1000000) (b : Nat) (P : Nat → Prop) (A : Option Addr) (cc : Nat) (w : World) (hv : Kd.V k26 26 w b P (.slice A c.f3.length cc) c.f3) :
  Calls Try.prog 210 #[.agg #[.int .u8 c.f0, .int .i64 c.f1.f0, .int .i64 c.f1.f1, .int .i64 c.f1.f2, .int .i64 c.f1.f3, .int .i64 c.f2, .slice A c.f3.length cc]] w (J7 w (yc c)) := by
 have S := ae.mk (St.start (ts := [(.slice A c.f3.length cc, c.f3)]) (b0 := w.heap.size) (w := w) (P := P) (fun t ht => by rw [List.mem_singleton.1 ht]; exact gQ hv))
 have jw := ae.mk hl
 clear hl hv
 obtain ⟨ck, ⟨cx, cy, cw, ch⟩, aT, l⟩ := c
 simp only [] at S jw ⊢
 rw [show yc ⟨ck, ⟨cx, cy, cw, ch⟩, aT, l⟩ = ql cx cy cw ch (((ck - 2) % 256 + 1) % 256) (l.map (qi ck)) from rfl]
 obtain ⟨T, hT⟩ : ∃ T, T = ql cx cy cw ch (((ck - 2) % 256 + 1) % 256) (l.map (qi ck)) := ⟨_, rfl⟩
 rw [← hT]
 have HT := ae.mk hT
 clear hT
 go_enter Try.func210, Try.ntmps210
 go_wp2_with (first
  | (refine boxS 1 _ 26 S ?_; clear S; intro b1 dQ S; have iL := (S.out.at (.head _) 6).trans rfl)
  | fail)
 clear iL
 go_loopg [5, 11] l.length (fun gg v3 v9 wr => ∃ (pre rest : List ai) (Ap : Option Addr) (cp : Nat) (op : Obj), v3 = .slice Ap pre.length cp ∧ v9 = .int .i64 (pre.length : Int) ∧ ae (pre ++ rest = l) ∧ rest.length ≤ gg ∧ ae (KR (Kd.int .i64) 3 w.heap.size (.slice Ap pre.length cp) (pre.map (qi ck)) op) ∧ ae (St w P [((Value.slice Ap pre.length cp).ownBlock, op), (some b1, .cells #[.int .u8 ck, .int .i64 cx, .int .i64 cy, .int .i64 cw, .int .i64 ch, .int .i64 aT, .slice A l.length cc] 26 (0, 0))] [] [(.slice A l.length cc, l)] [] wr))
 case atStart => exact ⟨[], l, _, _, _, rfl, rfl, ⟨rfl⟩, Nat.le_refl _, ⟨KC _ _ _⟩, ⟨S.out.noK⟩⟩
 case round =>
  clear S
  obtain ⟨pre, rest, Ap, cp, op, rfl, rfl, HE, hgg, iI, S⟩ := hrel
  cases rest with
  | nil =>
   have hE := HE.out
   rw [List.append_nil] at hE
   have hE2 := hE.symm
   subst hE2
   clear hE HE hgg
   have hlt : ¬ ((l.length : Int) < (l.length : Int)) := by omega
   have hlm : (l.map (qi ck)).length = l.length := List.length_map _
   have hcut := fun W hi => afc cx cy cw ch (((ck - 2) % 256 + 1) % 256) (l.map (qi ck)) (by have := jw.out; simpa using this) Ap cp W hi
   rw [hlm, ← HT.out] at hcut
   have FY := ae.mk hcut
   clear hcut hlm
   have jZ := (S.out.at bz 1).trans rfl
   have ku := (S.out.at bz 2).trans rfl
   have kz := (S.out.at bz 3).trans rfl
   have kC := (S.out.at bz 4).trans rfl
   have fV := (S.out.at bz 0).trans rfl
   go_wp2_with (first
    | (refine iw (some 38) Try.func45 (FY.out _ (by have h := (Kd.dP (KA iI.out S.out (.head _))).2.2; rw [List.length_map] at h; exact h)) ?_; rintro e eU ⟨A1, c1, A2, c2, o1, o2, rfl, h1, hb⟩; refine ⟨_, rfl, ?_⟩; have HCU := ae.mk (fun h => (h1 h).lower S.out.below.size); replace S := ae.mk (S.out.call hb); clear h1 hb; clear jZ ku kz kC fV)
    | fail)
   go_ret3
   exact ⟨_, _, _, _, _, _, rfl, HCU.out, S.out.below⟩
  | cons k rest =>
   have hk : k ∈ l := by rw [← HE.out]; simp
   have hlt : (pre.length : Int) < (l.length : Int) := by rw [← HE.out, List.length_append, List.length_cons]; omega
   have hw1 : wrap64 ((pre.length : Int) + 1) = ((pre ++ [k]).length : Int) := by have := jw.out; rw [List.length_append, List.length_singleton]; unfold wrap64; omega
   have HW1 := ae.mk hw1
   have iF := ae.mk hgg
   have HK := ae.mk hk
   have Et := ae.mk (show pre.length ≤ 1048576 by have := jw.out; omega)
   obtain ⟨kG, ua, uc, ek, S1⟩ := S.out.elem (.head _) (pre.length : Int) (Int.natCast_nonneg _) hlt
   subst ek
   have hrd : az l (pre.length : Int) = k := by rw [← HE.out]; exact lU pre k rest
   rw [hrd] at S1
   simp only [Int.toNat_natCast] at S1
   replace S := ae.mk S1
   clear S1 hrd hk hgg hw1
   by_cases hk2 : ck = 2
   case pos =>
    have hka : (ck == 2) = true := beq_iff_eq.mpr hk2
    have hkb : decide (ck = 2) = true := decide_eq_true hk2
    have Ky := ae.mk (show (pre ++ [k]).map (qi ck) = pre.map (qi ck) ++ [k.f1.f2] by rw [List.map_append]; exact congrArg (pre.map (qi ck) ++ [·]) (if_pos hk2))
    clear hk2
    obtain ⟨iJ, jD, kK, jX, jY, mO, mP⟩ := St.Jh S
    go_wp2_with (first
     | (refine boxS 7 _ 26 S ?_; clear S; intro b7 gV S; clear iJ jD kK jX jY mO mP)
     | (refine ik 26 7 14 #[.int .u8 k.f0, .int .i64 k.f1.f0, .int .i64 k.f1.f1, .int .i64 k.f1.f2, .int .i64 k.f1.f3, .int .i64 k.f2, .slice ua k.f3.length uc] 0 7 S ?_; clear S; intro ji S; have fV := (S.out.at dR 0).trans rfl; have ae4 := (S.out.at (.head _) 3).trans rfl)
     | (refine gX 23 rfl ?_; at_builtin; replace S := ae.mk S.out.sW; refine uO (Kd.int .i64) 3 rfl 18 22 41 (.int .i64 0) 8 Try.underlying41 info3 rfl (by decide) (by decide) (by decide) S iI k.f1.f2 [.int .i64 k.f1.f2] (fun _ _ _ => rfl) (by have := Et.out; simp only [List.length_map]; omega) ?_; clear S iI; intro J5 cp2 Nq mg S iI; clear fV ae4)
     | fail)
    have e2 : ((pre.map (qi ck)) ++ [k.f1.f2]).length = (pre ++ [k]).length := by simp
    rw [e2, ← Ky.out] at iI
    rw [e2] at S
    have hw1 := HW1.out
    go_wp2
    go_roundg rest.length
    case measure => exact Nat.lt_of_lt_of_le (Nat.lt_succ_self _) iF.out
    case rel => exact ⟨pre ++ [k], rest, _, _, _, (by rw [List.length_append]; rfl), (by rw [hw1]), ⟨by rw [List.append_assoc]; exact HE.out⟩, Nat.le_refl _, iI, ⟨S.out.sW.dA.sW.sW.dG.bJ.bJ.bJ.bJ.bJ.bJ.bJ⟩⟩
   case neg =>
    have hka : (ck == 2) = false := beq_eq_false_iff_ne.mpr hk2
    have hkb : decide (ck = 2) = false := decide_eq_false hk2
    have Ky := ae.mk (show (pre ++ [k]).map (qi ck) = pre.map (qi ck) ++ [k.f1.f3] by rw [List.map_append]; exact congrArg (pre.map (qi ck) ++ [·]) (if_neg hk2))
    clear hk2
    obtain ⟨iJ, jD, kK, jX, jY, mO, mP⟩ := St.Jh S
    go_wp2_with (first
     | (refine boxS 7 _ 26 S ?_; clear S; intro b7 zQ S; clear iJ jD kK jX jY mO mP)
     | (refine ik 26 7 14 #[.int .u8 k.f0, .int .i64 k.f1.f0, .int .i64 k.f1.f1, .int .i64 k.f1.f2, .int .i64 k.f1.f3, .int .i64 k.f2, .slice ua k.f3.length uc] 0 7 S ?_; clear S; intro xO S; have fV := (S.out.at dR 0).trans rfl; have ae5 := (S.out.at (.head _) 4).trans rfl)
     | (refine gX 29 rfl ?_; at_builtin; replace S := ae.mk S.out.sW; refine uO (Kd.int .i64) 3 rfl 24 28 41 (.int .i64 0) 8 Try.underlying41 info3 rfl (by decide) (by decide) (by decide) S iI k.f1.f3 [.int .i64 k.f1.f3] (fun _ _ _ => rfl) (by have := Et.out; simp only [List.length_map]; omega) ?_; clear S iI; intro J5 cp2 Nq xP S iI; clear fV ae5)
     | fail)
    have e2 : ((pre.map (qi ck)) ++ [k.f1.f3]).length = (pre ++ [k]).length := by simp
    rw [e2, ← Ky.out] at iI
    rw [e2] at S
    have hw1 := HW1.out
    go_wp2
    go_roundg rest.length
    case measure => exact Nat.lt_of_lt_of_le (Nat.lt_succ_self _) iF.out
    case rel => exact ⟨pre ++ [k], rest, _, _, _, (by rw [List.length_append]; rfl), (by rw [hw1]), ⟨by rw [List.append_assoc]; exact HE.out⟩, Nat.le_refl _, iI, ⟨S.out.sW.dA.sW.sW.dG.bJ.bJ.bJ.bJ.bJ.bJ.bJ⟩⟩
theorem ace (k : ai) (r : dw) (A : Option Addr) (cc : Nat) (w : World) :
  Calls Try.prog 212 #[.agg #[.int .u8 k.f0, .int .i64 k.f1.f0, .int .i64 k.f1.f1, .int .i64 k.f1.f2, .int .i64 k.f1.f3, .int .i64 k.f2, .slice A k.f3.length cc], .agg #[.int .i64 r.f0, .int .i64 r.f1, .int .i64 r.f2, .int .i64 r.f3]] w fun e w' => e = .returned (.bool (qx k.f1 r)) ∧ Below w.heap.size w w' := by
 have S := ae.mk (St.start (ts := []) (b0 := w.heap.size) (w := w) (P := fun _ => True) (fun _ h => by cases h))
 go_enter Try.func212, Try.ntmps212
 go_wp2_with (first
  | (refine boxS 2 _ 26 S ?_; clear S; intro b2 dQ S)
  | (refine boxS 3 _ 23 S ?_; clear S; intro b3 eU S; obtain ⟨bH, bC, bF, bD⟩ := St.at4 S (.head _); have vN := (S.out.at bz 1).trans rfl; have vO := (S.out.at bz 2).trans rfl; have vP := (S.out.at bz 3).trans rfl; have vS := (S.out.at bz 4).trans rfl)
  | fail)
 clear bH bC bF bD vN vO vP vS
 all_goals (go_ret; refine ⟨?_, S.out.below⟩; clear S; simp [qx, *])
theorem Wn (c : ai) (hl : c.f3.length ≤ 1000000) (b : Nat) (P : Nat → Prop) (A : Option Addr) (cc : Nat) (w : World) (hv : Kd.V k26 26 w b P (.slice A c.f3.length cc) c.f3) :
  Calls Try.prog 206 #[.agg #[.int .u8 c.f0, .int .i64 c.f1.f0, .int .i64 c.f1.f1, .int .i64 c.f1.f2, .int .i64 c.f1.f3, .int .i64 c.f2, .slice A c.f3.length cc]] w (P5 w c) := by
 have S := ae.mk (St.start (ts := [(.slice A c.f3.length cc, c.f3)]) (b0 := w.heap.size) (w := w) (P := P) (fun t ht => by rw [List.mem_singleton.1 ht]; exact gQ hv))
 have hcut := fun b P A cc W hV => ach c hl b P A cc W hV
 have ho : mD c = BM c (yc c) := rfl
 have hl2 := (LV c).2
 unfold P5
 generalize mD c = v at ho ⊢
 generalize yc c = T at ho hl2 hcut
 clear hl hv
 obtain ⟨ck, ⟨cx, cy, cw, ch⟩, aT, l⟩ := c
 obtain ⟨t1, t2, t3⟩ := T
 simp only [BM] at S hl2 hcut ho ⊢
 have HL2 := ae.mk hl2
 clear hl2
 by_cases h1 : ck = 1
 case pos =>
  have hv : v = true := by rw [ho, h1]; rfl
  have ha : (ck == 1) = true := beq_iff_eq.mpr h1
  have hb : decide (ck = 1) = true := decide_eq_true h1
  have HL := ae.mk hv
  clear hv h1 ho hcut
  go_enter Try.func206, Try.ntmps206
  go_wp2_with (first
   | (refine boxS 1 _ 26 S ?_; clear S; intro b1 dQ S; have fV := (S.out.at (.head _) 0).trans rfl)
   | fail)
  clear fV
  go_ret2
  rw [HL.out]
  exact ⟨_, _, _, rfl, fun _ => ⟨[], rfl, Nat.zero_le _, Kd.uz _ _ _ _ _⟩, S.out.below⟩
 have ha : (ck == 1) = false := beq_eq_false_iff_ne.mpr h1
 have hd : decide (ck = 1) = false := decide_eq_false h1
 rw [ha, Bool.false_or] at ho
 clear h1
 cases t3 with
 | false =>
  rw [Bool.false_and] at ho
  have HL := ae.mk ho
  have FY := ae.mk (fun b P A cc W hV => LW (hcut b P A cc W hV))
  clear hcut ho
  go_enter Try.func206, Try.ntmps206
  go_wp2_with (first
   | (refine boxS 1 _ 26 S ?_; clear S; intro b1 dQ S; obtain ⟨fV, jZ, ku, kz, kC, lZ, iL⟩ := St.fA S (.head _))
   | (refine iw (some 12) Try.func210 (FY.out _ _ _ _ _ (S.out.tree _ (.head _))) ?_; rintro e eU ⟨Ap, np, cp, Aq, nq, cq, rfl, hb⟩; refine ⟨_, rfl, ?_⟩; replace S := ae.mk (S.out.call hb); clear hb; clear fV jZ ku kz kC lZ iL)
   | fail)
  go_ret2
  rw [HL.out]
  exact ⟨_, _, _, rfl, (fun h => by cases h), S.out.below⟩
 | true =>
  rw [Bool.true_and] at ho
  have FY := ae.mk (fun b P A cc W hV => Oz (hcut b P A cc W hV))
  have HEF := ae.mk (fun (A B : Option Addr) (ca cb : Nat) (W : World) (h1 : Kd.C k26 W A l.length l) (h2 : Kd.C k23 W B t1.length t1) => (show Calls Try.prog 211 #[.slice A l.length ca, .slice B t1.length cb, .func (.func 212) #[] #[]] W fun e w' => e = .returned (.bool v) ∧ Below W.heap.size W w' by rw [ho]; exact acr (fun k r => qx k.f1 r) 212 (rJ Try.func212 (by decide +kernel) (by kernel_rfl)) l t1 A B ca cb W h1 h2 (fun W x X cx y _ _ _ _ => ace x y X cx W)))
  clear hcut ho
  go_enter Try.func206, Try.ntmps206
  go_wp2_with (first
   | (refine boxS 1 _ 26 S ?_; clear S; intro b1 dQ S; obtain ⟨fV, jZ, ku, kz, kC, lZ, iL⟩ := St.fA S (.head _))
   | (refine iw (some 12) Try.func210 (FY.out _ _ _ _ _ (S.out.tree _ (.head _))) ?_; rintro e eU ⟨Ap, cp, Aq, cq, op, oq, rfl, h1, hb⟩; refine ⟨_, rfl, ?_⟩; obtain ⟨S1, hp, hq⟩ := S.out.two h1 hb; replace S := ae.mk S1; have iI := ae.mk hp; have l_ := ae.mk hq; clear S1 hp hq h1 hb; clear fV jZ ku kz kC lZ iL; have iL := (S.out.at dR 6).trans rfl)
   | (refine gX 22 rfl ?_; (refine gy (by rfl) ?_; dsimp only); refine bT (some 22) Try.func211 S (HEF.out _ _ _ _ _ (Kd.kR (S.out.tree _ (.head _))).2.2 (Va iI.out S.out (.head _)).1) ?_; clear S; intro gV S; clear iL)
   | fail)
  go_ret2
  exact ⟨_, _, _, rfl, fun _ => ⟨t2, rfl, HL2.out, S.out.FB l_.out bz⟩, S.out.below⟩
def pg (w0 : World) (gw j : Nat) (W : World) : Prop := Below w0.heap.size w0 W ∧ ∃ (n : Int) (v : Value) (ls : List dw), W.heap[gw]? = some (.cells #[.int .i64 n, v] 182 (0, 0)) ∧ Kd.R k23 23 W w0.heap.size (fun _ => True) v ls ∧ ls.length ≤ j
def Fr (gw : Nat) (W W' : World) : Prop := ∀ k cs t, k ≠ gw → t ≠ 23 → W.heap[k]? = some (.cells cs t (0, 0)) → W'.heap[k]? = some (.cells cs t (0, 0))
theorem Fr.refl (gw : Nat) (W : World) : Fr gw W W := fun _ _ _ _ _ h => h
theorem Fr.trans {gw : Nat} {W W1 W2 : World} (h : Fr gw W W1) (k : Fr gw W1 W2) : Fr gw W W2 := fun i cs t hi ht hb => k i cs t hi ht (h i cs t hi ht hb)
theorem Fr.below {gw : Nat} {W W1 : World} (h : Below W.heap.size W W1) : Fr gw W W1 := fun _ _ _ _ _ hb => aI hb h
theorem Fr.store {gw : Nat} {W W1 : World} (h : W.grownBy W1 (some gw)) : Fr gw W W1 := fun _ _ _ hi _ hb => cO hb h (fun e => absurd (Option.some.inj e) hi)
theorem Fr.append {gw base : Nat} {W W1 : World} {v : Value} {xs : List dw} {ok : Nat → Prop} (hv : Kd.R k23 23 W base ok v xs) (h : W.grownBy W1 v.ownBlock) : Fr gw W W1 := fun _ _ _ _ ht hb => cO hb h (Kd.EZ hv hb (fun e => ht e.symm))
theorem pg.below {w0 W W1 : World} {gw j : Nat} (h : pg w0 gw j W) (hb : Below W.heap.size W W1) : pg w0 gw j W1 := by
 obtain ⟨h1, n, v, ls, h2, h3, h4⟩ := h
 exact ⟨ak h1 hb, n, v, ls, aI h2 hb, Kd.pG h3 hb, h4⟩
theorem pg.mono {w0 W : World} {gw j j' : Nat} (h : pg w0 gw j W) (hj : j ≤ j') : pg w0 gw j' W := by
 obtain ⟨h1, n, v, ls, h2, h3, h4⟩ := h
 exact ⟨h1, n, v, ls, h2, h3, Nat.le_trans h4 hj⟩
theorem acd (x : ai) (B : Option Addr) (cb b3 gw : Nat) (r : Bool) (R : World → Prop) (W : World) (hk : W.heap[b3]? = some (.cells #[.pointer (some ⟨gw, 0, none⟩)] 180 (0, 0)))
  (h : ∀ W1, Below W.heap.size W W1 → Calls Try.prog 197 #[.pointer (some ⟨gw, 0, none⟩), .agg #[.int .u8 x.f0, .int .i64 x.f1.f0, .int .i64 x.f1.f1, .int .i64 x.f1.f2, .int .i64 x.f1.f3, .int .i64 x.f2, .slice B x.f3.length cb]] W1 fun e w' => e = .returned (.bool r) ∧ R w') :
  Calls Try.prog 207 (#[.agg #[.int .u8 x.f0, .int .i64 x.f1.f0, .int .i64 x.f1.f1, .int .i64 x.f1.f2, .int .i64 x.f1.f3, .int .i64 x.f2, .slice B x.f3.length cb]] ++ #[.pointer (some ⟨b3, 0, none⟩)]) W fun e w' => e = .returned (.bool (!r)) ∧ R w' := by
 have HK := ae.mk hk
 have H := ae.mk h
 clear hk h
 simp only [List.append_toArray, List.cons_append, List.nil_append]
 cases r
 all_goals
  go_enter Try.func207, Try.ntmps207
  go_wp2_with (first
   | ((with_reducible refine aC (N := 2) rfl ?_); refine aK ?hg (N := 2) ?hd (cs := #[.int .u8 x.f0, .int .i64 x.f1.f0, .int .i64 x.f1.f1, .int .i64 x.f1.f2, .int .i64 x.f1.f3, .int .i64 x.f2, .slice B x.f3.length cb]) (t := 26) ?hr ?_; (case hd => rfl); (case hg => rfl); (case hr => first | (go_simp; done) | (go_simp; rfl)); intro b2 hg X9 hbox hb; have lX := ae.mk hbox; have HB := ae.mk hb; have K3 := ae.mk (aI HK.out hb); have d0 := (af K3.out 0).trans rfl; have c0 := (af lX.out 0).trans rfl; have c1 := (af lX.out 1).trans rfl; have c2 := (af lX.out 2).trans rfl; have c3 := (af lX.out 3).trans rfl; have c4 := (af lX.out 4).trans rfl; have c5 := (af lX.out 5).trans rfl; have c6 := (af lX.out 6).trans rfl; clear hb hbox hg)
   | fail)
  clear c0 c1 c2 c3 c4 c5 c6 d0
  refine (H.out _ HB.out).mono ?_
  rintro e w' ⟨rfl, hR⟩
  have HR := ae.mk hR
  clear hR
  go_wp2
  go_ret
  exact ⟨rfl, HR.out⟩
def qj.T5 : Bool × List (List Nat × List Nat) := (true, [([], []), ([], []), ([1], [1]), ([2], [2]), ([3], [3]), ([], []), ([4, 5], [4, 5]), ([0, 0, 1, 2, 3, 4, 5, 6], [0]), ([7, 0, 1, 2, 3, 4, 5, 6], [7]), ([8, 6, 6, 0, 1, 2, 3, 4, 5, 6], [6, 8])])
def qj.B5 : List Nat := [0, 0, 2, 6, 14, 0, 62, 127, 255, 511]
theorem qj.IK : iD .any (opsOf Try.f197 5) = qj.T5 := by kernel_rfl
theorem qj.D8 : iG qj.T5.2 qj.B5 = true := by kernel_rfl
theorem aaI (w0 : World) (gw : Nat) (hgw : w0.heap.size ≤ gw) : ∀ (N : Nat) (c : ai), sz c ≤ N → N ≤ 20000 → ∀ (A : Option Addr) (cc : Nat), Kd.C k26 w0 A c.f3.length c.f3 → c.f3.length ≤ cc → ∀ (j : Nat) (W : World), j + dN c.f3 ≤ 1000000 → pg w0 gw j W →
  Calls Try.prog 197 #[.pointer (some ⟨gw, 0, none⟩), .agg #[.int .u8 c.f0, .int .i64 c.f1.f0, .int .i64 c.f1.f1, .int .i64 c.f1.f2, .int .i64 c.f1.f3, .int .i64 c.f2, .slice A c.f3.length cc]] W fun e w' => e = .returned (.bool (kJ c)) ∧ pg w0 gw (j + dN c.f3) w' ∧ Fr gw W w' := by
 intro N
 induction N with
 | zero => intro c h; rw [bZ] at h; omega
 | succ N ih =>
  intro c hc hN A cc hr hlc j W hj hI
  have hsz := bZ c
  have hlen := jJ c.f3
  have XH : ∀ (b2 j1 : Nat) (W1 : World), b2 ≠ gw → W1.heap[b2]? = some (.cells #[.pointer (some ⟨gw, 0, none⟩)] 180 (0, 0)) → pg w0 gw j1 W1 → j1 ≤ j + c.f3.length →
    Calls Try.prog 174 #[.slice A c.f3.length cc, .func (.func 207) #[] #[.pointer (some ⟨b2, 0, none⟩)]] W1 fun e w' => e = .returned (.bool (!(c.f3.all kJ))) ∧ pg w0 gw (j + dN c.f3) w' ∧ Fr gw W1 w' := by
   intro b2 j1 W1 hne hk hi hj1
   have hcon := Ox (fun rest w' => (∃ i, pg w0 gw i w' ∧ i + dN rest ≤ (j + dN c.f3) + rest.length) ∧ Fr gw W1 w') (fun x => !kJ x) 207 #[.pointer (some ⟨b2, 0, none⟩)] (rJ Try.func207 (by decide +kernel) (by kernel_rfl)) c.f3 A cc w0 hr
    (fun s w' h => by obtain ⟨⟨i, h1, _⟩, _⟩ := h; exact h1.1)
    (fun s w' n h => by obtain ⟨⟨i, h1, h2⟩, h3⟩ := h; exact ⟨⟨i, h1.below (eH (Below.refl _ _) n), h2⟩, h3.trans (Fr.below (eH (Below.refl _ _) n))⟩)
    (fun x rest w' B cb hx hp h hCx hlx => by
     obtain ⟨⟨i, h1, h2⟩, h3⟩ := h
     obtain ⟨pre, hp⟩ := hp
     have e1 : dN c.f3 = dN pre + (sz x + dN rest) := by rw [← hp, ou, bU]
     have e2 := bZ x
     have e3 := jJ rest
     have e4 := jJ pre
     rw [bU, List.length_cons] at h2
     refine (acd x B cb b2 gw (kJ x) (fun w'' => pg w0 gw (i + dN x.f3) w'' ∧ Fr gw W1 w'') w' (h3 b2 _ 180 hne (by decide) hk) (fun W2 hb2 => ?_)).mono ?_
     ·refine (ih x (by omega) (by omega) B cb hCx hlx i W2 (by omega) (h1.below hb2)).mono ?_
      rintro e w'' ⟨he, hi2, hf⟩
      exact ⟨he, hi2, h3.trans ((Fr.below hb2).trans hf)⟩
     ·rintro e w'' ⟨he, hi2, hf⟩
      refine ⟨he, ⟨⟨i + dN x.f3, hi2, ?_⟩, hf⟩⟩
      split
      ·rw [wP]; show _ ≤ _ + 0; omega
      ·omega)
    W1 ⟨⟨j1, hi, by omega⟩, Fr.refl gw W1⟩ hr.2.1
   refine hcon.mono ?_
   rintro e w' ⟨he, ⟨i, h1, h2⟩, h3⟩
   rw [wP] at h2
   refine ⟨?_, h1.mono (by simpa using h2), h3⟩
   rw [he, List.not_all_eq_any_not]
  have hL : ∀ W1, Below w0.heap.size w0 W1 → Calls Try.prog 206 #[.agg #[.int .u8 c.f0, .int .i64 c.f1.f0, .int .i64 c.f1.f1, .int .i64 c.f1.f2, .int .i64 c.f1.f3, .int .i64 c.f2, .slice A c.f3.length cc]] W1 fun e w' => ∃ Au n cu, e = .returned (.tuple #[.slice Au n cu, .bool (mD c)]) ∧ (mD c = true → ∃ us : List dw, n = us.length ∧ us.length ≤ c.f3.length ∧ k23.R 23 w' W1.heap.size (fun _ => True) (.slice Au us.length cu) us) ∧ Below W1.heap.size W1 w' := fun W1 hb => Wn c (by omega) W1.heap.size (fun _ => True) A cc W1 (Kd.uD hlc (Kd.ru (Kd.CB nJ (Kd.iq hr hb)) (fun _ _ => trivial)))
  rw [rZ]
  obtain ⟨hB, n, v, ls, hK, hV, hls⟩ := hI
  obtain ⟨Av, cv, ev⟩ := Kd.fU hV
  subst ev
  have HB := ae.mk hB
  have KW := ae.mk hK
  have RV := ae.mk hV
  have FR := ae.mk (Fr.refl gw W)
  have Og := ae.mk hgw
  have PU := ae.mk XH
  have HL := ae.mk hL
  have Oi := ae.mk hls
  have HJ := ae.mk hj
  have HN := ae.mk hlen
  clear hB hK hV XH hL hls hj hlen hsz ih hr hlc hc hN
  obtain ⟨ck, ⟨cx, cy, cw, ch⟩, aT, l⟩ := c
  simp only [] at PU HL HJ HN ⊢
  generalize mD ⟨ck, ⟨cx, cy, cw, ch⟩, aT, l⟩ = q at HL ⊢
  generalize l.all kJ = p at PU ⊢
  cases q with
  | false =>
   rw [Bool.false_and]
   go_enter Try.func197, Try.ntmps197
   go_wp2_with (first
    | ((with_reducible refine aC (N := 2) rfl ?_); refine aK ?hg (N := 2) ?hd (cs := #[.pointer (some ⟨gw, 0, none⟩)]) (t := 180) ?hr ?_; (case hd => rfl); (case hg => rfl); (case hr => first | (go_simp; done) | (go_simp; rfl)); intro b2 hg X9 hbox hb; have lX := ae.mk hbox; have Xq := ae.mk (show b2 ≠ gw by rw [hg]; exact Nat.ne_of_gt (fD KW.out)); have cZ := ae.mk (ak HB.out hb); have pW := ae.mk (aI KW.out hb); have nN := ae.mk (Kd.pG RV.out hb); have nM := ae.mk (FR.out.trans (Fr.below hb)); clear HB KW RV FR; have HB := cZ; have KW := pW; have RV := nN; have FR := nM; clear cZ pW nN nM; clear hb hbox hg)
    | ((with_reducible refine aC (N := 3) rfl ?_); refine aK ?hg (N := 3) ?hd (cs := #[.int .u8 ck, .int .i64 cx, .int .i64 cy, .int .i64 cw, .int .i64 ch, .int .i64 aT, .slice A l.length cc]) (t := 26) ?hr ?_; (case hd => rfl); (case hg => rfl); (case hr => first | (go_simp; done) | (go_simp; rfl)); intro b3 hg U1 hbox hb; have bW := ae.mk hbox; have NE3 := ae.mk (show b3 ≠ gw by rw [hg]; exact Nat.ne_of_gt (fD KW.out)); have cZ := ae.mk (ak HB.out hb); have pW := ae.mk (aI KW.out hb); have nN := ae.mk (Kd.pG RV.out hb); have nM := ae.mk (FR.out.trans (Fr.below hb)); have oQ := ae.mk (aI lX.out hb); clear HB KW RV FR lX; have HB := cZ; have KW := pW; have RV := nN; have FR := nM; have lX := oQ; clear cZ pW nN nM oQ; have c0 := (af bW.out 0).trans rfl; have c1 := (af bW.out 1).trans rfl; have c2 := (af bW.out 2).trans rfl; have c3 := (af bW.out 3).trans rfl; have c4 := (af bW.out 4).trans rfl; have c5 := (af bW.out 5).trans rfl; have c6 := (af bW.out 6).trans rfl; clear hb hbox hg)
    | fail)
   clear c0 c1 c2 c3 c4 c5 c6
   refine (HL.out _ HB.out).mono ?_
   rintro e w1 ⟨Au, nu, cu, rfl, _, hb⟩
   have cZ := ae.mk (ak HB.out hb); have pW := ae.mk (aI KW.out hb); have nN := ae.mk (Kd.pG RV.out hb); have nM := ae.mk (FR.out.trans (Fr.below hb)); have oQ := ae.mk (aI lX.out hb); have vW := ae.mk (aI bW.out hb); clear HB KW RV FR lX bW; have HB := cZ; have KW := pW; have RV := nN; have FR := nM; have lX := oQ; have bW := vW; clear cZ pW nN nM oQ vW
   clear hb
   go_wp2
   go_ret
   exact ⟨rfl, ⟨HB.out, n, _, ls, KW.out, RV.out, by have := Oi.out; omega⟩, FR.out⟩
  | true =>
   rw [Bool.true_and]
   go_enter Try.func197, Try.ntmps197
   go_wp2_with (first
    | ((with_reducible refine aC (N := 2) rfl ?_); refine aK ?hg (N := 2) ?hd (cs := #[.pointer (some ⟨gw, 0, none⟩)]) (t := 180) ?hr ?_; (case hd => rfl); (case hg => rfl); (case hr => first | (go_simp; done) | (go_simp; rfl)); intro b2 hg X9 hbox hb; have lX := ae.mk hbox; have Xq := ae.mk (show b2 ≠ gw by rw [hg]; exact Nat.ne_of_gt (fD KW.out)); have cZ := ae.mk (ak HB.out hb); have pW := ae.mk (aI KW.out hb); have nN := ae.mk (Kd.pG RV.out hb); have nM := ae.mk (FR.out.trans (Fr.below hb)); clear HB KW RV FR; have HB := cZ; have KW := pW; have RV := nN; have FR := nM; clear cZ pW nN nM; clear hb hbox hg)
    | ((with_reducible refine aC (N := 3) rfl ?_); refine aK ?hg (N := 3) ?hd (cs := #[.int .u8 ck, .int .i64 cx, .int .i64 cy, .int .i64 cw, .int .i64 ch, .int .i64 aT, .slice A l.length cc]) (t := 26) ?hr ?_; (case hd => rfl); (case hg => rfl); (case hr => first | (go_simp; done) | (go_simp; rfl)); intro b3 hg U1 hbox hb; have bW := ae.mk hbox; have NE3 := ae.mk (show b3 ≠ gw by rw [hg]; exact Nat.ne_of_gt (fD KW.out)); have cZ := ae.mk (ak HB.out hb); have pW := ae.mk (aI KW.out hb); have nN := ae.mk (Kd.pG RV.out hb); have nM := ae.mk (FR.out.trans (Fr.below hb)); have oQ := ae.mk (aI lX.out hb); clear HB KW RV FR lX; have HB := cZ; have KW := pW; have RV := nN; have FR := nM; have lX := oQ; clear cZ pW nN nM oQ; have c0 := (af bW.out 0).trans rfl; have c1 := (af bW.out 1).trans rfl; have c2 := (af bW.out 2).trans rfl; have c3 := (af bW.out 3).trans rfl; have c4 := (af bW.out 4).trans rfl; have c5 := (af bW.out 5).trans rfl; have c6 := (af bW.out 6).trans rfl; clear hb hbox hg)
    | fail)
   clear c0 c1 c2 c3 c4 c5 c6
   refine (HL.out _ HB.out).mono ?_
   rintro e w1 ⟨Au, nu, cu, rfl, hu, hb⟩
   obtain ⟨us, eu, hul, hu2⟩ := hu trivial
   subst eu
   have jw := ae.mk hul
   have HU := ae.mk (Kd.pI hu2 HB.out.size)
   clear hul hu hu2
   have cZ := ae.mk (ak HB.out hb); have pW := ae.mk (aI KW.out hb); have nN := ae.mk (Kd.pG RV.out hb); have nM := ae.mk (FR.out.trans (Fr.below hb)); have oQ := ae.mk (aI lX.out hb); have vW := ae.mk (aI bW.out hb); clear HB KW RV FR lX bW; have HB := cZ; have KW := pW; have RV := nN; have FR := nM; have lX := oQ; have bW := vW; clear cZ pW nN nM oQ vW
   clear hb
   have d0 := (af lX.out 0).trans rfl
   have e0 := (af KW.out 0).trans rfl
   have e1 := (af KW.out 1).trans rfl
   go_wp2_with (first
    | ((with_reducible refine lH (.store 3 (.tmp 20) (.tmp 18)) rfl ?_); go_loud (refine f_ (w0 := w0) rfl rfl 3 (.tmp 20) (.tmp 18) rfl (g := gw) (j := 0) (base := w0.heap.size) #[.int .i64 (wrap64 (n + 1)), .slice Av ls.length cv] (u := .int .i64 (wrap64 (n + 1))) (bG := [.int .i64 (wrap64 (n + 1))]) ?sA ?sX rfl ?sT ?s1 KW.out ?sJ rfl HB.out HB.out.size Og.out ?_; (case sA => rfl); (case sX => rfl); (case sT => rfl); (case s1 => (simp [Value.oneCell'])); (case sJ => (first | decide | simp)); intro ws hbk hbb hgg; have nN := ae.mk (Kd.EY RV.out rfl hgg (fun k_ hk => hk ▸ Kd.EZ RV.out KW.out (by decide))); have ND := ae.mk (Kd.EY HU.out rfl hgg (fun k_ hk => hk ▸ Kd.EZ HU.out KW.out (by decide))); have nM := ae.mk (FR.out.trans (Fr.store hgg)); have oQ := ae.mk (cO lX.out hgg (fun e_ => absurd (Option.some.inj e_) Xq.out)); have vW := ae.mk (cO bW.out hgg (fun e_ => absurd (Option.some.inj e_) NE3.out)); clear RV HU FR lX bW; have RV := nN; have HU := ND; have FR := nM; have lX := oQ; have bW := vW; clear nN ND nM oQ vW; clear KW HB d0 e0 e1; have KW := ae.mk hbk; have HB := ae.mk hbb; clear hbk hbb hgg))
    | fail)
   have hb : Below ws.heap.size ws ws.drew := bg (Below.refl _ _)
   have cZ := ae.mk (ak HB.out hb); have pW := ae.mk (aI KW.out hb); have nN := ae.mk (Kd.pG RV.out hb); have nM := ae.mk (FR.out.trans (Fr.below hb)); have oQ := ae.mk (aI lX.out hb); have vW := ae.mk (aI bW.out hb); have ND := ae.mk (Kd.pG HU.out hb); clear HB KW RV FR lX bW HU; have HB := cZ; have KW := pW; have RV := nN; have FR := nM; have lX := oQ; have bW := vW; have HU := ND; clear cZ pW nN nM oQ vW ND
   clear hb
   refine iT (n := 10) (S := fun w' => Below w0.heap.size w0 w' ∧ w'.heap[b2]? = some (.cells #[.pointer (some ⟨gw, 0, none⟩)] 180 (0, 0)) ∧ w'.heap[gw]? = some (.cells #[.int .i64 (wrap64 (n + 1)), .slice Av ls.length cv] 182 (0, 0))) (ds := [9]) (bA 10 0) (by kernel_rfl) rfl rfl ⟨HB.out, lX.out, KW.out⟩ (fun hHeld => ?_); refine eP qj.IK qj.D8 (fun aj dW => ?_)
   generalize ws.drew = wd at HB KW RV FR lX bW HU hHeld ⊢
   refine dO 0 21 (bA 10 1) aj dW hHeld ?_ (hv := by intro w' hs_; have c := (af hs_.2.1 0).trans rfl; go_simp; with_reducible rfl)
   refine dO 1 22 (bA 10 3) aj dW hHeld ?_ (hv := by intro w' hs_; have c := (af hs_.2.1 0).trans rfl; go_simp; with_reducible rfl)
   refine au 2 23 (bA 10 7) aj ?_
   refine au 3 24 (bA 10 15) aj ?_
   refine dO 4 25 (bA 10 31) aj dW hHeld ?_ (hv := by intro w' hs_; have c := (af hs_.2.2 1).trans rfl; go_simp; with_reducible rfl)
   refine au 5 26 (bA 10 63) aj ?_
   refine jf 6 (some 27) (bA 10 127) aj (fun K hK => ?_)
   refine Kd.xn k23 (w0 := w0) w0.heap.size (by rfl) (.tmp 25) (.tmp 26) 42 23 (.agg #[(.int .i64 0), (.int .i64 0), (.int .i64 0), (.int .i64 0)]) 32 rfl Try.underlying42 info23 rfl (by decide) (by omega) (.slice Av ls.length cv) ls us Au us.length cu (fun _ => True) (fun _ => False) rfl rfl RV.out (Kd.dP HU.out).2.2 (fun _ _ h => h) (fun _ h => h.elim) (fun _ _ => trivial) HB.out HB.out.size (by have h1 := Oi.out; have h2 := jw.out; have h3 := HJ.out; have h4 := HN.out; omega) ?_
   intro v1 wk ho hb hg hat
   have q1 := ae.mk (FR.out.trans (Fr.append RV.out hg))
   have q2 := ae.mk (cO lX.out hg (Kd.EZ RV.out lX.out (by decide)))
   have q3 := ae.mk (cO bW.out hg (Kd.EZ RV.out bW.out (by decide)))
   have q4 := ae.mk (cO KW.out hg (Kd.EZ RV.out KW.out (by decide)))
   clear FR lX bW KW HB RV HU
   have FR := q1
   have lX := q2
   have bW := q3
   have KW := q4
   have HB := ae.mk hb
   have RV := ae.mk ho
   clear q1 q2 q3 q4 hb ho hg hat
   obtain ⟨A1, c1, e1⟩ := Kd.fU RV.out
   subst e1
   refine hK.out _ _ ⟨HB.out, lX.out, KW.out⟩ (fun hHeld => ?_)
   clear hK K
   refine dK 27 ?_
   refine au 7 28 (bA 10 255) aj ?_
   refine au 8 29 (bA 10 511) aj ?_
   refine nT 9 none (bA 10 1023) aj (fun K hK => ?_)
   obtain ⟨w9, Dt⟩ : ∃ w9, w9 = wk.setCells gw 1 [.slice A1 (ls ++ us).length c1] := ⟨_, rfl⟩
   have hst := qc (j := 1) (cs' := #[.int .i64 (wrap64 (n + 1)), .slice A1 (ls ++ us).length c1]) (bG := [.slice A1 (ls ++ us).length c1]) KW.out (by first | decide | simp) rfl
   rw [← Dt] at hst
   refine GZ (w1 := w9) (by rfl) rfl ?_ ?_
   ·rw [Dt]; exact BX 42 (.tmp 29) (.tmp 27) rfl (cs := #[.int .i64 (wrap64 (n + 1)), .slice Av ls.length cv]) (t0 := 182) (bG := [.slice A1 (ls ++ us).length c1]) rfl rfl rfl (by kernel_rfl) (by simp [Value.oneCell']) KW.out (by first | decide | simp)
   have J_ := ae.mk (grown_below HB.out hst.2 Og.out HB.out.size)
   have RV9 := ae.mk (Kd.EY RV.out rfl hst.2 (fun k_ hk => hk ▸ Kd.EZ RV.out KW.out (by decide)))
   have FR9 := ae.mk (FR.out.trans (Fr.store hst.2))
   have K29 := ae.mk (cO lX.out hst.2 (fun e_ => absurd (Option.some.inj e_) Xq.out))
   have K39 := ae.mk (cO bW.out hst.2 (fun e_ => absurd (Option.some.inj e_) NE3.out))
   have KW9 := ae.mk hst.1
   clear hst
   refine hK.out _ _ ?_
   clear hK K Dt
   refine jG (gK aj.out (by kernel_rfl)) ?_
   have c6 := (af K39.out 6).trans rfl
   cases p
   all_goals
    go_wp2_with fail
    refine (PU.out b2 (j + us.length) _ Xq.out K29.out ⟨J_.out, _, _, _, KW9.out, RV9.out, by have := Oi.out; rw [List.length_append]; omega⟩ (by have := jw.out; omega)).mono ?_
    rintro e w2 ⟨rfl, hi, hf⟩
    have HI := ae.mk hi
    have HF := ae.mk (FR9.out.trans hf)
    clear hi hf
    go_wp2
    go_ret
    exact ⟨rfl, HI.out, HF.out⟩
theorem adA : (Try.prog.info? 9).map (fun i => (i.zero, i.size, i.bytes)) = some (some (.string ⟨#[]⟩), 1, 16) := by kernel_rfl
theorem Uo (e at_ : Int) (he : e ≠ 0) (w : World) : Calls Try.prog 196 #[.int .i64 e, .int .i64 at_] w fun x w' => (∃ t v, x = .returned (.iface t v)) ∧ Below w.heap.size w w' := by
 have hb : (e == 0) = false := beq_eq_false_iff_ne.mpr he
 clear he
 go_enter Try.func196, Try.ntmps196
 go_wp2
 go_ret
 exact ⟨⟨_, _, rfl⟩, iU (Below.refl _ _) _⟩
theorem VB (ad : Addr) (c0 : Nat) (l0 : List ByteArray) (hl : l0.length ≤ 1000) (w : World) (hr0 : Kd.C Kd.string w (some ad) l0.length l0) (hc0 : l0.length ≤ c0) :
  Calls Try.prog 205 #[.slice (some ad) l0.length c0] w fun e w' => ∃ A n c, e = .returned (.slice A n c) ∧ Below w.heap.size w w' := by
 have heq : ∀ W : World, (binOp .eql 190 (.slice (some ad) l0.length c0) (.slice none 0 0)).run Try.prog W = .ok (.bool false) W := fun W => Lib.run_eql_slice_nil W 190 9 (some ad) l0.length c0 0 0 Try.underlying190
 have HR := ae.mk hr0
 have HL := ae.mk hl
 clear hl hr0
 go_enter Try.func205, Try.ntmps205
 go_wp2_with (first | ((with_reducible refine aC (N := 5) rfl ?_); refine Kd.vw Kd.string w.heap.size 9 ?hg (N := 5) ?hd (xs := ([] : List ByteArray)) (inner := []) (ok := fun _ => True) (fB := fun _ => True) ?hr ?hp (fun _ hk => hk) trivial (Below.refl _ _) (Nat.le_refl _) (by simp) ?_; (case hd => rfl); (case hg => rfl); (case hr => (go_simp; done)); (case hp => exact bQ.none _ _); intro v5 w5 ho hb nI jm; clear nI jm; have HO := ae.mk ho; have HB := ae.mk hb; clear ho hb; obtain ⟨Ao, co, eo⟩ := Kd.fU HO.out; subst eo) | ((with_reducible refine vU (b := .append) (xs := #[.tmp 5, .tmp 6]) rfl ?_); at_builtin; refine Kd.xW (Rr := Kd.string.K w) Kd.string (w0 := w) w.heap.size rfl (.tmp 5) (.tmp 6) 190 9 (.string ⟨#[]⟩) 16 rfl Try.underlying190 adA rfl (by decide) (by omega) (.slice Ao ([] : List ByteArray).length co) ([] : List ByteArray) l0 _ _ _ (fun _ => True) (fun _ => False) rfl rfl HO.out ?aR (fun _ _ h => h) (fun _ h => h.elim) (fun _ _ => trivial) HB.out HB.out.size ?aL ?_; (case aR => exact Kd.iq HR.out HB.out); (case aL => have := HL.out; simp; omega); intro v7 w7 ho hb nI agX; have HO7 := ae.mk ho; have HB7 := ae.mk hb; clear ho hb nI agX))
 obtain ⟨A7, c7, e7⟩ := Kd.fU HO7.out
 subst e7
 go_ret
 exact ⟨_, _, _, rfl, HB7.out⟩
theorem XN (tv : TypeId) (v : Value) (ad : Addr) (c0 : Nat) (x : ByteArray) (w : World) (hr0 : Kd.C Kd.string w (some ad) 1 [x]) (hc0 : 1 ≤ c0) :
  Calls Try.prog 195 #[.iface tv v, .slice (some ad) 1 c0] w fun e w' => (∃ t u, e = .returned (.iface t u)) ∧ Below w.heap.size w w' := by
 have HCl := ae.mk (VB ad c0 [x] (by simp) w hr0 hc0)
 clear hr0
 go_enter Try.func195, Try.ntmps195
 go_wp2_with fail
 refine HCl.out.mono ?_
 rintro e w' ⟨A, n, c, rfl, hb⟩
 have HB := ae.mk hb
 clear hb
 go_wp2
 go_ret
 exact ⟨⟨_, _, rfl⟩, iU HB.out _⟩
theorem NI {x : ByteArray} {w : World} {A : Option Addr} (h : Kd.C Kd.string w A 1 [x]) : ∃ ad, A = some ad := by
 obtain ⟨ad, h1, _⟩ := h.2.2 (by omega)
 exact ⟨ad, h1⟩
theorem Vz (c : ai) (hz : sz c ≤ 1048576) (A : Option Addr) (cc : Nat) (w : World) (hr : Kd.C k26 w A c.f3.length c.f3) (hc : c.f3.length ≤ cc) :
  Calls Try.prog 180 #[.agg #[.int .u8 c.f0, .int .i64 c.f1.f0, .int .i64 c.f1.f1, .int .i64 c.f1.f2, .int .i64 c.f1.f3, .int .i64 c.f2, .slice A c.f3.length cc]] w fun e w' => (if dB c = true then e = .returned .nilIface else ∃ t u, e = .returned (.iface t u)) ∧ Below w.heap.size w w' := by
 have hM : rH.f [c] = some (kV c) := by
  unfold rH.f
  rw [if_pos (by simp [hz])]
  simp
 have hW : kV c = true → ∀ (gw : Nat) (W : World), w.heap.size ≤ gw → pg w gw 0 W → Calls Try.prog 197 #[.pointer (some ⟨gw, 0, none⟩), .agg #[.int .u8 c.f0, .int .i64 c.f1.f0, .int .i64 c.f1.f1, .int .i64 c.f1.f2, .int .i64 c.f1.f3, .int .i64 c.f2, .slice A c.f3.length cc]] W fun e w' => e = .returned (.bool (kJ c)) ∧ pg w gw (0 + dN c.f3) w' ∧ Fr gw W w' := fun hm gw W hg hI => aaI w gw hg (sz c) c (Nat.le_refl _) (m_ hm) A cc hr hc 0 W (by have := m_ hm; have := bZ c; omega) hI
 unfold dB
 have HR := ae.mk hr
 have HC := ae.mk hc
 have HM := ae.mk hM
 have HW := ae.mk hW
 have HB := ae.mk (Below.refl w.heap.size w)
 clear hr hc hM hW hz
 obtain ⟨ck, ⟨cx, cy, cw, ch⟩, aT, l⟩ := c
 simp only [] at HR HC HW ⊢
 generalize kJ ⟨ck, ⟨cx, cy, cw, ch⟩, aT, l⟩ = q at HW ⊢
 cases hm : kV (⟨ck, ⟨cx, cy, cw, ch⟩, aT, l⟩ : ai) with
 | false =>
  rw [hm] at HM
  have HM := HM
  simp only [Bool.false_and, Bool.false_eq_true, if_false]
  clear hm HW
  go_enter Try.func180, Try.ntmps180
  go_wp2_with (first
   | ((with_reducible refine aC (N := 1) rfl ?_); refine aK ?hg (N := 1) ?hd (cs := #[.int .u8 ck, .int .i64 cx, .int .i64 cy, .int .i64 cw, .int .i64 ch, .int .i64 aT, .slice A l.length cc]) (t := 26) ?hr ?_; (case hd => rfl); (case hg => rfl); (case hr => first | (go_simp; done) | (go_simp; rfl)); intro b1 hg X8 hbox hb; have dM := ae.mk hbox; have cZ := ae.mk (ak HB.out hb); clear HB; have HB := cZ; clear cZ; clear hb hbox hg)
   | ((with_reducible refine aC (N := 5) rfl ?_); refine aK ?hg (N := 5) ?hd (cs := #[.int .i64 0, .slice none 0 0]) (t := 182) ?hr ?_; (case hd => rfl); (case hg => rfl); (case hr => first | (go_simp; done) | (go_simp; rfl)); intro gw hg wgw hbox hb; have o9 := ae.mk hbox; have GG := ae.mk (show w.heap.size ≤ gw by rw [hg]; exact HB.out.size); have cZ := ae.mk (ak HB.out hb); have fZ := ae.mk (aI dM.out hb); clear HB dM; have HB := cZ; have dM := fZ; clear cZ fZ; have c0 := (af dM.out 0).trans rfl; have c1 := (af dM.out 1).trans rfl; have c2 := (af dM.out 2).trans rfl; have c3 := (af dM.out 3).trans rfl; have c4 := (af dM.out 4).trans rfl; have c5 := (af dM.out 5).trans rfl; have c6 := (af dM.out 6).trans rfl; clear hb hbox hg)
   | ((with_reducible refine aC (N := 8) rfl ?_); refine Kd.yA k26 _ 26 ?hg (N' := 8) ?hd (xs := [(⟨ck, ⟨cx, cy, cw, ch⟩, aT, l⟩ : ai)]) (inner := [.int .u8 ck, .int .i64 cx, .int .i64 cy, .int .i64 cw, .int .i64 ch, .int .i64 aT, .slice A l.length cc]) (ok := fun _ => True) (fB := fun _ => True) ?hr ?hp (fun _ hk => hk) trivial (Below.refl _ _) (Nat.le_refl _) (by simp) ?_; (case hd => rfl); (case hg => rfl); (case hr => first | (go_simp; done) | (go_simp; rfl)); (case hp => exact (bQ.c7 (nY _ _ (⟨ck, ⟨cx, cy, cw, ch⟩, aT, l⟩ : ai) HC.out (Kd.ru (Kd.CB nJ (Kd.iq HR.out HB.out)) (fun _ _ => trivial))) (bQ.none _ _))); intro vr wr ho hb nI jm; clear nI jm; obtain ⟨Am, cm, er⟩ := Kd.jy ho; subst er; have cZ := ae.mk (ak HB.out hb); have fZ := ae.mk (aI dM.out hb); have oU := ae.mk (aI o9.out hb); clear HB dM o9; have HB := cZ; have dM := fZ; have o9 := oU; clear cZ fZ oU; have Hm := ae.mk (Kd.iO ho).2.2; have Lm := ae.mk (Kd.iO ho).2.1; clear ho hb c0 c1 c2 c3 c4 c5 c6)
   | fail)
  refine (rH.calls Am cm [(⟨ck, ⟨cx, cy, cw, ch⟩, aT, l⟩ : ai)] false _ Hm.out Lm.out HM.out).mono ?_
  rintro e w1 ⟨rfl, hb⟩
  have cZ := ae.mk (ak HB.out hb); have fZ := ae.mk (aI dM.out hb); have oU := ae.mk (aI o9.out hb); clear HB dM o9; have HB := cZ; have dM := fZ; have o9 := oU; clear cZ fZ oU
  clear hb Hm Lm
  go_wp2_with fail
  refine (Uo 1 0 (by decide) _).mono ?_
  rintro e w2 ⟨⟨tv, v, rfl⟩, hb⟩
  have cZ := ae.mk (ak HB.out hb); clear HB; have HB := cZ; clear cZ
  clear hb
  go_wp2_with (first
   | ((with_reducible refine aC (N := 12) rfl ?_); refine Kd.vw Kd.string _ 9 ?hg (N := 12) ?hd (xs := [(⟨#[108, 97, 121, 111, 117, 116]⟩ : ByteArray)]) (inner := [.string (⟨#[108, 97, 121, 111, 117, 116]⟩ : ByteArray)]) (ok := fun _ => True) (fB := fun _ => True) ?hr ?hp (fun _ hk => hk) trivial (Below.refl _ _) (Nat.le_refl _) (by simp) ?_; (case hd => rfl); (case hg => rfl); (case hr => first | (go_simp; done) | (go_simp; rfl)); (case hp => exact (bQ.one (show Kd.M Kd.string _ _ _ (⟨#[108, 97, 121, 111, 117, 116]⟩ : ByteArray) [.string (⟨#[108, 97, 121, 111, 117, 116]⟩ : ByteArray)] from rfl) (bQ.none _ _))); intro vs wr ho hb nI jm; clear nI jm; obtain ⟨As, cs_, er⟩ := Kd.fU ho; subst er; have cZ := ae.mk (ak HB.out hb); clear HB; have HB := cZ; clear cZ; have Hs := ae.mk (Kd.dP ho).2.2; have Ls := ae.mk (Kd.dP ho).2.1; clear ho hb)
   | fail)
  obtain ⟨ad, ea⟩ := NI Hs.out
  subst ea
  refine (XN tv v ad cs_ _ _ Hs.out Ls.out).mono ?_
  rintro e w3 ⟨⟨tu, u, rfl⟩, hb⟩
  have cZ := ae.mk (ak HB.out hb); clear HB; have HB := cZ; clear cZ
  clear hb Hs Ls
  go_wp2
  go_ret
  exact ⟨⟨_, _, rfl⟩, HB.out⟩
 | true =>
  rw [hm] at HM
  have HW := ae.mk (HW.out hm)
  simp only [Bool.true_and]
  clear hm
  cases q with
  | true =>
   simp only [if_true]
   go_enter Try.func180, Try.ntmps180
   go_wp2_with (first
    | ((with_reducible refine aC (N := 1) rfl ?_); refine aK ?hg (N := 1) ?hd (cs := #[.int .u8 ck, .int .i64 cx, .int .i64 cy, .int .i64 cw, .int .i64 ch, .int .i64 aT, .slice A l.length cc]) (t := 26) ?hr ?_; (case hd => rfl); (case hg => rfl); (case hr => first | (go_simp; done) | (go_simp; rfl)); intro b1 hg X8 hbox hb; have dM := ae.mk hbox; have cZ := ae.mk (ak HB.out hb); clear HB; have HB := cZ; clear cZ; clear hb hbox hg)
    | ((with_reducible refine aC (N := 5) rfl ?_); refine aK ?hg (N := 5) ?hd (cs := #[.int .i64 0, .slice none 0 0]) (t := 182) ?hr ?_; (case hd => rfl); (case hg => rfl); (case hr => first | (go_simp; done) | (go_simp; rfl)); intro gw hg wgw hbox hb; have o9 := ae.mk hbox; have GG := ae.mk (show w.heap.size ≤ gw by rw [hg]; exact HB.out.size); have cZ := ae.mk (ak HB.out hb); have fZ := ae.mk (aI dM.out hb); clear HB dM; have HB := cZ; have dM := fZ; clear cZ fZ; have c0 := (af dM.out 0).trans rfl; have c1 := (af dM.out 1).trans rfl; have c2 := (af dM.out 2).trans rfl; have c3 := (af dM.out 3).trans rfl; have c4 := (af dM.out 4).trans rfl; have c5 := (af dM.out 5).trans rfl; have c6 := (af dM.out 6).trans rfl; clear hb hbox hg)
    | ((with_reducible refine aC (N := 8) rfl ?_); refine Kd.yA k26 _ 26 ?hg (N' := 8) ?hd (xs := [(⟨ck, ⟨cx, cy, cw, ch⟩, aT, l⟩ : ai)]) (inner := [.int .u8 ck, .int .i64 cx, .int .i64 cy, .int .i64 cw, .int .i64 ch, .int .i64 aT, .slice A l.length cc]) (ok := fun _ => True) (fB := fun _ => True) ?hr ?hp (fun _ hk => hk) trivial (Below.refl _ _) (Nat.le_refl _) (by simp) ?_; (case hd => rfl); (case hg => rfl); (case hr => first | (go_simp; done) | (go_simp; rfl)); (case hp => exact (bQ.c7 (nY _ _ (⟨ck, ⟨cx, cy, cw, ch⟩, aT, l⟩ : ai) HC.out (Kd.ru (Kd.CB nJ (Kd.iq HR.out HB.out)) (fun _ _ => trivial))) (bQ.none _ _))); intro vr wr ho hb nI jm; clear nI jm; obtain ⟨Am, cm, er⟩ := Kd.jy ho; subst er; have cZ := ae.mk (ak HB.out hb); have fZ := ae.mk (aI dM.out hb); have oU := ae.mk (aI o9.out hb); clear HB dM o9; have HB := cZ; have dM := fZ; have o9 := oU; clear cZ fZ oU; have Hm := ae.mk (Kd.iO ho).2.2; have Lm := ae.mk (Kd.iO ho).2.1; clear ho hb c0 c1 c2 c3 c4 c5 c6)
    | fail)
   refine (rH.calls Am cm [(⟨ck, ⟨cx, cy, cw, ch⟩, aT, l⟩ : ai)] true _ Hm.out Lm.out HM.out).mono ?_
   rintro e w1 ⟨rfl, hb⟩
   have cZ := ae.mk (ak HB.out hb); have fZ := ae.mk (aI dM.out hb); have oU := ae.mk (aI o9.out hb); clear HB dM o9; have HB := cZ; have dM := fZ; have o9 := oU; clear cZ fZ oU
   clear hb Hm Lm
   have HI := ae.mk (show pg w gw 0 w1 from ⟨HB.out, 0, .slice none 0 0, [], o9.out, Kd.uz _ _ _ _ _, Nat.le_refl _⟩)
   have c0 := (af dM.out 0).trans rfl
   have c1 := (af dM.out 1).trans rfl
   have c2 := (af dM.out 2).trans rfl
   have c3 := (af dM.out 3).trans rfl
   have c4 := (af dM.out 4).trans rfl
   have c5 := (af dM.out 5).trans rfl
   have c6 := (af dM.out 6).trans rfl
   go_wp2_with fail
   clear c0 c1 c2 c3 c4 c5 c6
   refine (HW.out gw w1 GG.out HI.out).mono ?_
   rintro e w2 ⟨rfl, ⟨hb2, n, v, ls, hk, _, _⟩, _⟩
   clear HB o9 HI dM
   have HB := ae.mk hb2
   have o9 := ae.mk hk
   clear hb2 hk
   go_wp2
   go_ret
   exact ⟨rfl, HB.out⟩
  | false =>
   simp only [Bool.false_eq_true, if_false]
   go_enter Try.func180, Try.ntmps180
   go_wp2_with (first
    | ((with_reducible refine aC (N := 1) rfl ?_); refine aK ?hg (N := 1) ?hd (cs := #[.int .u8 ck, .int .i64 cx, .int .i64 cy, .int .i64 cw, .int .i64 ch, .int .i64 aT, .slice A l.length cc]) (t := 26) ?hr ?_; (case hd => rfl); (case hg => rfl); (case hr => first | (go_simp; done) | (go_simp; rfl)); intro b1 hg X8 hbox hb; have dM := ae.mk hbox; have cZ := ae.mk (ak HB.out hb); clear HB; have HB := cZ; clear cZ; clear hb hbox hg)
    | ((with_reducible refine aC (N := 5) rfl ?_); refine aK ?hg (N := 5) ?hd (cs := #[.int .i64 0, .slice none 0 0]) (t := 182) ?hr ?_; (case hd => rfl); (case hg => rfl); (case hr => first | (go_simp; done) | (go_simp; rfl)); intro gw hg wgw hbox hb; have o9 := ae.mk hbox; have GG := ae.mk (show w.heap.size ≤ gw by rw [hg]; exact HB.out.size); have cZ := ae.mk (ak HB.out hb); have fZ := ae.mk (aI dM.out hb); clear HB dM; have HB := cZ; have dM := fZ; clear cZ fZ; have c0 := (af dM.out 0).trans rfl; have c1 := (af dM.out 1).trans rfl; have c2 := (af dM.out 2).trans rfl; have c3 := (af dM.out 3).trans rfl; have c4 := (af dM.out 4).trans rfl; have c5 := (af dM.out 5).trans rfl; have c6 := (af dM.out 6).trans rfl; clear hb hbox hg)
    | ((with_reducible refine aC (N := 8) rfl ?_); refine Kd.yA k26 _ 26 ?hg (N' := 8) ?hd (xs := [(⟨ck, ⟨cx, cy, cw, ch⟩, aT, l⟩ : ai)]) (inner := [.int .u8 ck, .int .i64 cx, .int .i64 cy, .int .i64 cw, .int .i64 ch, .int .i64 aT, .slice A l.length cc]) (ok := fun _ => True) (fB := fun _ => True) ?hr ?hp (fun _ hk => hk) trivial (Below.refl _ _) (Nat.le_refl _) (by simp) ?_; (case hd => rfl); (case hg => rfl); (case hr => first | (go_simp; done) | (go_simp; rfl)); (case hp => exact (bQ.c7 (nY _ _ (⟨ck, ⟨cx, cy, cw, ch⟩, aT, l⟩ : ai) HC.out (Kd.ru (Kd.CB nJ (Kd.iq HR.out HB.out)) (fun _ _ => trivial))) (bQ.none _ _))); intro vr wr ho hb nI jm; clear nI jm; obtain ⟨Am, cm, er⟩ := Kd.jy ho; subst er; have cZ := ae.mk (ak HB.out hb); have fZ := ae.mk (aI dM.out hb); have oU := ae.mk (aI o9.out hb); clear HB dM o9; have HB := cZ; have dM := fZ; have o9 := oU; clear cZ fZ oU; have Hm := ae.mk (Kd.iO ho).2.2; have Lm := ae.mk (Kd.iO ho).2.1; clear ho hb c0 c1 c2 c3 c4 c5 c6)
    | fail)
   refine (rH.calls Am cm [(⟨ck, ⟨cx, cy, cw, ch⟩, aT, l⟩ : ai)] true _ Hm.out Lm.out HM.out).mono ?_
   rintro e w1 ⟨rfl, hb⟩
   have cZ := ae.mk (ak HB.out hb); have fZ := ae.mk (aI dM.out hb); have oU := ae.mk (aI o9.out hb); clear HB dM o9; have HB := cZ; have dM := fZ; have o9 := oU; clear cZ fZ oU
   clear hb Hm Lm
   have HI := ae.mk (show pg w gw 0 w1 from ⟨HB.out, 0, .slice none 0 0, [], o9.out, Kd.uz _ _ _ _ _, Nat.le_refl _⟩)
   have c0 := (af dM.out 0).trans rfl
   have c1 := (af dM.out 1).trans rfl
   have c2 := (af dM.out 2).trans rfl
   have c3 := (af dM.out 3).trans rfl
   have c4 := (af dM.out 4).trans rfl
   have c5 := (af dM.out 5).trans rfl
   have c6 := (af dM.out 6).trans rfl
   go_wp2_with fail
   clear c0 c1 c2 c3 c4 c5 c6
   refine (HW.out gw w1 GG.out HI.out).mono ?_
   rintro e w2 ⟨rfl, ⟨hb2, n, v, ls, hk, _, _⟩, _⟩
   clear HB o9 HI dM
   have HB := ae.mk hb2
   have o9 := ae.mk hk
   clear hb2 hk
   have c0 := (af o9.out 0).trans rfl
   have c1 := (af o9.out 1).trans rfl
   go_wp2_with fail
   clear c0 c1
   refine (Uo 5 n (by decide) _).mono ?_
   rintro e w2 ⟨⟨tv, v, rfl⟩, hb⟩
   have cZ := ae.mk (ak HB.out hb); clear HB; have HB := cZ; clear cZ
   clear hb
   go_wp2_with (first
    | ((with_reducible refine aC (N := 24) rfl ?_); refine Kd.vw Kd.string _ 9 ?hg (N := 24) ?hd (xs := [(⟨#[108, 97, 121, 111, 117, 116]⟩ : ByteArray)]) (inner := [.string (⟨#[108, 97, 121, 111, 117, 116]⟩ : ByteArray)]) (ok := fun _ => True) (fB := fun _ => True) ?hr ?hp (fun _ hk => hk) trivial (Below.refl _ _) (Nat.le_refl _) (by simp) ?_; (case hd => rfl); (case hg => rfl); (case hr => first | (go_simp; done) | (go_simp; rfl)); (case hp => exact (bQ.one (show Kd.M Kd.string _ _ _ (⟨#[108, 97, 121, 111, 117, 116]⟩ : ByteArray) [.string (⟨#[108, 97, 121, 111, 117, 116]⟩ : ByteArray)] from rfl) (bQ.none _ _))); intro vs wr ho hb nI jm; clear nI jm; obtain ⟨As, cs_, er⟩ := Kd.fU ho; subst er; have cZ := ae.mk (ak HB.out hb); clear HB; have HB := cZ; clear cZ; have Hs := ae.mk (Kd.dP ho).2.2; have Ls := ae.mk (Kd.dP ho).2.1; clear ho hb)
    | fail)
   obtain ⟨ad, ea⟩ := NI Hs.out
   subst ea
   refine (XN tv v ad cs_ _ _ Hs.out Ls.out).mono ?_
   rintro e w3 ⟨⟨tu, u, rfl⟩, hb⟩
   have cZ := ae.mk (ak HB.out hb); clear HB; have HB := cZ; clear cZ
   clear hb Hs Ls
   go_wp2
   go_ret
   exact ⟨⟨_, _, rfl⟩, HB.out⟩
theorem aca (x : ai) (hz : sz x ≤ 1048576) (B : Option Addr) (cb : Nat) (W : World) (hr : Kd.C k26 W B x.f3.length x.f3) (hl : x.f3.length ≤ cb) :
  Calls Try.prog 179 #[.agg #[.int .u8 x.f0, .int .i64 x.f1.f0, .int .i64 x.f1.f1, .int .i64 x.f1.f2, .int .i64 x.f1.f3, .int .i64 x.f2, .slice B x.f3.length cb]] W fun e w' => e = .returned (.bool (!dB x)) ∧ Below W.heap.size W w' := by
 have HC := ae.mk (fun W1 (hb : Below W.heap.size W W1) => Vz x hz B cb W1 (Kd.iq hr hb) hl)
 have HB := ae.mk (Below.refl W.heap.size W)
 clear hr hl hz
 cases hq : dB x
 all_goals
  simp only [hq, if_pos, Bool.false_eq_true, if_false] at HC
  clear hq
  go_enter Try.func179, Try.ntmps179
  go_wp2_with (first
   | ((with_reducible refine aC (N := 1) rfl ?_); refine aK ?hg (N := 1) ?hd (cs := #[.int .u8 x.f0, .int .i64 x.f1.f0, .int .i64 x.f1.f1, .int .i64 x.f1.f2, .int .i64 x.f1.f3, .int .i64 x.f2, .slice B x.f3.length cb]) (t := 26) ?hr ?_; (case hd => rfl); (case hg => rfl); (case hr => first | (go_simp; done) | (go_simp; rfl)); intro b1 hg X8 hbox hb; have dM := ae.mk hbox; have cZ := ae.mk (ak HB.out hb); clear HB; have HB := cZ; clear cZ; have c0 := (af dM.out 0).trans rfl; have c1 := (af dM.out 1).trans rfl; have c2 := (af dM.out 2).trans rfl; have c3 := (af dM.out 3).trans rfl; have c4 := (af dM.out 4).trans rfl; have c5 := (af dM.out 5).trans rfl; have c6 := (af dM.out 6).trans rfl; clear hb hbox hg)
   | fail)
  clear c0 c1 c2 c3 c4 c5 c6
 ·refine (HC.out _ HB.out).mono ?_
  rintro e w2 ⟨⟨t, u, rfl⟩, hb⟩
  have cZ := ae.mk (ak HB.out hb); clear HB; have HB := cZ; clear cZ
  clear hb
  go_wp2
  go_ret
  exact ⟨rfl, HB.out⟩
 ·refine (HC.out _ HB.out).mono ?_
  rintro e w2 ⟨rfl, hb⟩
  have cZ := ae.mk (ak HB.out hb); clear HB; have HB := cZ; clear cZ
  clear hb
  go_wp2
  go_ret
  exact ⟨rfl, HB.out⟩
theorem NK (l : List ai) (hz : ∀ x, x ∈ l → sz x ≤ 1048576) (A : Option Addr) (c : Nat) (w : World) (hr : Kd.C k26 w A l.length l) (hc : l.length ≤ c) :
  Calls Try.prog 148 #[.slice A l.length c] w fun e w' => e = .returned (.bool (l.all dB)) ∧ Below w.heap.size w w' := by
 have hq := Ox (fun _ W => Below w.heap.size w W) (fun x => !dB x) 179 #[] (rJ Try.func179 (by decide +kernel) (by kernel_rfl)) l A c w hr (fun _ _ h => h) (fun _ W n h => ak h (eH (Below.refl _ _) n))
  (fun x rest W B cb hx _ hI hC hlx => by
   refine (aca x (hz x hx) B cb W (Kd.iq hC hI) hlx).mono ?_
   rintro e w' ⟨he, hb⟩
   exact ⟨he, ak hI hb⟩) w (Below.refl _ _) hr.2.1
 have HQ := ae.mk hq
 rw [List.all_eq_not_any_not]
 clear hq hr hc hz
 generalize l.any (fun x => !dB x) = r at HQ ⊢
 cases r
 all_goals
  go_enter Try.func148, Try.ntmps148
  go_wp2_with fail
  refine HQ.out.mono ?_
  rintro e w2 ⟨rfl, hb⟩
  have HB := ae.mk hb
  clear hb
  go_wp2
  go_ret
  exact ⟨rfl, HB.out⟩
noncomputable def lu.f (l0 : List ai) : Option Bool := if l0.all (fun c => decide (sz c ≤ 1048576)) = true then some (l0.all dB) else none
theorem lu.calls (A0 : Option Addr) (c0 : Nat) (l0 : List ai) (r : Bool) (w : World) (hr0 : Kd.C k26 w A0 l0.length l0) (hc0 : l0.length ≤ c0) (h : lu.f l0 = some r) :
  Calls Try.prog 148 #[.slice A0 l0.length c0] w fun e w' => e = .returned (.bool r) ∧ Below w.heap.size w w' := by
 unfold lu.f at h
 split at h
 ·rename_i hz
  injection h with h
  subst h
  exact NK l0 (fun x hx => of_decide_eq_true (List.all_eq_true.1 hz x hx)) A0 c0 w hr0 hc0
 ·exact absurd h (by simp)
end Go.Proofs.Ytfdmfgaiblfbhaa.P
