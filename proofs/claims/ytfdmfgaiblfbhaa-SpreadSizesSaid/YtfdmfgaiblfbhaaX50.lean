/- The contract of the reference's Shares: round by round, one by one. -/
import Derived.Test.YtfdmfgaiblfbhaaPK
namespace Go.Proofs.Ytfdmfgaiblfbhaa.P
open Go.RowKit Go.Proofs.YtfdmfgaiblfbhaaW.PrintWords Go.Proofs.YtfdmfgaiblfbhaaW.PrintLast Go.Proofs.YtfdmfgaiblfbhaaW.PrintMore

/-- One kid's turn: (what is left, what it can give and what it came to). -/
def rstep (left : Int) (p : Int × Int) : Int × (Int × Int) := if left > 0 then (left - 1, (p.1, p.2 + 1)) else if left < 0 ∧ p.1 + p.2 > 0 then (left + 1, (p.1, p.2 - 1)) else (left, p)
def rround : Int → List (Int × Int) → Int × List (Int × Int)
  | l, [] => (l, [])
  | l, p :: ps => ((rround (rstep l p).1 ps).1, (rstep l p).2 :: (rround (rstep l p).1 ps).2)
def rloop : Nat → Int → List (Int × Int) → Option (List Int × Bool)
  | 0, _, _ => none
  | k + 1, l, ps => if l = 0 then some (ps.map Prod.snd, true) else if (rround l ps).1 = l then some ([], false) else rloop k (rround l ps).1 (rround l ps).2
def sashref09_Shares.f (k : Nat) (a0 : Int) (l1 : List Int) : Option (List Int × Bool) :=
  if -100000 ≤ a0 ∧ a0 ≤ 100000 ∧ l1.length ≤ 100000 then
    if l1 = [] then some ([], false)
    else if ∀ g, g ∈ l1 → 0 ≤ g ∧ g ≤ 2147483647 then rloop k a0 (l1.map fun g => (g, 0)) else some ([], false)
  else none
theorem rloop_mono : ∀ k l ps, LeO (rloop k l ps) (rloop (k + 1) l ps)
  | 0 => fun l ps r h => by simp [rloop] at h
  | k + 1 => fun l ps => by
    have ih := rloop_mono k
    unfold rloop
    exact LeO.ite (LeO.refl _) (LeO.ite (LeO.refl _) (ih _ _))
theorem sashref09_Shares.mono : ∀ a0 a1 k, LeO (sashref09_Shares.f k a0 a1) (sashref09_Shares.f (k + 1) a0 a1) := by
  intro a0 a1 k
  unfold sashref09_Shares.f
  exact LeO.ite (LeO.ite (LeO.refl _) (LeO.ite (rloop_mono _ _ _) (LeO.refl _))) (LeO.refl _)

def RB (l : Int) (ps : List (Int × Int)) : Prop := ∀ p, p ∈ ps → 0 ≤ p.1 ∧ p.1 ≤ 2147483647 ∧ p.2 + l ≤ 100000 ∧ p.2 - l ≤ 100000 ∧ -100000 ≤ p.2 + l ∧ -100000 ≤ p.2 - l
theorem rstep_le (l : Int) (p : Int × Int) : (¬ 0 < l ∧ ¬ (l < 0 ∧ 0 < p.1 + p.2) ∧ rstep l p = (l, p)) ∨ (0 < l ∧ (rstep l p) = (l - 1, (p.1, p.2 + 1))) ∨ (l < 0 ∧ 0 < p.1 + p.2 ∧ (rstep l p) = (l + 1, (p.1, p.2 - 1))) := by
  unfold rstep
  split
  · rename_i h; exact .inr (.inl ⟨h, rfl⟩)
  · rename_i h0
    split
    · rename_i h; exact .inr (.inr ⟨h.1, h.2, rfl⟩)
    · rename_i h; exact .inl ⟨h0, h, rfl⟩
theorem rd_mid {α : Type} (f : α → Int) (pre : List α) (p : α) (rest : List α) : rd ((pre ++ p :: rest).map f) (pre.length : Int) = f p := by
  simp [rd, List.getD_eq_getElem?_getD]
theorem set_mid {α β : Type} (f : α → β) (pre : List α) (p : α) (rest : List α) (q : α) : ((pre ++ p :: rest).map f).set pre.length (f q) = ((pre ++ [q]) ++ rest).map f := by
  simp

theorem rstep_next {M M' L : Int} {p p' : Int × Int} {pre rest ps : List (Int × Int)} {l1 : List Int} (e : rstep M p = (M', p')) (HF : (pre ++ p :: rest).map Prod.fst = l1) (HB : RB M (pre ++ p :: rest)) (HD : -100000 ≤ M ∧ M ≤ 100000)
    (HE : (rround L ps).1 = (rround M (p :: rest)).1 ∧ (rround L ps).2 = pre ++ (rround M (p :: rest)).2) :
    ((pre ++ [p']) ++ rest).map Prod.fst = l1 ∧ RB M' ((pre ++ [p']) ++ rest) ∧ (-100000 ≤ M' ∧ M' ≤ 100000) ∧ ((rround L ps).1 = (rround M' rest).1 ∧ (rround L ps).2 = (pre ++ [p']) ++ (rround M' rest).2) := by
  have hp : p'.1 = p.1 := by
    rcases rstep_le M p with ⟨_, _, h⟩ | ⟨_, h⟩ | ⟨_, _, h⟩ <;> rw [e] at h <;> injection h with h1 h2 <;> rw [h2]
  have hb := HB p (by simp)
  refine ⟨?_, ?_, ?_, ?_, ?_⟩
  · rw [← HF]; simp [hp]
  · have key : ∀ q, q ∈ pre ++ p :: rest → 0 ≤ q.1 ∧ q.1 ≤ 2147483647 ∧ q.2 + M' ≤ 100000 ∧ q.2 - M' ≤ 100000 ∧ -100000 ≤ q.2 + M' ∧ -100000 ≤ q.2 - M' := fun q hq => by
      have h := HB q hq
      rcases rstep_le M p with ⟨_, _, h'⟩ | ⟨_, h'⟩ | ⟨_, _, h'⟩ <;> rw [e] at h' <;> injection h' with h1 h2 <;> omega
    intro q hq
    simp only [List.append_assoc, List.mem_append, List.mem_cons, List.not_mem_nil, or_false] at hq
    rcases hq with hq | rfl | hq
    · exact key q (by simp [hq])
    · rcases rstep_le M p with ⟨_, _, h'⟩ | ⟨_, h'⟩ | ⟨_, _, h'⟩ <;> rw [e] at h' <;> injection h' with h1 h2 <;> subst h1 h2 <;> (try simp only) <;> omega
    · exact key q (by simp [hq])
  · rcases rstep_le M p with ⟨_, _, h'⟩ | ⟨_, h'⟩ | ⟨_, _, h'⟩ <;> rw [e] at h' <;> injection h' with h1 h2 <;> omega
  · rw [HE.1]; simp only [rround, e]
  · rw [HE.2]; simp only [rround, e, List.append_assoc, List.cons_append, List.nil_append]

set_option maxHeartbeats 4000000 in
set_option maxRecDepth 100000 in
theorem sashref09_Shares.calls (k : Nat) (a0 : Int) (A1 : Option Addr) (c1 : Nat) (l1 : List Int) (r1 : List Int) (r2 : Bool) (w : World) (hr1 : Kd.C (Kd.int .i64) w A1 l1.length l1) (hc1 : l1.length ≤ c1) (h : sashref09_Shares.f k a0 l1 = some (r1, r2)) :
    Calls Try.prog 50 #[.int .i64 a0, .slice A1 l1.length c1] w fun e w' => ∃ v0_ : Value, e = .returned (.tuple #[v0_, .bool r2]) ∧ Kd.R (Kd.int .i64) 3 w' w.heap.size (fun _ => True) v0_ r1 ∧ Below w.heap.size w w' := by
  unfold sashref09_Shares.f at h
  split at h
  · rename_i hd
    obtain ⟨hd1, hd2, hd3⟩ := hd
    have hmk := print_make (P := Try.prog) 41 3 .i64 8 Try.underlying41 info3 (by decide) l1.length (by omega)
    have hs := own_made w w.heap.size 3 .i64 l1.length (Nat.le_refl _) (by omega)
    have HS := Aside0.mk hs
    have HR := Aside0.mk hr1
    have HC := Aside0.mk hc1
    clear hs hr1 hc1
    split at h
    · rename_i he
      injection h with h
      injection h with h1 h2
      subst h1 h2
      have hn0 : ((l1.length : Int) == 0) = true := by simp [he]
      have HE := Aside0.mk he
      clear he
      go_enter Try.func50, Try.ntmps50
      go_wp2
      go_ret2
      refine ⟨_, rfl, Kd.R_of_own (enc := Value.int .i64) (h1 := fun _ => rfl) ?_ (fun _ _ => trivial), below_alloc (Below.refl _ _) _⟩
      have h := HS.out
      rw [HE.out] at h ⊢
      exact h
    · rename_i hne
      have hpos : 0 < l1.length := List.length_pos_iff.2 hne
      have hn0 : ((l1.length : Int) == 0) = false := by simp; omega
      have H := Aside0.mk h
      clear h
      go_enter Try.func50, Try.ntmps50
      go_wp2
      clear hmk hne hn0
      have HR2 := Aside0.mk (Kd.C_below HR.out (below_alloc (Below.refl w.heap.size w) (Obj.cells (madeCells #[Value.int IntKind.i64 0] l1.length) 3)))
      go_loop [21] (fun v21 => ∃ i : Nat, i ≤ l1.length ∧ v21 = .int .i64 i ∧ Aside0 (∀ j, j < i → 0 ≤ rd l1 (j : Int) ∧ rd l1 (j : Int) ≤ 2147483647)) (fun v21 => l1.length - (intOf v21).toNat)
      case atStart => exact ⟨0, by omega, rfl, ⟨fun j hj => absurd hj (by omega)⟩⟩
      case round =>
        obtain ⟨i, hi, rfl, HI⟩ := hrel
        by_cases hlt : i < l1.length
        · have hlt' : (i : Int) < (l1.length : Int) := by omega
          obtain ⟨ad, rfl, hc⟩ := Kd.at_int HR2.out (i : Int) (by omega) (by omega)
          simp only [Int.toNat_natCast] at hc
          have hmem : rd l1 (i : Int) ∈ l1 := by
            simp only [rd, Int.toNat_natCast, List.getD_eq_getElem?_getD, List.getElem?_eq_getElem hlt, Option.getD_some]
            exact List.getElem_mem hlt
          generalize hx : rd l1 (i : Int) = x at hc hmem
          by_cases hx0 : x < 0 ∨ 2147483647 < x
          · have hbad : ¬ ∀ g, g ∈ l1 → 0 ≤ g ∧ g ≤ 2147483647 := fun hall => by have := hall x hmem; omega
            have h := H.out
            rw [if_neg hbad] at h
            injection h with h
            injection h with h1 h2
            subst h1 h2
            clear hbad hmem
            by_cases hx1 : x < 0
            all_goals
              go_wp2
              go_ret2
              have ho := own_lit (w.alloc (Obj.cells (madeCells #[Value.int IntKind.i64 0] l1.length) 3)) w.heap.size 3 .i64 [] (by simp) (by simp)
              simp only [World.size_alloc, nums, List.map_nil] at ho
              exact ⟨_, rfl, Kd.R_of_own (enc := Value.int .i64) (h1 := fun _ => rfl) ho (fun _ _ => trivial), below_alloc (below_alloc (Below.refl _ _) _) _⟩
          · have hx1 : 0 ≤ x := by omega
            have hx2 : x ≤ 2147483647 := by omega
            clear hx0 hmem
            have HX := Aside0.mk hx
            clear hx
            go_wp2
            go_round
            case rel =>
              refine ⟨i + 1, by omega, by go_num, ⟨fun j hj => ?_⟩⟩
              by_cases e : j = i
              · subst e; rw [HX.out]; exact ⟨hx1, hx2⟩
              · exact HI.out j (by omega)
            case measure => simp [intOf]; omega
        · obtain rfl : i = l1.length := by omega
          have hall : ∀ g, g ∈ l1 → 0 ≤ g ∧ g ≤ 2147483647 := fun g hg => by
            obtain ⟨j, hj, rfl⟩ := List.getElem_of_mem hg
            have := HI.out j hj
            simp only [rd, Int.toNat_natCast, List.getD_eq_getElem?_getD, List.getElem?_eq_getElem hj, Option.getD_some] at this
            exact this
          have h := H.out
          rw [if_pos hall] at h
          have HA := Aside0.mk hall
          have HL := Aside0.mk h
          clear HI hall h H
          go_wp2
          clear HR2
          go_loopg [7] k (fun gk v7 wr => ∃ (L : Int) (ps : List (Int × Int)), v7 = .int .i64 L ∧ Aside0 (rloop gk L ps = some (r1, r2)) ∧ Aside0 (ps.map Prod.fst = l1) ∧ Aside0 (RB L ps) ∧ Aside0 (-100000 ≤ L ∧ L ≤ 100000) ∧ Aside0 (wr.ownsRow w.heap.size 3 1 (.slice (some ⟨w.heap.size, 0, none⟩) l1.length l1.length) l1.length (nums .i64 (ps.map Prod.snd))) ∧ Aside0 (Below w.heap.size w wr))
          case atStart =>
            refine ⟨a0, l1.map fun g => (g, 0), rfl, HL, ⟨by simp [List.map_map, Function.comp_def]⟩, ⟨?_⟩, ⟨hd1, hd2⟩, ⟨?_⟩, ⟨below_alloc (Below.refl _ _) _⟩⟩
            · intro p hp
              obtain ⟨g, hg, rfl⟩ := List.mem_map.1 hp
              have := HA.out g hg
              simp only
              omega
            · have h := HS.out
              rw [show (l1.map fun g => (g, (0 : Int))).map Prod.snd = List.replicate l1.length 0 by simp [List.map_map, Function.comp_def, List.map_const']]
              exact h
          case round =>
            clear HL HA HS
            obtain ⟨L, ps, rfl, HL, HF, HB, HD, HO, HBel⟩ := hrel
            cases gk with
            | zero => exact absurd HL.out (by simp [rloop])
            | succ kk =>
              have h := HL.out
              clear HL
              simp only [rloop] at h
              by_cases hL : L = 0
              · rw [if_pos hL] at h
                injection h with h
                injection h with h1 h2
                subst h1 h2 hL
                go_wp2
                go_ret2
                refine ⟨_, rfl, Kd.R_of_own (enc := Value.int .i64) (h1 := fun _ => rfl) ?_ (fun _ _ => trivial), HBel.out⟩
                have e : ps.length = l1.length := by rw [← HF.out]; simp
                rw [List.length_map, e]
                exact HO.out
              · rw [if_neg hL] at h
                have H2 := Aside0.mk h
                clear h
                have hne0 : (L != 0) = true := by simpa using hL
                have hne1 : (L == 0) = false := by simpa using hL
                have HNL := Aside0.mk hL
                clear hL
                go_wp2
                clear hne0
                obtain ⟨wo, rfl⟩ : ∃ wo : World, wo = wr := ⟨_, rfl⟩
                go_loopg [7, 50] l1.length (fun g v7 v50 w2 => ∃ (M : Int) (pre rest : List (Int × Int)), v7 = .int .i64 M ∧ v50 = .int .i64 (pre.length : Nat) ∧ Aside0 (rest.length ≤ g) ∧ Aside0 ((pre ++ rest).map Prod.fst = l1) ∧ Aside0 (RB M (pre ++ rest)) ∧ Aside0 (-100000 ≤ M ∧ M ≤ 100000) ∧ Aside0 ((rround L ps).1 = (rround M rest).1 ∧ (rround L ps).2 = pre ++ (rround M rest).2) ∧ Aside0 (w2.ownsRow w.heap.size 3 1 (.slice (some ⟨w.heap.size, 0, none⟩) l1.length l1.length) l1.length (nums .i64 ((pre ++ rest).map Prod.snd))) ∧ Aside0 (Below w.heap.size w w2))
                case atStart =>
                  refine ⟨L, [], ps, rfl, rfl, ⟨?_⟩, HF, HB, HD, ⟨rfl, rfl⟩, HO, HBel⟩
                  have : ps.length = l1.length := by rw [← HF.out]; simp
                  omega
                case round =>
                  clear HO HBel HB HD HF
                  obtain ⟨M, pre, rest, rfl, rfl, HG, HF, HB, HD, HE, HO, HBel⟩ := hrel
                  cases rest with
                  | nil =>
                    have hlen : pre.length = l1.length := by rw [← HF.out]; simp
                    have hnl : ¬ (pre.length : Int) < (l1.length : Int) := by omega
                    have HLen := Aside0.mk hlen
                    clear hlen
                    simp only [List.append_nil, rround] at HF HB HE HO
                    by_cases hML : M = L
                    · have hML1 : (M == L) = true := by simpa using hML
                      have h := H2.out
                      rw [if_pos (by rw [HE.out.1]; exact hML)] at h
                      injection h with h
                      injection h with h1 h2
                      subst h1 h2
                      clear hML
                      go_wp2
                      go_ret2
                      have ho := own_lit wr w.heap.size 3 .i64 [] HBel.out.size (by simp)
                      simp only [nums, List.map_nil] at ho
                      exact ⟨_, rfl, Kd.R_of_own (enc := Value.int .i64) (h1 := fun _ => rfl) ho (fun _ _ => trivial), below_alloc HBel.out _⟩
                    · have hML1 : (M == L) = false := by simpa using hML
                      have h := H2.out
                      rw [if_neg (by rw [HE.out.1]; exact hML), HE.out.1, HE.out.2] at h
                      have H3 := Aside0.mk h
                      clear h hML H2
                      go_wp2
                      go_roundg kk
                      case measure => omega
                      case rel => exact ⟨M, pre, rfl, H3, HF, HB, HD, HO, HBel⟩
                  | cons p rest =>
                    have hlen : pre.length + (rest.length + 1) = l1.length := by rw [← HF.out]; simp
                    have hlt : (pre.length : Int) < (l1.length : Int) := by omega
                    have HR2 := Kd.C_below HR.out HBel.out
                    obtain ⟨ad, rfl, hc⟩ := Kd.at_int HR2 (pre.length : Int) (by omega) (by omega)
                    simp only [Int.toNat_natCast] at hc
                    rw [show rd l1 (pre.length : Int) = p.1 by rw [← HF.out]; exact rd_mid Prod.fst pre p rest] at hc
                    obtain ⟨hc2, hf2⟩ := own_at HO.out (pre.length : Int) (by omega) (by omega)
                    simp only [Int.toNat_natCast] at hc2 hf2
                    rw [show rd ((pre ++ p :: rest).map Prod.snd) (pre.length : Int) = p.2 from rd_mid Prod.snd pre p rest] at hc2
                    have hpb := HB.out p (by simp)
                    obtain ⟨b1, b2, b3, b4, b5, b6⟩ := hpb
                    have HLen := Aside0.mk hlen
                    clear HR2 hlen
                    obtain ⟨d1, d2⟩ := HD.out
                    have s1 := fun x => (own_store HO.out (pre.length : Int) x).1
                    simp only [Int.toNat_natCast] at s1
                    have S1 := Aside0.mk s1
                    clear s1
                    rcases rstep_le M p with ⟨h1, h2, e⟩ | ⟨hM, e⟩ | ⟨hM, hg, e⟩
                    · have HE2 := Aside0.mk e
                      clear e
                      by_cases h3 : M < 0
                      · have hs : ¬ 0 < p.1 + p.2 := fun hh => h2 ⟨h3, hh⟩
                        clear h2
                        go_wp2
                        go_quiet (fail)
                        go_wp2
                        go_roundg rest.length
                        case measure => have := HG.out; simp at this; omega
                        case rel =>
                          obtain ⟨n1, n2, n3, n4⟩ := rstep_next HE2.out HF.out HB.out HD.out HE.out
                          exact ⟨M, pre ++ [p], rest, rfl, by simp, ⟨by omega⟩, ⟨n1⟩, ⟨n2⟩, ⟨n3⟩, ⟨n4⟩, ⟨by rw [List.append_assoc]; exact HO.out⟩, ⟨pw_below_drewN HBel.out _⟩⟩
                      · clear h2
                        have h4 : decide (M < 0) = false := by simp; omega
                        go_wp2
                        go_quiet (fail)
                        go_wp2
                        go_roundg rest.length
                        case measure => have := HG.out; simp at this; omega
                        case rel =>
                          obtain ⟨n1, n2, n3, n4⟩ := rstep_next HE2.out HF.out HB.out HD.out HE.out
                          exact ⟨M, pre ++ [p], rest, rfl, by simp, ⟨by omega⟩, ⟨n1⟩, ⟨n2⟩, ⟨n3⟩, ⟨n4⟩, ⟨by rw [List.append_assoc]; exact HO.out⟩, ⟨pw_below_drewN HBel.out _⟩⟩
                    · have HE2 := Aside0.mk e
                      clear e
                      have hz2 : decide (M - 1 < 0) = false := by simp; omega
                      go_wp2
                      go_quiet (fail)
                      go_wp2
                      go_roundg rest.length
                      case measure => have := HG.out; simp at this; omega
                      case rel =>
                        obtain ⟨n1, n2, n3, n4⟩ := rstep_next HE2.out HF.out HB.out HD.out HE.out
                        exact ⟨M - 1, pre ++ [(p.1, p.2 + 1)], rest, rfl, by simp, ⟨by omega⟩, ⟨n1⟩, ⟨n2⟩, ⟨n3⟩, ⟨n4⟩, ⟨by rw [← set_mid Prod.snd pre p rest (p.1, p.2 + 1)]; exact S1.out (p.2 + 1)⟩, ⟨pw_below_drewN (below_set HBel.out (Nat.le_refl _)) _⟩⟩
                    · have HE2 := Aside0.mk e
                      clear e
                      go_wp2
                      go_quiet (fail)
                      go_wp2
                      go_roundg rest.length
                      case measure => have := HG.out; simp at this; omega
                      case rel =>
                        obtain ⟨n1, n2, n3, n4⟩ := rstep_next HE2.out HF.out HB.out HD.out HE.out
                        exact ⟨M + 1, pre ++ [(p.1, p.2 - 1)], rest, rfl, by simp, ⟨by omega⟩, ⟨n1⟩, ⟨n2⟩, ⟨n3⟩, ⟨n4⟩, ⟨by rw [← set_mid Prod.snd pre p rest (p.1, p.2 - 1)]; exact S1.out (p.2 - 1)⟩, ⟨below_set (pw_below_drewN HBel.out _) (Nat.le_refl _)⟩⟩
  · exact absurd h (by simp)
end Go.Proofs.Ytfdmfgaiblfbhaa.P
