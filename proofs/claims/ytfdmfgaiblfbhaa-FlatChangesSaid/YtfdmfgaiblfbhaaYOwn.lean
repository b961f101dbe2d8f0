/- A row of panes of the call's own: its tail cleared. -/
import Derived.Test.YtfdmfgaiblfbhaaPK
namespace Go.Proofs.Ytfdmfgaiblfbhaa.P
open Go.RowKit Go.Proofs.YtfdmfgaiblfbhaaW.PrintWords Go.Proofs.YtfdmfgaiblfbhaaW.PrintLast Go.Proofs.YtfdmfgaiblfbhaaW.PrintMore

/-- Cells written behind what a row holds. -/
theorem R_past {α : Type} {d : Kd α} {e base g m cap o : Nat} {w : World} {ok : Nat → Prop} {xs : List α} (vs : List Value) (h : d.R e w base ok (.slice (some ⟨g, 0, none⟩) m cap) xs) (ho : m * d.sz ≤ o) (hfit : o + vs.length ≤ cap * d.sz) :
    d.R e (w.setCells g o vs) base ok (.slice (some ⟨g, 0, none⟩) m cap) xs := by
  obtain ⟨h0, inner, ⟨hl, hv⟩, hr⟩ := h
  rcases hv with ⟨hv, _⟩ | ⟨g', cap', cur, hv, hb, hh, hnc, hcm, hcs, ht⟩
  · cases hv
  have hv' := hv
  simp only [Value.slice.injEq, Option.some.injEq, Addr.mk.injEq] at hv
  obtain ⟨⟨rfl, _⟩, hm, rfl⟩ := hv
  obtain ⟨cur', h3, h4, h5⟩ := setCells_row vs o w cur hh (by omega)
  refine ⟨h0, inner, ⟨hl, .inr ⟨g, cap, cur', hv', hb, h3, hnc, hcm, by rw [h4, hcs], ?_⟩⟩, hr.imp_ fun p q hp => d.M_move (fun k' hk' => setCells_far vs o k' (fun he => hk'.2 (by rw [he]; simp [Value.ownBlock]))) hp⟩
  subst hm
  have hcl : cap * d.sz = cur.toList.length := by rw [Array.length_toList]; exact hcs.symm
  have hmul : xs.length * d.sz ≤ cap * d.sz := Nat.mul_le_mul_right _ hnc
  rw [h5, List.append_assoc, List.take_append_of_le_length (by rw [List.length_take]; omega), List.take_take, Nat.min_eq_left ho, ht]
theorem clear35 {base g n cap i : Nat} {w0 w : World} {ok : Nat → Prop} {xs : List S35} (h : k35.R 35 w base ok (.slice (some ⟨g, 0, none⟩) n cap) xs) (hi : i < n) (hB : Below base w0 w) (c' : Nat) :
    ∃ w', (∀ ty, (Builtin.clear_ #[32] ty #[.slice (some ⟨g, i * 5, none⟩) (n - i) c']).run Try.prog w = .ok (.tuple #[]) w') ∧ k35.R 35 w' base ok (.slice (some ⟨g, 0, none⟩) i cap) (xs.take i) ∧ Below base w0 w' := by
  have hn : n = xs.length := (Kd.R_reads' h).1
  have hT := Kd.R_take h (m := i) (by omega)
  have hbg := Kd.R_base h g rfl
  obtain ⟨_, inner, ⟨hl, hv⟩, _⟩ := h
  rcases hv with ⟨hv, _⟩ | ⟨g', cap', cur, hv, hb, hh, hnc, hcm, hcs, ht⟩
  · cases hv
  simp only [Value.slice.injEq, Option.some.injEq, Addr.mk.injEq] at hv
  obtain ⟨⟨rfl, _⟩, hm, rfl⟩ := hv
  have hcs5 : cur.size = cap * 5 := hcs
  have hzc : (Builtin.zeroCells (Value.agg #[.int .i64 0, .int .i64 0, .int .i64 0, .int .i64 0, .int .i64 0]).cells (n - i)).toList = List.replicate ((n - i) * 5) (.int .i64 0) := by
    apply List.ext_getElem
    · simp [Builtin.zeroCells, Value.cells]
    · intro q h1 h2
      have h5 : q % 5 < 5 := Nat.mod_lt _ (by decide)
      simp only [Builtin.zeroCells, Value.cells, Array.toList_map, List.getElem_map, List.getElem_replicate, Array.getElem_toList, Array.getElem_range]
      generalize q % 5 = r at h5
      match r, h5 with
      | 0, _ => rfl
      | 1, _ => rfl
      | 2, _ => rfl
      | 3, _ => rfl
      | 4, _ => rfl
  have hfit : i * 5 + (List.replicate ((n - i) * 5) (Value.int .i64 0)).length ≤ cap * 5 := by
    rw [List.length_replicate]
    omega
  have hst := run_storeCells_cells (P := Try.prog) g (i * 5) (List.replicate ((n - i) * 5) (.int .i64 0)) 0 w (fun j hj => by rw [cell_of_row w g _ cur 35 (0, 0) hh]; simp at hj ⊢; omega) (fun j _ => blk_frozen hh _) (fun v hv' => by rw [List.eq_of_mem_replicate hv']; rfl)
  simp only [Nat.add_zero] at hst
  refine ⟨w.setCells g (i * 5) (List.replicate ((n - i) * 5) (.int .i64 0)), fun ty => ?_, R_past _ hT (Nat.le_refl _) hfit, ?_⟩
  · obtain ⟨m, hm⟩ : ∃ m, n - i = m + 1 := ⟨n - i - 1, by omega⟩
    rw [hm] at hzc hst ⊢
    simp [Builtin.clear_, run_underlying Try.underlying32, hzc, hst]
  · obtain ⟨s1, s2, s3, s4⟩ := setCells_same g (List.replicate ((n - i) * 5) (Value.int .i64 0)) (i * 5) w
    exact hB.trans ⟨s1, s2, s3, by rw [s4]; exact Nat.le_refl _, fun k hk => setCells_far _ _ k (by omega)⟩
end Go.Proofs.Ytfdmfgaiblfbhaa.P
