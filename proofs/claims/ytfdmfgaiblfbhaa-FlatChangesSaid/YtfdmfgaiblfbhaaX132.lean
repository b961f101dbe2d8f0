/- The contract of slices.Clone at api.Pane: the same panes, in a row of the call's own. -/
import Derived.Test.YtfdmfgaiblfbhaaPK
import Derived.WalkSpells
namespace Go.Proofs.Ytfdmfgaiblfbhaa.P
open Go.RowKit Go.Proofs.YtfdmfgaiblfbhaaW.PrintWords Go.Proofs.YtfdmfgaiblfbhaaW.PrintLast Go.Proofs.YtfdmfgaiblfbhaaW.PrintMore

def api_Pane_132.f (l0 : List (S35)) : Option (List S35) := if l0.length ≤ 1000000 then some l0 else none
set_option maxHeartbeats 2000000 in
set_option maxRecDepth 100000 in
theorem api_Pane_132.calls (A0 : Option Addr) (c0 : Nat) (l0 : List (S35)) (r : List S35) (w : World) (hr0 : Kd.C k35 w A0 l0.length l0) (hc0 : l0.length ≤ c0) (h : api_Pane_132.f l0 = some r) :
    Calls Try.prog 132 #[.slice A0 l0.length c0] w fun e w' => ∃ v0_ : Value, e = .returned (v0_) ∧ Kd.R k35 35 w' w.heap.size (fun _ => True) v0_ r ∧ Below w.heap.size w w' := by
  unfold api_Pane_132.f at h
  split at h
  · rename_i hl
    injection h with h
    subst h
    have HR := Aside0.mk hr0
    have HL := Aside0.mk hl
    clear hl
    cases A0 with
    | none =>
      have heq : ∀ W : World, (binOp .eql 32 (.slice none l0.length c0) (.slice none 0 0)).run Try.prog W = .ok (.bool true) W := fun W => Lib.run_eql_slice_nil W 32 35 none l0.length c0 0 0 Try.underlying32
      have e0 : l0 = [] := by
        cases l0 with
        | nil => rfl
        | cons x xs =>
          obtain ⟨ad, h1, _⟩ := hr0.2.2 (by simp)
          cases h1
      have E0 := Aside0.mk e0
      clear hr0 e0
      go_enter Try.func132, Try.ntmps132
      go_wp2
      go_ret
      exact ⟨_, rfl, by rw [E0.out]; exact Kd.R_nil _ _ _ _ _, Below.refl _ _⟩
    | some ad =>
      have heq : ∀ W : World, (binOp .eql 32 (.slice (some ad) l0.length c0) (.slice none 0 0)).run Try.prog W = .ok (.bool false) W := fun W => Lib.run_eql_slice_nil W 32 35 (some ad) l0.length c0 0 0 Try.underlying32
      clear hr0
      go_enter Try.func132, Try.ntmps132
      go_wp2_with (first | ((with_reducible refine gate_dst (N := 5) rfl ?_); refine Kd.R_lit k35 w.heap.size 35 ?hg (N := 5) ?hd (xs := ([] : List S35)) (inner := []) (ok := fun _ => True) (okp := fun _ => True) ?hr ?hp (fun _ hk => hk) trivial (Below.refl _ _) (Nat.le_refl _) (by simp) ?_; (case hd => rfl); (case hg => rfl); (case hr => first | (go_simp; done) | (go_simp; rfl)); (case hp => exact Reps.none _ _); intro v5 w5 ho hb hg_ hnew_; clear hg_ hnew_; have HO := Aside0.mk ho; have HB := Aside0.mk hb; clear ho hb; obtain ⟨Ao, co, eo⟩ := Kd.R_slice HO.out; subst eo) | ((with_reducible refine gate_builtin (b := .append) (xs := #[.tmp 5, .tmp 6]) rfl ?_); at_builtin; refine Kd.R_append_rows (Rr := k35.K w) k35 (w0 := w) w.heap.size rfl (.tmp 5) (.tmp 6) 32 35 (.agg #[(.int .i64 0), (.int .i64 0), (.int .i64 0), (.int .i64 0), (.int .i64 0)]) 40 rfl Try.underlying32 info35 rfl (by decide) (by omega) (.slice Ao ([] : List S35).length co) [] l0 _ _ _ (fun _ => True) (fun _ => False) rfl rfl ?aO ?aR ?aK (fun _ h => h.elim) (fun _ _ => trivial) ?aB ?aS ?aL ?_; (case aO => exact HO.out); (case aR => exact Kd.C_below HR.out HB.out); (case aK => exact (fun x cs h => by rw [k35_open h]; exact k35_mkM _ _ _ x)); (case aB => exact HB.out); (case aS => exact below_size HB.out); (case aL => (have := HL.out; simp only [List.length_nil]; omega)); intro v7 w7 h1 h2 h3_ h4_; clear h3_ h4_; have HO7 := Aside0.mk h1; have HB7 := Aside0.mk h2; clear h1 h2 HO HB))
      go_wp2
      go_ret
      exact ⟨_, rfl, HO7.out, HB7.out⟩
  · exact absurd h (by simp)
end Go.Proofs.Ytfdmfgaiblfbhaa.P
