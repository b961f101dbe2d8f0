/- The contract of rect.May: whether all of some rectangles may be. -/
import Derived.Test.YtfdmfgaiblfbhaaX173
import Derived.Test.YtfdmfgaiblfbhaaYMay
namespace Go.Proofs.Ytfdmfgaiblfbhaa.P
open Go.RowKit Go.Proofs.YtfdmfgaiblfbhaaW.PrintWords Go.Proofs.YtfdmfgaiblfbhaaW.PrintLast Go.Proofs.YtfdmfgaiblfbhaaW.PrintMore

set_option maxHeartbeats 1000000 in
theorem may1 (x : S23) (w : World) : Calls Try.prog 138 #[.agg #[.int .i64 x.f0, .int .i64 x.f1, .int .i64 x.f2, .int .i64 x.f3]] w fun e w' => e = .returned (.bool (!mayR x)) ∧ Below w.heap.size w w' := by
  have hc := fun W => rect_may.calls x.f0 x.f1 x.f2 x.f3 (mayR x) W (may_some _ _ _ _)
  have HC := Aside0.mk hc
  clear hc
  cases hm : mayR x with
  | true =>
    rw [hm] at HC
    clear hm
    go_enter Try.func138, Try.ntmps138
    go_wp2_with fail
    refine (HC.out _).mono ?_
    rintro e w' ⟨rfl, hb⟩
    have HB := Aside0.mk hb
    clear hb
    go_wp2
    go_ret
    exact ⟨rfl, below_then (below_alloc (Below.refl _ _) _) (by simp) HB.out⟩
  | false =>
    rw [hm] at HC
    clear hm
    go_enter Try.func138, Try.ntmps138
    go_wp2_with fail
    refine (HC.out _).mono ?_
    rintro e w' ⟨rfl, hb⟩
    have HB := Aside0.mk hb
    clear hb
    go_wp2
    go_ret
    exact ⟨rfl, below_then (below_alloc (Below.refl _ _) _) (by simp) HB.out⟩
theorem below_trans {w w1 w2 : World} (h : Below w.heap.size w w1) (h2 : Below w1.heap.size w1 w2) : Below w.heap.size w w2 := below_then h h.size h2

def rect_May.f (l0 : List (S23)) : Option Bool := some (l0.all mayR)
set_option maxHeartbeats 1000000 in
theorem rect_May.calls (A0 : Option Addr) (c0 : Nat) (l0 : List (S23)) (r : Bool) (w : World) (hr0 : Kd.C k23 w A0 l0.length l0) (_hc0 : l0.length ≤ c0) (h : rect_May.f l0 = some r) :
    Calls Try.prog 68 #[.slice A0 l0.length c0] w fun e w' => e = .returned (.bool r) ∧ Below w.heap.size w w' := by
  have hcon := con134 (fun (_ : Unit) W => Below w.heap.size w W) (fun _ x => (!mayR x, ())) 138 #[] (enters_fn Try.func138 (by decide +kernel) (by kernel_rfl)) l0 A0 c0 (fun _ W hW => Kd.C_below hr0 hW) (fun _ W n hW => pw_below_drewN hW n)
    (fun _ W x _ hW => by
      rw [show (#[Value.agg #[.int .i64 x.f0, .int .i64 x.f1, .int .i64 x.f2, .int .i64 x.f3]] ++ #[] : Array Value) = #[.agg #[.int .i64 x.f0, .int .i64 x.f1, .int .i64 x.f2, .int .i64 x.f3]] by simp]
      exact (may1 x W).mono fun e w' ⟨he, hb⟩ => ⟨he, below_then hW hW.size hb⟩) () w (Below.refl _ _) hr0.2.1
  rw [scanB_any] at hcon
  have e1 : r = !(l0.any fun x => !mayR x) := by
    injection h with h
    rw [← h]
    clear h hcon hr0 _hc0
    induction l0 with
    | nil => rfl
    | cons x xs ih => simp only [List.all_cons, List.any_cons, ih, Bool.not_or, Bool.not_not]
  subst e1
  generalize (l0.any fun x => !mayR x) = b at hcon
  have HC := Aside0.mk hcon
  clear hcon h hr0
  go_enter Try.func68, Try.ntmps68
  go_wp2_with fail
  refine HC.out.mono ?_
  rintro e w' ⟨rfl, hb⟩
  have HB := Aside0.mk hb
  clear hb
  go_wp2
  go_ret
  exact ⟨rfl, HB.out⟩
end Go.Proofs.Ytfdmfgaiblfbhaa.P
