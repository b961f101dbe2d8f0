/- The contract of adjust.more: what is given to n kids, one more to the first ones. -/
import Derived.Test.YtfdmfgaiblfbhaaPK
namespace Go.Proofs.Ytfdmfgaiblfbhaa.P
open Go.RowKit Go.Proofs.YtfdmfgaiblfbhaaW.PrintWords Go.Proofs.YtfdmfgaiblfbhaaW.PrintLast Go.Proofs.YtfdmfgaiblfbhaaW.PrintMore

def moreAt (a n : Int) (i : Int) : Int := a / n + if i < a % n then 1 else 0
def moreL (a : Int) (n : Nat) : List Int := (List.range n).map fun i => moreAt a n (i : Nat)
theorem moreL_length (a : Int) (n : Nat) : (moreL a n).length = n := by simp [moreL]
theorem moreL_get (a : Int) (n k : Nat) (h : k < n) : (moreL a n)[k]? = some (moreAt a n k) := by simp [moreL, h]
theorem set_step {α : Type} (L : List α) (x z : α) (k : Nat) (hx : L[k]? = some x) : (L.take k ++ List.replicate (L.length - k) z).set k x = L.take (k + 1) ++ List.replicate (L.length - (k + 1)) z := by
  obtain ⟨h, rfl⟩ := List.getElem?_eq_some_iff.1 hx
  obtain ⟨m, hm⟩ : ∃ m, L.length - k = m + 1 := ⟨L.length - k - 1, by omega⟩
  rw [List.set_append_right _ _ (by simp; omega), List.length_take, show k - min k L.length = 0 by omega, hm, List.replicate_succ, List.set_cons_zero, List.take_succ_eq_append_getElem h, List.append_assoc, show L.length - (k + 1) = m by omega]
  rfl
theorem moreL_step (a : Int) (n k : Nat) (h : k < n) : ((moreL a n).take k ++ List.replicate (n - k) 0).set k (moreAt a n k) = (moreL a n).take (k + 1) ++ List.replicate (n - (k + 1)) 0 := by
  have := set_step (moreL a n) (moreAt a n k) 0 k (moreL_get a n k h)
  rwa [moreL_length] at this

set_option maxHeartbeats 1000000 in
theorem more_any (a : Int) (n : Nat) (w : World) (h0 : 0 ≤ a) (h1 : a ≤ 9000000000000000000) (h2 : 1 ≤ n) (h3 : n ≤ 100000) :
    Calls Try.prog 129 #[.int .i64 a, .int .i64 n] w fun e w' => ∃ v0_ : Value, e = .returned v0_ ∧ Kd.R (Kd.int .i64) 3 w' w.heap.size (fun _ => True) v0_ (moreL a n) ∧ Below w.heap.size w w' := by
  have hmk := print_make (P := Try.prog) 41 3 .i64 8 Try.underlying41 info3 (by decide) n (by omega)
  have hs := own_made w w.heap.size 3 .i64 n (Nat.le_refl _) (by omega)
  have hq0 : 0 ≤ a / (n : Int) := Int.ediv_nonneg h0 (by omega)
  have hq1 : a / (n : Int) ≤ a := Int.ediv_le_self _ h0
  have HS := Aside0.mk hs
  clear hs
  go_enter Try.func129, Try.ntmps129
  go_wp2
  go_loopw [11] (fun v11 wr => ∃ k : Nat, k ≤ n ∧ v11 = .int .i64 k ∧ Aside0 (wr.ownsRow w.heap.size 3 1 (.slice (some ⟨w.heap.size, 0, none⟩) n n) n (nums .i64 ((moreL a n).take k ++ List.replicate (n - k) 0))) ∧ Aside0 (Below w.heap.size w wr)) (fun v11 _ => n - (intOf v11).toNat)
  case atStart => exact ⟨0, by omega, rfl, ⟨by simpa using HS.out⟩, ⟨below_alloc (Below.refl _ _) _⟩⟩
  case round =>
    obtain ⟨k, hk, rfl, HO, HB⟩ := hrel
    clear hmk HS
    by_cases hlt : k < n
    · have hlt' : (k : Int) < (n : Int) := by omega
      obtain ⟨hc, hf⟩ := own_at HO.out (k : Int) (by omega) (by omega)
      simp only [Int.toNat_natCast] at hc hf
      by_cases hr : (k : Int) < a % (n : Int)
      · have HK := Aside0.mk (moreL_step a n k hlt)
        have HR := Aside0.mk hr
        go_wp2
        go_roundw
        case rel =>
          obtain ⟨s1, _⟩ := own_store HO.out (k : Int) (a / n)
          obtain ⟨s2, _⟩ := own_store s1 (k : Int) (a / n + 1)
          simp only [Int.toNat_natCast, List.set_set] at s1 s2
          have e : moreAt a n k = a / n + 1 := by unfold moreAt; rw [if_pos HR.out]
          rw [← e, HK.out] at s2
          exact ⟨k + 1, by omega, by go_num, ⟨by rw [← e]; exact s2⟩, ⟨below_set (below_set HB.out (Nat.le_refl _)) (Nat.le_refl _)⟩⟩
        case measure => simp [intOf]; omega
      · have HK := Aside0.mk (moreL_step a n k hlt)
        have HR := Aside0.mk hr
        go_wp2
        go_roundw
        case rel =>
          obtain ⟨s1, _⟩ := own_store HO.out (k : Int) (a / n)
          simp only [Int.toNat_natCast] at s1
          have e : moreAt a n k = a / n := by unfold moreAt; rw [if_neg HR.out]; omega
          rw [← e, HK.out] at s1
          exact ⟨k + 1, by omega, by go_num, ⟨by rw [← e]; exact s1⟩, ⟨below_set HB.out (Nat.le_refl _)⟩⟩
        case measure => simp [intOf]; omega
    · obtain rfl : k = n := by omega
      go_wp2
      go_ret
      refine ⟨_, rfl, ?_, HB.out⟩
      have h := HO.out
      rw [List.take_of_length_le (by rw [moreL_length]; omega), Nat.sub_self] at h
      simp only [List.replicate_zero, List.append_nil] at h
      exact Kd.R_of_own (enc := Value.int .i64) (h1 := fun _ => rfl) (by rw [moreL_length]; exact h) (fun _ _ => trivial)

def adjust_more.f (a0 a1 : Int) : Option (List Int) := if 0 ≤ a0 ∧ a0 ≤ 9000000000000000000 ∧ 1 ≤ a1 ∧ a1 ≤ 100000 then some (moreL a0 a1.toNat) else none
theorem adjust_more.calls (a0 a1 : Int) (r : List Int) (w : World) (h : adjust_more.f a0 a1 = some r) : Calls Try.prog 129 #[.int .i64 a0, .int .i64 a1] w fun e w' => ∃ v0_ : Value, e = .returned (v0_) ∧ Kd.R (Kd.int .i64) 3 w' w.heap.size (fun _ => True) v0_ r ∧ Below w.heap.size w w' := by
  unfold adjust_more.f at h
  split at h
  · rename_i hc
    obtain ⟨n, rfl⟩ := Int.eq_ofNat_of_zero_le (show 0 ≤ a1 by omega)
    obtain rfl := Option.some.inj h
    exact more_any a0 n w hc.1 hc.2.1 (by omega) (by omega)
  · exact absurd h (by simp)
end Go.Proofs.Ytfdmfgaiblfbhaa.P
