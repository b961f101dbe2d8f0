/- slices.IndexFunc, slices.ContainsFunc at S35: what they answer, with any function value that keeps an invariant of the world. -/
import Derived.Test.YtfdmfgaiblfbhaaYScan
namespace Go.Proofs.Ytfdmfgaiblfbhaa.P
open Go.RowKit Go.Proofs.YtfdmfgaiblfbhaaW.PrintWords Go.Proofs.YtfdmfgaiblfbhaaW.PrintLast Go.Proofs.YtfdmfgaiblfbhaaW.PrintMore

set_option maxHeartbeats 2000000 in
set_option maxRecDepth 100000 in
theorem idx171 {σ : Type} (Inv : σ → World → Prop) (step : σ → S35 → Bool × σ) (g : Nat) (lb : Array Value) (eg : ∀ args w, (callFunc g args).run Try.prog w = .ok (.enter g args) w) (l : List S35) (A : Option Addr) (c : Nat)
    (hR : ∀ s W, Inv s W → Kd.C k35 W A l.length l) (hD : ∀ s W n, Inv s W → Inv s (W.drewN n))
    (hcall : ∀ s W (x : S35), x ∈ l → Inv s W → Calls Try.prog g (#[.agg #[.int .i64 x.f0, .int .i64 x.f1.f0, .int .i64 x.f1.f1, .int .i64 x.f1.f2, .int .i64 x.f1.f3]] ++ lb) W fun e w' => e = .returned (.bool (step s x).1) ∧ Inv (step s x).2 w')
    (s : σ) (w : World) (hI : Inv s w) (hl : l.length ≤ 9223372036854775807) :
    Calls Try.prog 171 #[.slice A l.length c, .func (.func g) #[] lb] w fun e w' => e = .returned (.int .i64 (scanI step 0 s l).1) ∧ Inv (scanI step 0 s l).2 w' := by
  have HR := Aside0.mk hR
  have HD := Aside0.mk hD
  have HI := Aside0.mk hI
  have HCall := Aside0.mk hcall
  clear hR hcall hD hI
  go_enter Try.func171, Try.ntmps171
  go_wp2
  go_loopg [5, 8] l.length (fun gg _ v8 wr => ∃ (kk : Nat) (t : σ), kk ≤ l.length ∧ l.length - kk ≤ gg ∧ v8 = .int .i64 kk ∧ Aside0 (Inv t wr) ∧ Aside0 (scanI step 0 s l = scanI step kk t (l.drop kk)))
  case atStart => exact ⟨0, s, Nat.zero_le _, by omega, rfl, HI, ⟨by simp⟩⟩
  case round =>
    clear HI
    obtain ⟨kk, t, hkk, hg, rfl, HI, HS⟩ := hrel
    by_cases hlt : kk < l.length
    · have hltz : (kk : Int) < (l.length : Int) := by omega
      obtain ⟨ad, rfl, hc0, hc1, hc2, hc3, hc4⟩ := at_T35 (HR.out t wr HI.out) (kk : Int) (by omega) (by omega)
      have HX : Aside0 (scanI step kk t (l.drop kk) = if (step t (rd_T35 l (kk : Int))).1 = true then ((kk : Int), (step t (rd_T35 l (kk : Int))).2) else scanI step ((kk + 1 : Nat) : Int) (step t (rd_T35 l (kk : Int))).2 (l.drop (kk + 1))) := ⟨scan_at step z35 l kk hlt t⟩
      have hmem : (rd_T35 l (kk : Int)) ∈ l := scan_mem z35 l kk hlt
      have hcall := HCall.out t wr _ hmem HI.out
      clear hmem
      simp only [Int.toNat_natCast] at hc0 hc1 hc2 hc3 hc4
      generalize rd_T35 l (kk : Int) = x at hc0 hc1 hc2 hc3 hc4 HX hcall
      have HC := Aside0.mk hcall
      clear hcall
      cases hq : (step t x).1 with
      | true =>
        have h := HC.out
        rw [hq] at h
        have HH := Aside0.mk h
        have HQ := Aside0.mk hq
        clear hq HC h
        go_wp2_with fail
        refine HH.out.mono ?_
        rintro e w' ⟨rfl, hb'⟩
        have HB := Aside0.mk hb'
        clear hb'
        go_wp2
        go_ret
        rw [HS.out, HX.out, if_pos HQ.out]
        exact ⟨rfl, HB.out⟩
      | false =>
        have h := HC.out
        rw [hq] at h
        have HH := Aside0.mk h
        have HQ := Aside0.mk hq
        clear hq HC h
        go_wp2_with fail
        refine HH.out.mono ?_
        rintro e w' ⟨rfl, hb'⟩
        have HB := Aside0.mk hb'
        clear hb'
        go_wp2
        go_roundg (l.length - (kk + 1))
        case measure => omega
        case rel =>
          refine ⟨kk + 1, (step t x).2, by omega, by omega, by go_num, HB, ⟨?_⟩⟩
          rw [HS.out, HX.out, if_neg (by rw [HQ.out]; simp)]
    · have hltz : ¬ (kk : Int) < (l.length : Int) := by omega
      go_wp2
      go_ret
      rw [HS.out, List.drop_eq_nil_of_le (by omega)]
      exact ⟨rfl, HI.out⟩

end Go.Proofs.Ytfdmfgaiblfbhaa.P
