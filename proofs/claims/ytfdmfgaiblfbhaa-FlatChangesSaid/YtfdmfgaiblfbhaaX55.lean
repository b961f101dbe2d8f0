/- The contract of flat.Changed: those panes that are new or of another size, in order. -/
import Derived.Test.YtfdmfgaiblfbhaaX131
import Derived.Test.YtfdmfgaiblfbhaaX132
namespace Go.Proofs.Ytfdmfgaiblfbhaa.P
open Go.RowKit Go.Proofs.YtfdmfgaiblfbhaaW.PrintWords Go.Proofs.YtfdmfgaiblfbhaaW.PrintLast Go.Proofs.YtfdmfgaiblfbhaaW.PrintMore

/-- DeleteFunc at the row without an array. -/
theorem del131_nil (l : List S35) (w : World) (bx : Nat) :
    Calls Try.prog 131 #[.slice none 0 0, .func (.func 133) #[] #[.pointer (some ⟨bx, 0, none⟩)]] w fun e w' => e = .returned (.slice none 0 0) ∧ Below w.heap.size w w' := by
  have HI := Aside0.mk (idx171 (fun (_ : Unit) W => Below w.heap.size w W) (fun _ x => (delB l x, ())) 133 #[.pointer (some ⟨bx, 0, none⟩)] (enters_fn Try.func133 (by decide +kernel) (by kernel_rfl)) [] none 0
    (fun _ W _ => Kd.C_nil k35 W) (fun _ W n hW => pw_below_drewN hW n) (fun _ W x hx _ => absurd hx (by simp)) () w (Below.refl _ _) (by simp))
  go_enter Try.func131, Try.ntmps131
  go_wp2_with fail
  refine HI.out.mono ?_
  rintro e w2 ⟨rfl, hb2⟩
  have HB2 := Aside0.mk hb2
  clear hb2
  have hs : (scanI (fun (_ : Unit) (x : S35) => (delB l x, ())) 0 () []).1 = -1 := rfl
  go_wp2
  go_ret
  exact ⟨rfl, HB2.out⟩
def flat_Changed.f (l0 : List (S35)) (l1 : List (S35)) : Option (List S35) := if l1.length ≤ 1000000 then some (keepL l0 l1) else none
set_option maxHeartbeats 2000000 in
set_option maxRecDepth 100000 in
theorem flat_Changed.calls (A0 : Option Addr) (c0 : Nat) (l0 : List (S35)) (A1 : Option Addr) (c1 : Nat) (l1 : List (S35)) (r : List S35) (w : World) (hr0 : Kd.C k35 w A0 l0.length l0) (hc0 : l0.length ≤ c0) (hr1 : Kd.C k35 w A1 l1.length l1) (hc1 : l1.length ≤ c1) (h : flat_Changed.f l0 l1 = some r) :
    Calls Try.prog 55 #[.slice A0 l0.length c0, .slice A1 l1.length c1] w fun e w' => ∃ v0_ : Value, e = .returned (v0_) ∧ Kd.R k35 35 w' w.heap.size (fun _ => True) v0_ r ∧ Below w.heap.size w w' := by
  unfold flat_Changed.f at h
  split at h
  · rename_i hl
    injection h with h
    subst h
    have HR0 := Aside0.mk hr0
    have HC0 := Aside0.mk hc0
    have HCl := Aside0.mk fun (W : World) (hW : Below w.heap.size w W) => api_Pane_132.calls A1 c1 l1 l1 W (Kd.C_below hr1 hW) hc1 (by unfold api_Pane_132.f; rw [if_pos hl])
    clear hr0 hc0 hr1 hc1 hl
    go_enter Try.func55, Try.ntmps55
    go_wp2_with fail
    refine (HCl.out _ (below_alloc (Below.refl _ _) _)).mono ?_
    rintro e w2 ⟨v, rfl, ho, hb⟩
    have hbx := blk_below (heap_alloc_new w _) hb
    have hB2 := below_then (below_alloc (Below.refl w.heap.size w) (.cells #[.slice A0 l0.length c0] 32)) (by simp) hb
    have hlow := Kd.R_lower ho (below_alloc (Below.refl w.heap.size w) (.cells #[.slice A0 l0.length c0] 32)).size
    have hne : ∀ k, v.ownBlock = some k → k ≠ w.heap.size := fun k hk => by have := Kd.R_base ho k hk; simp at this; omega
    have HO := Aside0.mk (Kd.R_reok (ok := fun k => k ≠ w.heap.size) rfl hlow hne)
    have HK := Aside0.mk hbx
    have HB := Aside0.mk hB2
    clear ho hb hbx hB2 hlow hne HCl
    rcases HO.out.2 with ⟨inner, ⟨_, ⟨hv, h0⟩ | ⟨g, cap, cur, hv, _⟩⟩, _⟩
    · have e0 : l1 = [] := List.length_eq_zero_iff.1 h0
      have HD := Aside0.mk fun (W : World) => del131_nil l0 W w.heap.size
      subst hv
      subst e0
      clear h0
      go_wp2_with fail
      refine (HD.out _).mono ?_
      rintro e w3 ⟨rfl, hb3⟩
      have HB3 := Aside0.mk (below_then HB.out HB.out.size hb3)
      clear hb3
      go_wp2
      go_ret
      exact ⟨_, rfl, Kd.R_nil _ _ _ _ _, HB3.out⟩
    · subst hv
      have HD := Aside0.mk (del131 l0 A0 c0 w w2 HR0.out HC0.out w.heap.size g cap l1 HO.out HK.out HB.out)
      go_wp2_with fail
      refine HD.out.mono ?_
      rintro e w3 ⟨v3, rfl, ho3, hb3⟩
      have HO3 := Aside0.mk ho3
      have HB3 := Aside0.mk hb3
      clear ho3 hb3
      go_wp2
      go_ret
      exact ⟨_, rfl, HO3.out, HB3.out⟩
  · exact absurd h (by simp)
end Go.Proofs.Ytfdmfgaiblfbhaa.P
