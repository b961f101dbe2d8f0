/- The contract of flat.find: the place of the first pane with a number; -1. -/
import Derived.Test.YtfdmfgaiblfbhaaX171
namespace Go.Proofs.Ytfdmfgaiblfbhaa.P
open Go.RowKit Go.Proofs.YtfdmfgaiblfbhaaW.PrintWords Go.Proofs.YtfdmfgaiblfbhaaW.PrintLast Go.Proofs.YtfdmfgaiblfbhaaW.PrintMore

/-- The place of the first pane with a number, counted from i on; -1. -/
def findP (id : Int) : Int → List S35 → Int
  | _, [] => -1
  | i, p :: ps => if p.f0 = id then i else findP id (i + 1) ps
theorem scan_find (id : Int) : ∀ (l : List S35) (i : Int) (s : Unit), (scanI (fun (_ : Unit) (x : S35) => (x.f0 == id, ())) i s l).1 = findP id i l := by
  intro l
  induction l with
  | nil => intro i s; rfl
  | cons x xs ih =>
    intro i s
    simp only [scanI, findP, beq_iff_eq]
    split
    · rfl
    · exact ih _ _
theorem findP_range (id : Int) : ∀ (l : List S35) (i : Int), 0 ≤ i → findP id i l = -1 ∨ (i ≤ findP id i l ∧ findP id i l < i + l.length) := by
  intro l
  induction l with
  | nil => intro i _; exact .inl rfl
  | cons x xs ih =>
    intro i hi
    simp only [findP]
    split
    · right; simp only [List.length_cons]; omega
    · rcases ih (i + 1) (by omega) with h | h
      · exact .inl h
      · right; simp only [List.length_cons]; omega

set_option maxHeartbeats 1000000 in
theorem find1 (id : Int) (x : S35) (g : Nat) (w : World) (ho : w.heap[g]? = some (.cells #[.int .i64 id] 3 (0, 0))) :
    Calls Try.prog 172 #[.agg #[.int .i64 x.f0, .int .i64 x.f1.f0, .int .i64 x.f1.f1, .int .i64 x.f1.f2, .int .i64 x.f1.f3], .pointer (some ⟨g, 0, none⟩)] w fun e w' => e = .returned (.bool (x.f0 == id)) ∧ Below w.heap.size w w' := by
  have hlt : g < w.heap.size := (Array.getElem?_eq_some_iff.1 ho).1
  have hc0 : w.cell? ⟨g, 0, none⟩ = some (.int .i64 id) := (blk_cell ho 0).trans rfl
  clear ho
  go_enter Try.func172, Try.ntmps172
  go_wp2
  go_ret
  exact ⟨rfl, below_alloc (Below.refl _ _) _⟩

def flat_find.f (l0 : List (S35)) (a1 : Int) : Option Int := some (findP a1 0 l0)
set_option maxHeartbeats 1000000 in
theorem flat_find.calls (A0 : Option Addr) (c0 : Nat) (l0 : List (S35)) (a1 : Int) (r : Int) (w : World) (hr0 : Kd.C k35 w A0 l0.length l0) (_hc0 : l0.length ≤ c0) (h : flat_find.f l0 a1 = some r) :
    Calls Try.prog 125 #[.slice A0 l0.length c0, .int .i64 a1] w fun e w' => e = .returned (.int .i64 r) ∧ Below w.heap.size w w' := by
  have hcon := idx171 (fun (_ : Unit) W => Below (w.alloc (.cells #[.int .i64 a1] 3)).heap.size (w.alloc (.cells #[.int .i64 a1] 3)) W) (fun _ x => (x.f0 == a1, ())) 172 #[.pointer (some ⟨w.heap.size, 0, none⟩)] (enters_fn Try.func172 (by decide +kernel) (by kernel_rfl)) l0 A0 c0
    (fun _ W hW => Kd.C_below (Kd.C_below hr0 (below_alloc (Below.refl _ _) _)) hW) (fun _ W n hW => pw_below_drewN hW n)
    (fun _ W x _ hW => (find1 a1 x w.heap.size W (blk_below (heap_alloc_new w _) hW)).mono fun e w' ⟨he, hb⟩ => ⟨he, below_then hW hW.size hb⟩) () _ (Below.refl _ _) hr0.2.1
  rw [scan_find] at hcon
  unfold flat_find.f at h
  injection h with h
  rw [h] at hcon
  have HC := Aside0.mk hcon
  clear hcon h hr0
  go_enter Try.func125, Try.ntmps125
  go_wp2_with fail
  refine HC.out.mono ?_
  rintro e w' ⟨rfl, hb⟩
  have HB := Aside0.mk hb
  clear hb
  go_wp2
  go_ret
  exact ⟨rfl, below_then (below_alloc (Below.refl _ _) _) (by simp) HB.out⟩
end Go.Proofs.Ytfdmfgaiblfbhaa.P
