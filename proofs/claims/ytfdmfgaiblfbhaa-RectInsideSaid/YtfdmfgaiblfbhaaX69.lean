/- The contract of rect.Apart: whether no cell is in two of some rectangles. -/
import Derived.Test.YtfdmfgaiblfbhaaX59
namespace Go.Proofs.Ytfdmfgaiblfbhaa.P
open Go.RowKit Go.Proofs.YtfdmfgaiblfbhaaW.PrintWords Go.Proofs.YtfdmfgaiblfbhaaW.PrintLast Go.Proofs.YtfdmfgaiblfbhaaW.PrintMore

/-- Do two rectangles share a cell? -/
def meetB (a b : S23) : Bool := decide (a.f0 < b.f0 + b.f2 ∧ b.f0 < a.f0 + a.f2 ∧ a.f1 < b.f1 + b.f3 ∧ b.f1 < a.f1 + a.f3)
set_option maxHeartbeats 4000000 in
theorem meet_any (a b : S23) (w : World) (ha : mayR a = true) (hb : mayR b = true) :
    Calls Try.prog 140 #[.agg #[.int .i64 a.f0, .int .i64 a.f1, .int .i64 a.f2, .int .i64 a.f3], .agg #[.int .i64 b.f0, .int .i64 b.f1, .int .i64 b.f2, .int .i64 b.f3]] w fun e w' => e = .returned (.bool (meetB a b)) ∧ Below w.heap.size w w' := by
  obtain ⟨a1, a2, a3, a4, a5, a6, a7, a8⟩ := may_iff.1 ha
  obtain ⟨b1, b2, b3, b4, b5, b6, b7, b8⟩ := may_iff.1 hb
  clear ha hb
  unfold meetB
  by_cases c1 : a.f0 < b.f0 + b.f2
  · by_cases c2 : b.f0 < a.f0 + a.f2
    · by_cases c3 : a.f1 < b.f1 + b.f3
      · by_cases c4 : b.f1 < a.f1 + a.f3
        · rw [decide_eq_true (by omega)]
          go_enter Try.func140, Try.ntmps140
          go_wp2
          go_ret
          exact ⟨rfl, below_alloc (below_alloc (Below.refl _ _) _) _⟩
        · rw [decide_eq_false (by omega)]
          have c4' : decide (b.f1 < a.f1 + a.f3) = false := decide_eq_false c4
          go_enter Try.func140, Try.ntmps140
          go_wp2
          go_ret
          exact ⟨rfl, below_alloc (below_alloc (Below.refl _ _) _) _⟩
      · rw [decide_eq_false (by omega)]
        have c3' : decide (a.f1 < b.f1 + b.f3) = false := decide_eq_false c3
        go_enter Try.func140, Try.ntmps140
        go_wp2
        go_ret
        exact ⟨rfl, below_alloc (below_alloc (Below.refl _ _) _) _⟩
    · rw [decide_eq_false (by omega)]
      have c2' : decide (b.f0 < a.f0 + a.f2) = false := decide_eq_false c2
      go_enter Try.func140, Try.ntmps140
      go_wp2
      go_ret
      exact ⟨rfl, below_alloc (below_alloc (Below.refl _ _) _) _⟩
  · rw [decide_eq_false (by omega)]
    have c1' : decide (a.f0 < b.f0 + b.f2) = false := decide_eq_false c1
    go_enter Try.func140, Try.ntmps140
    go_wp2
    go_ret
    exact ⟨rfl, below_alloc (below_alloc (Below.refl _ _) _) _⟩
set_option maxHeartbeats 2000000 in
theorem apart1 (o x : S23) (g : Nat) (w : World) (hx : mayR x = true) (hm : mayR o = true) (ho : w.heap[g]? = some (.cells #[.int .i64 o.f0, .int .i64 o.f1, .int .i64 o.f2, .int .i64 o.f3] 23 (0, 0))) :
    Calls Try.prog 139 #[.agg #[.int .i64 x.f0, .int .i64 x.f1, .int .i64 x.f2, .int .i64 x.f3], .pointer (some ⟨g, 0, none⟩)] w fun e w' => e = .returned (.bool (meetB o x)) ∧ Below w.heap.size w w' := by
  have hlt : g < w.heap.size := (Array.getElem?_eq_some_iff.1 ho).1
  have hc0 : w.cell? ⟨g, 0, none⟩ = some (.int .i64 o.f0) := (blk_cell ho 0).trans rfl
  have hc1 : w.cell? ⟨g, 1, none⟩ = some (.int .i64 o.f1) := (blk_cell ho 1).trans rfl
  have hc2 : w.cell? ⟨g, 2, none⟩ = some (.int .i64 o.f2) := (blk_cell ho 2).trans rfl
  have hc3 : w.cell? ⟨g, 3, none⟩ = some (.int .i64 o.f3) := (blk_cell ho 3).trans rfl
  have HC := Aside0.mk fun W => meet_any o x W hm hx
  clear ho hx hm
  generalize meetB o x = b at HC
  go_enter Try.func139, Try.ntmps139
  go_wp2_with fail
  refine (HC.out _).mono ?_
  rintro e w' ⟨rfl, hb⟩
  have HB := Aside0.mk hb
  clear hb
  go_wp2
  go_ret
  exact ⟨rfl, below_then (below_alloc (Below.refl _ _) _) (by simp) HB.out⟩

/-- Does none of 'rest' meet one ahead of it? -/
def apartL : List S23 → List S23 → Bool
  | _, [] => true
  | pre, a :: rest => !(pre.any (meetB a)) && apartL (pre ++ [a]) rest
theorem apartL_at (l : List S23) (k : Nat) (h : k < l.length) : apartL (l.take k) (l.drop k) = (!((l.take k).any (meetB (rd_T23 l (k : Int)))) && apartL (l.take (k + 1)) (l.drop (k + 1))) := by
  have e : rd_T23 l (k : Int) = l[k] := by simp [rd_T23, List.getD_eq_getElem?_getD, h]
  rw [List.drop_eq_getElem_cons h, List.take_succ_eq_append_getElem h, e]
  rfl
theorem rd23_mem (l : List S23) (k : Nat) (h : k < l.length) : rd_T23 l (k : Int) ∈ l := by
  have e : rd_T23 l (k : Int) = l[k] := by simp [rd_T23, List.getD_eq_getElem?_getD, h]
  rw [e]
  exact List.getElem_mem h
def rect_Apart.f (l0 : List (S23)) : Option Bool := some (l0.all mayR && apartL [] l0)
set_option maxHeartbeats 4000000 in
set_option maxRecDepth 100000 in
theorem rect_Apart.calls (A0 : Option Addr) (c0 : Nat) (l0 : List (S23)) (r : Bool) (w : World) (hr0 : Kd.C k23 w A0 l0.length l0) (hc0 : l0.length ≤ c0) (h : rect_Apart.f l0 = some r) :
    Calls Try.prog 69 #[.slice A0 l0.length c0] w fun e w' => e = .returned (.bool r) ∧ Below w.heap.size w w' := by
  unfold rect_Apart.f at h
  injection h with h
  subst h
  have HR := Aside0.mk hr0
  have HC0 := Aside0.mk hc0
  have hlen := hr0.2.1
  cases h2 : l0.all mayR with
  | false =>
    have HX := Aside0.mk (rect_May.calls A0 c0 l0 false w hr0 hc0 (by unfold rect_May.f; rw [h2]))
    rw [Bool.false_and]
    clear h2 hr0
    go_enter Try.func69, Try.ntmps69
    go_wp2_with fail
    refine HX.out.mono ?_
    rintro e w2 ⟨rfl, hb⟩
    have HB2 := Aside0.mk hb
    clear hb
    go_wp2
    go_ret
    exact ⟨rfl, HB2.out⟩
  | true =>
    have HX := Aside0.mk (rect_May.calls A0 c0 l0 true w hr0 hc0 (by unfold rect_May.f; rw [h2]))
    have HA := Aside0.mk (List.all_eq_true.1 h2)
    rw [Bool.true_and]
    clear h2 hr0
    go_enter Try.func69, Try.ntmps69
    go_wp2_with fail
    refine HX.out.mono ?_
    rintro e w2 ⟨rfl, hb⟩
    have HB2 := Aside0.mk hb
    clear hb
    go_wp2_with fail
    go_loopg [10] l0.length (fun gg v10 wr => ∃ kk : Nat, kk ≤ l0.length ∧ l0.length - kk ≤ gg ∧ v10 = .int .i64 kk ∧ Aside0 (Below w.heap.size w wr) ∧ Aside0 (apartL [] l0 = apartL (l0.take kk) (l0.drop kk)))
    case atStart => exact ⟨0, Nat.zero_le _, by omega, rfl, HB2, ⟨by simp⟩⟩
    case round =>
      clear HX HB2
      obtain ⟨kk, hkk, hg, rfl, HB, HS⟩ := hrel
      by_cases hlt : kk < l0.length
      · have hltz : (kk : Int) < (l0.length : Int) := by omega
        obtain ⟨ad, rfl, q0, q1, q2, q3⟩ := at_T23 (Kd.C_below HR.out HB.out) (kk : Int) (by omega) (by omega)
        have HAt := Aside0.mk (apartL_at l0 kk hlt)
        have HMo := Aside0.mk (HA.out _ (rd23_mem l0 kk hlt))
        have HT := Aside0.mk (Kd.C_take (m := kk) HR.out (by omega))
        simp only [Int.toNat_natCast] at q0 q1 q2 q3
        generalize rd_T23 l0 (kk : Int) = o at q0 q1 q2 q3 HAt HMo
        have HCon := Aside0.mk fun (g : Nat) (W0 : World) (hbl : Below w.heap.size w W0) (hbk : W0.heap[g]? = some (.cells #[.int .i64 o.f0, .int .i64 o.f1, .int .i64 o.f2, .int .i64 o.f3] 23 (0, 0))) =>
          con134 (fun (_ : Unit) W => Below W0.heap.size W0 W) (fun _ x => (meetB o x, ())) 139 #[.pointer (some ⟨g, 0, none⟩)] (enters_fn Try.func139 (by decide +kernel) (by kernel_rfl)) (l0.take kk) (some ad) c0 (fun _ W hW => Kd.C_below HT.out (below_then hbl hbl.size hW)) (fun _ W n hW => pw_below_drewN hW n)
            (fun _ W x hx hW => (apart1 o x g W (HA.out x (List.mem_of_mem_take hx)) HMo.out (blk_below hbk hW)).mono fun e w' ⟨he, hb⟩ => ⟨he, below_then hW hW.size hb⟩) () W0 (Below.refl _ _) HT.out.2.1
        simp only [scanB_any] at HCon
        have HK : Aside0 ((l0.take kk).length = kk) := ⟨by rw [List.length_take]; omega⟩
        cases hq : (l0.take kk).any (meetB o) with
        | true =>
          rw [hq] at HCon HAt
          clear hq
          go_wp2_with fail
          have h := HCon.out wr.heap.size _ (below_alloc HB.out _) (heap_alloc_new wr _)
          rw [HK.out] at h
          refine h.mono ?_
          rintro e w3 ⟨rfl, hb⟩
          have HB3 := Aside0.mk (below_then (below_alloc HB.out _) (below_alloc HB.out _).size hb)
          clear hb h
          go_wp2
          go_ret
          rw [HS.out, HAt.out]
          exact ⟨rfl, HB3.out⟩
        | false =>
          rw [hq] at HCon HAt
          clear hq
          go_wp2_with fail
          have h := HCon.out wr.heap.size _ (below_alloc HB.out _) (heap_alloc_new wr _)
          rw [HK.out] at h
          refine h.mono ?_
          rintro e w3 ⟨rfl, hb⟩
          have HB3 := Aside0.mk (below_then (below_alloc HB.out _) (below_alloc HB.out _).size hb)
          clear hb h
          go_wp2
          go_roundg (l0.length - (kk + 1))
          case measure => omega
          case rel => exact ⟨kk + 1, by omega, by omega, by go_num, HB3, ⟨by rw [HS.out, HAt.out]; rfl⟩⟩
      · have hltz : ¬ (kk : Int) < (l0.length : Int) := by omega
        go_wp2
        go_ret
        rw [HS.out, List.drop_eq_nil_of_le (by omega)]
        exact ⟨rfl, HB.out⟩
end Go.Proofs.Ytfdmfgaiblfbhaa.P
