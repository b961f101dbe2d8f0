/- LeastSums: part 6 of 7 of this claim's texts, one behind the other. The words of the kit's printer stand in it cut down, by a program, to those that are used. -/
import Derived.Test.YtfdmfgaiblfbhaaMLeastSumsd
import Derived.Test.YtfdmfgaiblfbhaaMLeastSumse
import Derived.Test.YtfdmfgaiblfbhaaMLeastSumsc
/- slices.IndexFunc, slices.ContainsFunc at S23: what they answer, with any function value that keeps an invariant of the world. -/
namespace Go.Proofs.Ytfdmfgaiblfbhaa.P
open Go.RowKit Go.Proofs.YtfdmfgaiblfbhaaW.PrintWords Go.Proofs.YtfdmfgaiblfbhaaW.PrintLast Go.Proofs.YtfdmfgaiblfbhaaW.PrintMore

set_option maxHeartbeats 2000000 in
set_option maxRecDepth 100000 in
theorem idx173 {σ : Type} (Inv : σ → World → Prop) (step : σ → S23 → Bool × σ) (g : Nat) (lb : Array Value) (eg : ∀ args w, (callFunc g args).run Try.prog w = .ok (.enter g args) w) (l : List S23) (A : Option Addr) (c : Nat)
    (hR : ∀ s W, Inv s W → Kd.C k23 W A l.length l) (hD : ∀ s W n, Inv s W → Inv s (W.drewN n))
    (hcall : ∀ s W (x : S23), x ∈ l → Inv s W → Calls Try.prog g (#[.agg #[.int .i64 x.f0, .int .i64 x.f1, .int .i64 x.f2, .int .i64 x.f3]] ++ lb) W fun e w' => e = .returned (.bool (step s x).1) ∧ Inv (step s x).2 w')
    (s : σ) (w : World) (hI : Inv s w) (hl : l.length ≤ 9223372036854775807) :
    Calls Try.prog 173 #[.slice A l.length c, .func (.func g) #[] lb] w fun e w' => e = .returned (.int .i64 (scanI step 0 s l).1) ∧ Inv (scanI step 0 s l).2 w' := by
  have HR := Aside0.mk hR
  have HI := Aside0.mk hI
  have HCall := Aside0.mk hcall
  clear hR hcall hD hI
  go_enter Try.func173, Try.ntmps173
  go_wp2
  go_loopg [5, 8] l.length (fun gg _ v8 wr => ∃ (kk : Nat) (t : σ), kk ≤ l.length ∧ l.length - kk ≤ gg ∧ v8 = .int .i64 kk ∧ Aside0 (Inv t wr) ∧ Aside0 (scanI step 0 s l = scanI step kk t (l.drop kk)))
  case atStart => exact ⟨0, s, Nat.zero_le _, by omega, rfl, HI, ⟨by simp⟩⟩
  case round =>
    clear HI
    obtain ⟨kk, t, hkk, hg, rfl, HI, HS⟩ := hrel
    by_cases hlt : kk < l.length
    · have hltz : (kk : Int) < (l.length : Int) := by omega
      obtain ⟨ad, rfl, hc0, hc1, hc2, hc3⟩ := at_T23 (HR.out t wr HI.out) (kk : Int) (by omega) (by omega)
      have HX : Aside0 (scanI step kk t (l.drop kk) = if (step t (rd_T23 l (kk : Int))).1 = true then ((kk : Int), (step t (rd_T23 l (kk : Int))).2) else scanI step ((kk + 1 : Nat) : Int) (step t (rd_T23 l (kk : Int))).2 (l.drop (kk + 1))) := ⟨scan_at step z23 l kk hlt t⟩
      have hmem : (rd_T23 l (kk : Int)) ∈ l := scan_mem z23 l kk hlt
      have hcall := HCall.out t wr _ hmem HI.out
      clear hmem
      simp only [Int.toNat_natCast] at hc0 hc1 hc2 hc3
      generalize rd_T23 l (kk : Int) = x at hc0 hc1 hc2 hc3 HX hcall
      have HC := Aside0.mk hcall
      clear hcall
      cases hq : (step t x).1 with
      | true =>
        have h := HC.out
        rw [hq] at h
        have HH := Aside0.mk h
        have HQ := Aside0.mk hq
        clear hq HC h
        go_wp2_with fail
        refine HH.out.mono ?_
        rintro e w' ⟨rfl, hb'⟩
        have HB := Aside0.mk hb'
        clear hb'
        go_wp2
        go_ret
        rw [HS.out, HX.out, if_pos HQ.out]
        exact ⟨rfl, HB.out⟩
      | false =>
        have h := HC.out
        rw [hq] at h
        have HH := Aside0.mk h
        have HQ := Aside0.mk hq
        clear hq HC h
        go_wp2_with fail
        refine HH.out.mono ?_
        rintro e w' ⟨rfl, hb'⟩
        have HB := Aside0.mk hb'
        clear hb'
        go_wp2
        go_roundg (l.length - (kk + 1))
        case measure => omega
        case rel =>
          refine ⟨kk + 1, (step t x).2, by omega, by omega, by go_num, HB, ⟨?_⟩⟩
          rw [HS.out, HX.out, if_neg (by rw [HQ.out]; simp)]
    · have hltz : ¬ (kk : Int) < (l.length : Int) := by omega
      go_wp2
      go_ret
      rw [HS.out, List.drop_eq_nil_of_le (by omega)]
      exact ⟨rfl, HI.out⟩

set_option maxHeartbeats 1000000 in
theorem con134 {σ : Type} (Inv : σ → World → Prop) (step : σ → S23 → Bool × σ) (g : Nat) (lb : Array Value) (eg : ∀ args w, (callFunc g args).run Try.prog w = .ok (.enter g args) w) (l : List S23) (A : Option Addr) (c : Nat)
    (hR : ∀ s W, Inv s W → Kd.C k23 W A l.length l) (hD : ∀ s W n, Inv s W → Inv s (W.drewN n))
    (hcall : ∀ s W (x : S23), x ∈ l → Inv s W → Calls Try.prog g (#[.agg #[.int .i64 x.f0, .int .i64 x.f1, .int .i64 x.f2, .int .i64 x.f3]] ++ lb) W fun e w' => e = .returned (.bool (step s x).1) ∧ Inv (step s x).2 w')
    (s : σ) (w : World) (hI : Inv s w) (hl : l.length ≤ 9223372036854775807) :
    Calls Try.prog 134 #[.slice A l.length c, .func (.func g) #[] lb] w fun e w' => e = .returned (.bool (scanB step s l).1) ∧ Inv (scanB step s l).2 w' := by
  have hi := idx173 Inv step g lb eg l A c hR hD hcall s w hI hl
  rw [scanB_eq]
  clear hR hD hcall hI
  generalize scanI step 0 s l = r at hi
  have HI := Aside0.mk hi
  clear hi
  go_enter Try.func134, Try.ntmps134
  go_wp2_with fail
  refine HI.out.mono ?_
  rintro e w' ⟨rfl, hb'⟩
  have HB := Aside0.mk hb'
  clear hb'
  go_wp2
  go_ret
  exact ⟨rfl, HB.out⟩
end Go.Proofs.Ytfdmfgaiblfbhaa.P
/- The contract of rect.May: whether all of some rectangles may be. -/
namespace Go.Proofs.Ytfdmfgaiblfbhaa.P
open Go.RowKit Go.Proofs.YtfdmfgaiblfbhaaW.PrintWords Go.Proofs.YtfdmfgaiblfbhaaW.PrintLast Go.Proofs.YtfdmfgaiblfbhaaW.PrintMore

set_option maxHeartbeats 1000000 in
theorem may1 (x : S23) (w : World) : Calls Try.prog 138 #[.agg #[.int .i64 x.f0, .int .i64 x.f1, .int .i64 x.f2, .int .i64 x.f3]] w fun e w' => e = .returned (.bool (!mayR x)) ∧ Below w.heap.size w w' := by
  have hc := fun W => rect_may.calls x.f0 x.f1 x.f2 x.f3 (mayR x) W (may_some _ _ _ _)
  have HC := Aside0.mk hc
  clear hc
  cases hm : mayR x with
  | true =>
    rw [hm] at HC
    clear hm
    go_enter Try.func138, Try.ntmps138
    go_wp2_with fail
    refine (HC.out _).mono ?_
    rintro e w' ⟨rfl, hb⟩
    have HB := Aside0.mk hb
    clear hb
    go_wp2
    go_ret
    exact ⟨rfl, below_then (below_alloc (Below.refl _ _) _) (by simp) HB.out⟩
  | false =>
    rw [hm] at HC
    clear hm
    go_enter Try.func138, Try.ntmps138
    go_wp2_with fail
    refine (HC.out _).mono ?_
    rintro e w' ⟨rfl, hb⟩
    have HB := Aside0.mk hb
    clear hb
    go_wp2
    go_ret
    exact ⟨rfl, below_then (below_alloc (Below.refl _ _) _) (by simp) HB.out⟩
def rect_May.f (l0 : List (S23)) : Option Bool := some (l0.all mayR)
set_option maxHeartbeats 1000000 in
theorem rect_May.calls (A0 : Option Addr) (c0 : Nat) (l0 : List (S23)) (r : Bool) (w : World) (hr0 : Kd.C k23 w A0 l0.length l0) (_hc0 : l0.length ≤ c0) (h : rect_May.f l0 = some r) :
    Calls Try.prog 68 #[.slice A0 l0.length c0] w fun e w' => e = .returned (.bool r) ∧ Below w.heap.size w w' := by
  have hcon := con134 (fun (_ : Unit) W => Below w.heap.size w W) (fun _ x => (!mayR x, ())) 138 #[] (enters_fn Try.func138 (by decide +kernel) (by kernel_rfl)) l0 A0 c0 (fun _ W hW => Kd.C_below hr0 hW) (fun _ W n hW => pw_below_drewN hW n)
    (fun _ W x _ hW => by
      rw [show (#[Value.agg #[.int .i64 x.f0, .int .i64 x.f1, .int .i64 x.f2, .int .i64 x.f3]] ++ #[] : Array Value) = #[.agg #[.int .i64 x.f0, .int .i64 x.f1, .int .i64 x.f2, .int .i64 x.f3]] by simp]
      exact (may1 x W).mono fun e w' ⟨he, hb⟩ => ⟨he, below_then hW hW.size hb⟩) () w (Below.refl _ _) hr0.2.1
  rw [scanB_any] at hcon
  have e1 : r = !(l0.any fun x => !mayR x) := by
    injection h with h
    rw [← h]
    clear h hcon hr0 _hc0
    induction l0 with
    | nil => rfl
    | cons x xs ih => simp only [List.all_cons, List.any_cons, ih, Bool.not_or, Bool.not_not]
  subst e1
  generalize (l0.any fun x => !mayR x) = b at hcon
  have HC := Aside0.mk hcon
  clear hcon h hr0
  go_enter Try.func68, Try.ntmps68
  go_wp2_with fail
  refine HC.out.mono ?_
  rintro e w' ⟨rfl, hb⟩
  have HB := Aside0.mk hb
  clear hb
  go_wp2
  go_ret
  exact ⟨rfl, HB.out⟩
end Go.Proofs.Ytfdmfgaiblfbhaa.P
/- The contract of cell.May: whether trees may be. Condition: each has at most 1048576 cells. -/
namespace Go.Proofs.Ytfdmfgaiblfbhaa.P
open Go.RowKit Go.Proofs.YtfdmfgaiblfbhaaW.PrintWords Go.Proofs.YtfdmfgaiblfbhaaW.PrintLast Go.Proofs.YtfdmfgaiblfbhaaW.PrintMore
set_option linter.unusedVariables false
set_option linter.unusedSimpArgs false
theorem Kp.grown {S : Nat → Prop} {W W1 : World} {g : Nat} (h : W.grownBy W1 (some g)) (hs : S g) : Kp S W W1 := ⟨h.size, fun k hk hn => h.block k hk (fun e => hn (by injection e with e; rw [e]; exact hs))⟩
theorem MayI.count {w0 W W1 : World} {bn bm B : Nat} {s : Int × List Int} {n : Int} (h : MayI w0 bn bm B s W) (hk : W1.heap[bn]? = some (.cells #[.int .i64 n] 3 (0, 0))) (hb : Below w0.heap.size w0 W1) (hg : W.grownBy W1 (some bn)) : MayI w0 bn bm B (n, s.2) W1 :=
  ⟨hk, blk_grown h.hm hg (fun e => h.neB.2.2 (Option.some.inj e)), h.map.kept hg (fun e => h.neB.1 (Option.some.inj e).symm), hb, h.gn, h.gB, h.nd, h.rg⟩
theorem MayI.met {w0 W W1 : World} {bn bm B : Nat} {s : Int × List Int} {i : Int} (h : MayI w0 bn bm B s W) (hm : W1.ownsMap (H := Unit) Try.prog 3 (plainElem Try.prog 4) B (s.2.length + 1) ((setD s.2).put (.int .i64 i) (.lit (.bool true)))) (hg : W.grownBy W1 (some B)) (hi : i ∉ s.2) (h0 : 0 ≤ i) (h1 : i ≤ 2147483647) : MayI w0 bn bm B (s.1, i :: s.2) W1 :=
  ⟨blk_grown h.hn hg (fun e => h.neB.1 (Option.some.inj e)), blk_grown h.hm hg (fun e => h.neB.2.1 (Option.some.inj e)), hm, grown_below h.below hg h.gB h.below.size, h.gn, h.gB, List.nodup_cons.2 ⟨hi, h.nd⟩, fun j hj => by
    rcases List.mem_cons.1 hj with rfl | hj
    · exact ⟨h0, h1⟩
    · exact h.rg j hj⟩
theorem zero4 (w : World) : (zeroValue 4).run Try.prog w = .ok (.bool false) w := by kernel_rfl
set_option maxHeartbeats 4000000 in
set_option maxRecDepth 100000 in
theorem may_A (w0 : World) (bn bm B : Nat) (s : Int × List Int) (W : World) (x : S26) (A : Option Addr) (cb : Nat) (hI : MayI w0 bn bm B s W) (h1 : 20000 < wrap64 (s.1 + 1)) :
    Calls Try.prog 176 (#[.agg #[.int .u8 x.f0, .int .i64 x.f1.f0, .int .i64 x.f1.f1, .int .i64 x.f1.f2, .int .i64 x.f1.f3, .int .i64 x.f2, .slice A x.f3.length cb]] ++ #[.pointer (some ⟨bn, 0, none⟩), .pointer (some ⟨bm, 0, none⟩)]) W fun e w' => e = .returned (.bool (mStep s x).1) ∧ MayI w0 bn bm B (mStep s x).2 w' ∧ Kp (MayS bn B) W w' := by
  rw [show mStep s x = (false, (wrap64 (s.1 + 1), s.2)) from by unfold mStep; rw [if_pos h1]]
  have HI := Aside0.mk hI
  have HK := Aside0.mk (Kp.refl (MayS bn B) W)
  clear hI
  simp only [List.append_toArray, List.cons_append, List.nil_append]
  go_enter Try.func176, Try.ntmps176
  go_wp2_with (first | ((with_reducible refine gate_dst (N := 3) rfl ?_); refine box_event ?hg (N := 3) ?hd (cs := #[.int .u8 x.f0, .int .i64 x.f1.f0, .int .i64 x.f1.f1, .int .i64 x.f1.f2, .int .i64 x.f1.f3, .int .i64 x.f2, .slice A x.f3.length cb]) (t := 26) ?hr ?_; (case hd => rfl); (case hg => rfl); (case hr => (go_simp; done)); intro b3 hg w3 hbox hb; have K3 := Aside0.mk hbox; have q1_ := Aside0.mk (HI.out.step hb); have q2_ := Aside0.mk (HK.out.trans (Kp.below hb)); clear HI HK; have HI := q1_; have HK := q2_; clear q1_ q2_; clear hb hbox hg; have cn := (blk_cell HI.out.hn 0).trans rfl) | ((with_reducible refine gate_ (.store 3 (.tmp 1) (.tmp 6)) rfl ?_); go_loud (clear cn; refine box_store (w0 := w0) rfl rfl 3 (.tmp 1) (.tmp 6) rfl (g := bn) (j := 0) (base := w0.heap.size) #[.int .i64 (wrap64 (s.1 + 1))] (u := .int .i64 (wrap64 (s.1 + 1))) (seg := [.int .i64 (wrap64 (s.1 + 1))]) ?sA ?sX rfl ?sT ?s1 HI.out.hn ?sJ rfl HI.out.below HI.out.below.size HI.out.gn ?_; (case sA => rfl); (case sX => rfl); (case sT => rfl); (case s1 => (simp [Value.oneCell'])); (case sJ => (simp)); intro ws hbk hbb hgg; have q1_ := Aside0.mk (HI.out.count hbk hbb hgg); have q2_ := Aside0.mk (HK.out.trans (Kp.grown hgg (Or.inl rfl))); have q3_ := Aside0.mk (blk_grown K3.out hgg (fun e_ => blk_ne K3.out HI.out.hn (by decide) (Option.some.inj e_))); clear HI HK K3 hbk hbb hgg; have HI := q1_; have HK := q2_; have K3 := q3_; clear q1_ q2_ q3_; have cn := (blk_cell HI.out.hn 0).trans rfl; have c0 := (blk_cell K3.out 0).trans rfl; have c1 := (blk_cell K3.out 1).trans rfl; have c2 := (blk_cell K3.out 2).trans rfl; have c3 := (blk_cell K3.out 3).trans rfl; have c4 := (blk_cell K3.out 4).trans rfl; have c5 := (blk_cell K3.out 5).trans rfl; have c6 := (blk_cell K3.out 6).trans rfl)))
  go_ret
  exact ⟨rfl, HI.out, HK.out⟩
set_option maxHeartbeats 4000000 in
set_option maxRecDepth 100000 in
theorem may_B (w0 : World) (bn bm B : Nat) (s : Int × List Int) (W : World) (x : S26) (A : Option Addr) (cb : Nat) (hI : MayI w0 bn bm B s W) (h1 : ¬ 20000 < wrap64 (s.1 + 1)) (h2 : nodeB x = false) :
    Calls Try.prog 176 (#[.agg #[.int .u8 x.f0, .int .i64 x.f1.f0, .int .i64 x.f1.f1, .int .i64 x.f1.f2, .int .i64 x.f1.f3, .int .i64 x.f2, .slice A x.f3.length cb]] ++ #[.pointer (some ⟨bn, 0, none⟩), .pointer (some ⟨bm, 0, none⟩)]) W fun e w' => e = .returned (.bool (mStep s x).1) ∧ MayI w0 bn bm B (mStep s x).2 w' ∧ Kp (MayS bn B) W w' := by
  rw [show mStep s x = (false, (wrap64 (s.1 + 1), s.2)) from by unfold mStep; rw [if_neg h1, okC_node, h2]; simp]
  have HN := Aside0.mk fun W => node177 x A cb W
  rw [h2] at HN
  clear h2
  have HI := Aside0.mk hI
  have HK := Aside0.mk (Kp.refl (MayS bn B) W)
  clear hI
  simp only [List.append_toArray, List.cons_append, List.nil_append]
  go_enter Try.func176, Try.ntmps176
  go_wp2_with (first | ((with_reducible refine gate_dst (N := 3) rfl ?_); refine box_event ?hg (N := 3) ?hd (cs := #[.int .u8 x.f0, .int .i64 x.f1.f0, .int .i64 x.f1.f1, .int .i64 x.f1.f2, .int .i64 x.f1.f3, .int .i64 x.f2, .slice A x.f3.length cb]) (t := 26) ?hr ?_; (case hd => rfl); (case hg => rfl); (case hr => (go_simp; done)); intro b3 hg w3 hbox hb; have K3 := Aside0.mk hbox; have q1_ := Aside0.mk (HI.out.step hb); have q2_ := Aside0.mk (HK.out.trans (Kp.below hb)); clear HI HK; have HI := q1_; have HK := q2_; clear q1_ q2_; clear hb hbox hg; have cn := (blk_cell HI.out.hn 0).trans rfl) | ((with_reducible refine gate_ (.store 3 (.tmp 1) (.tmp 6)) rfl ?_); go_loud (clear cn; refine box_store (w0 := w0) rfl rfl 3 (.tmp 1) (.tmp 6) rfl (g := bn) (j := 0) (base := w0.heap.size) #[.int .i64 (wrap64 (s.1 + 1))] (u := .int .i64 (wrap64 (s.1 + 1))) (seg := [.int .i64 (wrap64 (s.1 + 1))]) ?sA ?sX rfl ?sT ?s1 HI.out.hn ?sJ rfl HI.out.below HI.out.below.size HI.out.gn ?_; (case sA => rfl); (case sX => rfl); (case sT => rfl); (case s1 => (simp [Value.oneCell'])); (case sJ => (simp)); intro ws hbk hbb hgg; have q1_ := Aside0.mk (HI.out.count hbk hbb hgg); have q2_ := Aside0.mk (HK.out.trans (Kp.grown hgg (Or.inl rfl))); have q3_ := Aside0.mk (blk_grown K3.out hgg (fun e_ => blk_ne K3.out HI.out.hn (by decide) (Option.some.inj e_))); clear HI HK K3 hbk hbb hgg; have HI := q1_; have HK := q2_; have K3 := q3_; clear q1_ q2_ q3_; have cn := (blk_cell HI.out.hn 0).trans rfl; have c0 := (blk_cell K3.out 0).trans rfl; have c1 := (blk_cell K3.out 1).trans rfl; have c2 := (blk_cell K3.out 2).trans rfl; have c3 := (blk_cell K3.out 3).trans rfl; have c4 := (blk_cell K3.out 4).trans rfl; have c5 := (blk_cell K3.out 5).trans rfl; have c6 := (blk_cell K3.out 6).trans rfl)))
  clear cn
  clear c0 c1 c2 c3 c4 c5 c6
  refine (HN.out _).mono ?_
  rintro e wk ⟨rfl, hb⟩
  have q3_ := Aside0.mk (blk_below K3.out hb)
  clear K3
  have K3 := q3_
  clear q3_
  have q1_ := Aside0.mk (HI.out.step hb); have q2_ := Aside0.mk (HK.out.trans (Kp.below hb)); clear HI HK; have HI := q1_; have HK := q2_; clear q1_ q2_
  clear hb
  go_wp2
  go_ret
  exact ⟨rfl, HI.out, HK.out⟩
set_option maxHeartbeats 4000000 in
set_option maxRecDepth 100000 in
theorem may_C (w0 : World) (bn bm B : Nat) (s : Int × List Int) (W : World) (x : S26) (A : Option Addr) (cb : Nat) (hI : MayI w0 bn bm B s W) (h1 : ¬ 20000 < wrap64 (s.1 + 1)) (h2 : nodeB x = true) (h3 : mayR x.f1 = false) :
    Calls Try.prog 176 (#[.agg #[.int .u8 x.f0, .int .i64 x.f1.f0, .int .i64 x.f1.f1, .int .i64 x.f1.f2, .int .i64 x.f1.f3, .int .i64 x.f2, .slice A x.f3.length cb]] ++ #[.pointer (some ⟨bn, 0, none⟩), .pointer (some ⟨bm, 0, none⟩)]) W fun e w' => e = .returned (.bool (mStep s x).1) ∧ MayI w0 bn bm B (mStep s x).2 w' ∧ Kp (MayS bn B) W w' := by
  rw [show mStep s x = (false, (wrap64 (s.1 + 1), s.2)) from by unfold mStep; rw [if_neg h1, okC_node, h2, h3]; simp]
  have HN := Aside0.mk fun W => node177 x A cb W
  rw [h2] at HN
  clear h2
  have M1 := Aside0.mk (show rect_May.f [x.f1] = some false by simp [rect_May.f, h3])
  clear h3
  have HI := Aside0.mk hI
  have HK := Aside0.mk (Kp.refl (MayS bn B) W)
  clear hI
  simp only [List.append_toArray, List.cons_append, List.nil_append]
  go_enter Try.func176, Try.ntmps176
  go_wp2_with (first | ((with_reducible refine gate_dst (N := 3) rfl ?_); refine box_event ?hg (N := 3) ?hd (cs := #[.int .u8 x.f0, .int .i64 x.f1.f0, .int .i64 x.f1.f1, .int .i64 x.f1.f2, .int .i64 x.f1.f3, .int .i64 x.f2, .slice A x.f3.length cb]) (t := 26) ?hr ?_; (case hd => rfl); (case hg => rfl); (case hr => (go_simp; done)); intro b3 hg w3 hbox hb; have K3 := Aside0.mk hbox; have q1_ := Aside0.mk (HI.out.step hb); have q2_ := Aside0.mk (HK.out.trans (Kp.below hb)); clear HI HK; have HI := q1_; have HK := q2_; clear q1_ q2_; clear hb hbox hg; have cn := (blk_cell HI.out.hn 0).trans rfl) | ((with_reducible refine gate_ (.store 3 (.tmp 1) (.tmp 6)) rfl ?_); go_loud (clear cn; refine box_store (w0 := w0) rfl rfl 3 (.tmp 1) (.tmp 6) rfl (g := bn) (j := 0) (base := w0.heap.size) #[.int .i64 (wrap64 (s.1 + 1))] (u := .int .i64 (wrap64 (s.1 + 1))) (seg := [.int .i64 (wrap64 (s.1 + 1))]) ?sA ?sX rfl ?sT ?s1 HI.out.hn ?sJ rfl HI.out.below HI.out.below.size HI.out.gn ?_; (case sA => rfl); (case sX => rfl); (case sT => rfl); (case s1 => (simp [Value.oneCell'])); (case sJ => (simp)); intro ws hbk hbb hgg; have q1_ := Aside0.mk (HI.out.count hbk hbb hgg); have q2_ := Aside0.mk (HK.out.trans (Kp.grown hgg (Or.inl rfl))); have q3_ := Aside0.mk (blk_grown K3.out hgg (fun e_ => blk_ne K3.out HI.out.hn (by decide) (Option.some.inj e_))); clear HI HK K3 hbk hbb hgg; have HI := q1_; have HK := q2_; have K3 := q3_; clear q1_ q2_ q3_; have cn := (blk_cell HI.out.hn 0).trans rfl; have c0 := (blk_cell K3.out 0).trans rfl; have c1 := (blk_cell K3.out 1).trans rfl; have c2 := (blk_cell K3.out 2).trans rfl; have c3 := (blk_cell K3.out 3).trans rfl; have c4 := (blk_cell K3.out 4).trans rfl; have c5 := (blk_cell K3.out 5).trans rfl; have c6 := (blk_cell K3.out 6).trans rfl)))
  clear cn
  clear c0 c1 c2 c3 c4 c5 c6
  refine (HN.out _).mono ?_
  rintro e wk ⟨rfl, hb⟩
  have q3_ := Aside0.mk (blk_below K3.out hb)
  clear K3
  have K3 := q3_
  clear q3_
  have q1_ := Aside0.mk (HI.out.step hb); have q2_ := Aside0.mk (HK.out.trans (Kp.below hb)); clear HI HK; have HI := q1_; have HK := q2_; clear q1_ q2_
  clear hb
  have c0 := (blk_cell K3.out 0).trans rfl
  have c1 := (blk_cell K3.out 1).trans rfl
  have c2 := (blk_cell K3.out 2).trans rfl
  have c3 := (blk_cell K3.out 3).trans rfl
  have c4 := (blk_cell K3.out 4).trans rfl
  have c5 := (blk_cell K3.out 5).trans rfl
  have c6 := (blk_cell K3.out 6).trans rfl
  go_wp2_with (((with_reducible refine gate_dst (N := 17) rfl ?_); (try (refine gate_guard (by rfl) ?_; dsimp only)); refine Kd.R_lit k23 _ 23 ?hg (N := 17) ?hd (xs := ([x.f1] : List S23)) (inner := [.int .i64 x.f1.f0, .int .i64 x.f1.f1, .int .i64 x.f1.f2, .int .i64 x.f1.f3]) (ok := fun _ => True) (okp := fun _ => True) ?hr ?hp (fun _ hk => hk) trivial (Below.refl _ _) (Nat.le_refl _) (by simp) ?_; (case hd => rfl); (case hg => rfl); (case hr => (go_simp; done)); (case hp => exact (Reps.c4 (show Kd.M k23 _ _ _ x.f1 [.int .i64 x.f1.f0, .int .i64 x.f1.f1, .int .i64 x.f1.f2, .int .i64 x.f1.f3] from k23_mkM _ _ _ x.f1) (Reps.none _ _))); intro vr wr ho hb hg_ hnew_; clear hg_ hnew_; obtain ⟨Ar, cr, er⟩ := Kd.R_slice ho; subst er; have q3_ := Aside0.mk (blk_below K3.out hb); clear K3; have K3 := q3_; clear q3_; have q1_ := Aside0.mk (HI.out.step hb); have q2_ := Aside0.mk (HK.out.trans (Kp.below hb)); clear HI HK; have HI := q1_; have HK := q2_; clear q1_ q2_; have HR := Aside0.mk (Kd.R_reads' ho).2.2; have LR := Aside0.mk (Kd.R_reads' ho).2.1; clear ho hb))
  clear c0 c1 c2 c3 c4 c5 c6
  refine (rect_May.calls Ar cr [x.f1] false _ HR.out LR.out M1.out).mono ?_
  rintro e wk ⟨rfl, hb⟩
  have q3_ := Aside0.mk (blk_below K3.out hb)
  clear K3
  have K3 := q3_
  clear q3_
  have q1_ := Aside0.mk (HI.out.step hb); have q2_ := Aside0.mk (HK.out.trans (Kp.below hb)); clear HI HK; have HI := q1_; have HK := q2_; clear q1_ q2_
  clear hb
  go_wp2
  go_ret
  exact ⟨rfl, HI.out, HK.out⟩
set_option maxHeartbeats 4000000 in
set_option maxRecDepth 100000 in
theorem may_D (w0 : World) (bn bm B : Nat) (s : Int × List Int) (W : World) (x : S26) (A : Option Addr) (cb : Nat) (hI : MayI w0 bn bm B s W) (h1 : ¬ 20000 < wrap64 (s.1 + 1)) (h2 : nodeB x = true) (h3 : mayR x.f1 = true) (h4 : x.f0 ≠ 1) :
    Calls Try.prog 176 (#[.agg #[.int .u8 x.f0, .int .i64 x.f1.f0, .int .i64 x.f1.f1, .int .i64 x.f1.f2, .int .i64 x.f1.f3, .int .i64 x.f2, .slice A x.f3.length cb]] ++ #[.pointer (some ⟨bn, 0, none⟩), .pointer (some ⟨bm, 0, none⟩)]) W fun e w' => e = .returned (.bool (mStep s x).1) ∧ MayI w0 bn bm B (mStep s x).2 w' ∧ Kp (MayS bn B) W w' := by
  rw [show mStep s x = (true, (wrap64 (s.1 + 1), s.2)) from by unfold mStep; rw [if_neg h1, okC_node, h2, h3, if_neg (by simp), if_neg h4]]
  have HN := Aside0.mk fun W => node177 x A cb W
  rw [h2] at HN
  clear h2
  have M1 := Aside0.mk (show rect_May.f [x.f1] = some true by simp [rect_May.f, h3])
  clear h3
  have h4b : (x.f0 == 1) = false := beq_eq_false_iff_ne.mpr h4
  clear h4
  have HI := Aside0.mk hI
  have HK := Aside0.mk (Kp.refl (MayS bn B) W)
  clear hI
  simp only [List.append_toArray, List.cons_append, List.nil_append]
  go_enter Try.func176, Try.ntmps176
  go_wp2_with (first | ((with_reducible refine gate_dst (N := 3) rfl ?_); refine box_event ?hg (N := 3) ?hd (cs := #[.int .u8 x.f0, .int .i64 x.f1.f0, .int .i64 x.f1.f1, .int .i64 x.f1.f2, .int .i64 x.f1.f3, .int .i64 x.f2, .slice A x.f3.length cb]) (t := 26) ?hr ?_; (case hd => rfl); (case hg => rfl); (case hr => (go_simp; done)); intro b3 hg w3 hbox hb; have K3 := Aside0.mk hbox; have q1_ := Aside0.mk (HI.out.step hb); have q2_ := Aside0.mk (HK.out.trans (Kp.below hb)); clear HI HK; have HI := q1_; have HK := q2_; clear q1_ q2_; clear hb hbox hg; have cn := (blk_cell HI.out.hn 0).trans rfl) | ((with_reducible refine gate_ (.store 3 (.tmp 1) (.tmp 6)) rfl ?_); go_loud (clear cn; refine box_store (w0 := w0) rfl rfl 3 (.tmp 1) (.tmp 6) rfl (g := bn) (j := 0) (base := w0.heap.size) #[.int .i64 (wrap64 (s.1 + 1))] (u := .int .i64 (wrap64 (s.1 + 1))) (seg := [.int .i64 (wrap64 (s.1 + 1))]) ?sA ?sX rfl ?sT ?s1 HI.out.hn ?sJ rfl HI.out.below HI.out.below.size HI.out.gn ?_; (case sA => rfl); (case sX => rfl); (case sT => rfl); (case s1 => (simp [Value.oneCell'])); (case sJ => (simp)); intro ws hbk hbb hgg; have q1_ := Aside0.mk (HI.out.count hbk hbb hgg); have q2_ := Aside0.mk (HK.out.trans (Kp.grown hgg (Or.inl rfl))); have q3_ := Aside0.mk (blk_grown K3.out hgg (fun e_ => blk_ne K3.out HI.out.hn (by decide) (Option.some.inj e_))); clear HI HK K3 hbk hbb hgg; have HI := q1_; have HK := q2_; have K3 := q3_; clear q1_ q2_ q3_; have cn := (blk_cell HI.out.hn 0).trans rfl; have c0 := (blk_cell K3.out 0).trans rfl; have c1 := (blk_cell K3.out 1).trans rfl; have c2 := (blk_cell K3.out 2).trans rfl; have c3 := (blk_cell K3.out 3).trans rfl; have c4 := (blk_cell K3.out 4).trans rfl; have c5 := (blk_cell K3.out 5).trans rfl; have c6 := (blk_cell K3.out 6).trans rfl)))
  clear cn
  clear c0 c1 c2 c3 c4 c5 c6
  refine (HN.out _).mono ?_
  rintro e wk ⟨rfl, hb⟩
  have q3_ := Aside0.mk (blk_below K3.out hb)
  clear K3
  have K3 := q3_
  clear q3_
  have q1_ := Aside0.mk (HI.out.step hb); have q2_ := Aside0.mk (HK.out.trans (Kp.below hb)); clear HI HK; have HI := q1_; have HK := q2_; clear q1_ q2_
  clear hb
  have c0 := (blk_cell K3.out 0).trans rfl
  have c1 := (blk_cell K3.out 1).trans rfl
  have c2 := (blk_cell K3.out 2).trans rfl
  have c3 := (blk_cell K3.out 3).trans rfl
  have c4 := (blk_cell K3.out 4).trans rfl
  have c5 := (blk_cell K3.out 5).trans rfl
  have c6 := (blk_cell K3.out 6).trans rfl
  go_wp2_with (((with_reducible refine gate_dst (N := 17) rfl ?_); (try (refine gate_guard (by rfl) ?_; dsimp only)); refine Kd.R_lit k23 _ 23 ?hg (N := 17) ?hd (xs := ([x.f1] : List S23)) (inner := [.int .i64 x.f1.f0, .int .i64 x.f1.f1, .int .i64 x.f1.f2, .int .i64 x.f1.f3]) (ok := fun _ => True) (okp := fun _ => True) ?hr ?hp (fun _ hk => hk) trivial (Below.refl _ _) (Nat.le_refl _) (by simp) ?_; (case hd => rfl); (case hg => rfl); (case hr => (go_simp; done)); (case hp => exact (Reps.c4 (show Kd.M k23 _ _ _ x.f1 [.int .i64 x.f1.f0, .int .i64 x.f1.f1, .int .i64 x.f1.f2, .int .i64 x.f1.f3] from k23_mkM _ _ _ x.f1) (Reps.none _ _))); intro vr wr ho hb hg_ hnew_; clear hg_ hnew_; obtain ⟨Ar, cr, er⟩ := Kd.R_slice ho; subst er; have q3_ := Aside0.mk (blk_below K3.out hb); clear K3; have K3 := q3_; clear q3_; have q1_ := Aside0.mk (HI.out.step hb); have q2_ := Aside0.mk (HK.out.trans (Kp.below hb)); clear HI HK; have HI := q1_; have HK := q2_; clear q1_ q2_; have HR := Aside0.mk (Kd.R_reads' ho).2.2; have LR := Aside0.mk (Kd.R_reads' ho).2.1; clear ho hb))
  clear c0 c1 c2 c3 c4 c5 c6
  refine (rect_May.calls Ar cr [x.f1] true _ HR.out LR.out M1.out).mono ?_
  rintro e wk ⟨rfl, hb⟩
  have q3_ := Aside0.mk (blk_below K3.out hb)
  clear K3
  have K3 := q3_
  clear q3_
  have q1_ := Aside0.mk (HI.out.step hb); have q2_ := Aside0.mk (HK.out.trans (Kp.below hb)); clear HI HK; have HI := q1_; have HK := q2_; clear q1_ q2_
  clear hb
  have c0 := (blk_cell K3.out 0).trans rfl
  have c1 := (blk_cell K3.out 1).trans rfl
  have c2 := (blk_cell K3.out 2).trans rfl
  have c3 := (blk_cell K3.out 3).trans rfl
  have c4 := (blk_cell K3.out 4).trans rfl
  have c5 := (blk_cell K3.out 5).trans rfl
  have c6 := (blk_cell K3.out 6).trans rfl
  go_wp2
  go_ret
  exact ⟨rfl, HI.out, HK.out⟩
set_option maxHeartbeats 4000000 in
set_option maxRecDepth 100000 in
theorem may_E (w0 : World) (bn bm B : Nat) (s : Int × List Int) (W : World) (x : S26) (A : Option Addr) (cb : Nat) (hI : MayI w0 bn bm B s W) (h1 : ¬ 20000 < wrap64 (s.1 + 1)) (h2 : nodeB x = true) (h3 : mayR x.f1 = true) (h4 : x.f0 = 1) (h5 : 0 ≤ x.f2) (h6 : x.f2 ≤ 2147483647) (h7 : x.f2 ∈ s.2) :
    Calls Try.prog 176 (#[.agg #[.int .u8 x.f0, .int .i64 x.f1.f0, .int .i64 x.f1.f1, .int .i64 x.f1.f2, .int .i64 x.f1.f3, .int .i64 x.f2, .slice A x.f3.length cb]] ++ #[.pointer (some ⟨bn, 0, none⟩), .pointer (some ⟨bm, 0, none⟩)]) W fun e w' => e = .returned (.bool (mStep s x).1) ∧ MayI w0 bn bm B (mStep s x).2 w' ∧ Kp (MayS bn B) W w' := by
  rw [show mStep s x = (false, (wrap64 (s.1 + 1), s.2)) from by unfold mStep; rw [if_neg h1, okC_node, h2, h3, if_neg (by simp), if_pos h4, if_pos h7]]
  have HN := Aside0.mk fun W => node177 x A cb W
  rw [h2] at HN
  clear h2
  have M1 := Aside0.mk (show rect_May.f [x.f1] = some true by simp [rect_May.f, h3])
  clear h3
  have LK : Aside0 ((setD s.2).atKey (.int .i64 x.f2) (.lit (.bool false)) = .lit (.bool true)) := ⟨by rw [setD_at, decide_eq_true h7]⟩
  clear h7
  have WF : Aside0 ((Lit.int .i64 x.f2).wf = true) := ⟨WalkArith.wf_i64 (by omega)⟩
  have h4b : (x.f0 == 1) = true := beq_iff_eq.mpr h4
  clear h4 h5 h6
  have HI := Aside0.mk hI
  have HK := Aside0.mk (Kp.refl (MayS bn B) W)
  clear hI
  simp only [List.append_toArray, List.cons_append, List.nil_append]
  go_enter Try.func176, Try.ntmps176
  go_wp2_with (first | ((with_reducible refine gate_dst (N := 3) rfl ?_); refine box_event ?hg (N := 3) ?hd (cs := #[.int .u8 x.f0, .int .i64 x.f1.f0, .int .i64 x.f1.f1, .int .i64 x.f1.f2, .int .i64 x.f1.f3, .int .i64 x.f2, .slice A x.f3.length cb]) (t := 26) ?hr ?_; (case hd => rfl); (case hg => rfl); (case hr => (go_simp; done)); intro b3 hg w3 hbox hb; have K3 := Aside0.mk hbox; have q1_ := Aside0.mk (HI.out.step hb); have q2_ := Aside0.mk (HK.out.trans (Kp.below hb)); clear HI HK; have HI := q1_; have HK := q2_; clear q1_ q2_; clear hb hbox hg; have cn := (blk_cell HI.out.hn 0).trans rfl) | ((with_reducible refine gate_ (.store 3 (.tmp 1) (.tmp 6)) rfl ?_); go_loud (clear cn; refine box_store (w0 := w0) rfl rfl 3 (.tmp 1) (.tmp 6) rfl (g := bn) (j := 0) (base := w0.heap.size) #[.int .i64 (wrap64 (s.1 + 1))] (u := .int .i64 (wrap64 (s.1 + 1))) (seg := [.int .i64 (wrap64 (s.1 + 1))]) ?sA ?sX rfl ?sT ?s1 HI.out.hn ?sJ rfl HI.out.below HI.out.below.size HI.out.gn ?_; (case sA => rfl); (case sX => rfl); (case sT => rfl); (case s1 => (simp [Value.oneCell'])); (case sJ => (simp)); intro ws hbk hbb hgg; have q1_ := Aside0.mk (HI.out.count hbk hbb hgg); have q2_ := Aside0.mk (HK.out.trans (Kp.grown hgg (Or.inl rfl))); have q3_ := Aside0.mk (blk_grown K3.out hgg (fun e_ => blk_ne K3.out HI.out.hn (by decide) (Option.some.inj e_))); clear HI HK K3 hbk hbb hgg; have HI := q1_; have HK := q2_; have K3 := q3_; clear q1_ q2_ q3_; have cn := (blk_cell HI.out.hn 0).trans rfl; have c0 := (blk_cell K3.out 0).trans rfl; have c1 := (blk_cell K3.out 1).trans rfl; have c2 := (blk_cell K3.out 2).trans rfl; have c3 := (blk_cell K3.out 3).trans rfl; have c4 := (blk_cell K3.out 4).trans rfl; have c5 := (blk_cell K3.out 5).trans rfl; have c6 := (blk_cell K3.out 6).trans rfl)))
  clear cn
  clear c0 c1 c2 c3 c4 c5 c6
  refine (HN.out _).mono ?_
  rintro e wk ⟨rfl, hb⟩
  have q3_ := Aside0.mk (blk_below K3.out hb)
  clear K3
  have K3 := q3_
  clear q3_
  have q1_ := Aside0.mk (HI.out.step hb); have q2_ := Aside0.mk (HK.out.trans (Kp.below hb)); clear HI HK; have HI := q1_; have HK := q2_; clear q1_ q2_
  clear hb
  have c0 := (blk_cell K3.out 0).trans rfl
  have c1 := (blk_cell K3.out 1).trans rfl
  have c2 := (blk_cell K3.out 2).trans rfl
  have c3 := (blk_cell K3.out 3).trans rfl
  have c4 := (blk_cell K3.out 4).trans rfl
  have c5 := (blk_cell K3.out 5).trans rfl
  have c6 := (blk_cell K3.out 6).trans rfl
  go_wp2_with (((with_reducible refine gate_dst (N := 17) rfl ?_); (try (refine gate_guard (by rfl) ?_; dsimp only)); refine Kd.R_lit k23 _ 23 ?hg (N := 17) ?hd (xs := ([x.f1] : List S23)) (inner := [.int .i64 x.f1.f0, .int .i64 x.f1.f1, .int .i64 x.f1.f2, .int .i64 x.f1.f3]) (ok := fun _ => True) (okp := fun _ => True) ?hr ?hp (fun _ hk => hk) trivial (Below.refl _ _) (Nat.le_refl _) (by simp) ?_; (case hd => rfl); (case hg => rfl); (case hr => (go_simp; done)); (case hp => exact (Reps.c4 (show Kd.M k23 _ _ _ x.f1 [.int .i64 x.f1.f0, .int .i64 x.f1.f1, .int .i64 x.f1.f2, .int .i64 x.f1.f3] from k23_mkM _ _ _ x.f1) (Reps.none _ _))); intro vr wr ho hb hg_ hnew_; clear hg_ hnew_; obtain ⟨Ar, cr, er⟩ := Kd.R_slice ho; subst er; have q3_ := Aside0.mk (blk_below K3.out hb); clear K3; have K3 := q3_; clear q3_; have q1_ := Aside0.mk (HI.out.step hb); have q2_ := Aside0.mk (HK.out.trans (Kp.below hb)); clear HI HK; have HI := q1_; have HK := q2_; clear q1_ q2_; have HR := Aside0.mk (Kd.R_reads' ho).2.2; have LR := Aside0.mk (Kd.R_reads' ho).2.1; clear ho hb))
  clear c0 c1 c2 c3 c4 c5 c6
  refine (rect_May.calls Ar cr [x.f1] true _ HR.out LR.out M1.out).mono ?_
  rintro e wk ⟨rfl, hb⟩
  have q3_ := Aside0.mk (blk_below K3.out hb)
  clear K3
  have K3 := q3_
  clear q3_
  have q1_ := Aside0.mk (HI.out.step hb); have q2_ := Aside0.mk (HK.out.trans (Kp.below hb)); clear HI HK; have HI := q1_; have HK := q2_; clear q1_ q2_
  clear hb
  have c0 := (blk_cell K3.out 0).trans rfl
  have c1 := (blk_cell K3.out 1).trans rfl
  have c2 := (blk_cell K3.out 2).trans rfl
  have c3 := (blk_cell K3.out 3).trans rfl
  have c4 := (blk_cell K3.out 4).trans rfl
  have c5 := (blk_cell K3.out 5).trans rfl
  have c6 := (blk_cell K3.out 6).trans rfl
  have cm := (blk_cell HI.out.hm 0).trans rfl
  go_wp2_with (((with_reducible refine gate_dst (N := 29) rfl ?_); (try (refine gate_guard (by rfl) ?_; dsimp only)); refine lookup_bool _ rfl _ _ 161 rfl 3 4 (Maps.int_keyed Try.underlying3) Try.underlying161 Try.underlying4 (zero4 _) B _ _ rfl HI.out.map _ (.int .i64 x.f2) rfl (Maps.keyOf_int_mk Try.underlying3 WF.out) true LK.out ?_))
  go_ret
  exact ⟨rfl, HI.out, HK.out⟩
set_option maxHeartbeats 4000000 in
set_option maxRecDepth 100000 in
theorem may_F (w0 : World) (bn bm B : Nat) (s : Int × List Int) (W : World) (x : S26) (A : Option Addr) (cb : Nat) (hI : MayI w0 bn bm B s W) (h1 : ¬ 20000 < wrap64 (s.1 + 1)) (h2 : nodeB x = true) (h3 : mayR x.f1 = true) (h4 : x.f0 = 1) (h5 : 0 ≤ x.f2) (h6 : x.f2 ≤ 2147483647) (h7 : x.f2 ∉ s.2) :
    Calls Try.prog 176 (#[.agg #[.int .u8 x.f0, .int .i64 x.f1.f0, .int .i64 x.f1.f1, .int .i64 x.f1.f2, .int .i64 x.f1.f3, .int .i64 x.f2, .slice A x.f3.length cb]] ++ #[.pointer (some ⟨bn, 0, none⟩), .pointer (some ⟨bm, 0, none⟩)]) W fun e w' => e = .returned (.bool (mStep s x).1) ∧ MayI w0 bn bm B (mStep s x).2 w' ∧ Kp (MayS bn B) W w' := by
  rw [show mStep s x = (true, (wrap64 (s.1 + 1), x.f2 :: s.2)) from by unfold mStep; rw [if_neg h1, okC_node, h2, h3, if_neg (by simp), if_pos h4, if_neg h7]]
  have HN := Aside0.mk fun W => node177 x A cb W
  rw [h2] at HN
  clear h2
  have M1 := Aside0.mk (show rect_May.f [x.f1] = some true by simp [rect_May.f, h3])
  clear h3
  have LK : Aside0 ((setD s.2).atKey (.int .i64 x.f2) (.lit (.bool false)) = .lit (.bool false)) := ⟨by rw [setD_at, decide_eq_false h7]⟩
  have NM := Aside0.mk h7
  clear h7
  have HLN : Aside0 (s.2.length < maxLen) := ⟨by have h8 := nodup_le 2147483648 s.2 hI.nd (fun i hi => by have := hI.rg i hi; omega); unfold maxLen; omega⟩
  have I0 := Aside0.mk h5
  have I1 := Aside0.mk h6
  have WF : Aside0 ((Lit.int .i64 x.f2).wf = true) := ⟨WalkArith.wf_i64 (by omega)⟩
  have h4b : (x.f0 == 1) = true := beq_iff_eq.mpr h4
  clear h4 h5 h6
  have HI := Aside0.mk hI
  have HK := Aside0.mk (Kp.refl (MayS bn B) W)
  clear hI
  simp only [List.append_toArray, List.cons_append, List.nil_append]
  go_enter Try.func176, Try.ntmps176
  go_wp2_with (first | ((with_reducible refine gate_dst (N := 3) rfl ?_); refine box_event ?hg (N := 3) ?hd (cs := #[.int .u8 x.f0, .int .i64 x.f1.f0, .int .i64 x.f1.f1, .int .i64 x.f1.f2, .int .i64 x.f1.f3, .int .i64 x.f2, .slice A x.f3.length cb]) (t := 26) ?hr ?_; (case hd => rfl); (case hg => rfl); (case hr => (go_simp; done)); intro b3 hg w3 hbox hb; have K3 := Aside0.mk hbox; have q1_ := Aside0.mk (HI.out.step hb); have q2_ := Aside0.mk (HK.out.trans (Kp.below hb)); clear HI HK; have HI := q1_; have HK := q2_; clear q1_ q2_; clear hb hbox hg; have cn := (blk_cell HI.out.hn 0).trans rfl) | ((with_reducible refine gate_ (.store 3 (.tmp 1) (.tmp 6)) rfl ?_); go_loud (clear cn; refine box_store (w0 := w0) rfl rfl 3 (.tmp 1) (.tmp 6) rfl (g := bn) (j := 0) (base := w0.heap.size) #[.int .i64 (wrap64 (s.1 + 1))] (u := .int .i64 (wrap64 (s.1 + 1))) (seg := [.int .i64 (wrap64 (s.1 + 1))]) ?sA ?sX rfl ?sT ?s1 HI.out.hn ?sJ rfl HI.out.below HI.out.below.size HI.out.gn ?_; (case sA => rfl); (case sX => rfl); (case sT => rfl); (case s1 => (simp [Value.oneCell'])); (case sJ => (simp)); intro ws hbk hbb hgg; have q1_ := Aside0.mk (HI.out.count hbk hbb hgg); have q2_ := Aside0.mk (HK.out.trans (Kp.grown hgg (Or.inl rfl))); have q3_ := Aside0.mk (blk_grown K3.out hgg (fun e_ => blk_ne K3.out HI.out.hn (by decide) (Option.some.inj e_))); clear HI HK K3 hbk hbb hgg; have HI := q1_; have HK := q2_; have K3 := q3_; clear q1_ q2_ q3_; have cn := (blk_cell HI.out.hn 0).trans rfl; have c0 := (blk_cell K3.out 0).trans rfl; have c1 := (blk_cell K3.out 1).trans rfl; have c2 := (blk_cell K3.out 2).trans rfl; have c3 := (blk_cell K3.out 3).trans rfl; have c4 := (blk_cell K3.out 4).trans rfl; have c5 := (blk_cell K3.out 5).trans rfl; have c6 := (blk_cell K3.out 6).trans rfl)))
  clear cn
  clear c0 c1 c2 c3 c4 c5 c6
  refine (HN.out _).mono ?_
  rintro e wk ⟨rfl, hb⟩
  have q3_ := Aside0.mk (blk_below K3.out hb)
  clear K3
  have K3 := q3_
  clear q3_
  have q1_ := Aside0.mk (HI.out.step hb); have q2_ := Aside0.mk (HK.out.trans (Kp.below hb)); clear HI HK; have HI := q1_; have HK := q2_; clear q1_ q2_
  clear hb
  have c0 := (blk_cell K3.out 0).trans rfl
  have c1 := (blk_cell K3.out 1).trans rfl
  have c2 := (blk_cell K3.out 2).trans rfl
  have c3 := (blk_cell K3.out 3).trans rfl
  have c4 := (blk_cell K3.out 4).trans rfl
  have c5 := (blk_cell K3.out 5).trans rfl
  have c6 := (blk_cell K3.out 6).trans rfl
  go_wp2_with (((with_reducible refine gate_dst (N := 17) rfl ?_); (try (refine gate_guard (by rfl) ?_; dsimp only)); refine Kd.R_lit k23 _ 23 ?hg (N := 17) ?hd (xs := ([x.f1] : List S23)) (inner := [.int .i64 x.f1.f0, .int .i64 x.f1.f1, .int .i64 x.f1.f2, .int .i64 x.f1.f3]) (ok := fun _ => True) (okp := fun _ => True) ?hr ?hp (fun _ hk => hk) trivial (Below.refl _ _) (Nat.le_refl _) (by simp) ?_; (case hd => rfl); (case hg => rfl); (case hr => (go_simp; done)); (case hp => exact (Reps.c4 (show Kd.M k23 _ _ _ x.f1 [.int .i64 x.f1.f0, .int .i64 x.f1.f1, .int .i64 x.f1.f2, .int .i64 x.f1.f3] from k23_mkM _ _ _ x.f1) (Reps.none _ _))); intro vr wr ho hb hg_ hnew_; clear hg_ hnew_; obtain ⟨Ar, cr, er⟩ := Kd.R_slice ho; subst er; have q3_ := Aside0.mk (blk_below K3.out hb); clear K3; have K3 := q3_; clear q3_; have q1_ := Aside0.mk (HI.out.step hb); have q2_ := Aside0.mk (HK.out.trans (Kp.below hb)); clear HI HK; have HI := q1_; have HK := q2_; clear q1_ q2_; have HR := Aside0.mk (Kd.R_reads' ho).2.2; have LR := Aside0.mk (Kd.R_reads' ho).2.1; clear ho hb))
  clear c0 c1 c2 c3 c4 c5 c6
  refine (rect_May.calls Ar cr [x.f1] true _ HR.out LR.out M1.out).mono ?_
  rintro e wk ⟨rfl, hb⟩
  have q3_ := Aside0.mk (blk_below K3.out hb)
  clear K3
  have K3 := q3_
  clear q3_
  have q1_ := Aside0.mk (HI.out.step hb); have q2_ := Aside0.mk (HK.out.trans (Kp.below hb)); clear HI HK; have HI := q1_; have HK := q2_; clear q1_ q2_
  clear hb
  have c0 := (blk_cell K3.out 0).trans rfl
  have c1 := (blk_cell K3.out 1).trans rfl
  have c2 := (blk_cell K3.out 2).trans rfl
  have c3 := (blk_cell K3.out 3).trans rfl
  have c4 := (blk_cell K3.out 4).trans rfl
  have c5 := (blk_cell K3.out 5).trans rfl
  have c6 := (blk_cell K3.out 6).trans rfl
  have cm := (blk_cell HI.out.hm 0).trans rfl
  go_wp2_with (first | ((with_reducible refine gate_dst (N := 29) rfl ?_); (try (refine gate_guard (by rfl) ?_; dsimp only)); refine lookup_bool _ rfl _ _ 161 rfl 3 4 (Maps.int_keyed Try.underlying3) Try.underlying161 Try.underlying4 (zero4 _) B _ _ rfl HI.out.map _ (.int .i64 x.f2) rfl (Maps.keyOf_int_mk Try.underlying3 WF.out) false LK.out ?_) | (at_mapUpdate; refine wpList_mapUpdate_own _ rfl _ _ _ 161 rfl 3 4 (Maps.int_keyed Try.underlying3) Try.underlying161 _ B _ _ rfl HI.out.map HLN.out _ _ (.int .i64 x.f2) rfl rfl (Maps.keyOf_int_mk Try.underlying3 WF.out) (.lit (.bool true)) [] (plainElem_bool Try.underlying4 true) ?_; intro wu hown1 hgrow1; have q1_ := Aside0.mk (HI.out.met hown1 hgrow1 NM.out I0.out I1.out); have q2_ := Aside0.mk (HK.out.trans (Kp.grown hgrow1 (Or.inr rfl))); clear HI HK hown1 hgrow1; have HI := q1_; have HK := q2_; clear q1_ q2_))
  go_ret
  exact ⟨rfl, HI.out, HK.out⟩
theorem may176 (w0 : World) (bn bm B : Nat) (s : Int × List Int) (W : World) (x : S26) (A : Option Addr) (cb : Nat) (hI : MayI w0 bn bm B s W) :
    Calls Try.prog 176 (#[.agg #[.int .u8 x.f0, .int .i64 x.f1.f0, .int .i64 x.f1.f1, .int .i64 x.f1.f2, .int .i64 x.f1.f3, .int .i64 x.f2, .slice A x.f3.length cb]] ++ #[.pointer (some ⟨bn, 0, none⟩), .pointer (some ⟨bm, 0, none⟩)]) W fun e w' => e = .returned (.bool (mStep s x).1) ∧ MayI w0 bn bm B (mStep s x).2 w' ∧ Kp (MayS bn B) W w' := by
  by_cases h1 : 20000 < wrap64 (s.1 + 1)
  · exact may_A w0 bn bm B s W x A cb hI h1
  · cases h2 : nodeB x with
    | false => exact may_B w0 bn bm B s W x A cb hI h1 h2
    | true =>
      cases h3 : mayR x.f1 with
      | false => exact may_C w0 bn bm B s W x A cb hI h1 h2 h3
      | true =>
        by_cases h4 : x.f0 = 1
        · have h8 := h2
          unfold nodeB at h8
          rw [if_pos h4] at h8
          simp only [Bool.and_eq_true, decide_eq_true_eq] at h8
          by_cases h7 : x.f2 ∈ s.2
          · exact may_E w0 bn bm B s W x A cb hI h1 h2 h3 h4 h8.2.1 h8.2.2 h7
          · exact may_F w0 bn bm B s W x A cb hI h1 h2 h3 h4 h8.2.1 h8.2.2 h7
        · exact may_D w0 bn bm B s W x A cb hI h1 h2 h3 h4
end Go.Proofs.Ytfdmfgaiblfbhaa.P
/- The contract of cell.May: whether trees may be. Condition: each has at most 1048576 cells. -/
namespace Go.Proofs.Ytfdmfgaiblfbhaa.P
open Go.RowKit Go.Proofs.YtfdmfgaiblfbhaaW.PrintWords Go.Proofs.YtfdmfgaiblfbhaaW.PrintLast Go.Proofs.YtfdmfgaiblfbhaaW.PrintMore
set_option linter.unusedVariables false
set_option linter.unusedSimpArgs false
section
variable {P : Program} {ops : Array Oper} {rest : List Oper} {o : Oper} {a : Act} {Q : Exit → Act → World → Prop}
theorem map_event {W : World} (hgd : o.guard = none) {N : Tmp} (_hd : o.dst = some N) (t k e : TypeId) (ho : o.op = .makeMap t none)
    (h : ∀ g, g = W.heap.size → ∀ w1, Below W.heap.size W w1 → w1.ownsMap (H := Unit) P k (plainElem P e) g 0 (.map []) → wpList P ops Q rest (a.put o.dst (.map (some g))) w1) : wpList P ops Q (o :: rest) a W := by
  refine Kd.event_run hgd (w1 := W.alloc (.map #[] 0)) (v := .map (some W.heap.size)) ?_ (h _ rfl _ (below_alloc (Below.refl _ _) _) (World.ownsMap_made W P k _))
  unfold execOp
  simp [ho, run_makeMap, Result.andThen]
end
set_option maxHeartbeats 4000000 in
set_option maxRecDepth 100000 in
theorem may144 (c : S26) (A : Option Addr) (cc : Nat) (W : World) (hz : sz c ≤ 1048576) (hr : Kd.C k26 W A c.f3.length c.f3) (hc : c.f3.length ≤ cc) : Calls Try.prog 144 #[.agg #[.int .u8 c.f0, .int .i64 c.f1.f0, .int .i64 c.f1.f1, .int .i64 c.f1.f2, .int .i64 c.f1.f3, .int .i64 c.f2, .slice A c.f3.length cc]] W fun e w' => e = .returned (.bool (mayC c)) ∧ Below W.heap.size W w' := by
  have H175 := Aside0.mk fun (bn bm B : Nat) (W1 : World) (hI : MayI W bn bm B (0, []) W1) => all175 (MayS bn B) (MayI W bn bm B) mStep 176 #[.pointer (some ⟨bn, 0, none⟩), .pointer (some ⟨bm, 0, none⟩)] (enters_fn Try.func176 (by decide +kernel) (by kernel_rfl)) W (fun s w h => h.below) (fun s w w' h hb => h.step hb)
    (fun s w h k hk => hk.elim (fun e => e ▸ blk_lt h.hn) (fun e => e ▸ h.map.lt)) (fun s w x B' cb h _ _ => may176 W bn bm B s w x B' cb h) (sz c) c (Nat.le_refl _) A cc hr hc (0, []) W1 hI
  rw [allS_may c hz] at H175
  have HB := Aside0.mk (Below.refl W.heap.size W)
  clear hr hc hz
  generalize mayC c = r at H175 ⊢
  go_enter Try.func144, Try.ntmps144
  go_wp2_with (first | ((with_reducible refine gate_dst (N := 1) rfl ?_); refine box_event ?hg (N := 1) ?hd (cs := #[.int .u8 c.f0, .int .i64 c.f1.f0, .int .i64 c.f1.f1, .int .i64 c.f1.f2, .int .i64 c.f1.f3, .int .i64 c.f2, .slice A c.f3.length cc]) (t := 26) ?hr ?_; (case hd => rfl); (case hg => rfl); (case hr => (go_simp; done)); intro b1 hg wb1 hbox hb; have Kb1 := Aside0.mk hbox; have q_HB := Aside0.mk (below_step HB.out hb); clear HB; have HB := q_HB; clear q_HB; clear hb hbox hg) | ((with_reducible refine gate_dst (N := 5) rfl ?_); refine map_event rfl (N := 5) rfl 161 3 4 rfl ?_; intro B hg wB hb hM; have GB := Aside0.mk (show W.heap.size ≤ B by rw [hg]; exact HB.out.size); have HM := Aside0.mk hM; have q_HB := Aside0.mk (below_step HB.out hb); have q_Kb1 := Aside0.mk (blk_below Kb1.out hb); clear HB Kb1; have HB := q_HB; have Kb1 := q_Kb1; clear q_HB q_Kb1; clear hb hM hg) | ((with_reducible refine gate_dst (N := 3) rfl ?_); refine box_event ?hg (N := 3) ?hd (cs := #[.map none]) (t := 161) ?hr ?_; (case hd => rfl); (case hg => rfl); (case hr => (go_simp; done)); intro bm hg wbm hbox hb; have Kbm := Aside0.mk hbox; have Gbm := Aside0.mk (show W.heap.size ≤ bm by rw [hg]; exact HB.out.size); have q_HB := Aside0.mk (below_step HB.out hb); have q_Kb1 := Aside0.mk (blk_below Kb1.out hb); have q_HM := Aside0.mk (HM.out.kept (below_grown hb) (by simp)); clear HB Kb1 HM; have HB := q_HB; have Kb1 := q_Kb1; have HM := q_HM; clear q_HB q_Kb1 q_HM; clear hb hbox hg) | ((with_reducible refine gate_ (.store 161 (.tmp 3) (.tmp 5)) rfl ?_); go_loud (refine box_store (w0 := W) rfl rfl 161 (.tmp 3) (.tmp 5) rfl (g := bm) (j := 0) (base := W.heap.size) #[.map (some B)] (u := .map (some B)) (seg := [.map (some B)]) ?sA ?sX rfl ?sT ?s1 Kbm.out ?sJ rfl HB.out HB.out.size Gbm.out ?_; (case sA => rfl); (case sX => rfl); (case sT => rfl); (case s1 => (simp [Value.oneCell'])); (case sJ => (simp)); intro wsbm hbk hbb hgg; have NB : Aside0 (B ≠ bm) := ⟨fun e => by have hq := Kbm.out; obtain ⟨es, cl, hB, _⟩ := HM.out; rw [← e, hB] at hq; cases hq⟩; have q_Kb1 := Aside0.mk (blk_grown Kb1.out hgg (fun e_ => blk_ne Kb1.out Kbm.out (by decide) (Option.some.inj e_))); have q_HM := Aside0.mk (HM.out.kept hgg (fun e_ => NB.out (Option.some.inj e_))); clear Kb1 HM; have Kb1 := q_Kb1; have HM := q_HM; clear q_Kb1 q_HM; clear Kbm HB; have Kbm := Aside0.mk hbk; have HB := Aside0.mk hbb; clear hbk hbb hgg)) | ((with_reducible refine gate_dst (N := 4) rfl ?_); refine box_event ?hg (N := 4) ?hd (cs := #[.int .i64 0]) (t := 3) ?hr ?_; (case hd => rfl); (case hg => rfl); (case hr => (go_simp; done)); intro bn hg wbn hbox hb; have Kbn := Aside0.mk hbox; have Gbn := Aside0.mk (show W.heap.size ≤ bn by rw [hg]; exact HB.out.size); have q_HB := Aside0.mk (below_step HB.out hb); have q_Kb1 := Aside0.mk (blk_below Kb1.out hb); have q_Kbm := Aside0.mk (blk_below Kbm.out hb); have q_HM := Aside0.mk (HM.out.kept (below_grown hb) (by simp)); clear HB Kb1 Kbm HM; have HB := q_HB; have Kb1 := q_Kb1; have Kbm := q_Kbm; have HM := q_HM; clear q_HB q_Kb1 q_Kbm q_HM; clear hb hbox hg) | ((with_reducible refine gate_ (.store 3 (.tmp 4) (.const (.int .i64 0))) rfl ?_); go_loud (refine box_store (w0 := W) rfl rfl 3 (.tmp 4) (.const (.int .i64 0)) rfl (g := bn) (j := 0) (base := W.heap.size) #[.int .i64 0] (u := .int .i64 0) (seg := [.int .i64 0]) ?sA ?sX rfl ?sT ?s1 Kbn.out ?sJ rfl HB.out HB.out.size Gbn.out ?_; (case sA => rfl); (case sX => rfl); (case sT => rfl); (case s1 => (simp [Value.oneCell'])); (case sJ => (decide)); intro wsbn hbk hbb hgg; have NN : Aside0 (B ≠ bn) := ⟨fun e => by have hq := Kbn.out; obtain ⟨es, cl, hB, _⟩ := HM.out; rw [← e, hB] at hq; cases hq⟩; have q_Kb1 := Aside0.mk (blk_grown Kb1.out hgg (fun e_ => blk_ne Kb1.out Kbn.out (by decide) (Option.some.inj e_))); have q_Kbm := Aside0.mk (blk_grown Kbm.out hgg (fun e_ => blk_ne Kbm.out Kbn.out (by decide) (Option.some.inj e_))); have q_HM := Aside0.mk (HM.out.kept hgg (fun e_ => NN.out (Option.some.inj e_))); clear Kb1 Kbm HM; have Kb1 := q_Kb1; have Kbm := q_Kbm; have HM := q_HM; clear q_Kb1 q_Kbm q_HM; clear Kbn HB; have Kbn := Aside0.mk hbk; have HB := Aside0.mk hbb; clear hbk hbb hgg; have c0 := (blk_cell Kb1.out 0).trans rfl; have c1 := (blk_cell Kb1.out 1).trans rfl; have c2 := (blk_cell Kb1.out 2).trans rfl; have c3 := (blk_cell Kb1.out 3).trans rfl; have c4 := (blk_cell Kb1.out 4).trans rfl; have c5 := (blk_cell Kb1.out 5).trans rfl; have c6 := (blk_cell Kb1.out 6).trans rfl)))
  clear c0 c1 c2 c3 c4 c5 c6
  refine (H175.out bn bm B _ ⟨Kbn.out, Kbm.out, HM.out, HB.out, Gbn.out, GB.out, List.nodup_nil, fun i hi => absurd hi (by simp)⟩).mono ?_
  rintro e w' ⟨rfl, hi, _⟩
  have HI := Aside0.mk hi.below
  clear hi
  go_wp2
  go_ret
  exact ⟨rfl, HI.out⟩
set_option maxHeartbeats 2000000 in
set_option maxRecDepth 100000 in
theorem may143 (c : S26) (A : Option Addr) (cc : Nat) (W : World) (hz : sz c ≤ 1048576) (hr : Kd.C k26 W A c.f3.length c.f3) (hc : c.f3.length ≤ cc) : Calls Try.prog 143 #[.agg #[.int .u8 c.f0, .int .i64 c.f1.f0, .int .i64 c.f1.f1, .int .i64 c.f1.f2, .int .i64 c.f1.f3, .int .i64 c.f2, .slice A c.f3.length cc]] W fun e w' => e = .returned (.bool (!mayC c)) ∧ Below W.heap.size W w' := by
  have H := Aside0.mk fun (W1 : World) (hb : Below W.heap.size W W1) => may144 c A cc W1 hz (Kd.C_below hr hb) hc
  clear hr hc hz
  cases hm : mayC c
  all_goals
    rw [hm] at H
    clear hm
    go_enter Try.func143, Try.ntmps143
    go_wp2_with (((with_reducible refine gate_dst (N := 1) rfl ?_); refine box_event ?hg (N := 1) ?hd (cs := #[.int .u8 c.f0, .int .i64 c.f1.f0, .int .i64 c.f1.f1, .int .i64 c.f1.f2, .int .i64 c.f1.f3, .int .i64 c.f2, .slice A c.f3.length cc]) (t := 26) ?hr ?_; (case hd => rfl); (case hg => rfl); (case hr => (go_simp; done)); intro b1 hg w1 hbox hb; have HB := Aside0.mk hb; have K1 := Aside0.mk hbox; clear hb hbox hg; have c0 := (blk_cell K1.out 0).trans rfl; have c1 := (blk_cell K1.out 1).trans rfl; have c2 := (blk_cell K1.out 2).trans rfl; have c3 := (blk_cell K1.out 3).trans rfl; have c4 := (blk_cell K1.out 4).trans rfl; have c5 := (blk_cell K1.out 5).trans rfl; have c6 := (blk_cell K1.out 6).trans rfl))
    clear c0 c1 c2 c3 c4 c5 c6
    refine (H.out _ HB.out).mono ?_
    rintro e w' ⟨rfl, hb⟩
    have HB2 := Aside0.mk (below_step HB.out hb)
    clear hb
    go_wp2
    go_ret
    exact ⟨rfl, HB2.out⟩
def cell_May.f (l0 : List S26) : Option Bool := if l0.all (fun c => decide (sz c ≤ 1048576)) = true then some (l0.all mayC) else none
set_option maxHeartbeats 2000000 in
theorem cell_May.calls (A0 : Option Addr) (c0 : Nat) (l0 : List S26) (r : Bool) (w : World) (hr0 : Kd.C k26 w A0 l0.length l0) (hc0 : l0.length ≤ c0) (h : cell_May.f l0 = some r) :
    Calls Try.prog 76 #[.slice A0 l0.length c0] w fun e w' => e = .returned (.bool r) ∧ Below w.heap.size w w' := by
  unfold cell_May.f at h
  split at h
  · rename_i hz
    injection h with h
    have hcon := con174 (fun (_ : Unit) W => Below w.heap.size w W) (fun _ x => (!mayC x, ())) 143 #[] (enters_fn Try.func143 (by decide +kernel) (by kernel_rfl)) l0 A0 c0 w hr0 (fun _ W hW => hW) (fun _ W n hW => pw_below_drewN hW n)
      (fun _ W x B cb hx hW hC hl => by
        rw [show (#[Value.agg #[.int .u8 x.f0, .int .i64 x.f1.f0, .int .i64 x.f1.f1, .int .i64 x.f1.f2, .int .i64 x.f1.f3, .int .i64 x.f2, .slice B x.f3.length cb]] ++ #[] : Array Value) = #[.agg #[.int .u8 x.f0, .int .i64 x.f1.f0, .int .i64 x.f1.f1, .int .i64 x.f1.f2, .int .i64 x.f1.f3, .int .i64 x.f2, .slice B x.f3.length cb]] by simp]
        exact (may143 x B cb W (of_decide_eq_true (List.all_eq_true.1 hz x hx)) (Kd.C_below hC hW) hl).mono fun e w' ⟨he, hb⟩ => ⟨he, below_then hW hW.size hb⟩) () w (Below.refl _ _) hr0.2.1
    rw [scanB_any] at hcon
    have hnone := none142 l0 A0 c0 143 #[] _ _ w hcon (fun W n hW => pw_below_drewN hW n)
    have e1 : r = !(l0.any fun x => !mayC x) := by
      rw [← h]
      clear h hcon hr0 hc0 hz hnone
      induction l0 with
      | nil => rfl
      | cons x xs ih => simp only [List.all_cons, List.any_cons, ih, Bool.not_or, Bool.not_not]
    subst e1
    generalize (l0.any fun x => !mayC x) = b at hnone
    have HC := Aside0.mk hnone
    clear hcon h hr0 hnone hz
    go_enter Try.func76, Try.ntmps76
    go_wp2_with fail
    refine HC.out.mono ?_
    rintro e w' ⟨rfl, hb⟩
    have HB := Aside0.mk hb
    clear hb
    go_wp2
    go_ret
    exact ⟨rfl, HB.out⟩
  · exact absurd h (by simp)
end Go.Proofs.Ytfdmfgaiblfbhaa.P
/- The contracts of tile.Check and tile.Tiles: whether a tree may be and tiles. Condition: at most 1048576 cells. -/
namespace Go.Proofs.Ytfdmfgaiblfbhaa.P
open Go.RowKit Go.Proofs.YtfdmfgaiblfbhaaW.PrintWords Go.Proofs.YtfdmfgaiblfbhaaW.PrintLast Go.Proofs.YtfdmfgaiblfbhaaW.PrintMore
set_option linter.unusedVariables false
set_option linter.unusedSimpArgs false
noncomputable def tilesC (c : S26) : Bool := mayC c && tilesB c
theorem may_small {c : S26} (h : mayC c = true) : sz c ≤ 20000 := by
  unfold mayC at h
  simp only [Bool.and_eq_true, decide_eq_true_eq] at h
  omega
theorem row_some {x : ByteArray} {w : World} {A : Option Addr} (h : Kd.C Kd.string w A 1 [x]) : ∃ ad, A = some ad := by
  obtain ⟨ad, h1, _⟩ := h.2.2 (by omega)
  exact ⟨ad, h1⟩
set_option maxHeartbeats 4000000 in
set_option maxRecDepth 100000 in
theorem check180 (c : S26) (hz : sz c ≤ 1048576) (A : Option Addr) (cc : Nat) (w : World) (hr : Kd.C k26 w A c.f3.length c.f3) (hc : c.f3.length ≤ cc) :
    Calls Try.prog 180 #[.agg #[.int .u8 c.f0, .int .i64 c.f1.f0, .int .i64 c.f1.f1, .int .i64 c.f1.f2, .int .i64 c.f1.f3, .int .i64 c.f2, .slice A c.f3.length cc]] w fun e w' => (if tilesC c = true then e = .returned .nilIface else ∃ t u, e = .returned (.iface t u)) ∧ Below w.heap.size w w' := by
  have hM : cell_May.f [c] = some (mayC c) := by
    unfold cell_May.f
    rw [if_pos (by simp [hz])]
    simp
  have hW : mayC c = true → ∀ (gw : Nat) (W : World), w.heap.size ≤ gw → WalkI w gw 0 W → Calls Try.prog 197 #[.pointer (some ⟨gw, 0, none⟩), .agg #[.int .u8 c.f0, .int .i64 c.f1.f0, .int .i64 c.f1.f1, .int .i64 c.f1.f2, .int .i64 c.f1.f3, .int .i64 c.f2, .slice A c.f3.length cc]] W fun e w' => e = .returned (.bool (tilesB c)) ∧ WalkI w gw (0 + szL c.f3) w' ∧ Fr gw W w' := fun hm gw W hg hI => walk197 w gw hg (sz c) c (Nat.le_refl _) (may_small hm) A cc hr hc 0 W (by have := may_small hm; have := sz_eq c; omega) hI
  unfold tilesC
  have HR := Aside0.mk hr
  have HC := Aside0.mk hc
  have HM := Aside0.mk hM
  have HW := Aside0.mk hW
  have HB := Aside0.mk (Below.refl w.heap.size w)
  clear hr hc hM hW hz
  obtain ⟨ck, ⟨cx, cy, cw, ch⟩, cid, l⟩ := c
  simp only [] at HR HC HW ⊢
  generalize tilesB ⟨ck, ⟨cx, cy, cw, ch⟩, cid, l⟩ = q at HW ⊢
  cases hm : mayC (⟨ck, ⟨cx, cy, cw, ch⟩, cid, l⟩ : S26) with
  | false =>
    rw [hm] at HM
    have HM := HM
    simp only [Bool.false_and, Bool.false_eq_true, if_false]
    clear hm HW
    go_enter Try.func180, Try.ntmps180
    go_wp2_with (first | ((with_reducible refine gate_dst (N := 1) rfl ?_); refine box_event ?hg (N := 1) ?hd (cs := #[.int .u8 ck, .int .i64 cx, .int .i64 cy, .int .i64 cw, .int .i64 ch, .int .i64 cid, .slice A l.length cc]) (t := 26) ?hr ?_; (case hd => rfl); (case hg => rfl); (case hr => (go_simp; done)); intro b1 hg wb1 hbox hb; have Kb1 := Aside0.mk hbox; have q_HB := Aside0.mk (below_step HB.out hb); clear HB; have HB := q_HB; clear q_HB; clear hb hbox hg) | ((with_reducible refine gate_dst (N := 5) rfl ?_); refine box_event ?hg (N := 5) ?hd (cs := #[.int .i64 0, .slice none 0 0]) (t := 182) ?hr ?_; (case hd => rfl); (case hg => rfl); (case hr => (go_simp; done)); intro gw hg wgw hbox hb; have Kgw := Aside0.mk hbox; have GG := Aside0.mk (show w.heap.size ≤ gw by rw [hg]; exact HB.out.size); have q_HB := Aside0.mk (below_step HB.out hb); have q_Kb1 := Aside0.mk (blk_below Kb1.out hb); clear HB Kb1; have HB := q_HB; have Kb1 := q_Kb1; clear q_HB q_Kb1; have c0 := (blk_cell Kb1.out 0).trans rfl; have c1 := (blk_cell Kb1.out 1).trans rfl; have c2 := (blk_cell Kb1.out 2).trans rfl; have c3 := (blk_cell Kb1.out 3).trans rfl; have c4 := (blk_cell Kb1.out 4).trans rfl; have c5 := (blk_cell Kb1.out 5).trans rfl; have c6 := (blk_cell Kb1.out 6).trans rfl; clear hb hbox hg) | ((with_reducible refine gate_dst (N := 8) rfl ?_); refine Kd.N_lit k26 _ 26 ?hg (N' := 8) ?hd (xs := [(⟨ck, ⟨cx, cy, cw, ch⟩, cid, l⟩ : S26)]) (inner := [.int .u8 ck, .int .i64 cx, .int .i64 cy, .int .i64 cw, .int .i64 ch, .int .i64 cid, .slice A l.length cc]) (ok := fun _ => True) (okp := fun _ => True) ?hr ?hp (fun _ hk => hk) trivial (Below.refl _ _) (Nat.le_refl _) (by simp) ?_; (case hd => rfl); (case hg => rfl); (case hr => (go_simp; done)); (case hp => exact (Reps.c7 (k26_mkF _ _ (⟨ck, ⟨cx, cy, cw, ch⟩, cid, l⟩ : S26) HC.out (Kd.F_mono (Kd.C_F k26_heap (Kd.C_below HR.out HB.out)) (fun _ _ => trivial))) (Reps.none _ _))); intro vr wr ho hb hg_ hnew_; clear hg_ hnew_; obtain ⟨Am, cm, er⟩ := Kd.N_slice ho; subst er; have q_HB := Aside0.mk (below_step HB.out hb); have q_Kb1 := Aside0.mk (blk_below Kb1.out hb); have q_Kgw := Aside0.mk (blk_below Kgw.out hb); clear HB Kb1 Kgw; have HB := q_HB; have Kb1 := q_Kb1; have Kgw := q_Kgw; clear q_HB q_Kb1 q_Kgw; have Hm := Aside0.mk (Kd.N_reads' ho).2.2; have Lm := Aside0.mk (Kd.N_reads' ho).2.1; clear ho hb c0 c1 c2 c3 c4 c5 c6))
    refine (cell_May.calls Am cm [(⟨ck, ⟨cx, cy, cw, ch⟩, cid, l⟩ : S26)] false _ Hm.out Lm.out HM.out).mono ?_
    rintro e w1 ⟨rfl, hb⟩
    have q_HB := Aside0.mk (below_step HB.out hb); have q_Kb1 := Aside0.mk (blk_below Kb1.out hb); have q_Kgw := Aside0.mk (blk_below Kgw.out hb); clear HB Kb1 Kgw; have HB := q_HB; have Kb1 := q_Kb1; have Kgw := q_Kgw; clear q_HB q_Kb1 q_Kgw
    clear hb Hm Lm
    go_wp2_with fail
    refine (new196 1 0 (by decide) _).mono ?_
    rintro e w2 ⟨⟨tv, v, rfl⟩, hb⟩
    have q_HB := Aside0.mk (below_step HB.out hb); clear HB; have HB := q_HB; clear q_HB
    clear hb
    go_wp2_with (((with_reducible refine gate_dst (N := 12) rfl ?_); refine Kd.R_lit Kd.string _ 9 ?hg (N := 12) ?hd (xs := [(⟨#[108, 97, 121, 111, 117, 116]⟩ : ByteArray)]) (inner := [.string (⟨#[108, 97, 121, 111, 117, 116]⟩ : ByteArray)]) (ok := fun _ => True) (okp := fun _ => True) ?hr ?hp (fun _ hk => hk) trivial (Below.refl _ _) (Nat.le_refl _) (by simp) ?_; (case hd => rfl); (case hg => rfl); (case hr => (go_simp; done)); (case hp => exact (Reps.one (show Kd.M Kd.string _ _ _ (⟨#[108, 97, 121, 111, 117, 116]⟩ : ByteArray) [.string (⟨#[108, 97, 121, 111, 117, 116]⟩ : ByteArray)] from rfl) (Reps.none _ _))); intro vs wr ho hb hg_ hnew_; clear hg_ hnew_; obtain ⟨As, cs_, er⟩ := Kd.R_slice ho; subst er; have q_HB := Aside0.mk (below_step HB.out hb); clear HB; have HB := q_HB; clear q_HB; have Hs := Aside0.mk (Kd.R_reads' ho).2.2; have Ls := Aside0.mk (Kd.R_reads' ho).2.1; clear ho hb))
    obtain ⟨ad, ea⟩ := row_some Hs.out
    subst ea
    refine (in195 tv v ad cs_ _ _ Hs.out Ls.out).mono ?_
    rintro e w3 ⟨⟨tu, u, rfl⟩, hb⟩
    have q_HB := Aside0.mk (below_step HB.out hb); clear HB; have HB := q_HB; clear q_HB
    clear hb Hs Ls
    go_wp2
    go_ret
    exact ⟨⟨_, _, rfl⟩, HB.out⟩
  | true =>
    rw [hm] at HM
    have HW := Aside0.mk (HW.out hm)
    simp only [Bool.true_and]
    clear hm
    cases q with
    | true =>
      simp only [if_true]
      go_enter Try.func180, Try.ntmps180
      go_wp2_with (first | ((with_reducible refine gate_dst (N := 1) rfl ?_); refine box_event ?hg (N := 1) ?hd (cs := #[.int .u8 ck, .int .i64 cx, .int .i64 cy, .int .i64 cw, .int .i64 ch, .int .i64 cid, .slice A l.length cc]) (t := 26) ?hr ?_; (case hd => rfl); (case hg => rfl); (case hr => (go_simp; done)); intro b1 hg wb1 hbox hb; have Kb1 := Aside0.mk hbox; have q_HB := Aside0.mk (below_step HB.out hb); clear HB; have HB := q_HB; clear q_HB; clear hb hbox hg) | ((with_reducible refine gate_dst (N := 5) rfl ?_); refine box_event ?hg (N := 5) ?hd (cs := #[.int .i64 0, .slice none 0 0]) (t := 182) ?hr ?_; (case hd => rfl); (case hg => rfl); (case hr => (go_simp; done)); intro gw hg wgw hbox hb; have Kgw := Aside0.mk hbox; have GG := Aside0.mk (show w.heap.size ≤ gw by rw [hg]; exact HB.out.size); have q_HB := Aside0.mk (below_step HB.out hb); have q_Kb1 := Aside0.mk (blk_below Kb1.out hb); clear HB Kb1; have HB := q_HB; have Kb1 := q_Kb1; clear q_HB q_Kb1; have c0 := (blk_cell Kb1.out 0).trans rfl; have c1 := (blk_cell Kb1.out 1).trans rfl; have c2 := (blk_cell Kb1.out 2).trans rfl; have c3 := (blk_cell Kb1.out 3).trans rfl; have c4 := (blk_cell Kb1.out 4).trans rfl; have c5 := (blk_cell Kb1.out 5).trans rfl; have c6 := (blk_cell Kb1.out 6).trans rfl; clear hb hbox hg) | ((with_reducible refine gate_dst (N := 8) rfl ?_); refine Kd.N_lit k26 _ 26 ?hg (N' := 8) ?hd (xs := [(⟨ck, ⟨cx, cy, cw, ch⟩, cid, l⟩ : S26)]) (inner := [.int .u8 ck, .int .i64 cx, .int .i64 cy, .int .i64 cw, .int .i64 ch, .int .i64 cid, .slice A l.length cc]) (ok := fun _ => True) (okp := fun _ => True) ?hr ?hp (fun _ hk => hk) trivial (Below.refl _ _) (Nat.le_refl _) (by simp) ?_; (case hd => rfl); (case hg => rfl); (case hr => (go_simp; done)); (case hp => exact (Reps.c7 (k26_mkF _ _ (⟨ck, ⟨cx, cy, cw, ch⟩, cid, l⟩ : S26) HC.out (Kd.F_mono (Kd.C_F k26_heap (Kd.C_below HR.out HB.out)) (fun _ _ => trivial))) (Reps.none _ _))); intro vr wr ho hb hg_ hnew_; clear hg_ hnew_; obtain ⟨Am, cm, er⟩ := Kd.N_slice ho; subst er; have q_HB := Aside0.mk (below_step HB.out hb); have q_Kb1 := Aside0.mk (blk_below Kb1.out hb); have q_Kgw := Aside0.mk (blk_below Kgw.out hb); clear HB Kb1 Kgw; have HB := q_HB; have Kb1 := q_Kb1; have Kgw := q_Kgw; clear q_HB q_Kb1 q_Kgw; have Hm := Aside0.mk (Kd.N_reads' ho).2.2; have Lm := Aside0.mk (Kd.N_reads' ho).2.1; clear ho hb c0 c1 c2 c3 c4 c5 c6))
      refine (cell_May.calls Am cm [(⟨ck, ⟨cx, cy, cw, ch⟩, cid, l⟩ : S26)] true _ Hm.out Lm.out HM.out).mono ?_
      rintro e w1 ⟨rfl, hb⟩
      have q_HB := Aside0.mk (below_step HB.out hb); have q_Kb1 := Aside0.mk (blk_below Kb1.out hb); have q_Kgw := Aside0.mk (blk_below Kgw.out hb); clear HB Kb1 Kgw; have HB := q_HB; have Kb1 := q_Kb1; have Kgw := q_Kgw; clear q_HB q_Kb1 q_Kgw
      clear hb Hm Lm
      have HI := Aside0.mk (show WalkI w gw 0 w1 from ⟨HB.out, 0, .slice none 0 0, [], Kgw.out, Kd.R_nil _ _ _ _ _, Nat.le_refl _⟩)
      have c0 := (blk_cell Kb1.out 0).trans rfl
      have c1 := (blk_cell Kb1.out 1).trans rfl
      have c2 := (blk_cell Kb1.out 2).trans rfl
      have c3 := (blk_cell Kb1.out 3).trans rfl
      have c4 := (blk_cell Kb1.out 4).trans rfl
      have c5 := (blk_cell Kb1.out 5).trans rfl
      have c6 := (blk_cell Kb1.out 6).trans rfl
      go_wp2_with fail
      clear c0 c1 c2 c3 c4 c5 c6
      refine (HW.out gw w1 GG.out HI.out).mono ?_
      rintro e w2 ⟨rfl, ⟨hb2, n, v, ls, hk, _, _⟩, _⟩
      clear HB Kgw HI Kb1
      have HB := Aside0.mk hb2
      have Kgw := Aside0.mk hk
      clear hb2 hk
      go_wp2
      go_ret
      exact ⟨rfl, HB.out⟩
    | false =>
      simp only [Bool.false_eq_true, if_false]
      go_enter Try.func180, Try.ntmps180
      go_wp2_with (first | ((with_reducible refine gate_dst (N := 1) rfl ?_); refine box_event ?hg (N := 1) ?hd (cs := #[.int .u8 ck, .int .i64 cx, .int .i64 cy, .int .i64 cw, .int .i64 ch, .int .i64 cid, .slice A l.length cc]) (t := 26) ?hr ?_; (case hd => rfl); (case hg => rfl); (case hr => (go_simp; done)); intro b1 hg wb1 hbox hb; have Kb1 := Aside0.mk hbox; have q_HB := Aside0.mk (below_step HB.out hb); clear HB; have HB := q_HB; clear q_HB; clear hb hbox hg) | ((with_reducible refine gate_dst (N := 5) rfl ?_); refine box_event ?hg (N := 5) ?hd (cs := #[.int .i64 0, .slice none 0 0]) (t := 182) ?hr ?_; (case hd => rfl); (case hg => rfl); (case hr => (go_simp; done)); intro gw hg wgw hbox hb; have Kgw := Aside0.mk hbox; have GG := Aside0.mk (show w.heap.size ≤ gw by rw [hg]; exact HB.out.size); have q_HB := Aside0.mk (below_step HB.out hb); have q_Kb1 := Aside0.mk (blk_below Kb1.out hb); clear HB Kb1; have HB := q_HB; have Kb1 := q_Kb1; clear q_HB q_Kb1; have c0 := (blk_cell Kb1.out 0).trans rfl; have c1 := (blk_cell Kb1.out 1).trans rfl; have c2 := (blk_cell Kb1.out 2).trans rfl; have c3 := (blk_cell Kb1.out 3).trans rfl; have c4 := (blk_cell Kb1.out 4).trans rfl; have c5 := (blk_cell Kb1.out 5).trans rfl; have c6 := (blk_cell Kb1.out 6).trans rfl; clear hb hbox hg) | ((with_reducible refine gate_dst (N := 8) rfl ?_); refine Kd.N_lit k26 _ 26 ?hg (N' := 8) ?hd (xs := [(⟨ck, ⟨cx, cy, cw, ch⟩, cid, l⟩ : S26)]) (inner := [.int .u8 ck, .int .i64 cx, .int .i64 cy, .int .i64 cw, .int .i64 ch, .int .i64 cid, .slice A l.length cc]) (ok := fun _ => True) (okp := fun _ => True) ?hr ?hp (fun _ hk => hk) trivial (Below.refl _ _) (Nat.le_refl _) (by simp) ?_; (case hd => rfl); (case hg => rfl); (case hr => (go_simp; done)); (case hp => exact (Reps.c7 (k26_mkF _ _ (⟨ck, ⟨cx, cy, cw, ch⟩, cid, l⟩ : S26) HC.out (Kd.F_mono (Kd.C_F k26_heap (Kd.C_below HR.out HB.out)) (fun _ _ => trivial))) (Reps.none _ _))); intro vr wr ho hb hg_ hnew_; clear hg_ hnew_; obtain ⟨Am, cm, er⟩ := Kd.N_slice ho; subst er; have q_HB := Aside0.mk (below_step HB.out hb); have q_Kb1 := Aside0.mk (blk_below Kb1.out hb); have q_Kgw := Aside0.mk (blk_below Kgw.out hb); clear HB Kb1 Kgw; have HB := q_HB; have Kb1 := q_Kb1; have Kgw := q_Kgw; clear q_HB q_Kb1 q_Kgw; have Hm := Aside0.mk (Kd.N_reads' ho).2.2; have Lm := Aside0.mk (Kd.N_reads' ho).2.1; clear ho hb c0 c1 c2 c3 c4 c5 c6))
      refine (cell_May.calls Am cm [(⟨ck, ⟨cx, cy, cw, ch⟩, cid, l⟩ : S26)] true _ Hm.out Lm.out HM.out).mono ?_
      rintro e w1 ⟨rfl, hb⟩
      have q_HB := Aside0.mk (below_step HB.out hb); have q_Kb1 := Aside0.mk (blk_below Kb1.out hb); have q_Kgw := Aside0.mk (blk_below Kgw.out hb); clear HB Kb1 Kgw; have HB := q_HB; have Kb1 := q_Kb1; have Kgw := q_Kgw; clear q_HB q_Kb1 q_Kgw
      clear hb Hm Lm
      have HI := Aside0.mk (show WalkI w gw 0 w1 from ⟨HB.out, 0, .slice none 0 0, [], Kgw.out, Kd.R_nil _ _ _ _ _, Nat.le_refl _⟩)
      have c0 := (blk_cell Kb1.out 0).trans rfl
      have c1 := (blk_cell Kb1.out 1).trans rfl
      have c2 := (blk_cell Kb1.out 2).trans rfl
      have c3 := (blk_cell Kb1.out 3).trans rfl
      have c4 := (blk_cell Kb1.out 4).trans rfl
      have c5 := (blk_cell Kb1.out 5).trans rfl
      have c6 := (blk_cell Kb1.out 6).trans rfl
      go_wp2_with fail
      clear c0 c1 c2 c3 c4 c5 c6
      refine (HW.out gw w1 GG.out HI.out).mono ?_
      rintro e w2 ⟨rfl, ⟨hb2, n, v, ls, hk, _, _⟩, _⟩
      clear HB Kgw HI Kb1
      have HB := Aside0.mk hb2
      have Kgw := Aside0.mk hk
      clear hb2 hk
      have c0 := (blk_cell Kgw.out 0).trans rfl
      have c1 := (blk_cell Kgw.out 1).trans rfl
      go_wp2_with fail
      clear c0 c1
      refine (new196 5 n (by decide) _).mono ?_
      rintro e w2 ⟨⟨tv, v, rfl⟩, hb⟩
      have q_HB := Aside0.mk (below_step HB.out hb); clear HB; have HB := q_HB; clear q_HB
      clear hb
      go_wp2_with (((with_reducible refine gate_dst (N := 24) rfl ?_); refine Kd.R_lit Kd.string _ 9 ?hg (N := 24) ?hd (xs := [(⟨#[108, 97, 121, 111, 117, 116]⟩ : ByteArray)]) (inner := [.string (⟨#[108, 97, 121, 111, 117, 116]⟩ : ByteArray)]) (ok := fun _ => True) (okp := fun _ => True) ?hr ?hp (fun _ hk => hk) trivial (Below.refl _ _) (Nat.le_refl _) (by simp) ?_; (case hd => rfl); (case hg => rfl); (case hr => (go_simp; done)); (case hp => exact (Reps.one (show Kd.M Kd.string _ _ _ (⟨#[108, 97, 121, 111, 117, 116]⟩ : ByteArray) [.string (⟨#[108, 97, 121, 111, 117, 116]⟩ : ByteArray)] from rfl) (Reps.none _ _))); intro vs wr ho hb hg_ hnew_; clear hg_ hnew_; obtain ⟨As, cs_, er⟩ := Kd.R_slice ho; subst er; have q_HB := Aside0.mk (below_step HB.out hb); clear HB; have HB := q_HB; clear q_HB; have Hs := Aside0.mk (Kd.R_reads' ho).2.2; have Ls := Aside0.mk (Kd.R_reads' ho).2.1; clear ho hb))
      obtain ⟨ad, ea⟩ := row_some Hs.out
      subst ea
      refine (in195 tv v ad cs_ _ _ Hs.out Ls.out).mono ?_
      rintro e w3 ⟨⟨tu, u, rfl⟩, hb⟩
      have q_HB := Aside0.mk (below_step HB.out hb); clear HB; have HB := q_HB; clear q_HB
      clear hb Hs Ls
      go_wp2
      go_ret
      exact ⟨⟨_, _, rfl⟩, HB.out⟩
set_option maxHeartbeats 2000000 in
theorem clo179 (x : S26) (hz : sz x ≤ 1048576) (B : Option Addr) (cb : Nat) (W : World) (hr : Kd.C k26 W B x.f3.length x.f3) (hl : x.f3.length ≤ cb) :
    Calls Try.prog 179 #[.agg #[.int .u8 x.f0, .int .i64 x.f1.f0, .int .i64 x.f1.f1, .int .i64 x.f1.f2, .int .i64 x.f1.f3, .int .i64 x.f2, .slice B x.f3.length cb]] W fun e w' => e = .returned (.bool (!tilesC x)) ∧ Below W.heap.size W w' := by
  have HC := Aside0.mk (fun W1 (hb : Below W.heap.size W W1) => check180 x hz B cb W1 (Kd.C_below hr hb) hl)
  have HB := Aside0.mk (Below.refl W.heap.size W)
  clear hr hl hz
  cases hq : tilesC x
  all_goals
    simp only [hq, if_pos, Bool.false_eq_true, if_false] at HC
    clear hq
    go_enter Try.func179, Try.ntmps179
    go_wp2_with (((with_reducible refine gate_dst (N := 1) rfl ?_); refine box_event ?hg (N := 1) ?hd (cs := #[.int .u8 x.f0, .int .i64 x.f1.f0, .int .i64 x.f1.f1, .int .i64 x.f1.f2, .int .i64 x.f1.f3, .int .i64 x.f2, .slice B x.f3.length cb]) (t := 26) ?hr ?_; (case hd => rfl); (case hg => rfl); (case hr => (go_simp; done)); intro b1 hg wb1 hbox hb; have Kb1 := Aside0.mk hbox; have q_HB := Aside0.mk (below_step HB.out hb); clear HB; have HB := q_HB; clear q_HB; have c0 := (blk_cell Kb1.out 0).trans rfl; have c1 := (blk_cell Kb1.out 1).trans rfl; have c2 := (blk_cell Kb1.out 2).trans rfl; have c3 := (blk_cell Kb1.out 3).trans rfl; have c4 := (blk_cell Kb1.out 4).trans rfl; have c5 := (blk_cell Kb1.out 5).trans rfl; have c6 := (blk_cell Kb1.out 6).trans rfl; clear hb hbox hg))
    clear c0 c1 c2 c3 c4 c5 c6
  · refine (HC.out _ HB.out).mono ?_
    rintro e w2 ⟨⟨t, u, rfl⟩, hb⟩
    have q_HB := Aside0.mk (below_step HB.out hb); clear HB; have HB := q_HB; clear q_HB
    clear hb
    go_wp2
    go_ret
    exact ⟨rfl, HB.out⟩
  · refine (HC.out _ HB.out).mono ?_
    rintro e w2 ⟨rfl, hb⟩
    have q_HB := Aside0.mk (below_step HB.out hb); clear HB; have HB := q_HB; clear q_HB
    clear hb
    go_wp2
    go_ret
    exact ⟨rfl, HB.out⟩
set_option maxHeartbeats 1000000 in
theorem tiles148 (l : List S26) (hz : ∀ x, x ∈ l → sz x ≤ 1048576) (A : Option Addr) (c : Nat) (w : World) (hr : Kd.C k26 w A l.length l) (hc : l.length ≤ c) :
    Calls Try.prog 148 #[.slice A l.length c] w fun e w' => e = .returned (.bool (l.all tilesC)) ∧ Below w.heap.size w w' := by
  have hq := cons174 (fun _ W => Below w.heap.size w W) (fun x => !tilesC x) 179 #[] (enters_fn Try.func179 (by decide +kernel) (by kernel_rfl)) l A c w hr (fun _ _ h => h) (fun _ W n h => below_step h (pw_below_drewN (Below.refl _ _) n))
    (fun x rest W B cb hx _ hI hC hlx => by
      refine (clo179 x (hz x hx) B cb W (Kd.C_below hC hI) hlx).mono ?_
      rintro e w' ⟨he, hb⟩
      exact ⟨he, below_step hI hb⟩) w (Below.refl _ _) hr.2.1
  have HQ := Aside0.mk hq
  rw [List.all_eq_not_any_not]
  clear hq hr hc hz
  generalize l.any (fun x => !tilesC x) = r at HQ ⊢
  cases r
  all_goals
    go_enter Try.func148, Try.ntmps148
    go_wp2_with fail
    refine HQ.out.mono ?_
    rintro e w2 ⟨rfl, hb⟩
    have HB := Aside0.mk hb
    clear hb
    go_wp2
    go_ret
    exact ⟨rfl, HB.out⟩
noncomputable def tile_Tiles.f (l0 : List S26) : Option Bool := if l0.all (fun c => decide (sz c ≤ 1048576)) = true then some (l0.all tilesC) else none
theorem tile_Tiles.calls (A0 : Option Addr) (c0 : Nat) (l0 : List S26) (r : Bool) (w : World) (hr0 : Kd.C k26 w A0 l0.length l0) (hc0 : l0.length ≤ c0) (h : tile_Tiles.f l0 = some r) :
    Calls Try.prog 148 #[.slice A0 l0.length c0] w fun e w' => e = .returned (.bool r) ∧ Below w.heap.size w w' := by
  unfold tile_Tiles.f at h
  split at h
  · rename_i hz
    injection h with h
    subst h
    exact tiles148 l0 (fun x hx => of_decide_eq_true (List.all_eq_true.1 hz x hx)) A0 c0 w hr0 hc0
  · exact absurd h (by simp)
end Go.Proofs.Ytfdmfgaiblfbhaa.P
namespace Go.Proofs.Ytfdmfgaiblfbhaa.P
open Go.RowKit Go.Proofs.YtfdmfgaiblfbhaaW.PrintWords Go.Proofs.YtfdmfgaiblfbhaaW.PrintLast Go.Proofs.YtfdmfgaiblfbhaaW.PrintMore
attribute [local go_sem] max2_int min2_int max_two min_two max_three min_three max_four min_four   -- for this text's walks alone
set_option linter.unusedVariables false
set_option linter.unusedSimpArgs false

/-! ### least_Gives: function 86 -/
noncomputable def least_Gives.j0 : Nat → Int → Bool → Int → Int → Int → Int → Int → Int → List (S26) → Option (Int)
 | 0, _, _, _, _, _, _, _, _, _ => none
 | k + 1, x1, x13, x972000, x972001, x972002, x972003, x972004, x972005, x972006 => if x13 = true then (some 0) else ((least_Size.f x972001 x972002 x972003 x972004 x1).bind fun t977 => ((least_least.f k x972000 x972001 x972002 x972003 x972004 x972005 x972006 x1).bind fun t978 => (some (wrap64 (t977 - t978)))))
noncomputable def least_Gives.f (k : Nat) (a0_0 : Int) (a0_1 : Int) (a0_2 : Int) (a0_3 : Int) (a0_4 : Int) (a0_5 : Int) (l0_6 : List (S26)) (a1 : Int) : Option (Int) := (least_axes.f a1).bind fun t972 => (if t972 = true then ((tile_Tiles.f (([(⟨a0_0, (⟨a0_1, a0_2, a0_3, a0_4⟩ : S23), a0_5, l0_6⟩ : S26)] : List (S26)))).bind fun t976 => (least_Gives.j0 k a1 (!t976) a0_0 a0_1 a0_2 a0_3 a0_4 a0_5 l0_6)) else (least_Gives.j0 k a1 true a0_0 a0_1 a0_2 a0_3 a0_4 a0_5 l0_6))
def least_Gives.T3 : Bool × List (List Nat × List Nat) := (true, [([], []), ([0], [0]), ([], []), ([1, 2], [1, 2]), ([], []), ([], []), ([4, 5, 3], [4, 5]), ([3, 6], [3, 6]), ([7, 6, 0, 1, 2, 3, 4, 5, 6, 7], [7])])
def least_Gives.B3 : List Nat := [0, 1, 0, 7, 0, 0, 63, 127, 255]
theorem least_Gives.tab3 : rtab .any (opsOf Try.f86 3) = least_Gives.T3 := by kernel_rfl
theorem least_Gives.bits3 : waitsOk least_Gives.T3.2 least_Gives.B3 = true := by kernel_rfl
set_option maxHeartbeats 8000000 in
set_option maxRecDepth 100000 in
theorem least_Gives.calls (k : Nat) (a0_0 : Int) (a0_1 : Int) (a0_2 : Int) (a0_3 : Int) (a0_4 : Int) (a0_5 : Int) (P0_6_ : Nat → Prop) (A0_6 : Option Addr) (c0_6 : Nat) (l0_6 : List (S26)) (a1 : Int) (r : Int) (w : World) (hs0_6 : Kd.V k26 26 w w.heap.size (fun k_ => P0_6_ k_) (.slice A0_6 l0_6.length c0_6) l0_6) (h : least_Gives.f k a0_0 a0_1 a0_2 a0_3 a0_4 a0_5 l0_6 a1 = some r) :
  Calls Try.prog 86 #[.agg #[.int .u8 a0_0, .int .i64 a0_1, .int .i64 a0_2, .int .i64 a0_3, .int .i64 a0_4, .int .i64 a0_5, .slice A0_6 l0_6.length c0_6], .int .u8 a1] w fun e w' => e = .returned (.int .i64 r) ∧ Below w.heap.size w w' := by
 have hu26 := Try.underlying26
 have hu23 := Try.underlying23
 have HO0_6 := Aside0.mk (show Kd.V k26 26 w w.heap.size (fun k_ => (P0_6_ k_ ∨ w.heap.size ≤ k_)) (.slice A0_6 l0_6.length c0_6) l0_6 from Kd.V_mono hs0_6 (fun k_ hk => .inl hk))
 have HB := Aside0.mk (Below.refl w.heap.size w)
 have H : ((least_axes.f a1).bind fun t972 => (if t972 = true then ((tile_Tiles.f (([(⟨a0_0, (⟨a0_1, a0_2, a0_3, a0_4⟩ : S23), a0_5, l0_6⟩ : S26)] : List (S26)))).bind fun t976 => (least_Gives.j0 k a1 (!t976) a0_0 a0_1 a0_2 a0_3 a0_4 a0_5 l0_6)) else (least_Gives.j0 k a1 true a0_0 a0_1 a0_2 a0_3 a0_4 a0_5 l0_6))) = some r := h
 clear h
 have HC3 := Aside0.mk H
 clear H
 go_enter Try.func86, Try.ntmps86
 go_upto_region 1 with (((with_reducible refine gate_dst (N := 2) rfl ?_); (try (refine gate_guard (by rfl) ?_; dsimp only)); refine box_event ?hg (N := 2) ?hd (cs := #[.int .u8 a0_0, .int .i64 a0_1, .int .i64 a0_2, .int .i64 a0_3, .int .i64 a0_4, .int .i64 a0_5, .slice A0_6 l0_6.length c0_6]) (t := 26) ?hr ?_; (case hd => rfl); (case hg => rfl); (case hr => (go_simp; done)); intro gb971 hg w4 hbox hb; have BK971 := Aside0.mk (hbox); replace HO0_6 := Aside0.mk (Kd.V_below (Kd.V_elderB HO0_6.out gb971 (Nat.le_of_eq hg.symm)) hb); replace HB := Aside0.mk (below_step (by repeat ((with_reducible exact HB.out))) hb); clear hb hbox hg))
 (skip)
 go_cut [13] (fun v13 wc => ∃ (kq : Nat) (x13_2 : Bool), v13 = .bool x13_2 ∧ Aside0 (least_Gives.j0 kq a1 x13_2 a0_0 a0_1 a0_2 a0_3 a0_4 a0_5 l0_6 = some r) ∧ Aside0 (kq ≤ k) ∧ Aside0 (Kd.V k26 26 wc w.heap.size (fun k_ => (P0_6_ k_ ∨ w.heap.size ≤ k_) ∧ k_ ≠ gb971) (.slice A0_6 l0_6.length c0_6) l0_6) ∧ Aside0 (wc.heap[gb971]? = some (.cells #[.int .u8 a0_0, .int .i64 a0_1, .int .i64 a0_2, .int .i64 a0_3, .int .i64 a0_4, .int .i64 a0_5, (.slice A0_6 l0_6.length c0_6)] 26 (0, 0))) ∧ Aside0 (Below w.heap.size w wc))
 case first =>
  have H := HC3.out
  clear HC3
  replace H := Option.bind_eq_some_iff.mp H
  obtain ⟨t972, A50, H⟩ := H
  replace H : (if t972 = true then ((tile_Tiles.f (([(⟨a0_0, (⟨a0_1, a0_2, a0_3, a0_4⟩ : S23), a0_5, l0_6⟩ : S26)] : List (S26)))).bind fun t976 => (least_Gives.j0 k a1 (!t976) a0_0 a0_1 a0_2 a0_3 a0_4 a0_5 l0_6)) else (least_Gives.j0 k a1 true a0_0 a0_1 a0_2 a0_3 a0_4 a0_5 l0_6)) = some r := H
  have A5 := Aside0.mk A50
  clear A50
  by_cases c6 : t972 = true
  ·subst c6
   have H1 : ((tile_Tiles.f (([(⟨a0_0, (⟨a0_1, a0_2, a0_3, a0_4⟩ : S23), a0_5, l0_6⟩ : S26)] : List (S26)))).bind fun t976 => (least_Gives.j0 k a1 (!t976) a0_0 a0_1 a0_2 a0_3 a0_4 a0_5 l0_6)) = some r := by rw [if_pos rfl] at H; exact H
   clear H
   have H := H1
   clear H1
   obtain ⟨y973, hy973⟩ : ∃ y_ : List (S26), y_ = (([(⟨a0_0, (⟨a0_1, a0_2, a0_3, a0_4⟩ : S23), a0_5, l0_6⟩ : S26)] : List (S26))) := ⟨_, rfl⟩
   replace H : ((tile_Tiles.f y973).bind fun t976 => (least_Gives.j0 k a1 (!t976) a0_0 a0_1 a0_2 a0_3 a0_4 a0_5 l0_6)) = some r := by (rw [hy973]; with_reducible exact H)
   have Ny973 := Aside0.mk hy973
   clear hy973
   replace H := Option.bind_eq_some_iff.mp H
   obtain ⟨t976, A70, H⟩ := H
   replace H : (least_Gives.j0 k a1 (!t976) a0_0 a0_1 a0_2 a0_3 a0_4 a0_5 l0_6) = some r := H
   have A7 := Aside0.mk A70
   clear A70
   have H' := Aside0.mk H
   clear H
   go_wp2_with (first | ((with_reducible refine gate_callee (f := 147) rfl ?_); refine goesL_ (some 6) rfl rfl Try.func147 (by kernel_rfl) rfl #[.int .u8 a1] rfl (by (try simp only [List.map_toArray, List.map_cons, List.map_nil]); rfl) ?_; (with_reducible refine (least_axes.calls a1 true _ A5.out).mono ?_); rintro e w8 ⟨rfl, hb⟩; refine ⟨_, rfl, ?_⟩; replace HO0_6 := Aside0.mk (Kd.V_below HO0_6.out hb); replace BK971 := Aside0.mk (blk_below BK971.out hb); replace HB := Aside0.mk (below_step (by repeat ((with_reducible exact HB.out))) hb); (try clear hb); have hcz9_0 : w8.cell? ⟨gb971, 0, none⟩ = some (.int .u8 a0_0) := (blk_cell BK971.out 0).trans rfl; have hcz9_1 : w8.cell? ⟨gb971, 1, none⟩ = some (.int .i64 a0_1) := (blk_cell BK971.out 1).trans rfl; have hcz9_2 : w8.cell? ⟨gb971, 2, none⟩ = some (.int .i64 a0_2) := (blk_cell BK971.out 2).trans rfl; have hcz9_3 : w8.cell? ⟨gb971, 3, none⟩ = some (.int .i64 a0_3) := (blk_cell BK971.out 3).trans rfl; have hcz9_4 : w8.cell? ⟨gb971, 4, none⟩ = some (.int .i64 a0_4) := (blk_cell BK971.out 4).trans rfl; have hcz9_5 : w8.cell? ⟨gb971, 5, none⟩ = some (.int .i64 a0_5) := (blk_cell BK971.out 5).trans rfl; have hcz9_6 : w8.cell? ⟨gb971, 6, none⟩ = some (.slice A0_6 l0_6.length c0_6) := (blk_cell BK971.out 6).trans rfl; have hfz9_0 := blk_frozen BK971.out 0; have hfz9_1 := blk_frozen BK971.out 1; have hfz9_2 := blk_frozen BK971.out 2; have hfz9_3 := blk_frozen BK971.out 3; have hfz9_4 := blk_frozen BK971.out 4; have hfz9_5 := blk_frozen BK971.out 5; have hfz9_6 := blk_frozen BK971.out 6) | ((with_reducible refine gate_dst (N := 10) rfl ?_); (try (refine gate_guard (by rfl) ?_; dsimp only)); refine Kd.N_lit k26 _ 26 ?hg (N' := 10) ?hd (xs := ([(⟨a0_0, (⟨a0_1, a0_2, a0_3, a0_4⟩ : S23), a0_5, l0_6⟩ : S26)] : List (S26))) (inner := [.int .u8 a0_0, .int .i64 a0_1, .int .i64 a0_2, .int .i64 a0_3, .int .i64 a0_4, .int .i64 a0_5, .slice A0_6 l0_6.length c0_6]) (ok := (fun k_ => (P0_6_ k_ ∨ w.heap.size ≤ k_) ∧ k_ ≠ gb971)) (okp := (fun k_ => (P0_6_ k_ ∨ w.heap.size ≤ k_) ∧ k_ ≠ gb971)) ?hr ?hp (fun _ hk => hk) ((show ∀ k_, w8.heap.size ≤ k_ → (fun k_ => (P0_6_ k_ ∨ w.heap.size ≤ k_) ∧ k_ ≠ gb971) k_ from fun k_ hk => ⟨(.inr (Nat.le_trans (below_size (by repeat ((with_reducible exact HB.out)))) hk)), Kd.freshB BK971.out k_ hk⟩) _ (Nat.le_refl _)) (Below.refl _ _) (Nat.le_refl _) (by simp) ?_; (case hd => rfl); (case hg => rfl); (case hr => (go_simp; done)); (case hp => exact (Reps.c7 (show Kd.FK k26 _ _ (⟨a0_0, (⟨a0_1, a0_2, a0_3, a0_4⟩ : S23), a0_5, l0_6⟩ : S26) [.int .u8 a0_0, .int .i64 a0_1, .int .i64 a0_2, .int .i64 a0_3, .int .i64 a0_4, .int .i64 a0_5, .slice A0_6 l0_6.length c0_6] from (k26_mkF _ _ (⟨a0_0, (⟨a0_1, a0_2, a0_3, a0_4⟩ : S23), a0_5, l0_6⟩ : S26) (Kd.V_reads' (Kd.V_mono (ok' := (fun k_ => (P0_6_ k_ ∨ w.heap.size ≤ k_) ∧ k_ ≠ gb971)) (HO0_6.out) (fun k_ hk => ⟨hk.1, hk.2⟩))).2.1 (Kd.V_F (Kd.V_mono (ok' := (fun k_ => (P0_6_ k_ ∨ w.heap.size ≤ k_) ∧ k_ ≠ gb971)) (HO0_6.out) (fun k_ hk => ⟨hk.1, hk.2⟩))))) (Reps.none _ _))); intro v974 w10 ho11 hb hg_ hnew_; clear hg_ hnew_; (rw [← Ny973.out] at ho11); have HO975 := Aside0.mk (Kd.N_lower ho11 (below_size (by repeat ((with_reducible exact HB.out))))); replace HO0_6 := Aside0.mk (Kd.V_elder' HO0_6.out (Kd.N_base ho11) hb); replace BK971 := Aside0.mk (blk_below BK971.out hb); replace HB := Aside0.mk (below_step (by repeat ((with_reducible exact HB.out))) hb); clear hb ho11; obtain ⟨Ao12, co12, eo12⟩ := Kd.N_slice HO975.out; subst eo12) | (go_at_call 148; (with_reducible refine (tile_Tiles.calls _ _ y973 t976 _ ?side1 ?side2 A7.out).mono ?_); (case side1 => repeat (exact (Kd.N_reads' HO975.out).2.2)); (case side2 => exact (Kd.N_reads' HO975.out).2.1); rintro e w13 ⟨rfl, hb⟩; replace HO0_6 := Aside0.mk (Kd.V_below HO0_6.out hb); replace HO975 := Aside0.mk (Kd.N_below HO975.out hb); replace BK971 := Aside0.mk (blk_below BK971.out hb); replace HB := Aside0.mk (below_step (by repeat ((with_reducible exact HB.out))) hb); (try clear hb)))
   go_meet
   case rel => exact ⟨_, (!t976), (by rfl), H', ⟨by omega⟩, ⟨by exact Kd.V_mono HO0_6.out (fun _ hk => ⟨hk.1.1, hk.1.2⟩)⟩, ⟨by exact BK971.out⟩, ⟨by repeat ((with_reducible exact HB.out))⟩⟩
  ·replace c6 := Bool.eq_false_iff.mpr c6
   subst c6
   have H1 : (least_Gives.j0 k a1 true a0_0 a0_1 a0_2 a0_3 a0_4 a0_5 l0_6) = some r := by rw [if_neg (show ¬ (false = true) by decide)] at H; exact H
   clear H
   have H := H1
   clear H1
   have H' := Aside0.mk H
   clear H
   go_wp2_with (((with_reducible refine gate_callee (f := 147) rfl ?_); refine goesL_ (some 6) rfl rfl Try.func147 (by kernel_rfl) rfl #[.int .u8 a1] rfl (by (try simp only [List.map_toArray, List.map_cons, List.map_nil]); rfl) ?_; (with_reducible refine (least_axes.calls a1 false _ A5.out).mono ?_); rintro e w14 ⟨rfl, hb⟩; refine ⟨_, rfl, ?_⟩; replace HO0_6 := Aside0.mk (Kd.V_below HO0_6.out hb); replace BK971 := Aside0.mk (blk_below BK971.out hb); replace HB := Aside0.mk (below_step (by repeat ((with_reducible exact HB.out))) hb); (try clear hb)))
   go_meet
   case rel => exact ⟨_, (true), (by rfl), H', ⟨by omega⟩, ⟨by exact HO0_6.out⟩, ⟨by exact BK971.out⟩, ⟨by repeat ((with_reducible exact HB.out))⟩⟩
 case rest =>
  clear HC3
  obtain ⟨kq, x13_2, rfl, HA, HJ2, HO_972006, BK971, HB⟩ := hcut
  cases kq with
  | zero => exact absurd HA.out (by simp [least_Gives.j0])
  | succ kj2 =>
   have H := HA.out
   clear HA
   simp only [least_Gives.j0] at H
   by_cases c15 : x13_2 = true
   ·subst c15
    have H1 : (some 0) = some r := by rw [if_pos rfl] at H; exact H
    clear H
    have H := H1
    clear H1
    obtain rfl := Option.some.inj H
    go_wp2
    go_ret
    exact ⟨by rfl, by repeat ((with_reducible exact HB.out))⟩
   ·replace c15 := Bool.eq_false_iff.mpr c15
    subst c15
    have H1 : ((least_Size.f a0_1 a0_2 a0_3 a0_4 a1).bind fun t977 => ((least_least.f kj2 a0_0 a0_1 a0_2 a0_3 a0_4 a0_5 l0_6 a1).bind fun t978 => (some (wrap64 (t977 - t978))))) = some r := by rw [if_neg (show ¬ (false = true) by decide)] at H; exact H
    clear H
    have H := H1
    clear H1
    replace H := Option.bind_eq_some_iff.mp H
    obtain ⟨t977, A160, H⟩ := H
    replace H : ((least_least.f kj2 a0_0 a0_1 a0_2 a0_3 a0_4 a0_5 l0_6 a1).bind fun t978 => (some (wrap64 (t977 - t978)))) = some r := H
    have A16 := Aside0.mk A160
    clear A160
    replace H := Option.bind_eq_some_iff.mp H
    obtain ⟨t978, A170, H⟩ := H
    replace H : (some (wrap64 (t977 - t978))) = some r := H
    have A17 := Aside0.mk A170
    clear A170
    obtain rfl := Option.some.inj H
    try go_wp2
    replace HO_972006 := Aside0.mk (Kd.V_drew HO_972006.out); replace BK971 := Aside0.mk (blk_drew BK971.out); replace HB := Aside0.mk (below_drew1 HB.out)
    refine start_ (n := 9) (S := fun w' => w'.cell? ⟨gb971, 0, none⟩ = some (.int .u8 a0_0) ∧ w'.cell? ⟨gb971, 1, none⟩ = some (.int .i64 a0_1) ∧ w'.cell? ⟨gb971, 2, none⟩ = some (.int .i64 a0_2) ∧ w'.cell? ⟨gb971, 3, none⟩ = some (.int .i64 a0_3) ∧ w'.cell? ⟨gb971, 4, none⟩ = some (.int .i64 a0_4) ∧ w'.cell? ⟨gb971, 5, none⟩ = some (.int .i64 a0_5) ∧ w'.cell? ⟨gb971, 6, none⟩ = some (.slice A0_6 l0_6.length c0_6)) (ds := []) #[false, false, false, false, false, false, false, false, false] (by kernel_rfl) rfl rfl ⟨(blk_cell BK971.out 0).trans rfl, (blk_cell BK971.out 1).trans rfl, (blk_cell BK971.out 2).trans rfl, (blk_cell BK971.out 3).trans rfl, (blk_cell BK971.out 4).trans rfl, (blk_cell BK971.out 5).trans rfl, (blk_cell BK971.out 6).trans rfl⟩ (fun hHeld => ?_); refine with_tabW least_Gives.tab3 least_Gives.bits3 (fun HT_ HW_ => ?_)
    generalize wc.drew = w18 at HO_972006 BK971 HB hHeld ⊢
    refine pure_ (i := 0) (N := some 14) (v := ?_) (a' := ?_) #[true, false, false, false, false, false, false, false, false] rfl rfl (any_of HT_.out (by kernel_rfl)) (fun _ _ _ h => h) (Or.inl ⟨by rfl, ?_⟩) ?_ ?_
    rotate_left
    ·intro w'
     go_simp
     with_reducible rfl
    rotate_left
    ·simp only [Act.put, List.setIfInBounds_toArray, List.set_cons_zero, List.set_cons_succ, i64_w, i32_w]
     rfl
    refine pure_ (i := 2) (N := some 16) (v := ?_) (a' := ?_) #[true, false, true, false, false, false, false, false, false] rfl rfl (any_of HT_.out (by kernel_rfl)) (fun _ _ _ h => h) (Or.inl ⟨by rfl, ?_⟩) ?_ ?_
    rotate_left
    ·intro w'
     go_simp
     with_reducible rfl
    rotate_left
    ·simp only [Act.put, List.setIfInBounds_toArray, List.set_cons_zero, List.set_cons_succ, i64_w, i32_w]
     rfl
    refine pure_ (i := 5) (N := some 19) (v := ?_) (a' := ?_) #[true, false, true, false, false, true, false, false, false] rfl rfl (any_of HT_.out (by kernel_rfl)) (fun _ _ _ h => h) (Or.inl ⟨by rfl, ?_⟩) ?_ ?_
    rotate_left
    ·intro w'
     go_simp
     with_reducible rfl
    rotate_left
    ·simp only [Act.put, List.setIfInBounds_toArray, List.set_cons_zero, List.set_cons_succ, i64_w, i32_w]
     rfl
    refine take_ (i := 1) (N := some 15) (v := ?_) (a' := ?_) #[true, true, true, false, false, true, false, false, false] rfl rfl (take_ofW HT_.out HW_.out (by kernel_rfl)) (fun _ _ _ h => h) (Or.inl ⟨by rfl, ?_⟩) hHeld ?_ ?_
    rotate_left
    ·rintro w' ⟨s0, s1, s2, s3, s4, s5, s6⟩
     go_simp
     with_reducible rfl
    rotate_left
    ·simp only [Act.put, List.setIfInBounds_toArray, List.set_cons_zero, List.set_cons_succ, i64_w, i32_w]
     rfl
    refine take_ (i := 4) (N := some 18) (v := ?_) (a' := ?_) #[true, true, true, false, true, true, false, false, false] rfl rfl (take_ofW HT_.out HW_.out (by kernel_rfl)) (fun _ _ _ h => h) (Or.inl ⟨by rfl, ?_⟩) hHeld ?_ ?_
    rotate_left
    ·rintro w' ⟨s0, s1, s2, s3, s4, s5, s6⟩
     go_simp
     with_reducible rfl
    rotate_left
    ·simp only [Act.put, List.setIfInBounds_toArray, List.set_cons_zero, List.set_cons_succ, i64_w, i32_w]
     rfl
    refine one_ (i := 3) (N := some 17) #[true, true, true, true, true, true, false, false, false] rfl rfl (one_of HT_.out (by kernel_rfl)) (by decide) (fun K hK => ?_)
    refine goes_ Try.func98 (by kernel_rfl) rfl #[.agg #[.int .i64 a0_1, .int .i64 a0_2, .int .i64 a0_3, .int .i64 a0_4], .int .u8 a1] (by rfl) rfl rfl (by (try simp only [List.map_toArray, List.map_cons, List.map_nil]); rfl) ?_
    with_reducible refine (least_Size.calls a0_1 a0_2 a0_3 a0_4 a1 t977 _ A16.out).mono ?_
    rintro e w19 ⟨rfl, hb⟩
    refine ⟨_, rfl, ?_⟩
    replace HO_972006 := Aside0.mk (Kd.V_below HO_972006.out hb); replace BK971 := Aside0.mk (blk_below BK971.out hb); replace HB := Aside0.mk (below_step (by repeat ((with_reducible exact HB.out))) hb)
    (try clear hb)
    (skip)
    (skip)
    (skip)
    refine hK.out _ _ ⟨(blk_cell BK971.out 0).trans rfl, (blk_cell BK971.out 1).trans rfl, (blk_cell BK971.out 2).trans rfl, (blk_cell BK971.out 3).trans rfl, (blk_cell BK971.out 4).trans rfl, (blk_cell BK971.out 5).trans rfl, (blk_cell BK971.out 6).trans rfl⟩ (fun hHeld => ?_)
    clear hK K
    refine norm_ (a' := ?_) ?_ ?_
    rotate_left
    ·show Act.put _ (some 17) _ = _
     simp only [Act.put, List.setIfInBounds_toArray, List.set_cons_zero, List.set_cons_succ, i64_w, i32_w]
     rfl
    refine one_ (i := 6) (N := some 20) #[true, true, true, true, true, true, true, false, false] rfl rfl (one_of HT_.out (by kernel_rfl)) (by decide) (fun K hK => ?_)
    refine goes_ Try.func149 (by kernel_rfl) rfl #[.agg #[.int .u8 a0_0, .int .i64 a0_1, .int .i64 a0_2, .int .i64 a0_3, .int .i64 a0_4, .int .i64 a0_5, .slice A0_6 l0_6.length c0_6], .int .u8 a1] (by rfl) rfl rfl (by (try simp only [List.map_toArray, List.map_cons, List.map_nil]); rfl) ?_
    with_reducible refine (least_least.calls kj2 a0_0 a0_1 a0_2 a0_3 a0_4 a0_5 _ _ l0_6 a1 t978 _ ?side1 ?side2 A17.out).mono ?_
    (case side1 => repeat (exact (Kd.V_reads' HO_972006.out).2.2))
    (case side2 => exact (Kd.V_reads' HO_972006.out).2.1)
    rintro e w20 ⟨rfl, hb⟩
    refine ⟨_, rfl, ?_⟩
    replace HO_972006 := Aside0.mk (Kd.V_below HO_972006.out hb); replace BK971 := Aside0.mk (blk_below BK971.out hb); replace HB := Aside0.mk (below_step (by repeat ((with_reducible exact HB.out))) hb)
    (try clear hb)
    (skip)
    (skip)
    (skip)
    refine hK.out _ _ ⟨(blk_cell BK971.out 0).trans rfl, (blk_cell BK971.out 1).trans rfl, (blk_cell BK971.out 2).trans rfl, (blk_cell BK971.out 3).trans rfl, (blk_cell BK971.out 4).trans rfl, (blk_cell BK971.out 5).trans rfl, (blk_cell BK971.out 6).trans rfl⟩ (fun hHeld => ?_)
    clear hK K
    refine norm_ (a' := ?_) ?_ ?_
    rotate_left
    ·show Act.put _ (some 20) _ = _
     simp only [Act.put, List.setIfInBounds_toArray, List.set_cons_zero, List.set_cons_succ, i64_w, i32_w]
     rfl
    refine pure_ (i := 7) (N := some 21) (v := ?_) (a' := ?_) #[true, true, true, true, true, true, true, true, false] rfl rfl (any_of HT_.out (by kernel_rfl)) (fun _ _ _ h => h) (Or.inl ⟨by rfl, ?_⟩) ?_ ?_
    rotate_left
    ·intro w'
     go_simp
     with_reducible rfl
    rotate_left
    ·simp only [Act.put, List.setIfInBounds_toArray, List.set_cons_zero, List.set_cons_succ, i64_w, i32_w]
     rfl
    refine pure_ (i := 8) (N := some 4) (v := ?_) (a' := ?_) #[true, true, true, true, true, true, true, true, true] rfl rfl (any_of HT_.out (by kernel_rfl)) (fun _ _ _ h => h) (Or.inl ⟨by rfl, ?_⟩) ?_ ?_
    rotate_left
    ·intro w'
     go_simp
     with_reducible rfl
    rotate_left
    ·simp only [Act.put, List.setIfInBounds_toArray, List.set_cons_zero, List.set_cons_succ, i64_w, i32_w]
     rfl
    refine done_ (done_of HT_.out (by kernel_rfl)) ?_
    try go_wp2
    go_ret
    exact ⟨by rfl, by repeat ((with_reducible exact HB.out))⟩

end Go.Proofs.Ytfdmfgaiblfbhaa.P
namespace Go.Proofs.Ytfdmfgaiblfbhaa.P
open Go.RowKit Go.Proofs.YtfdmfgaiblfbhaaW.PrintWords Go.Proofs.YtfdmfgaiblfbhaaW.PrintLast Go.Proofs.YtfdmfgaiblfbhaaW.PrintMore
attribute [local go_sem] max2_int min2_int max_two min_two max_three min_three max_four min_four   -- for this text's walks alone
set_option linter.unusedVariables false
set_option linter.unusedSimpArgs false

/-! ### sashref08_Size: function 87 -/
def sashref08_Size.f (a0_0 : Int) (a0_1 : Int) (a0_2 : Int) (a0_3 : Int) (a1 : Int) : Option (Int) := if a1 = 1 then (some a0_2) else (if a1 = 2 then (some a0_3) else (some 0))
set_option maxHeartbeats 8000000 in
set_option maxRecDepth 100000 in
theorem sashref08_Size.calls (a0_0 : Int) (a0_1 : Int) (a0_2 : Int) (a0_3 : Int) (a1 : Int) (r : Int) (w : World) (h : sashref08_Size.f a0_0 a0_1 a0_2 a0_3 a1 = some r) :
  Calls Try.prog 87 #[.agg #[.int .i64 a0_0, .int .i64 a0_1, .int .i64 a0_2, .int .i64 a0_3], .int .u8 a1] w fun e w' => e = .returned (.int .i64 r) ∧ Below w.heap.size w w' := by
 have hu23 := Try.underlying23
 have HB := Aside0.mk (Below.refl w.heap.size w)
 have H : (if a1 = 1 then (some a0_2) else (if a1 = 2 then (some a0_3) else (some 0))) = some r := h
 clear h
 by_cases c3 : a1 = 1
 ·rw [if_pos c3] at H
  have c3b0 : (a1 == 1) = true := beq_iff_eq.mpr c3
  have c3b1 : (a1 != 1) = false := bne_eq_false_iff_eq.mpr c3
  clear c3
  obtain rfl := Option.some.inj H
  go_enter Try.func87, Try.ntmps87
  go_wp2_with (((with_reducible refine gate_dst (N := 2) rfl ?_); refine box_event ?hg (N := 2) ?hd (cs := #[.int .i64 a0_0, .int .i64 a0_1, .int .i64 a0_2, .int .i64 a0_3]) (t := 23) ?hr ?_; (case hd => rfl); (case hg => rfl); (case hr => (go_simp; done)); intro gb986 hg w4 hbox hb; have BK986 := Aside0.mk (hbox); replace HB := Aside0.mk (below_step (by repeat ((with_reducible exact HB.out))) hb); clear hb hbox hg; have hcz5_0 : w4.cell? ⟨gb986, 0, none⟩ = some (.int .i64 a0_0) := (blk_cell BK986.out 0).trans rfl; have hcz5_1 : w4.cell? ⟨gb986, 1, none⟩ = some (.int .i64 a0_1) := (blk_cell BK986.out 1).trans rfl; have hcz5_2 : w4.cell? ⟨gb986, 2, none⟩ = some (.int .i64 a0_2) := (blk_cell BK986.out 2).trans rfl; have hcz5_3 : w4.cell? ⟨gb986, 3, none⟩ = some (.int .i64 a0_3) := (blk_cell BK986.out 3).trans rfl; have hfz5_0 := blk_frozen BK986.out 0; have hfz5_1 := blk_frozen BK986.out 1; have hfz5_2 := blk_frozen BK986.out 2; have hfz5_3 := blk_frozen BK986.out 3))
  go_ret
  exact ⟨by rfl, by repeat ((with_reducible exact HB.out))⟩
 ·rw [if_neg c3] at H
  have c3b0 : (a1 == 1) = false := beq_eq_false_iff_ne.mpr c3
  have c3b1 : (a1 != 1) = true := bne_iff_ne.mpr c3
  by_cases c6 : a1 = 2
  ·rw [if_pos c6] at H
   have c6b0 : (a1 == 2) = true := beq_iff_eq.mpr c6
   have c6b1 : (a1 != 2) = false := bne_eq_false_iff_eq.mpr c6
   clear c6
   obtain rfl := Option.some.inj H
   go_enter Try.func87, Try.ntmps87
   go_wp2_with (((with_reducible refine gate_dst (N := 2) rfl ?_); refine box_event ?hg (N := 2) ?hd (cs := #[.int .i64 a0_0, .int .i64 a0_1, .int .i64 a0_2, .int .i64 a0_3]) (t := 23) ?hr ?_; (case hd => rfl); (case hg => rfl); (case hr => (go_simp; done)); intro gb986 hg w7 hbox hb; have BK986 := Aside0.mk (hbox); replace HB := Aside0.mk (below_step (by repeat ((with_reducible exact HB.out))) hb); clear hb hbox hg; have hcz8_0 : w7.cell? ⟨gb986, 0, none⟩ = some (.int .i64 a0_0) := (blk_cell BK986.out 0).trans rfl; have hcz8_1 : w7.cell? ⟨gb986, 1, none⟩ = some (.int .i64 a0_1) := (blk_cell BK986.out 1).trans rfl; have hcz8_2 : w7.cell? ⟨gb986, 2, none⟩ = some (.int .i64 a0_2) := (blk_cell BK986.out 2).trans rfl; have hcz8_3 : w7.cell? ⟨gb986, 3, none⟩ = some (.int .i64 a0_3) := (blk_cell BK986.out 3).trans rfl; have hfz8_0 := blk_frozen BK986.out 0; have hfz8_1 := blk_frozen BK986.out 1; have hfz8_2 := blk_frozen BK986.out 2; have hfz8_3 := blk_frozen BK986.out 3))
   go_ret
   exact ⟨by rfl, by repeat ((with_reducible exact HB.out))⟩
  ·rw [if_neg c6] at H
   have c6b0 : (a1 == 2) = false := beq_eq_false_iff_ne.mpr c6
   have c6b1 : (a1 != 2) = true := bne_iff_ne.mpr c6
   obtain rfl := Option.some.inj H
   go_enter Try.func87, Try.ntmps87
   go_wp2_with (((with_reducible refine gate_dst (N := 2) rfl ?_); refine box_event ?hg (N := 2) ?hd (cs := #[.int .i64 a0_0, .int .i64 a0_1, .int .i64 a0_2, .int .i64 a0_3]) (t := 23) ?hr ?_; (case hd => rfl); (case hg => rfl); (case hr => (go_simp; done)); intro gb986 hg w9 hbox hb; have BK986 := Aside0.mk (hbox); replace HB := Aside0.mk (below_step (by repeat ((with_reducible exact HB.out))) hb); clear hb hbox hg))
   go_ret
   exact ⟨by rfl, by repeat ((with_reducible exact HB.out))⟩

end Go.Proofs.Ytfdmfgaiblfbhaa.P
namespace Go.Proofs.Ytfdmfgaiblfbhaa.P
open Go.RowKit Go.Proofs.YtfdmfgaiblfbhaaW.PrintWords Go.Proofs.YtfdmfgaiblfbhaaW.PrintLast Go.Proofs.YtfdmfgaiblfbhaaW.PrintMore
attribute [local go_sem] max2_int min2_int max_two min_two max_three min_three max_four min_four   -- for this text's walks alone
set_option linter.unusedVariables false
set_option linter.unusedSimpArgs false

/-! ### sashref08_Along: function 88 -/
def sashref08_Along.f (a0_0 : Int) (a0_1 : Int) (a0_2 : Int) (a0_3 : Int) (a0_4 : Int) (a0_5 : Int) (l0_6 : List (S26)) (a1 : Int) : Option (Bool) := if a0_0 = 2 then (if a1 = 1 then (some true) else (if a0_0 = 3 then (some (a1 == 2)) else (some false))) else (if a0_0 = 3 then (some (a1 == 2)) else (some false))
set_option maxHeartbeats 8000000 in
set_option maxRecDepth 100000 in
theorem sashref08_Along.calls (a0_0 : Int) (a0_1 : Int) (a0_2 : Int) (a0_3 : Int) (a0_4 : Int) (a0_5 : Int) (A0_6 : Option Addr) (c0_6 : Nat) (l0_6 : List (S26)) (a1 : Int) (r : Bool) (w : World) (hr0_6 : Kd.C k26 w A0_6 l0_6.length l0_6) (hc0_6 : l0_6.length ≤ c0_6) (h : sashref08_Along.f a0_0 a0_1 a0_2 a0_3 a0_4 a0_5 l0_6 a1 = some r) :
  Calls Try.prog 88 #[.agg #[.int .u8 a0_0, .int .i64 a0_1, .int .i64 a0_2, .int .i64 a0_3, .int .i64 a0_4, .int .i64 a0_5, .slice A0_6 l0_6.length c0_6], .int .u8 a1] w fun e w' => e = .returned (.bool r) ∧ Below w.heap.size w w' := by
 have hu26 := Try.underlying26
 clear hr0_6 hc0_6
 have HB := Aside0.mk (Below.refl w.heap.size w)
 have H : (if a0_0 = 2 then (if a1 = 1 then (some true) else (if a0_0 = 3 then (some (a1 == 2)) else (some false))) else (if a0_0 = 3 then (some (a1 == 2)) else (some false))) = some r := h
 clear h
 by_cases c3 : a0_0 = 2
 ·rw [if_pos c3] at H
  have c3b0 : (a0_0 == 2) = true := beq_iff_eq.mpr c3
  have c3b1 : (a0_0 != 2) = false := bne_eq_false_iff_eq.mpr c3
  clear c3
  by_cases c4 : a1 = 1
  ·rw [if_pos c4] at H
   have c4b0 : (a1 == 1) = true := beq_iff_eq.mpr c4
   have c4b1 : (a1 != 1) = false := bne_eq_false_iff_eq.mpr c4
   clear c4
   obtain rfl := Option.some.inj H
   go_enter Try.func88, Try.ntmps88
   go_wp2_with (((with_reducible refine gate_dst (N := 2) rfl ?_); refine box_event ?hg (N := 2) ?hd (cs := #[.int .u8 a0_0, .int .i64 a0_1, .int .i64 a0_2, .int .i64 a0_3, .int .i64 a0_4, .int .i64 a0_5, .slice A0_6 l0_6.length c0_6]) (t := 26) ?hr ?_; (case hd => rfl); (case hg => rfl); (case hr => (go_simp; done)); intro gb987 hg w5 hbox hb; have BK987 := Aside0.mk (hbox); replace HB := Aside0.mk (below_step (by repeat ((with_reducible exact HB.out))) hb); clear hb hbox hg; have hcz6_0 : w5.cell? ⟨gb987, 0, none⟩ = some (.int .u8 a0_0) := (blk_cell BK987.out 0).trans rfl; have hcz6_1 : w5.cell? ⟨gb987, 1, none⟩ = some (.int .i64 a0_1) := (blk_cell BK987.out 1).trans rfl; have hcz6_2 : w5.cell? ⟨gb987, 2, none⟩ = some (.int .i64 a0_2) := (blk_cell BK987.out 2).trans rfl; have hcz6_3 : w5.cell? ⟨gb987, 3, none⟩ = some (.int .i64 a0_3) := (blk_cell BK987.out 3).trans rfl; have hcz6_4 : w5.cell? ⟨gb987, 4, none⟩ = some (.int .i64 a0_4) := (blk_cell BK987.out 4).trans rfl; have hcz6_5 : w5.cell? ⟨gb987, 5, none⟩ = some (.int .i64 a0_5) := (blk_cell BK987.out 5).trans rfl; have hcz6_6 : w5.cell? ⟨gb987, 6, none⟩ = some (.slice A0_6 l0_6.length c0_6) := (blk_cell BK987.out 6).trans rfl; have hfz6_0 := blk_frozen BK987.out 0; have hfz6_1 := blk_frozen BK987.out 1; have hfz6_2 := blk_frozen BK987.out 2; have hfz6_3 := blk_frozen BK987.out 3; have hfz6_4 := blk_frozen BK987.out 4; have hfz6_5 := blk_frozen BK987.out 5; have hfz6_6 := blk_frozen BK987.out 6))
   go_ret
   exact ⟨by rfl, by repeat ((with_reducible exact HB.out))⟩
  ·rw [if_neg c4] at H
   have c4b0 : (a1 == 1) = false := beq_eq_false_iff_ne.mpr c4
   have c4b1 : (a1 != 1) = true := bne_iff_ne.mpr c4
   by_cases c7 : a0_0 = 3
   ·rw [if_pos c7] at H
    have c7b0 : (a0_0 == 3) = true := beq_iff_eq.mpr c7
    have c7b1 : (a0_0 != 3) = false := bne_eq_false_iff_eq.mpr c7
    clear c7
    obtain rfl := Option.some.inj H
    go_enter Try.func88, Try.ntmps88
    go_wp2_with (((with_reducible refine gate_dst (N := 2) rfl ?_); refine box_event ?hg (N := 2) ?hd (cs := #[.int .u8 a0_0, .int .i64 a0_1, .int .i64 a0_2, .int .i64 a0_3, .int .i64 a0_4, .int .i64 a0_5, .slice A0_6 l0_6.length c0_6]) (t := 26) ?hr ?_; (case hd => rfl); (case hg => rfl); (case hr => (go_simp; done)); intro gb987 hg w8 hbox hb; have BK987 := Aside0.mk (hbox); replace HB := Aside0.mk (below_step (by repeat ((with_reducible exact HB.out))) hb); clear hb hbox hg; have hcz9_0 : w8.cell? ⟨gb987, 0, none⟩ = some (.int .u8 a0_0) := (blk_cell BK987.out 0).trans rfl; have hcz9_1 : w8.cell? ⟨gb987, 1, none⟩ = some (.int .i64 a0_1) := (blk_cell BK987.out 1).trans rfl; have hcz9_2 : w8.cell? ⟨gb987, 2, none⟩ = some (.int .i64 a0_2) := (blk_cell BK987.out 2).trans rfl; have hcz9_3 : w8.cell? ⟨gb987, 3, none⟩ = some (.int .i64 a0_3) := (blk_cell BK987.out 3).trans rfl; have hcz9_4 : w8.cell? ⟨gb987, 4, none⟩ = some (.int .i64 a0_4) := (blk_cell BK987.out 4).trans rfl; have hcz9_5 : w8.cell? ⟨gb987, 5, none⟩ = some (.int .i64 a0_5) := (blk_cell BK987.out 5).trans rfl; have hcz9_6 : w8.cell? ⟨gb987, 6, none⟩ = some (.slice A0_6 l0_6.length c0_6) := (blk_cell BK987.out 6).trans rfl; have hfz9_0 := blk_frozen BK987.out 0; have hfz9_1 := blk_frozen BK987.out 1; have hfz9_2 := blk_frozen BK987.out 2; have hfz9_3 := blk_frozen BK987.out 3; have hfz9_4 := blk_frozen BK987.out 4; have hfz9_5 := blk_frozen BK987.out 5; have hfz9_6 := blk_frozen BK987.out 6))
    go_ret
    exact ⟨by rfl, by repeat ((with_reducible exact HB.out))⟩
   ·rw [if_neg c7] at H
    have c7b0 : (a0_0 == 3) = false := beq_eq_false_iff_ne.mpr c7
    have c7b1 : (a0_0 != 3) = true := bne_iff_ne.mpr c7
    obtain rfl := Option.some.inj H
    go_enter Try.func88, Try.ntmps88
    go_wp2_with (((with_reducible refine gate_dst (N := 2) rfl ?_); refine box_event ?hg (N := 2) ?hd (cs := #[.int .u8 a0_0, .int .i64 a0_1, .int .i64 a0_2, .int .i64 a0_3, .int .i64 a0_4, .int .i64 a0_5, .slice A0_6 l0_6.length c0_6]) (t := 26) ?hr ?_; (case hd => rfl); (case hg => rfl); (case hr => (go_simp; done)); intro gb987 hg w10 hbox hb; have BK987 := Aside0.mk (hbox); replace HB := Aside0.mk (below_step (by repeat ((with_reducible exact HB.out))) hb); clear hb hbox hg; have hcz11_0 : w10.cell? ⟨gb987, 0, none⟩ = some (.int .u8 a0_0) := (blk_cell BK987.out 0).trans rfl; have hcz11_1 : w10.cell? ⟨gb987, 1, none⟩ = some (.int .i64 a0_1) := (blk_cell BK987.out 1).trans rfl; have hcz11_2 : w10.cell? ⟨gb987, 2, none⟩ = some (.int .i64 a0_2) := (blk_cell BK987.out 2).trans rfl; have hcz11_3 : w10.cell? ⟨gb987, 3, none⟩ = some (.int .i64 a0_3) := (blk_cell BK987.out 3).trans rfl; have hcz11_4 : w10.cell? ⟨gb987, 4, none⟩ = some (.int .i64 a0_4) := (blk_cell BK987.out 4).trans rfl; have hcz11_5 : w10.cell? ⟨gb987, 5, none⟩ = some (.int .i64 a0_5) := (blk_cell BK987.out 5).trans rfl; have hcz11_6 : w10.cell? ⟨gb987, 6, none⟩ = some (.slice A0_6 l0_6.length c0_6) := (blk_cell BK987.out 6).trans rfl; have hfz11_0 := blk_frozen BK987.out 0; have hfz11_1 := blk_frozen BK987.out 1; have hfz11_2 := blk_frozen BK987.out 2; have hfz11_3 := blk_frozen BK987.out 3; have hfz11_4 := blk_frozen BK987.out 4; have hfz11_5 := blk_frozen BK987.out 5; have hfz11_6 := blk_frozen BK987.out 6))
    go_ret
    exact ⟨by rfl, by repeat ((with_reducible exact HB.out))⟩
 ·rw [if_neg c3] at H
  have c3b0 : (a0_0 == 2) = false := beq_eq_false_iff_ne.mpr c3
  have c3b1 : (a0_0 != 2) = true := bne_iff_ne.mpr c3
  by_cases c12 : a0_0 = 3
  ·rw [if_pos c12] at H
   have c12b0 : (a0_0 == 3) = true := beq_iff_eq.mpr c12
   have c12b1 : (a0_0 != 3) = false := bne_eq_false_iff_eq.mpr c12
   clear c12
   obtain rfl := Option.some.inj H
   go_enter Try.func88, Try.ntmps88
   go_wp2_with (((with_reducible refine gate_dst (N := 2) rfl ?_); refine box_event ?hg (N := 2) ?hd (cs := #[.int .u8 a0_0, .int .i64 a0_1, .int .i64 a0_2, .int .i64 a0_3, .int .i64 a0_4, .int .i64 a0_5, .slice A0_6 l0_6.length c0_6]) (t := 26) ?hr ?_; (case hd => rfl); (case hg => rfl); (case hr => (go_simp; done)); intro gb987 hg w13 hbox hb; have BK987 := Aside0.mk (hbox); replace HB := Aside0.mk (below_step (by repeat ((with_reducible exact HB.out))) hb); clear hb hbox hg; have hcz14_0 : w13.cell? ⟨gb987, 0, none⟩ = some (.int .u8 a0_0) := (blk_cell BK987.out 0).trans rfl; have hcz14_1 : w13.cell? ⟨gb987, 1, none⟩ = some (.int .i64 a0_1) := (blk_cell BK987.out 1).trans rfl; have hcz14_2 : w13.cell? ⟨gb987, 2, none⟩ = some (.int .i64 a0_2) := (blk_cell BK987.out 2).trans rfl; have hcz14_3 : w13.cell? ⟨gb987, 3, none⟩ = some (.int .i64 a0_3) := (blk_cell BK987.out 3).trans rfl; have hcz14_4 : w13.cell? ⟨gb987, 4, none⟩ = some (.int .i64 a0_4) := (blk_cell BK987.out 4).trans rfl; have hcz14_5 : w13.cell? ⟨gb987, 5, none⟩ = some (.int .i64 a0_5) := (blk_cell BK987.out 5).trans rfl; have hcz14_6 : w13.cell? ⟨gb987, 6, none⟩ = some (.slice A0_6 l0_6.length c0_6) := (blk_cell BK987.out 6).trans rfl; have hfz14_0 := blk_frozen BK987.out 0; have hfz14_1 := blk_frozen BK987.out 1; have hfz14_2 := blk_frozen BK987.out 2; have hfz14_3 := blk_frozen BK987.out 3; have hfz14_4 := blk_frozen BK987.out 4; have hfz14_5 := blk_frozen BK987.out 5; have hfz14_6 := blk_frozen BK987.out 6))
   go_ret
   exact ⟨by rfl, by repeat ((with_reducible exact HB.out))⟩
  ·rw [if_neg c12] at H
   have c12b0 : (a0_0 == 3) = false := beq_eq_false_iff_ne.mpr c12
   have c12b1 : (a0_0 != 3) = true := bne_iff_ne.mpr c12
   obtain rfl := Option.some.inj H
   go_enter Try.func88, Try.ntmps88
   go_wp2_with (((with_reducible refine gate_dst (N := 2) rfl ?_); refine box_event ?hg (N := 2) ?hd (cs := #[.int .u8 a0_0, .int .i64 a0_1, .int .i64 a0_2, .int .i64 a0_3, .int .i64 a0_4, .int .i64 a0_5, .slice A0_6 l0_6.length c0_6]) (t := 26) ?hr ?_; (case hd => rfl); (case hg => rfl); (case hr => (go_simp; done)); intro gb987 hg w15 hbox hb; have BK987 := Aside0.mk (hbox); replace HB := Aside0.mk (below_step (by repeat ((with_reducible exact HB.out))) hb); clear hb hbox hg; have hcz16_0 : w15.cell? ⟨gb987, 0, none⟩ = some (.int .u8 a0_0) := (blk_cell BK987.out 0).trans rfl; have hcz16_1 : w15.cell? ⟨gb987, 1, none⟩ = some (.int .i64 a0_1) := (blk_cell BK987.out 1).trans rfl; have hcz16_2 : w15.cell? ⟨gb987, 2, none⟩ = some (.int .i64 a0_2) := (blk_cell BK987.out 2).trans rfl; have hcz16_3 : w15.cell? ⟨gb987, 3, none⟩ = some (.int .i64 a0_3) := (blk_cell BK987.out 3).trans rfl; have hcz16_4 : w15.cell? ⟨gb987, 4, none⟩ = some (.int .i64 a0_4) := (blk_cell BK987.out 4).trans rfl; have hcz16_5 : w15.cell? ⟨gb987, 5, none⟩ = some (.int .i64 a0_5) := (blk_cell BK987.out 5).trans rfl; have hcz16_6 : w15.cell? ⟨gb987, 6, none⟩ = some (.slice A0_6 l0_6.length c0_6) := (blk_cell BK987.out 6).trans rfl; have hfz16_0 := blk_frozen BK987.out 0; have hfz16_1 := blk_frozen BK987.out 1; have hfz16_2 := blk_frozen BK987.out 2; have hfz16_3 := blk_frozen BK987.out 3; have hfz16_4 := blk_frozen BK987.out 4; have hfz16_5 := blk_frozen BK987.out 5; have hfz16_6 := blk_frozen BK987.out 6))
   go_ret
   exact ⟨by rfl, by repeat ((with_reducible exact HB.out))⟩

end Go.Proofs.Ytfdmfgaiblfbhaa.P
namespace Go.Proofs.Ytfdmfgaiblfbhaa.P
open Go.RowKit Go.Proofs.YtfdmfgaiblfbhaaW.PrintWords Go.Proofs.YtfdmfgaiblfbhaaW.PrintLast Go.Proofs.YtfdmfgaiblfbhaaW.PrintMore
attribute [local go_sem] max2_int min2_int max_two min_two max_three min_three max_four min_four   -- for this text's walks alone
set_option linter.unusedVariables false
set_option linter.unusedSimpArgs false

/-! ### least_Least: function 93 -/
def least_Least.f (k : Nat) (a0_0 : Int) (a0_1 : Int) (a0_2 : Int) (a0_3 : Int) (a0_4 : Int) (a0_5 : Int) (l0_6 : List (S26)) (a1 : Int) : Option (Int) := (least_axes.f a1).bind fun t980 => (if t980 = true then ((cell_May.f (([(⟨a0_0, (⟨a0_1, a0_2, a0_3, a0_4⟩ : S23), a0_5, l0_6⟩ : S26)] : List (S26)))).bind fun t984 => (if t984 = true then ((least_least.f k a0_0 a0_1 a0_2 a0_3 a0_4 a0_5 l0_6 a1).bind fun t985 => (some t985)) else (some 0))) else (some 0))
set_option maxHeartbeats 8000000 in
set_option maxRecDepth 100000 in
theorem least_Least.calls (k : Nat) (a0_0 : Int) (a0_1 : Int) (a0_2 : Int) (a0_3 : Int) (a0_4 : Int) (a0_5 : Int) (P0_6_ : Nat → Prop) (A0_6 : Option Addr) (c0_6 : Nat) (l0_6 : List (S26)) (a1 : Int) (r : Int) (w : World) (hs0_6 : Kd.V k26 26 w w.heap.size (fun k_ => P0_6_ k_) (.slice A0_6 l0_6.length c0_6) l0_6) (h : least_Least.f k a0_0 a0_1 a0_2 a0_3 a0_4 a0_5 l0_6 a1 = some r) :
  Calls Try.prog 93 #[.agg #[.int .u8 a0_0, .int .i64 a0_1, .int .i64 a0_2, .int .i64 a0_3, .int .i64 a0_4, .int .i64 a0_5, .slice A0_6 l0_6.length c0_6], .int .u8 a1] w fun e w' => e = .returned (.int .i64 r) ∧ Below w.heap.size w w' := by
 have hu26 := Try.underlying26
 have HO0_6 := Aside0.mk (show Kd.V k26 26 w w.heap.size (fun k_ => (P0_6_ k_ ∨ w.heap.size ≤ k_)) (.slice A0_6 l0_6.length c0_6) l0_6 from Kd.V_mono hs0_6 (fun k_ hk => .inl hk))
 have HB := Aside0.mk (Below.refl w.heap.size w)
 have H : ((least_axes.f a1).bind fun t980 => (if t980 = true then ((cell_May.f (([(⟨a0_0, (⟨a0_1, a0_2, a0_3, a0_4⟩ : S23), a0_5, l0_6⟩ : S26)] : List (S26)))).bind fun t984 => (if t984 = true then ((least_least.f k a0_0 a0_1 a0_2 a0_3 a0_4 a0_5 l0_6 a1).bind fun t985 => (some t985)) else (some 0))) else (some 0))) = some r := h
 clear h
 replace H := Option.bind_eq_some_iff.mp H
 obtain ⟨t980, A30, H⟩ := H
 replace H : (if t980 = true then ((cell_May.f (([(⟨a0_0, (⟨a0_1, a0_2, a0_3, a0_4⟩ : S23), a0_5, l0_6⟩ : S26)] : List (S26)))).bind fun t984 => (if t984 = true then ((least_least.f k a0_0 a0_1 a0_2 a0_3 a0_4 a0_5 l0_6 a1).bind fun t985 => (some t985)) else (some 0))) else (some 0)) = some r := H
 have A3 := Aside0.mk A30
 clear A30
 by_cases c4 : t980 = true
 ·subst c4
  have H1 : ((cell_May.f (([(⟨a0_0, (⟨a0_1, a0_2, a0_3, a0_4⟩ : S23), a0_5, l0_6⟩ : S26)] : List (S26)))).bind fun t984 => (if t984 = true then ((least_least.f k a0_0 a0_1 a0_2 a0_3 a0_4 a0_5 l0_6 a1).bind fun t985 => (some t985)) else (some 0))) = some r := by rw [if_pos rfl] at H; exact H
  clear H
  have H := H1
  clear H1
  obtain ⟨y981, hy981⟩ : ∃ y_ : List (S26), y_ = (([(⟨a0_0, (⟨a0_1, a0_2, a0_3, a0_4⟩ : S23), a0_5, l0_6⟩ : S26)] : List (S26))) := ⟨_, rfl⟩
  replace H : ((cell_May.f y981).bind fun t984 => (if t984 = true then ((least_least.f k a0_0 a0_1 a0_2 a0_3 a0_4 a0_5 l0_6 a1).bind fun t985 => (some t985)) else (some 0))) = some r := by (rw [hy981]; with_reducible exact H)
  have Ny981 := Aside0.mk hy981
  clear hy981
  replace H := Option.bind_eq_some_iff.mp H
  obtain ⟨t984, A50, H⟩ := H
  replace H : (if t984 = true then ((least_least.f k a0_0 a0_1 a0_2 a0_3 a0_4 a0_5 l0_6 a1).bind fun t985 => (some t985)) else (some 0)) = some r := H
  have A5 := Aside0.mk A50
  clear A50
  by_cases c6 : t984 = true
  ·subst c6
   have H1 : ((least_least.f k a0_0 a0_1 a0_2 a0_3 a0_4 a0_5 l0_6 a1).bind fun t985 => (some t985)) = some r := by rw [if_pos rfl] at H; exact H
   clear H
   have H := H1
   clear H1
   replace H := Option.bind_eq_some_iff.mp H
   obtain ⟨t985, A70, H⟩ := H
   replace H : (some t985) = some r := H
   have A7 := Aside0.mk A70
   clear A70
   obtain rfl := Option.some.inj H
   go_enter Try.func93, Try.ntmps93
   go_wp2_with (first | ((with_reducible refine gate_dst (N := 2) rfl ?_); (try (refine gate_guard (by rfl) ?_; dsimp only)); refine box_event ?hg (N := 2) ?hd (cs := #[.int .u8 a0_0, .int .i64 a0_1, .int .i64 a0_2, .int .i64 a0_3, .int .i64 a0_4, .int .i64 a0_5, .slice A0_6 l0_6.length c0_6]) (t := 26) ?hr ?_; (case hd => rfl); (case hg => rfl); (case hr => (go_simp; done)); intro gb979 hg w8 hbox hb; have BK979 := Aside0.mk (hbox); replace HO0_6 := Aside0.mk (Kd.V_below (Kd.V_elderB HO0_6.out gb979 (Nat.le_of_eq hg.symm)) hb); replace HB := Aside0.mk (below_step (by repeat ((with_reducible exact HB.out))) hb); clear hb hbox hg) | ((with_reducible refine gate_callee (f := 147) rfl ?_); refine goesL_ (some 6) rfl rfl Try.func147 (by kernel_rfl) rfl #[.int .u8 a1] rfl (by (try simp only [List.map_toArray, List.map_cons, List.map_nil]); rfl) ?_; (with_reducible refine (least_axes.calls a1 true _ A3.out).mono ?_); rintro e w9 ⟨rfl, hb⟩; refine ⟨_, rfl, ?_⟩; replace HO0_6 := Aside0.mk (Kd.V_below HO0_6.out hb); replace BK979 := Aside0.mk (blk_below BK979.out hb); replace HB := Aside0.mk (below_step (by repeat ((with_reducible exact HB.out))) hb); (try clear hb); have hcz10_0 : w9.cell? ⟨gb979, 0, none⟩ = some (.int .u8 a0_0) := (blk_cell BK979.out 0).trans rfl; have hcz10_1 : w9.cell? ⟨gb979, 1, none⟩ = some (.int .i64 a0_1) := (blk_cell BK979.out 1).trans rfl; have hcz10_2 : w9.cell? ⟨gb979, 2, none⟩ = some (.int .i64 a0_2) := (blk_cell BK979.out 2).trans rfl; have hcz10_3 : w9.cell? ⟨gb979, 3, none⟩ = some (.int .i64 a0_3) := (blk_cell BK979.out 3).trans rfl; have hcz10_4 : w9.cell? ⟨gb979, 4, none⟩ = some (.int .i64 a0_4) := (blk_cell BK979.out 4).trans rfl; have hcz10_5 : w9.cell? ⟨gb979, 5, none⟩ = some (.int .i64 a0_5) := (blk_cell BK979.out 5).trans rfl; have hcz10_6 : w9.cell? ⟨gb979, 6, none⟩ = some (.slice A0_6 l0_6.length c0_6) := (blk_cell BK979.out 6).trans rfl; have hfz10_0 := blk_frozen BK979.out 0; have hfz10_1 := blk_frozen BK979.out 1; have hfz10_2 := blk_frozen BK979.out 2; have hfz10_3 := blk_frozen BK979.out 3; have hfz10_4 := blk_frozen BK979.out 4; have hfz10_5 := blk_frozen BK979.out 5; have hfz10_6 := blk_frozen BK979.out 6) | ((with_reducible refine gate_dst (N := 10) rfl ?_); (try (refine gate_guard (by rfl) ?_; dsimp only)); refine Kd.N_lit k26 _ 26 ?hg (N' := 10) ?hd (xs := ([(⟨a0_0, (⟨a0_1, a0_2, a0_3, a0_4⟩ : S23), a0_5, l0_6⟩ : S26)] : List (S26))) (inner := [.int .u8 a0_0, .int .i64 a0_1, .int .i64 a0_2, .int .i64 a0_3, .int .i64 a0_4, .int .i64 a0_5, .slice A0_6 l0_6.length c0_6]) (ok := (fun k_ => (P0_6_ k_ ∨ w.heap.size ≤ k_) ∧ k_ ≠ gb979)) (okp := (fun k_ => (P0_6_ k_ ∨ w.heap.size ≤ k_) ∧ k_ ≠ gb979)) ?hr ?hp (fun _ hk => hk) ((show ∀ k_, w9.heap.size ≤ k_ → (fun k_ => (P0_6_ k_ ∨ w.heap.size ≤ k_) ∧ k_ ≠ gb979) k_ from fun k_ hk => ⟨(.inr (Nat.le_trans (below_size (by repeat ((with_reducible exact HB.out)))) hk)), Kd.freshB BK979.out k_ hk⟩) _ (Nat.le_refl _)) (Below.refl _ _) (Nat.le_refl _) (by simp) ?_; (case hd => rfl); (case hg => rfl); (case hr => (go_simp; done)); (case hp => exact (Reps.c7 (show Kd.FK k26 _ _ (⟨a0_0, (⟨a0_1, a0_2, a0_3, a0_4⟩ : S23), a0_5, l0_6⟩ : S26) [.int .u8 a0_0, .int .i64 a0_1, .int .i64 a0_2, .int .i64 a0_3, .int .i64 a0_4, .int .i64 a0_5, .slice A0_6 l0_6.length c0_6] from (k26_mkF _ _ (⟨a0_0, (⟨a0_1, a0_2, a0_3, a0_4⟩ : S23), a0_5, l0_6⟩ : S26) (Kd.V_reads' (Kd.V_mono (ok' := (fun k_ => (P0_6_ k_ ∨ w.heap.size ≤ k_) ∧ k_ ≠ gb979)) (HO0_6.out) (fun k_ hk => ⟨hk.1, hk.2⟩))).2.1 (Kd.V_F (Kd.V_mono (ok' := (fun k_ => (P0_6_ k_ ∨ w.heap.size ≤ k_) ∧ k_ ≠ gb979)) (HO0_6.out) (fun k_ hk => ⟨hk.1, hk.2⟩))))) (Reps.none _ _))); intro v982 w11 ho12 hb hg_ hnew_; clear hg_ hnew_; (rw [← Ny981.out] at ho12); have HO983 := Aside0.mk (Kd.N_lower ho12 (below_size (by repeat ((with_reducible exact HB.out))))); replace HO0_6 := Aside0.mk (Kd.V_elder' HO0_6.out (Kd.N_base ho12) hb); replace BK979 := Aside0.mk (blk_below BK979.out hb); replace HB := Aside0.mk (below_step (by repeat ((with_reducible exact HB.out))) hb); clear hb ho12; obtain ⟨Ao13, co13, eo13⟩ := Kd.N_slice HO983.out; subst eo13) | (go_at_call 76; (with_reducible refine (cell_May.calls _ _ y981 true _ ?side1 ?side2 A5.out).mono ?_); (case side1 => repeat (exact (Kd.N_reads' HO983.out).2.2)); (case side2 => exact (Kd.N_reads' HO983.out).2.1); rintro e w14 ⟨rfl, hb⟩; replace HO0_6 := Aside0.mk (Kd.V_below HO0_6.out hb); replace HO983 := Aside0.mk (Kd.N_below HO983.out hb); replace BK979 := Aside0.mk (blk_below BK979.out hb); replace HB := Aside0.mk (below_step (by repeat ((with_reducible exact HB.out))) hb); (try clear hb); have hcz15_0 : w14.cell? ⟨gb979, 0, none⟩ = some (.int .u8 a0_0) := (blk_cell BK979.out 0).trans rfl; have hcz15_1 : w14.cell? ⟨gb979, 1, none⟩ = some (.int .i64 a0_1) := (blk_cell BK979.out 1).trans rfl; have hcz15_2 : w14.cell? ⟨gb979, 2, none⟩ = some (.int .i64 a0_2) := (blk_cell BK979.out 2).trans rfl; have hcz15_3 : w14.cell? ⟨gb979, 3, none⟩ = some (.int .i64 a0_3) := (blk_cell BK979.out 3).trans rfl; have hcz15_4 : w14.cell? ⟨gb979, 4, none⟩ = some (.int .i64 a0_4) := (blk_cell BK979.out 4).trans rfl; have hcz15_5 : w14.cell? ⟨gb979, 5, none⟩ = some (.int .i64 a0_5) := (blk_cell BK979.out 5).trans rfl; have hcz15_6 : w14.cell? ⟨gb979, 6, none⟩ = some (.slice A0_6 l0_6.length c0_6) := (blk_cell BK979.out 6).trans rfl; have hfz15_0 := blk_frozen BK979.out 0; have hfz15_1 := blk_frozen BK979.out 1; have hfz15_2 := blk_frozen BK979.out 2; have hfz15_3 := blk_frozen BK979.out 3; have hfz15_4 := blk_frozen BK979.out 4; have hfz15_5 := blk_frozen BK979.out 5; have hfz15_6 := blk_frozen BK979.out 6) | ((with_reducible refine gate_callee (f := 149) rfl ?_); refine goesL_ (some 16) rfl rfl Try.func149 (by kernel_rfl) rfl #[.agg #[.int .u8 a0_0, .int .i64 a0_1, .int .i64 a0_2, .int .i64 a0_3, .int .i64 a0_4, .int .i64 a0_5, .slice A0_6 l0_6.length c0_6], .int .u8 a1] rfl (by (try simp only [List.map_toArray, List.map_cons, List.map_nil]); rfl) ?_; (with_reducible refine (least_least.calls k a0_0 a0_1 a0_2 a0_3 a0_4 a0_5 _ _ l0_6 a1 t985 _ ?side1 ?side2 A7.out).mono ?_); (case side1 => repeat (exact (Kd.V_reads' HO0_6.out).2.2)); (case side2 => exact (Kd.V_reads' HO0_6.out).2.1); rintro e w16 ⟨rfl, hb⟩; refine ⟨_, rfl, ?_⟩; replace HO0_6 := Aside0.mk (Kd.V_below HO0_6.out hb); replace HO983 := Aside0.mk (Kd.N_below HO983.out hb); replace BK979 := Aside0.mk (blk_below BK979.out hb); replace HB := Aside0.mk (below_step (by repeat ((with_reducible exact HB.out))) hb); (try clear hb)))
   go_ret
   exact ⟨by rfl, by repeat ((with_reducible exact HB.out))⟩
  ·replace c6 := Bool.eq_false_iff.mpr c6
   subst c6
   have H1 : (some 0) = some r := by rw [if_neg (show ¬ (false = true) by decide)] at H; exact H
   clear H
   have H := H1
   clear H1
   obtain rfl := Option.some.inj H
   go_enter Try.func93, Try.ntmps93
   go_wp2_with (first | ((with_reducible refine gate_dst (N := 2) rfl ?_); (try (refine gate_guard (by rfl) ?_; dsimp only)); refine box_event ?hg (N := 2) ?hd (cs := #[.int .u8 a0_0, .int .i64 a0_1, .int .i64 a0_2, .int .i64 a0_3, .int .i64 a0_4, .int .i64 a0_5, .slice A0_6 l0_6.length c0_6]) (t := 26) ?hr ?_; (case hd => rfl); (case hg => rfl); (case hr => (go_simp; done)); intro gb979 hg w17 hbox hb; have BK979 := Aside0.mk (hbox); replace HO0_6 := Aside0.mk (Kd.V_below (Kd.V_elderB HO0_6.out gb979 (Nat.le_of_eq hg.symm)) hb); replace HB := Aside0.mk (below_step (by repeat ((with_reducible exact HB.out))) hb); clear hb hbox hg) | ((with_reducible refine gate_callee (f := 147) rfl ?_); refine goesL_ (some 6) rfl rfl Try.func147 (by kernel_rfl) rfl #[.int .u8 a1] rfl (by (try simp only [List.map_toArray, List.map_cons, List.map_nil]); rfl) ?_; (with_reducible refine (least_axes.calls a1 true _ A3.out).mono ?_); rintro e w18 ⟨rfl, hb⟩; refine ⟨_, rfl, ?_⟩; replace HO0_6 := Aside0.mk (Kd.V_below HO0_6.out hb); replace BK979 := Aside0.mk (blk_below BK979.out hb); replace HB := Aside0.mk (below_step (by repeat ((with_reducible exact HB.out))) hb); (try clear hb); have hcz19_0 : w18.cell? ⟨gb979, 0, none⟩ = some (.int .u8 a0_0) := (blk_cell BK979.out 0).trans rfl; have hcz19_1 : w18.cell? ⟨gb979, 1, none⟩ = some (.int .i64 a0_1) := (blk_cell BK979.out 1).trans rfl; have hcz19_2 : w18.cell? ⟨gb979, 2, none⟩ = some (.int .i64 a0_2) := (blk_cell BK979.out 2).trans rfl; have hcz19_3 : w18.cell? ⟨gb979, 3, none⟩ = some (.int .i64 a0_3) := (blk_cell BK979.out 3).trans rfl; have hcz19_4 : w18.cell? ⟨gb979, 4, none⟩ = some (.int .i64 a0_4) := (blk_cell BK979.out 4).trans rfl; have hcz19_5 : w18.cell? ⟨gb979, 5, none⟩ = some (.int .i64 a0_5) := (blk_cell BK979.out 5).trans rfl; have hcz19_6 : w18.cell? ⟨gb979, 6, none⟩ = some (.slice A0_6 l0_6.length c0_6) := (blk_cell BK979.out 6).trans rfl; have hfz19_0 := blk_frozen BK979.out 0; have hfz19_1 := blk_frozen BK979.out 1; have hfz19_2 := blk_frozen BK979.out 2; have hfz19_3 := blk_frozen BK979.out 3; have hfz19_4 := blk_frozen BK979.out 4; have hfz19_5 := blk_frozen BK979.out 5; have hfz19_6 := blk_frozen BK979.out 6) | ((with_reducible refine gate_dst (N := 10) rfl ?_); (try (refine gate_guard (by rfl) ?_; dsimp only)); refine Kd.N_lit k26 _ 26 ?hg (N' := 10) ?hd (xs := ([(⟨a0_0, (⟨a0_1, a0_2, a0_3, a0_4⟩ : S23), a0_5, l0_6⟩ : S26)] : List (S26))) (inner := [.int .u8 a0_0, .int .i64 a0_1, .int .i64 a0_2, .int .i64 a0_3, .int .i64 a0_4, .int .i64 a0_5, .slice A0_6 l0_6.length c0_6]) (ok := (fun k_ => (P0_6_ k_ ∨ w.heap.size ≤ k_) ∧ k_ ≠ gb979)) (okp := (fun k_ => (P0_6_ k_ ∨ w.heap.size ≤ k_) ∧ k_ ≠ gb979)) ?hr ?hp (fun _ hk => hk) ((show ∀ k_, w18.heap.size ≤ k_ → (fun k_ => (P0_6_ k_ ∨ w.heap.size ≤ k_) ∧ k_ ≠ gb979) k_ from fun k_ hk => ⟨(.inr (Nat.le_trans (below_size (by repeat ((with_reducible exact HB.out)))) hk)), Kd.freshB BK979.out k_ hk⟩) _ (Nat.le_refl _)) (Below.refl _ _) (Nat.le_refl _) (by simp) ?_; (case hd => rfl); (case hg => rfl); (case hr => (go_simp; done)); (case hp => exact (Reps.c7 (show Kd.FK k26 _ _ (⟨a0_0, (⟨a0_1, a0_2, a0_3, a0_4⟩ : S23), a0_5, l0_6⟩ : S26) [.int .u8 a0_0, .int .i64 a0_1, .int .i64 a0_2, .int .i64 a0_3, .int .i64 a0_4, .int .i64 a0_5, .slice A0_6 l0_6.length c0_6] from (k26_mkF _ _ (⟨a0_0, (⟨a0_1, a0_2, a0_3, a0_4⟩ : S23), a0_5, l0_6⟩ : S26) (Kd.V_reads' (Kd.V_mono (ok' := (fun k_ => (P0_6_ k_ ∨ w.heap.size ≤ k_) ∧ k_ ≠ gb979)) (HO0_6.out) (fun k_ hk => ⟨hk.1, hk.2⟩))).2.1 (Kd.V_F (Kd.V_mono (ok' := (fun k_ => (P0_6_ k_ ∨ w.heap.size ≤ k_) ∧ k_ ≠ gb979)) (HO0_6.out) (fun k_ hk => ⟨hk.1, hk.2⟩))))) (Reps.none _ _))); intro v982 w20 ho21 hb hg_ hnew_; clear hg_ hnew_; (rw [← Ny981.out] at ho21); have HO983 := Aside0.mk (Kd.N_lower ho21 (below_size (by repeat ((with_reducible exact HB.out))))); replace HO0_6 := Aside0.mk (Kd.V_elder' HO0_6.out (Kd.N_base ho21) hb); replace BK979 := Aside0.mk (blk_below BK979.out hb); replace HB := Aside0.mk (below_step (by repeat ((with_reducible exact HB.out))) hb); clear hb ho21; obtain ⟨Ao22, co22, eo22⟩ := Kd.N_slice HO983.out; subst eo22) | (go_at_call 76; (with_reducible refine (cell_May.calls _ _ y981 false _ ?side1 ?side2 A5.out).mono ?_); (case side1 => repeat (exact (Kd.N_reads' HO983.out).2.2)); (case side2 => exact (Kd.N_reads' HO983.out).2.1); rintro e w23 ⟨rfl, hb⟩; replace HO0_6 := Aside0.mk (Kd.V_below HO0_6.out hb); replace HO983 := Aside0.mk (Kd.N_below HO983.out hb); replace BK979 := Aside0.mk (blk_below BK979.out hb); replace HB := Aside0.mk (below_step (by repeat ((with_reducible exact HB.out))) hb); (try clear hb)))
   go_ret
   exact ⟨by rfl, by repeat ((with_reducible exact HB.out))⟩
 ·replace c4 := Bool.eq_false_iff.mpr c4
  subst c4
  have H1 : (some 0) = some r := by rw [if_neg (show ¬ (false = true) by decide)] at H; exact H
  clear H
  have H := H1
  clear H1
  obtain rfl := Option.some.inj H
  go_enter Try.func93, Try.ntmps93
  go_wp2_with (first | ((with_reducible refine gate_dst (N := 2) rfl ?_); (try (refine gate_guard (by rfl) ?_; dsimp only)); refine box_event ?hg (N := 2) ?hd (cs := #[.int .u8 a0_0, .int .i64 a0_1, .int .i64 a0_2, .int .i64 a0_3, .int .i64 a0_4, .int .i64 a0_5, .slice A0_6 l0_6.length c0_6]) (t := 26) ?hr ?_; (case hd => rfl); (case hg => rfl); (case hr => (go_simp; done)); intro gb979 hg w24 hbox hb; have BK979 := Aside0.mk (hbox); replace HO0_6 := Aside0.mk (Kd.V_below (Kd.V_elderB HO0_6.out gb979 (Nat.le_of_eq hg.symm)) hb); replace HB := Aside0.mk (below_step (by repeat ((with_reducible exact HB.out))) hb); clear hb hbox hg) | ((with_reducible refine gate_callee (f := 147) rfl ?_); refine goesL_ (some 6) rfl rfl Try.func147 (by kernel_rfl) rfl #[.int .u8 a1] rfl (by (try simp only [List.map_toArray, List.map_cons, List.map_nil]); rfl) ?_; (with_reducible refine (least_axes.calls a1 false _ A3.out).mono ?_); rintro e w25 ⟨rfl, hb⟩; refine ⟨_, rfl, ?_⟩; replace HO0_6 := Aside0.mk (Kd.V_below HO0_6.out hb); replace BK979 := Aside0.mk (blk_below BK979.out hb); replace HB := Aside0.mk (below_step (by repeat ((with_reducible exact HB.out))) hb); (try clear hb)))
  go_ret
  exact ⟨by rfl, by repeat ((with_reducible exact HB.out))⟩

end Go.Proofs.Ytfdmfgaiblfbhaa.P
/- May a tree be, by the reference: plain data. -/
namespace Go.Proofs.Ytfdmfgaiblfbhaa.P
open Go.RowKit Go.Proofs.YtfdmfgaiblfbhaaW.PrintWords Go.Proofs.YtfdmfgaiblfbhaaW.PrintLast Go.Proofs.YtfdmfgaiblfbhaaW.PrintMore

theorem may_ev (c : S26) (h : sz c ≤ 1048576) : Ev (fun k => sashref05_May.f k c.f0 c.f1.f0 c.f1.f1 c.f1.f2 c.f1.f3 c.f2 c.f3) (mayC c) := by
  unfold sashref05_May.f
  refine Ev.bind (all_cells _ c h (Nat.le_refl _)) ?_
  by_cases h2 : ((allC c).length : Int) > 20000
  · refine ev_pos h2 ?_
    have : mayC c = false := by
      unfold mayC sz
      rw [decide_eq_false (by omega), Bool.false_and]
    rw [this]
    exact Ev.now _
  refine ev_neg h2 ?_
  have hm : mayC c = ((allC c).all okC && distinctC (leavesC c)) := by
    unfold mayC sz
    rw [decide_eq_true (by omega), Bool.true_and]
  have hlv : (leavesC c).length ≤ 1048576 := by have := leaves_len c; omega
  -- the leaves' numbers
  have inner : ∀ (pre : List S26) (x : S26) (rest : List S26), pre ++ x :: rest = leavesC c → ∀ b : Bool, (apartTo pre x = true → Ev (fun k => sashref05_May.l1 k (leavesC c) ((leavesC c).length : Int) ((pre ++ [x]).length : Int)) b) → (apartTo pre x = false → b = false) →
      ∀ (q p : List S26), p ++ q = pre → apartTo p x = true → Ev (fun k => sashref05_May.l2 k (leavesC c) (pre.length : Int) (p.length : Int) ((leavesC c).length : Int) (pre.length : Int)) b := by
    intro pre x rest hp b hb hf q
    have hl : (pre.length : Int) < ((leavesC c).length : Int) := by rw [← hp, List.length_append, List.length_cons]; omega
    have hr : rd_T26 (leavesC c) (pre.length : Int) = x := by rw [← hp]; exact rd26_in pre x rest
    have hu : wrap64 ((pre.length : Int) + 1) = ((pre ++ [x]).length : Int) := up_in pre x rest (by rw [hp]; omega)
    induction q with
    | nil =>
      intro p hq ha
      rw [List.append_nil] at hq
      subst hq
      refine Ev.step (fun k => ?_) (hb ha)
      simp only [sashref05_May.l2]
      rw [if_neg (by omega), hu]
    | cons y ys ihq =>
      intro p hq ha
      have hpl : (p.length : Int) < (pre.length : Int) := by rw [← hq, List.length_append, List.length_cons]; omega
      have hpr : rd_T26 (leavesC c) (p.length : Int) = y := by rw [← hp, ← hq, List.append_assoc, List.cons_append]; exact rd26_in p y _
      have hpu : wrap64 ((p.length : Int) + 1) = ((p ++ [y]).length : Int) := up_in p y ys (by rw [hq]; omega)
      by_cases he : x.f2 = y.f2
      · have hbf : b = false := hf (by
          unfold apartTo
          rw [← hq, List.all_append, List.all_cons, decide_eq_false (by simpa using he), Bool.false_and, Bool.and_false])
        rw [hbf]
        refine Ev.step (f := fun _ => some false) (fun k => ?_) (Ev.now _)
        simp only [sashref05_May.l2]
        rw [if_pos hpl, if_pos (by omega), if_pos hl, if_pos (by omega), if_pos (by omega), hr, hpr, if_pos he]
      · have e2 := ihq (p ++ [y]) (by rw [List.append_assoc]; exact hq) (by
          unfold apartTo at ha ⊢
          rw [List.all_append, ha, Bool.true_and, List.all_cons, decide_eq_true (by simpa using he)]
          rfl)
        refine Ev.step (fun k => ?_) e2
        simp only [sashref05_May.l2]
        rw [if_pos hpl, if_pos (by omega), if_pos hl, if_pos (by omega), if_pos (by omega), hr, hpr, if_neg he, hpu]
  have outer : ∀ (rest pre : List S26), pre ++ rest = leavesC c → distinctC pre = true → Ev (fun k => sashref05_May.l1 k (leavesC c) ((leavesC c).length : Int) (pre.length : Int)) (distinctC (leavesC c)) := by
    intro rest
    induction rest with
    | nil =>
      intro pre hp hd
      rw [List.append_nil] at hp
      have hd2 : distinctC (leavesC c) = true := by rw [← hp]; exact hd
      rw [hd2]
      refine Ev.step (f := fun _ => some true) (fun k => ?_) (Ev.now _)
      simp only [sashref05_May.l1]
      rw [if_neg (by rw [← hp]; omega)]
    | cons x xs ihr =>
      intro pre hp hd
      have hl : (pre.length : Int) < ((leavesC c).length : Int) := by rw [← hp, List.length_append, List.length_cons]; omega
      have e := inner pre x xs hp (distinctC (leavesC c)) (fun ha => ihr (pre ++ [x]) (by rw [List.append_assoc]; exact hp) (by rw [distinctC_app, hd, ha]; rfl)) (fun ha => by
        have := distinctC_pre (pre ++ [x]) xs (by rw [distinctC_app, ha, Bool.and_false])
        rwa [List.append_assoc, List.singleton_append, hp] at this) pre [] rfl rfl
      refine Ev.step (fun k => ?_) e
      simp only [sashref05_May.l1]
      rw [if_pos hl]
      rfl
  -- the cells
  have cells : ∀ (rest pre : List S26), pre ++ rest = allC c → pre.all okC = true → Ev (fun k => sashref05_May.l0 k (allC c) ((allC c).length : Int) (pre.length : Int) c.f0 c.f1.f0 c.f1.f1 c.f1.f2 c.f1.f3 c.f2 c.f3) (mayC c) := by
    intro rest
    induction rest with
    | nil =>
      intro pre hp ha
      rw [List.append_nil] at hp
      rw [hm, ← hp, ha, Bool.true_and, hp]
      refine Ev.step (f := fun k => (sashref05_Leaves.f k c.f0 c.f1.f0 c.f1.f1 c.f1.f2 c.f1.f3 c.f2 c.f3).bind fun t => sashref05_May.l1 k t (t.length : Int) 0) (fun k => ?_) (Ev.bind (leaves_ev c h) (outer (leavesC c) [] rfl rfl))
      simp only [sashref05_May.l0]
      rw [if_neg (by omega)]
    | cons x xs ihr =>
      intro pre hp ha
      have hsz : (allC c).length ≤ 1048576 := h
      have hl : (pre.length : Int) < ((allC c).length : Int) := by rw [← hp, List.length_append, List.length_cons]; omega
      have hr : rd_T26 (allC c) (pre.length : Int) = x := by rw [← hp]; exact rd26_in pre x xs
      have hu : wrap64 ((pre.length : Int) + 1) = ((pre ++ [x]).length : Int) := up_in pre x xs (by rw [hp]; omega)
      have hno : okC x = false → mayC c = false := fun hx => by
        rw [hm, ← hp, List.all_append, List.all_cons, hx, Bool.false_and, Bool.and_false, Bool.false_and]
      have hyes : okC x = true → Ev (fun k => sashref05_May.l0 k (allC c) ((allC c).length : Int) ((pre ++ [x]).length : Int) c.f0 c.f1.f0 c.f1.f1 c.f1.f2 c.f1.f3 c.f2 c.f3) (mayC c) := fun hx =>
        ihr (pre ++ [x]) (by rw [List.append_assoc]; exact hp) (by rw [List.all_append, ha, Bool.true_and, List.all_cons, hx]; rfl)
      have j1t : okC x = false → Ev (fun k => sashref05_May.j1 k (allC c) (pre.length : Int) ((allC c).length : Int) (pre.length : Int) true c.f0 c.f1.f0 c.f1.f1 c.f1.f2 c.f1.f3 c.f2 c.f3) (mayC c) := fun hx => by
        rw [hno hx]
        refine Ev.step (f := fun _ => some false) (fun k => ?_) (Ev.now _)
        simp only [sashref05_May.j1]
        rw [if_pos trivial]
      refine Ev.step (f := fun k => (sashref04_May.f x.f1.f0 x.f1.f1 x.f1.f2 x.f1.f3).bind fun t179 => (if t179 = true then (if x.f0 < 1 then (sashref05_May.j1 k (allC c) (pre.length : Int) ((allC c).length : Int) (pre.length : Int) true c.f0 c.f1.f0 c.f1.f1 c.f1.f2 c.f1.f3 c.f2 c.f3) else (sashref05_May.j1 k (allC c) (pre.length : Int) ((allC c).length : Int) (pre.length : Int) (decide (x.f0 > 3)) c.f0 c.f1.f0 c.f1.f1 c.f1.f2 c.f1.f3 c.f2 c.f3)) else (sashref05_May.j1 k (allC c) (pre.length : Int) ((allC c).length : Int) (pre.length : Int) true c.f0 c.f1.f0 c.f1.f1 c.f1.f2 c.f1.f3 c.f2 c.f3))) (fun k => ?_) ?_
      · simp only [sashref05_May.l0]
        rw [if_pos hl, if_pos (by omega), if_pos hl, hr]
      · refine Ev.bind (a := mayR x.f1) (ev_some fun k => refmay_some _ _ _ _) ?_
        by_cases hmr : mayR x.f1 = true
        · refine ev_pos hmr ?_
          by_cases h1 : x.f0 < 1
          · refine ev_pos h1 (j1t ?_)
            unfold okC
            rw [decide_eq_false (p := 1 ≤ x.f0 ∧ x.f0 ≤ 3) (by omega)]
            simp
          · refine ev_neg h1 ?_
            by_cases h3 : x.f0 > 3
            · rw [decide_eq_true h3]
              refine j1t ?_
              unfold okC
              rw [decide_eq_false (p := 1 ≤ x.f0 ∧ x.f0 ≤ 3) (by omega)]
              simp
            · rw [decide_eq_false h3]
              have hk : okC x = (decide (x.f0 = 1 → x.f3.length = 0 ∧ 0 ≤ x.f2 ∧ x.f2 ≤ 2147483647) && decide (x.f0 > 1 → 2 ≤ x.f3.length ∧ x.f2 = 0)) := by
                unfold okC
                rw [hmr, decide_eq_true (p := 1 ≤ x.f0 ∧ x.f0 ≤ 3) (by omega), Bool.true_and, Bool.true_and]
              have go : ∀ {f : Nat → Option Bool}, Ev f (mayC c) → (∀ k, sashref05_May.j1 (k + 1) (allC c) (pre.length : Int) ((allC c).length : Int) (pre.length : Int) false c.f0 c.f1.f0 c.f1.f1 c.f1.f2 c.f1.f3 c.f2 c.f3 = f k) → Ev (fun k => sashref05_May.j1 k (allC c) (pre.length : Int) ((allC c).length : Int) (pre.length : Int) false c.f0 c.f1.f0 c.f1.f1 c.f1.f2 c.f1.f3 c.f2 c.f3) (mayC c) := fun he hs => Ev.step hs he
              have base : ∀ k, sashref05_May.j1 (k + 1) (allC c) (pre.length : Int) ((allC c).length : Int) (pre.length : Int) false c.f0 c.f1.f0 c.f1.f1 c.f1.f2 c.f1.f3 c.f2 c.f3 =
                  (if x.f0 = 1 then (if (x.f3.length : Int) > 0 then (some false) else (if x.f2 < 0 then (some false) else (if x.f2 > 2147483647 then (some false) else (if x.f0 > 1 then (if (x.f3.length : Int) < 2 then (some false) else (if x.f2 = 0 then (sashref05_May.l0 k (allC c) ((allC c).length : Int) ((pre ++ [x]).length : Int) c.f0 c.f1.f0 c.f1.f1 c.f1.f2 c.f1.f3 c.f2 c.f3) else (some false))) else (sashref05_May.l0 k (allC c) ((allC c).length : Int) ((pre ++ [x]).length : Int) c.f0 c.f1.f0 c.f1.f1 c.f1.f2 c.f1.f3 c.f2 c.f3))))) else (if x.f0 > 1 then (if (x.f3.length : Int) < 2 then (some false) else (if x.f2 = 0 then (sashref05_May.l0 k (allC c) ((allC c).length : Int) ((pre ++ [x]).length : Int) c.f0 c.f1.f0 c.f1.f1 c.f1.f2 c.f1.f3 c.f2 c.f3) else (some false))) else (sashref05_May.l0 k (allC c) ((allC c).length : Int) ((pre ++ [x]).length : Int) c.f0 c.f1.f0 c.f1.f1 c.f1.f2 c.f1.f3 c.f2 c.f3))) := by
                intro k
                simp only [sashref05_May.j1]
                rw [if_neg (by simp), if_pos (by omega), if_pos hl, hr, hu]
              have bad : okC x = false → Ev (fun _ : Nat => some false) (mayC c) := fun hx => by rw [hno hx]; exact Ev.now _
              by_cases g1 : x.f0 = 1
              · by_cases g2 : (x.f3.length : Int) > 0
                · exact go (bad (by rw [hk, decide_eq_false (by omega), Bool.false_and])) (fun k => by rw [base, if_pos g1, if_pos g2])
                · by_cases g3 : x.f2 < 0
                  · exact go (bad (by rw [hk, decide_eq_false (by omega), Bool.false_and])) (fun k => by rw [base, if_pos g1, if_neg g2, if_pos g3])
                  · by_cases g4 : x.f2 > 2147483647
                    · exact go (bad (by rw [hk, decide_eq_false (by omega), Bool.false_and])) (fun k => by rw [base, if_pos g1, if_neg g2, if_neg g3, if_pos g4])
                    · exact go (hyes (by rw [hk, decide_eq_true (by omega), decide_eq_true (by omega)]; rfl)) (fun k => by rw [base, if_pos g1, if_neg g2, if_neg g3, if_neg g4, if_neg (by omega)])
              · by_cases g2 : (x.f3.length : Int) < 2
                · exact go (bad (by rw [hk, decide_eq_false (p := x.f0 > 1 → 2 ≤ x.f3.length ∧ x.f2 = 0) (by omega), Bool.and_false])) (fun k => by rw [base, if_neg g1, if_pos (by omega), if_pos g2])
                · by_cases g3 : x.f2 = 0
                  · exact go (hyes (by rw [hk, decide_eq_true (by omega), decide_eq_true (by omega)]; rfl)) (fun k => by rw [base, if_neg g1, if_pos (by omega), if_neg g2, if_pos g3])
                  · exact go (bad (by rw [hk, decide_eq_false (p := x.f0 > 1 → 2 ≤ x.f3.length ∧ x.f2 = 0) (by omega), Bool.and_false])) (fun k => by rw [base, if_neg g1, if_pos (by omega), if_neg g2, if_neg g3])
        · refine ev_neg hmr (j1t ?_)
          unfold okC
          rw [Bool.eq_false_iff.2 hmr, Bool.false_and, Bool.false_and, Bool.false_and]
  exact cells (allC c) [] rfl rfl
end Go.Proofs.Ytfdmfgaiblfbhaa.P
/- Whether a tree tiles, by the reference: plain data. -/
namespace Go.Proofs.Ytfdmfgaiblfbhaa.P
open Go.RowKit Go.Proofs.YtfdmfgaiblfbhaaW.PrintWords Go.Proofs.YtfdmfgaiblfbhaaW.PrintLast Go.Proofs.YtfdmfgaiblfbhaaW.PrintMore
theorem all_sz : ∀ (N : Nat), (∀ c : S26, sz c ≤ N → ∀ d, d ∈ allC c → sz d ≤ sz c) ∧ (∀ l : List S26, szL l ≤ N → ∀ d, d ∈ allL l → sz d ≤ szL l) := by
  intro N
  induction N with
  | zero =>
    refine ⟨fun c h => ?_, fun l h => ?_⟩
    · rw [sz_eq] at h; omega
    · cases l with
      | nil => intro d hd; rw [allL_nil] at hd; cases hd
      | cons z zs => rw [szL_cons, sz_eq] at h; omega
  | succ N ih =>
    have hC : ∀ c : S26, sz c ≤ N + 1 → ∀ d, d ∈ allC c → sz d ≤ sz c := by
      intro c h d hd
      have hs := sz_eq c
      rw [allC_eq] at hd
      rcases List.mem_cons.1 hd with rfl | hd
      · exact Nat.le_refl _
      · have := ih.2 c.f3 (by omega) d hd
        omega
    refine ⟨hC, fun l => ?_⟩
    induction l with
    | nil => intro _ d hd; rw [allL_nil] at hd; cases hd
    | cons x xs ihl =>
      intro h d hd
      rw [szL_cons] at h ⊢
      rw [allL_cons] at hd
      rcases List.mem_append.1 hd with hd | hd
      · have := hC x (by omega) d hd
        omega
      · have := ihl (by omega) d hd
        omega
theorem cutP_len (ax X Y W H : Int) : ∀ (ns : List Int) (off : Int), (cutP ax X Y W H off ns).length = ns.length := by
  intro ns
  induction ns with
  | nil => intro off; rfl
  | cons n ns ih => intro off; simp [cutP, ih]
theorem sizes_ev (c : S26) (h : c.f3.length ≤ 1048576) : Ev (fun k => sashref06_Sizes.f k c.f0 c.f1.f0 c.f1.f1 c.f1.f2 c.f1.f3 c.f2 c.f3) (sizesC c) := by
  have key : ∀ (rest pre : List S26), pre ++ rest = c.f3 → Ev (fun k => sashref06_Sizes.l0 k (pre.map (szK c)) (c.f3.length : Int) (pre.length : Int) c.f0 c.f1.f0 c.f1.f1 c.f1.f2 c.f1.f3 c.f2 c.f3) (sizesC c) := by
    intro rest
    induction rest with
    | nil =>
      intro pre hp
      rw [List.append_nil] at hp
      subst hp
      refine Ev.step (f := fun _ => some (sizesC c)) (fun k => ?_) (Ev.now _)
      simp only [sashref06_Sizes.l0]
      rw [if_neg (by omega)]
      rfl
    | cons x xs ih =>
      intro pre hp
      have hl : (pre.length : Int) < (c.f3.length : Int) := by rw [← hp, List.length_append, List.length_cons]; omega
      have hr : rd_T26 c.f3 (pre.length : Int) = x := by rw [← hp]; exact rd26_in pre x xs
      have hu : wrap64 ((pre.length : Int) + 1) = ((pre ++ [x]).length : Int) := up_in pre x xs (by rw [hp]; omega)
      have e2 := ih (pre ++ [x]) (by rw [List.append_assoc]; exact hp)
      have hm : (pre ++ [x]).map (szK c) = pre.map (szK c) ++ [szK c x] := by simp
      rw [hm] at e2
      refine Ev.step (fun k => ?_) e2
      simp only [sashref06_Sizes.l0]
      rw [if_pos hl, hr, hu, List.length_map]
      by_cases h2 : c.f0 = 2
      · rw [if_pos h2, if_pos (by omega), if_pos hl, if_pos (by omega), show szK c x = x.f1.f2 from if_pos h2]
      · rw [if_neg h2, if_pos (by omega), if_pos hl, if_pos (by omega), show szK c x = x.f1.f3 from if_neg h2]
  unfold sashref06_Sizes.f
  exact key c.f3 [] rfl
theorem one_ev (c : S26) (h : c.f3.length ≤ 20000) : ∃ ls : List S23, ls.length ≤ c.f3.length ∧ Ev (fun k => sashref06_one.f k c.f0 c.f1.f0 c.f1.f1 c.f1.f2 c.f1.f3 c.f2 c.f3) (ls, oneB c) := by
  unfold oneB oneT
  by_cases h1 : c.f0 = 1
  · refine ⟨[], by simp, Ev.congr (f := fun _ => some ([], true)) (fun k => ?_) ?_⟩
    · unfold sashref06_one.f
      rw [if_pos h1]
    · rw [show (c.f0 == 1) = true from by simp [h1], Bool.true_or]
      exact Ev.now _
  · rw [show (c.f0 == 1) = false from by simp [h1], Bool.false_or]
    obtain ⟨⟨l1, l2⟩, hg, _, t2⟩ := cutT_spec c h
    have hax : (c.f0 - 1) % 256 = axC c.f0 := by unfold axC; omega
    generalize cutT c = t at l1 l2 hg t2
    have main : ∀ ls : List S23, ∀ b : Bool, Ev (fun k => if t.2.2 = true then (sashref06_one.l0 k t.1 t.2.1 (t.1.length : Int) 0 c.f0 c.f1.f0 c.f1.f1 c.f1.f2 c.f1.f3 c.f2 c.f3) else (some (t.2.1, false))) (ls, b) → Ev (fun k => sashref06_one.f k c.f0 c.f1.f0 c.f1.f1 c.f1.f2 c.f1.f3 c.f2 c.f3) (ls, b) := by
      intro ls b he
      refine Ev.congr (f := fun k => (sashref06_Sizes.f k c.f0 c.f1.f0 c.f1.f1 c.f1.f2 c.f1.f3 c.f2 c.f3).bind fun s => (sashref04_Cut.f k c.f1.f0 c.f1.f1 c.f1.f2 c.f1.f3 (axC c.f0) s).bind fun bt => (if bt.2.2 = true then (sashref06_one.l0 k bt.1 bt.2.1 (bt.1.length : Int) 0 c.f0 c.f1.f0 c.f1.f1 c.f1.f2 c.f1.f3 c.f2 c.f3) else (some (bt.2.1, false)))) (fun k => ?_) (Ev.bind (sizes_ev c (by omega)) (Ev.bind t2 he))
      unfold sashref06_one.f
      rw [if_neg h1, hax]
    cases ht : t.2.2 with
    | false =>
      rw [Bool.false_and]
      exact ⟨t.2.1, l2, main _ _ (ev_neg (by rw [ht]; simp) (Ev.now _))⟩
    | true =>
      obtain ⟨_, gp, _, _⟩ := hg ht
      have hlen : t.1.length = c.f3.length := by rw [gp, cutP_len]; simp [sizesC]
      rw [show (c.f3.length == t.1.length) = true from by simp [hlen], Bool.true_and, Bool.true_and]
      have key : ∀ (rest pre : List S23) (rb pb : List S26), pre ++ rest = t.1 → pb ++ rb = c.f3 → pre.length = pb.length → ∃ ls : List S23, ls.length ≤ c.f3.length ∧ Ev (fun k => sashref06_one.l0 k t.1 t.2.1 (t.1.length : Int) (pre.length : Int) c.f0 c.f1.f0 c.f1.f1 c.f1.f2 c.f1.f3 c.f2 c.f3) (ls, eqL (fun k r => rectB k.f1 r) rb rest) := by
        intro rest
        induction rest with
        | nil =>
          intro pre rb pb hp hb he
          rw [List.append_nil] at hp
          have hr : rb = [] := by
            apply List.eq_nil_of_length_eq_zero
            have h2 := congrArg List.length hb
            rw [List.length_append] at h2
            rw [← hp] at hlen
            omega
          subst hr
          refine ⟨t.2.1, l2, Ev.step (f := fun _ => some (t.2.1, true)) (fun k => ?_) (Ev.now _)⟩
          simp only [sashref06_one.l0]
          rw [if_neg (by rw [hp]; omega)]
        | cons r rs ih =>
          intro pre rb pb hp hb he
          have h4 : t.1.length = pre.length + (rs.length + 1) := by rw [← hp, List.length_append, List.length_cons]
          cases rb with
          | nil => rw [List.append_nil] at hb; rw [← hb] at hlen; omega
          | cons x xs =>
            have hl : (pre.length : Int) < (t.1.length : Int) := by omega
            have hr : rd_T26 c.f3 (pre.length : Int) = x := by rw [he, ← hb]; exact rd26_in pb x xs
            have hr2 : rd_T23 t.1 (pre.length : Int) = r := by rw [← hp]; simp [rd_T23, List.getD_eq_getElem?_getD]
            have hu : wrap64 ((pre.length : Int) + 1) = ((pre ++ [r]).length : Int) := up_in pre r rs (by rw [hp]; omega)
            have hq : (!(r.f0 == x.f1.f0) || (!(r.f1 == x.f1.f1) || (!(r.f2 == x.f1.f2) || (!(r.f3 == x.f1.f3))))) = !(rectB x.f1 r) := by
              unfold rectB
              rw [Bool.not_and, Bool.not_and, Bool.not_and, Bool.beq_comm (a := r.f0), Bool.beq_comm (a := r.f1), Bool.beq_comm (a := r.f2), Bool.beq_comm (a := r.f3)]
            simp only [eqL]
            cases hx : rectB x.f1 r with
            | false =>
              refine ⟨[], by simp, Ev.step (f := fun _ => some ([], false)) (fun k => ?_) (Ev.now _)⟩
              simp only [sashref06_one.l0]
              rw [if_pos hl, if_pos (by omega), if_pos hl, if_pos (by omega), hr, hr2, hq, hx, if_pos (by rfl)]
            | true =>
              obtain ⟨ls, a1, a2⟩ := ih (pre ++ [r]) xs (pb ++ [x]) (by rw [List.append_assoc]; exact hp) (by rw [List.append_assoc]; exact hb) (by rw [List.length_append, List.length_append, he]; rfl)
              refine ⟨ls, a1, Ev.step (fun k => ?_) a2⟩
              simp only [sashref06_one.l0]
              rw [if_pos hl, if_pos (by omega), if_pos hl, if_pos (by omega), hr, hr2, hq, hx, if_neg (by simp), hu]
      obtain ⟨ls, a1, a2⟩ := key t.1 [] c.f3 [] rfl rfl rfl
      exact ⟨ls, a1, main _ _ (ev_pos ht a2)⟩
theorem ref_tiles_ev (c : S26) (hz : sz c ≤ 1048576) : Ev (fun k => sashref06_Tiles.f k c.f0 c.f1.f0 c.f1.f1 c.f1.f2 c.f1.f3 c.f2 c.f3) (tilesC c) := by
  unfold tilesC
  cases hm : mayC c with
  | false =>
    rw [Bool.false_and]
    refine Ev.congr (fun k => ?_) (Ev.bind (a := (([], 1, 0) : List S23 × Int × Int)) (g := fun k => sashref06_Check.f k c.f0 c.f1.f0 c.f1.f1 c.f1.f2 c.f1.f3 c.f2 c.f3) (f := fun _ bt => some (bt.2.1 == 0)) ?_ (Ev.now _))
    · rfl
    · unfold sashref06_Check.f
      have e := may_ev c hz
      rw [hm] at e
      exact Ev.bind (Ev.now ([] : List S23)) (Ev.bind e (ev_neg (by simp) (Ev.now _)))
  | true =>
    rw [Bool.true_and]
    have hs := may_small hm
    have hlen : ∀ d, d ∈ allC c → d.f3.length ≤ 20000 := fun d hd => by
      have h1 := (all_sz (sz c)).1 c (Nat.le_refl _) d hd
      have h2 := sz_eq d
      have h3 := szL_len d.f3
      omega
    have key : ∀ (rest pre : List S26), pre ++ rest = allC c → ∀ out : List S23, out.length ≤ 20001 * pre.length → ∃ r : List S23 × Int × Int, Ev (fun k => sashref06_Check.l0 k ([] : List S23) (allC c) out ((allC c).length : Int) (pre.length : Int)) r ∧ (r.2.1 == 0) = rest.all oneB := by
      intro rest
      induction rest with
      | nil =>
        intro pre hp out ho
        rw [List.append_nil] at hp
        refine ⟨(out, 0, 0), Ev.step (f := fun _ => some (out, 0, 0)) (fun k => ?_) (Ev.now _), rfl⟩
        simp only [sashref06_Check.l0]
        rw [if_neg (by rw [hp]; omega)]
      | cons x xs ih =>
        intro pre hp out ho
        have hl : (pre.length : Int) < ((allC c).length : Int) := by rw [← hp, List.length_append, List.length_cons]; omega
        have hl2 : (allC c).length = sz c := rfl
        have hr : rd_T26 (allC c) (pre.length : Int) = x := by rw [← hp]; exact rd26_in pre x xs
        have hu : wrap64 ((pre.length : Int) + 1) = ((pre ++ [x]).length : Int) := up_in pre x xs (by rw [hp]; omega)
        have hx := hlen x (by rw [← hp]; simp)
        obtain ⟨ls, b1, b2⟩ := one_ev x hx
        rw [List.all_cons]
        cases ho1 : oneB x with
        | false =>
          rw [ho1] at b2
          refine ⟨([], 5, (pre.length : Int)), Ev.step (f := fun k => (sashref06_one.f k x.f0 x.f1.f0 x.f1.f1 x.f1.f2 x.f1.f3 x.f2 x.f3).bind fun bt => (if bt.2 = true then (if out.length + bt.1.length < 4398046511104 then (sashref06_Check.l0 k ([] : List S23) (allC c) (out ++ bt.1) ((allC c).length : Int) (wrap64 ((pre.length : Int) + 1))) else (none)) else (some (([] : List S23), 5, (pre.length : Int))))) (fun k => ?_) (Ev.bind b2 (ev_neg (by simp) (Ev.now _))), by rfl⟩
          simp only [sashref06_Check.l0]
          rw [if_pos hl, if_pos (by omega), if_pos hl, hr]
        | true =>
          rw [ho1] at b2
          obtain ⟨r, c1, c2⟩ := ih (pre ++ [x]) (by rw [List.append_assoc]; exact hp) (out ++ ls) (by rw [List.length_append, List.length_append, List.length_singleton]; omega)
          refine ⟨r, Ev.step (f := fun k => (sashref06_one.f k x.f0 x.f1.f0 x.f1.f1 x.f1.f2 x.f1.f3 x.f2 x.f3).bind fun bt => (if bt.2 = true then (if out.length + bt.1.length < 4398046511104 then (sashref06_Check.l0 k ([] : List S23) (allC c) (out ++ bt.1) ((allC c).length : Int) (wrap64 ((pre.length : Int) + 1))) else (none)) else (some (([] : List S23), 5, (pre.length : Int))))) (fun k => ?_) (Ev.bind b2 (ev_pos rfl (ev_pos ?_ ?_))), by rw [c2, Bool.true_and]⟩
          · simp only [sashref06_Check.l0]
            rw [if_pos hl, if_pos (by omega), if_pos hl, hr]
          · have : pre.length ≤ 20000 := by omega
            show out.length + ls.length < 4398046511104
            omega
          · rw [hu]
            exact c1
    obtain ⟨r, e1, e2⟩ := key (allC c) [] rfl [] (by simp)
    have e3 : Ev (fun k => sashref06_Check.f k c.f0 c.f1.f0 c.f1.f1 c.f1.f2 c.f1.f3 c.f2 c.f3) r := by
      unfold sashref06_Check.f
      have e := may_ev c hz
      rw [hm] at e
      exact Ev.bind (Ev.now ([] : List S23)) (Ev.bind e (ev_pos rfl (Ev.bind (all_cells _ c hz (Nat.le_refl _)) e1)))
    have e4 := Ev.bind (f := fun _ bt => some (bt.2.1 == 0)) e3 (Ev.now (r.2.1 == 0))
    rw [e2] at e4
    exact e4
end Go.Proofs.Ytfdmfgaiblfbhaa.P
namespace Go.Proofs.Ytfdmfgaiblfbhaa.P
open Go.RowKit Go.Proofs.YtfdmfgaiblfbhaaW.PrintWords Go.Proofs.YtfdmfgaiblfbhaaW.PrintLast Go.Proofs.YtfdmfgaiblfbhaaW.PrintMore
attribute [local go_sem] max2_int min2_int max_two min_two max_three min_three max_four min_four   -- for this text's walks alone
set_option linter.unusedVariables false
set_option linter.unusedSimpArgs false

/-! ### sashref08_Of: function 152 -/
mutual
def sashref08_Of.l0 : Nat → Int → Int → Int → Int → Int → Int → Int → Int → Int → Int → List (S26) → Option (Int)
 | 0, _, _, _, _, _, _, _, _, _, _, _ => none
 | k + 1, x1, x5, x14, x15, x1082000, x1082001, x1082002, x1082003, x1082004, x1082005, x1082006 => if x15 < x14 then (if 0 ≤ x15 then (if x15 < (x1082006.length : Int) then ((sashref08_Of.f k ((rd_T26 x1082006 x15).f0) ((rd_T26 x1082006 x15).f1.f0) ((rd_T26 x1082006 x15).f1.f1) ((rd_T26 x1082006 x15).f1.f2) ((rd_T26 x1082006 x15).f1.f3) ((rd_T26 x1082006 x15).f2) ((rd_T26 x1082006 x15).f3) x1).bind fun t1083 => ((sashref08_Along.f x1082000 x1082001 x1082002 x1082003 x1082004 x1082005 x1082006 x1).bind fun t1084 => (if t1084 = true then (if x15 > 0 then (sashref08_Of.l0 k x1 (wrap64 ((wrap64 (x5 + t1083)) + 1)) x14 (wrap64 (x15 + 1)) x1082000 x1082001 x1082002 x1082003 x1082004 x1082005 x1082006) else (sashref08_Of.l0 k x1 (wrap64 (x5 + t1083)) x14 (wrap64 (x15 + 1)) x1082000 x1082001 x1082002 x1082003 x1082004 x1082005 x1082006)) else (if t1083 > x5 then (sashref08_Of.l0 k x1 t1083 x14 (wrap64 (x15 + 1)) x1082000 x1082001 x1082002 x1082003 x1082004 x1082005 x1082006) else (sashref08_Of.l0 k x1 x5 x14 (wrap64 (x15 + 1)) x1082000 x1082001 x1082002 x1082003 x1082004 x1082005 x1082006))))) else (none)) else (none)) else (some x5)
def sashref08_Of.f : Nat → Int → Int → Int → Int → Int → Int → List (S26) → Int → Option (Int)
 | 0, _, _, _, _, _, _, _, _ => none
 | k + 1, a0_0, a0_1, a0_2, a0_3, a0_4, a0_5, l0_6, a1 => if (l0_6.length : Int) = 0 then (some 1) else (sashref08_Of.l0 k a1 0 (l0_6.length : Int) 0 a0_0 a0_1 a0_2 a0_3 a0_4 a0_5 l0_6)
end
end Go.Proofs.Ytfdmfgaiblfbhaa.P
/- The least size of a tree, by the code and by the reference: plain data. -/
namespace Go.Proofs.Ytfdmfgaiblfbhaa.P
open Go.RowKit Go.Proofs.YtfdmfgaiblfbhaaW.PrintWords Go.Proofs.YtfdmfgaiblfbhaaW.PrintLast Go.Proofs.YtfdmfgaiblfbhaaW.PrintMore
def alongK (ax k : Int) : Bool := (k == 2 && ax == 1) || (k == 3 && ax == 2)
theorem along_some (c : S26) (ax : Int) : least_Along.f c.f0 c.f1.f0 c.f1.f1 c.f1.f2 c.f1.f3 c.f2 c.f3 ax = some (alongK ax c.f0) := by
  unfold least_Along.f alongK
  by_cases h2 : c.f0 = 2
  · by_cases h1 : ax = 1
    · rw [if_pos h2, if_pos h1]; simp [h2, h1]
    · rw [if_pos h2, if_neg h1, if_neg (by omega)]; simp [h2, h1]
  · rw [if_neg h2]
    by_cases h3 : c.f0 = 3
    · rw [if_pos h3]; simp [h3]
    · rw [if_neg h3]; simp [h2, h3]
theorem ralong_some (c : S26) (ax : Int) : sashref08_Along.f c.f0 c.f1.f0 c.f1.f1 c.f1.f2 c.f1.f3 c.f2 c.f3 ax = some (alongK ax c.f0) := along_some c ax
mutual
def leastC (ax : Int) : S26 → Int
  | ⟨a, _, _, l⟩ => if a = 1 then 1 else if alongK ax a = true then ((l.length : Int) - 1) + sumL ax l else mostL ax 0 l
def sumL (ax : Int) : List S26 → Int
  | [] => 0
  | k :: ks => leastC ax k + sumL ax ks
def mostL (ax : Int) : Int → List S26 → Int
  | m, [] => m
  | m, k :: ks => mostL ax (mx m (leastC ax k)) ks
end
theorem leastC_eq (ax : Int) (c : S26) : leastC ax c = if c.f0 = 1 then 1 else if alongK ax c.f0 = true then ((c.f3.length : Int) - 1) + sumL ax c.f3 else mostL ax 0 c.f3 := by cases c; simp [leastC]
theorem sumL_nil (ax : Int) : sumL ax [] = 0 := by simp [sumL]
theorem sumL_cons (ax : Int) (k : S26) (ks : List S26) : sumL ax (k :: ks) = leastC ax k + sumL ax ks := by simp [sumL]
theorem sumL_app (ax : Int) (a b : List S26) : sumL ax (a ++ b) = sumL ax a + sumL ax b := by
  induction a with
  | nil => rw [List.nil_append, sumL_nil]; omega
  | cons x xs ih => rw [List.cons_append, sumL_cons, sumL_cons, ih]; omega
theorem mostL_nil (ax m : Int) : mostL ax m [] = m := by simp [mostL]
theorem mostL_cons (ax m : Int) (k : S26) (ks : List S26) : mostL ax m (k :: ks) = mostL ax (mx m (leastC ax k)) ks := by simp [mostL]
theorem mx_le {a b c : Int} (h : a ≤ c) (k : b ≤ c) : mx a b ≤ c := by unfold mx; split <;> omega
theorem le_mx1 (a b : Int) : a ≤ mx a b := by unfold mx; split <;> omega
theorem le_mx2 (a b : Int) : b ≤ mx a b := by unfold mx; split <;> omega
theorem leastC_bd (ax : Int) : ∀ (N : Nat), (∀ c : S26, sz c ≤ N → -(sz c : Int) ≤ leastC ax c ∧ leastC ax c ≤ 2 * (sz c : Int) - 1) ∧
    (∀ l : List S26, szL l ≤ N → -(szL l : Int) ≤ sumL ax l ∧ sumL ax l ≤ 2 * (szL l : Int) - (l.length : Int)) ∧ (∀ l : List S26, szL l ≤ N → ∀ m : Int, m ≤ mostL ax m l ∧ ∀ u, m ≤ u → 2 * (szL l : Int) ≤ u → mostL ax m l ≤ u) := by
  intro N
  induction N with
  | zero =>
    refine ⟨fun c h => ?_, fun l h => ?_, fun l h => ?_⟩
    · rw [sz_eq] at h; omega
    · cases l with
      | nil => rw [sumL_nil, szL_nil]; simp
      | cons z zs => rw [szL_cons, sz_eq] at h; omega
    · cases l with
      | nil => intro m; rw [mostL_nil]; exact ⟨Int.le_refl _, fun u h _ => h⟩
      | cons z zs => rw [szL_cons, sz_eq] at h; omega
  | succ N ih =>
    have hC : ∀ c : S26, sz c ≤ N + 1 → -(sz c : Int) ≤ leastC ax c ∧ leastC ax c ≤ 2 * (sz c : Int) - 1 := by
      intro c h
      have hs := sz_eq c
      have h1 := ih.2.1 c.f3 (by omega)
      have h2 := ih.2.2 c.f3 (by omega) 0
      have h3 := h2.2 (2 * (szL c.f3 : Int)) (by omega) (Int.le_refl _)
      rw [leastC_eq]
      split
      · omega
      · split
        · omega
        · omega
    refine ⟨hC, fun l => ?_, fun l => ?_⟩
    · induction l with
      | nil => intro _; rw [sumL_nil, szL_nil]; simp
      | cons x xs ihl =>
        intro h
        rw [szL_cons] at h ⊢
        have h1 := hC x (by omega)
        have h2 := ihl (by omega)
        rw [sumL_cons, List.length_cons]
        omega
    · induction l with
      | nil => intro _ m; rw [mostL_nil]; exact ⟨Int.le_refl _, fun u h _ => h⟩
      | cons x xs ihl =>
        intro h m
        rw [szL_cons] at h ⊢
        have h1 := hC x (by omega)
        have h2 := ihl (by omega) (mx m (leastC ax x))
        rw [mostL_cons]
        refine ⟨Int.le_trans (le_mx1 m (leastC ax x)) h2.1, fun u hu hu2 => h2.2 u (mx_le hu (by omega)) (by omega)⟩
theorem least_ev (ax : Int) : ∀ (N : Nat) (c : S26), sz c ≤ N → N ≤ 1048576 → Ev (fun k => least_least.f k c.f0 c.f1.f0 c.f1.f1 c.f1.f2 c.f1.f3 c.f2 c.f3 ax) (leastC ax c) := by
  intro N
  induction N with
  | zero => intro c h _; rw [sz_eq] at h; omega
  | succ N ih =>
    intro c hc hN
    have hs := sz_eq c
    have hlen := szL_len c.f3
    rw [leastC_eq]
    by_cases h1 : c.f0 = 1
    · rw [if_pos h1]
      refine Ev.step (f := fun _ => some 1) (fun k => ?_) (Ev.now _)
      simp only [least_least.f]
      rw [if_pos h1]
    · rw [if_neg h1]
      have key : ∀ (rest pre : List S26), pre ++ rest = c.f3 → ∀ m : Int, Ev (fun k => least_least.l0 k ax (((c.f3.length : Int) - 1) + sumL ax pre) m c.f3 (c.f3.length : Int) (pre.length : Int) c.f0 c.f1.f0 c.f1.f1 c.f1.f2 c.f1.f3 c.f2 c.f3) (if alongK ax c.f0 = true then ((c.f3.length : Int) - 1) + sumL ax c.f3 else mostL ax m rest) := by
        intro rest
        induction rest with
        | nil =>
          intro pre hp m
          rw [List.append_nil] at hp
          subst hp
          rw [mostL_nil]
          refine Ev.step (f := fun _ => some (if alongK ax c.f0 = true then ((c.f3.length : Int) - 1) + sumL ax c.f3 else m)) (fun k => ?_) (Ev.now _)
          simp only [least_least.l0]
          rw [if_neg (by omega), along_some]
          simp only [Option.bind_some]
          split <;> rfl
        | cons x xs ihr =>
          intro pre hp m
          have hl : (pre.length : Int) < (c.f3.length : Int) := by rw [← hp, List.length_append, List.length_cons]; omega
          have hsum : szL c.f3 = szL pre + (sz x + szL xs) := by rw [← hp, szL_app, szL_cons]
          have hr : rd_T26 c.f3 (pre.length : Int) = x := by rw [← hp]; exact rd26_in pre x xs
          have hu : wrap64 ((pre.length : Int) + 1) = ((pre ++ [x]).length : Int) := up_in pre x xs (by rw [hp]; omega)
          have e2 := ihr (pre ++ [x]) (by rw [List.append_assoc]; exact hp) (mx m (leastC ax x))
          have b1 := (leastC_bd ax (sz x)).1 x (Nat.le_refl _)
          have b2 := (leastC_bd ax (szL pre)).2.1 pre (Nat.le_refl _)
          have hw : wrap64 ((((c.f3.length : Int) - 1) + sumL ax pre) + leastC ax x) = ((c.f3.length : Int) - 1) + sumL ax (pre ++ [x]) := by
            rw [wq (by omega) (by omega), sumL_app, sumL_cons, sumL_nil]
            omega
          rw [mostL_cons]
          refine Ev.step (f := fun k => (least_least.f k x.f0 x.f1.f0 x.f1.f1 x.f1.f2 x.f1.f3 x.f2 x.f3 ax).bind fun t => least_least.l0 k ax (wrap64 ((((c.f3.length : Int) - 1) + sumL ax pre) + t)) (mx m t) c.f3 (c.f3.length : Int) (wrap64 ((pre.length : Int) + 1)) c.f0 c.f1.f0 c.f1.f1 c.f1.f2 c.f1.f3 c.f2 c.f3) (fun k => ?_) (Ev.bind (ih x (by omega) (by omega)) ?_)
          · simp only [least_least.l0]
            rw [if_pos hl, if_pos (by omega), if_pos hl, hr]
          · rw [hu, hw]
            exact e2
      have e := key c.f3 [] rfl 0
      rw [sumL_nil, Int.add_zero] at e
      refine Ev.step (fun k => ?_) e
      simp only [least_least.f]
      rw [if_neg h1, wq (by omega) (by omega)]
      rfl
theorem ok_kids {c x : S26} (h : (allC c).all okC = true) (hx : x ∈ c.f3) : (allC x).all okC = true := by
  rw [allC_eq, List.all_cons, Bool.and_eq_true] at h
  obtain ⟨p, q, e⟩ := List.append_of_mem hx
  have h2 := h.2
  rw [e, allL_app, allL_cons, List.all_append, List.all_append] at h2
  simp only [Bool.and_eq_true] at h2
  exact h2.2.1
theorem ok_head {c : S26} (h : (allC c).all okC = true) : okC c = true := by
  rw [allC_eq, List.all_cons, Bool.and_eq_true] at h
  exact h.1
theorem ok_kinds {c : S26} (h : okC c = true) : (c.f0 = 1 ∧ c.f3.length = 0) ∨ ((c.f0 = 2 ∨ c.f0 = 3) ∧ 2 ≤ c.f3.length) := by
  unfold okC at h
  simp only [Bool.and_eq_true, decide_eq_true_eq] at h
  obtain ⟨⟨⟨_, h1⟩, h2⟩, h3⟩ := h
  by_cases e : c.f0 = 1
  · exact .inl ⟨e, (h2 e).1⟩
  · exact .inr ⟨by omega, (h3 (by omega)).1⟩
end Go.Proofs.Ytfdmfgaiblfbhaa.P
/- least.Size: plain data. -/
namespace Go.Proofs.Ytfdmfgaiblfbhaa.P
open Go.RowKit Go.Proofs.YtfdmfgaiblfbhaaW.PrintWords Go.Proofs.YtfdmfgaiblfbhaaW.PrintLast Go.Proofs.YtfdmfgaiblfbhaaW.PrintMore
def sizeR (ax : Int) (r : S23) : Int := if ax = 1 then r.f2 else if ax = 2 then r.f3 else 0
theorem size_some (r : S23) (ax : Int) : least_Size.f r.f0 r.f1 r.f2 r.f3 ax = some (sizeR ax r) := by
  unfold least_Size.f sizeR
  by_cases h1 : ax = 1
  · rw [if_neg (by omega), if_pos h1, if_pos h1]
  · by_cases h2 : ax = 2
    · rw [if_pos h2, if_neg h1, if_pos h2]
    · rw [if_neg h2, if_neg h1, if_neg h1, if_neg h2]
end Go.Proofs.Ytfdmfgaiblfbhaa.P
namespace Go.Proofs.Ytfdmfgaiblfbhaa.P
open Go.RowKit Go.Proofs.YtfdmfgaiblfbhaaW.PrintWords Go.Proofs.YtfdmfgaiblfbhaaW.PrintLast Go.Proofs.YtfdmfgaiblfbhaaW.PrintMore
attribute [local go_sem] max2_int min2_int max_two min_two max_three min_three max_four min_four   -- for this text's walks alone
set_option linter.unusedVariables false
set_option linter.unusedSimpArgs false

/-! ### sashref08_Least: function 94 -/
def sashref08_Least.f (k : Nat) (a0_0 : Int) (a0_1 : Int) (a0_2 : Int) (a0_3 : Int) (a0_4 : Int) (a0_5 : Int) (l0_6 : List (S26)) (a1 : Int) : Option (Int) := if a1 < 1 then (some 0) else (if a1 > 2 then (some 0) else ((sashref05_May.f k a0_0 a0_1 a0_2 a0_3 a0_4 a0_5 l0_6).bind fun t1086 => (if t1086 = true then ((sashref08_Of.f k a0_0 a0_1 a0_2 a0_3 a0_4 a0_5 l0_6 a1).bind fun t1087 => (some t1087)) else (some 0))))
end Go.Proofs.Ytfdmfgaiblfbhaa.P
namespace Go.Proofs.Ytfdmfgaiblfbhaa.P
open Go.RowKit Go.Proofs.YtfdmfgaiblfbhaaW.PrintWords Go.Proofs.YtfdmfgaiblfbhaaW.PrintLast Go.Proofs.YtfdmfgaiblfbhaaW.PrintMore
attribute [local go_sem] max2_int min2_int max_two min_two max_three min_three max_four min_four   -- for this text's walks alone
set_option linter.unusedVariables false
set_option linter.unusedSimpArgs false

/-! ### sashref08_Gives: function 95 -/
def sashref08_Gives.j0 : Nat → Int → Bool → Int → Int → Int → Int → Int → Int → List (S26) → Option (Int)
 | 0, _, _, _, _, _, _, _, _, _ => none
 | k + 1, x1, x15, x1089000, x1089001, x1089002, x1089003, x1089004, x1089005, x1089006 => if x15 = true then (some 0) else ((sashref08_Size.f x1089001 x1089002 x1089003 x1089004 x1).bind fun t1090 => ((sashref08_Of.f k x1089000 x1089001 x1089002 x1089003 x1089004 x1089005 x1089006 x1).bind fun t1091 => (some (wrap64 (t1090 - t1091)))))
def sashref08_Gives.f (k : Nat) (a0_0 : Int) (a0_1 : Int) (a0_2 : Int) (a0_3 : Int) (a0_4 : Int) (a0_5 : Int) (l0_6 : List (S26)) (a1 : Int) : Option (Int) := if a1 < 1 then (sashref08_Gives.j0 k a1 true a0_0 a0_1 a0_2 a0_3 a0_4 a0_5 l0_6) else (if a1 > 2 then (sashref08_Gives.j0 k a1 true a0_0 a0_1 a0_2 a0_3 a0_4 a0_5 l0_6) else ((sashref06_Tiles.f k a0_0 a0_1 a0_2 a0_3 a0_4 a0_5 l0_6).bind fun t1089 => (sashref08_Gives.j0 k a1 (!t1089) a0_0 a0_1 a0_2 a0_3 a0_4 a0_5 l0_6)))
def sashref08_Gives.T3 : Bool × List (List Nat × List Nat) := (true, [([], []), ([0], [0]), ([], []), ([1, 2], [1, 2]), ([], []), ([], []), ([4, 5, 3], [4, 5]), ([3, 6], [3, 6]), ([7, 6, 0, 1, 2, 3, 4, 5, 6, 7], [7])])
def sashref08_Gives.B3 : List Nat := [0, 1, 0, 7, 0, 0, 63, 127, 255]
end Go.Proofs.Ytfdmfgaiblfbhaa.P
namespace Go.Proofs.Ytfdmfgaiblfbhaa.P
open Go.RowKit Go.Proofs.YtfdmfgaiblfbhaaW.PrintWords Go.Proofs.YtfdmfgaiblfbhaaW.PrintLast Go.Proofs.YtfdmfgaiblfbhaaW.PrintMore
attribute [local go_sem] max2_int min2_int max_two min_two max_three min_three max_four min_four   -- for this text's walks alone
set_option linter.unusedVariables false
set_option linter.unusedSimpArgs false

/-! ### least_Fits: function 96 -/
def least_Fits.f (k : Nat) (a0_0 : Int) (a0_1 : Int) (a0_2 : Int) (a0_3 : Int) (a0_4 : Int) (a0_5 : Int) (l0_6 : List (S26)) (a1 : Int) (a2 : Int) : Option (Bool) := (cell_May.f (([(⟨a0_0, (⟨a0_1, a0_2, a0_3, a0_4⟩ : S23), a0_5, l0_6⟩ : S26)] : List (S26)))).bind fun t1105 => (if t1105 = true then ((least_least.f k a0_0 a0_1 a0_2 a0_3 a0_4 a0_5 l0_6 1).bind fun t1106 => (if a1 ≥ t1106 then ((least_least.f k a0_0 a0_1 a0_2 a0_3 a0_4 a0_5 l0_6 2).bind fun t1107 => (if a2 ≥ t1107 then (if a1 ≤ (wrap64 (10000 - a0_1)) then (some (decide (a2 ≤ (wrap64 (10000 - a0_2))))) else (some false)) else (some false))) else (some false))) else (some false))
end Go.Proofs.Ytfdmfgaiblfbhaa.P
namespace Go.Proofs.Ytfdmfgaiblfbhaa.P
open Go.RowKit Go.Proofs.YtfdmfgaiblfbhaaW.PrintWords Go.Proofs.YtfdmfgaiblfbhaaW.PrintLast Go.Proofs.YtfdmfgaiblfbhaaW.PrintMore
attribute [local go_sem] max2_int min2_int max_two min_two max_three min_three max_four min_four   -- for this text's walks alone
set_option linter.unusedVariables false
set_option linter.unusedSimpArgs false

/-! ### sashref08_Fits: function 97 -/
def sashref08_Fits.f (k : Nat) (a0_0 : Int) (a0_1 : Int) (a0_2 : Int) (a0_3 : Int) (a0_4 : Int) (a0_5 : Int) (l0_6 : List (S26)) (a1 : Int) (a2 : Int) : Option (Bool) := (sashref05_May.f k a0_0 a0_1 a0_2 a0_3 a0_4 a0_5 l0_6).bind fun t1100 => (if t1100 = true then ((sashref08_Of.f k a0_0 a0_1 a0_2 a0_3 a0_4 a0_5 l0_6 1).bind fun t1101 => (if a1 ≥ t1101 then (if a1 ≤ (wrap64 (10000 - a0_1)) then ((sashref08_Of.f k a0_0 a0_1 a0_2 a0_3 a0_4 a0_5 l0_6 2).bind fun t1102 => (if a2 ≥ t1102 then (some (decide (a2 ≤ (wrap64 (10000 - a0_2))))) else (some false))) else (some false)) else (some false))) else (some false))
end Go.Proofs.Ytfdmfgaiblfbhaa.P
/- What a tree can give, its least size, whether a size fits it, by the code and by the reference: plain data. -/
namespace Go.Proofs.Ytfdmfgaiblfbhaa.P
open Go.RowKit Go.Proofs.YtfdmfgaiblfbhaaW.PrintWords Go.Proofs.YtfdmfgaiblfbhaaW.PrintLast Go.Proofs.YtfdmfgaiblfbhaaW.PrintMore
theorem Ev.unique {α : Type} {g : Nat → Option α} {a b : α} (h : Ev g a) (k : Ev g b) : a = b := by
  obtain ⟨n, hn⟩ := h
  obtain ⟨m, hm⟩ := k
  have e := (hn (max n m) (by omega)).symm.trans (hm (max n m) (by omega))
  exact Option.some.inj e
theorem rsize_some (r : S23) (ax : Int) : sashref08_Size.f r.f0 r.f1 r.f2 r.f3 ax = some (sizeR ax r) := by
  unfold sashref08_Size.f sizeR
  split
  · rfl
  · split <;> rfl
theorem may1_some (c : S26) (hz : sz c ≤ 1048576) : cell_May.f ([(⟨c.f0, (⟨c.f1.f0, c.f1.f1, c.f1.f2, c.f1.f3⟩ : S23), c.f2, c.f3⟩ : S26)] : List S26) = some (mayC c) := by
  rw [eta26]
  unfold cell_May.f
  rw [if_pos (by simp [hz])]
  simp
theorem tiles1_some (c : S26) (hz : sz c ≤ 1048576) : tile_Tiles.f ([(⟨c.f0, (⟨c.f1.f0, c.f1.f1, c.f1.f2, c.f1.f3⟩ : S23), c.f2, c.f3⟩ : S26)] : List S26) = some (tilesC c) := by
  rw [eta26]
  unfold tile_Tiles.f
  rw [if_pos (by simp [hz])]
  simp
theorem may_ok {c : S26} (h : mayC c = true) : (allC c).all okC = true := by
  unfold mayC at h
  simp only [Bool.and_eq_true] at h
  exact h.2.1
theorem tiles_may {c : S26} (h : tilesC c = true) : mayC c = true := by
  unfold tilesC at h
  simp only [Bool.and_eq_true] at h
  exact h.1
noncomputable def givesC (ax : Int) (c : S26) : Int := if (ax = 1 ∨ ax = 2) ∧ tilesC c = true then wrap64 (sizeR ax c.f1 - leastC ax c) else 0
def lstC (ax : Int) (c : S26) : Int := if (ax = 1 ∨ ax = 2) ∧ mayC c = true then leastC ax c else 0
def fitsC (c : S26) (w h : Int) : Bool := mayC c && (decide (w ≥ leastC 1 c) && (decide (h ≥ leastC 2 c) && (decide (w ≤ wrap64 (10000 - c.f1.f0)) && decide (h ≤ wrap64 (10000 - c.f1.f1)))))
theorem gives_ev (c : S26) (hz : sz c ≤ 1048576) (ax : Int) : Ev (fun k => least_Gives.f k c.f0 c.f1.f0 c.f1.f1 c.f1.f2 c.f1.f3 c.f2 c.f3 ax) (givesC ax c) := by
  have no : Ev (fun k => least_Gives.j0 k ax true c.f0 c.f1.f0 c.f1.f1 c.f1.f2 c.f1.f3 c.f2 c.f3) 0 := by
    refine Ev.step (f := fun _ => some 0) (fun k => ?_) (Ev.now _)
    simp only [least_Gives.j0]
    rw [if_pos trivial]
  unfold givesC
  by_cases hax : ax = 1 ∨ ax = 2
  · have ha : least_axes.f ax = some true := by
      unfold least_axes.f
      rcases hax with rfl | rfl <;> rfl
    cases ht : tilesC c with
    | false =>
      rw [if_neg (by simp)]
      refine Ev.congr (f := fun k => least_Gives.j0 k ax true c.f0 c.f1.f0 c.f1.f1 c.f1.f2 c.f1.f3 c.f2 c.f3) (fun k => ?_) no
      unfold least_Gives.f
      rw [ha]
      simp only [Option.bind_some, if_true]
      rw [tiles1_some c hz, ht]
      rfl
    | true =>
      rw [if_pos ⟨hax, rfl⟩]
      refine Ev.congr (f := fun k => least_Gives.j0 k ax false c.f0 c.f1.f0 c.f1.f1 c.f1.f2 c.f1.f3 c.f2 c.f3) (fun k => ?_) (Ev.step (f := fun k => (least_least.f k c.f0 c.f1.f0 c.f1.f1 c.f1.f2 c.f1.f3 c.f2 c.f3 ax).bind fun t => some (wrap64 (sizeR ax c.f1 - t))) (fun k => ?_) (Ev.bind (least_ev ax (sz c) c (Nat.le_refl _) hz) (Ev.now _)))
      · unfold least_Gives.f
        rw [ha]
        simp only [Option.bind_some, if_true]
        rw [tiles1_some c hz, ht]
        rfl
      · simp only [least_Gives.j0]
        rw [if_neg (by simp), size_some c.f1 ax]
        rfl
  · rw [if_neg (fun h => hax h.1)]
    refine Ev.congr (f := fun k => least_Gives.j0 k ax true c.f0 c.f1.f0 c.f1.f1 c.f1.f2 c.f1.f3 c.f2 c.f3) (fun k => ?_) no
    unfold least_Gives.f least_axes.f
    rw [if_neg (fun h => hax (.inl h)), show (ax == 2) = false from by simp; exact fun h => hax (.inr h)]
    simp only [Option.bind_some, Bool.false_eq_true, if_false]
theorem lst_ev (c : S26) (hz : sz c ≤ 1048576) (ax : Int) : Ev (fun k => least_Least.f k c.f0 c.f1.f0 c.f1.f1 c.f1.f2 c.f1.f3 c.f2 c.f3 ax) (lstC ax c) := by
  unfold lstC least_Least.f
  by_cases hax : ax = 1 ∨ ax = 2
  · have ha : least_axes.f ax = some true := by
      unfold least_axes.f
      rcases hax with rfl | rfl <;> rfl
    rw [ha, may1_some c hz]
    simp only [Option.bind_some, if_true]
    cases hm : mayC c with
    | false =>
      rw [if_neg (by simp)]
      exact ev_neg (by simp) (Ev.now _)
    | true =>
      rw [if_pos ⟨hax, rfl⟩]
      exact ev_pos rfl (Ev.bind (least_ev ax (sz c) c (Nat.le_refl _) hz) (Ev.now _))
  · rw [if_neg (fun h => hax h.1)]
    unfold least_axes.f
    rw [if_neg (fun h => hax (.inl h)), show (ax == 2) = false from by simp; exact fun h => hax (.inr h)]
    simp only [Option.bind_some, Bool.false_eq_true, if_false]
    exact Ev.now _
def tree08 : S26 := ⟨2, ⟨0, 0, 7, 2⟩, 0, [⟨1, ⟨0, 0, 3, 2⟩, 1, []⟩, ⟨1, ⟨4, 0, 3, 2⟩, 2, []⟩]⟩
theorem tree08_tiles : tilesC tree08 = true :=
  Ev.unique (ref_tiles_ev tree08 (by decide +kernel)) (Ev.of (k := 60) (fun k => sashref06_Tiles.mono _ _ _ _ _ _ _ k) (by decide +kernel))
theorem l08_1 : lstC 1 tree08 = 3 := by decide +kernel
theorem l08_2 : lstC 2 tree08 = 1 := by decide +kernel
theorem l08_3 : leastC 1 tree08 = 3 := by decide +kernel
theorem g08 : givesC 1 tree08 = 4 := by
  unfold givesC
  rw [if_pos ⟨.inl rfl, tree08_tiles⟩, l08_3]
  decide +kernel
end Go.Proofs.Ytfdmfgaiblfbhaa.P
/- The document's example of chapter 08, walked: it holds. -/
namespace Go.Proofs.Ytfdmfgaiblfbhaa.P
open Go.RowKit Go.Proofs.YtfdmfgaiblfbhaaW.PrintWords Go.Proofs.YtfdmfgaiblfbhaaW.PrintLast Go.Proofs.YtfdmfgaiblfbhaaW.PrintMore
attribute [local go_sem] max2_int min2_int max_two min_two max_three min_three max_four min_four
set_option linter.unusedVariables false
set_option linter.unusedSimpArgs false
def sashlaw08_awake.f : Option Bool := some true
set_option maxHeartbeats 8000000 in
set_option maxRecDepth 100000 in
theorem sashlaw08_awake.calls (r : Bool) (w : World) (h : sashlaw08_awake.f = some r) :
    Calls Try.prog 85 #[] w fun e w' => e = .returned (.bool r) ∧ Below w.heap.size w w' := by
  have hu23 := Try.underlying23
  have hu26 := Try.underlying26
  have HB := Aside0.mk (Below.refl w.heap.size w)
  injection h with h
  subst h
  obtain ⟨y988, hy988⟩ : ∃ y_ : List (S26), y_ = (([(⟨1, (⟨0, 0, 3, 2⟩ : S23), 1, ([] : List (S26))⟩ : S26), (⟨1, (⟨4, 0, 3, 2⟩ : S23), 2, ([] : List (S26))⟩ : S26)] : List (S26))) := ⟨_, rfl⟩
  have e1 := lst_ev tree08 (by decide +kernel) 1
  have e2 := lst_ev tree08 (by decide +kernel) 2
  have e3 := gives_ev tree08 (by decide +kernel) 1
  rw [l08_1] at e1
  rw [l08_2] at e2
  rw [g08] at e3
  obtain ⟨k1, e1⟩ := e1
  obtain ⟨k2, e2⟩ := e2
  obtain ⟨k3, e3⟩ := e3
  obtain ⟨k, hk1, hk2, hk3⟩ : ∃ k : Nat, k1 ≤ k ∧ k2 ≤ k ∧ k3 ≤ k := ⟨k1 + k2 + k3, by omega, by omega, by omega⟩
  obtain ⟨t992, h992⟩ : ∃ t : Int, t = 3 := ⟨_, rfl⟩
  obtain ⟨t993, h993⟩ : ∃ t : Int, t = 1 := ⟨_, rfl⟩
  obtain ⟨t994, h994⟩ : ∃ t : Int, t = 4 := ⟨_, rfl⟩
  have A1 : Aside0 (least_Least.f k 2 0 0 7 2 0 y988 1 = some t992) := ⟨by rw [hy988, h992]; exact e1 k hk1⟩
  have A3 : Aside0 (least_Least.f k 2 0 0 7 2 0 y988 2 = some t993) := ⟨by rw [hy988, h993]; exact e2 k hk2⟩
  have A5 : Aside0 (least_Gives.f k 2 0 0 7 2 0 y988 1 = some t994) := ⟨by rw [hy988, h994]; exact e3 k hk3⟩
  have Ny988 := Aside0.mk hy988
  clear hy988 e1 e2 e3 hk1 hk2 hk3
  have c2b0 : (t992 == 3) = true := beq_iff_eq.mpr h992
  have c2b1 : (t992 != 3) = false := bne_eq_false_iff_eq.mpr h992
  have c4b0 : (t993 == 1) = true := beq_iff_eq.mpr h993
  have c4b1 : (t993 != 1) = false := bne_eq_false_iff_eq.mpr h993
  have c5b0 : (t994 == 4) = true := beq_iff_eq.mpr h994
  clear h992 h993 h994
  go_enter Try.func85, Try.ntmps85
  go_wp2_with (first | ((with_reducible refine gate_dst (N := 1) rfl ?_); refine box_event ?hg (N := 1) ?hd (cs := #[.int .u8 0, .int .i64 0, .int .i64 0, .int .i64 0, .int .i64 0, .int .i64 0, .slice none 0 0]) (t := 26) ?hr ?_; (case hd => rfl); (case hg => rfl); (case hr => (go_simp; done)); intro gb986 hg w6 hbox hb; have BK986 := Aside0.mk (hbox); have GE986 := Aside0.mk ((by rw [hg]; exact (below_size (by repeat ((with_reducible exact HB.out)))) : w.heap.size ≤ gb986)); replace HB := Aside0.mk (below_step (by repeat ((with_reducible exact HB.out))) hb); clear hb hbox hg; have hcz7_0 : w6.cell? ⟨gb986, 0, none⟩ = some (.int .u8 0) := (blk_cell BK986.out 0).trans rfl; have hcz7_1 : w6.cell? ⟨gb986, 1, none⟩ = some (.int .i64 0) := (blk_cell BK986.out 1).trans rfl; have hcz7_2 : w6.cell? ⟨gb986, 2, none⟩ = some (.int .i64 0) := (blk_cell BK986.out 2).trans rfl; have hcz7_3 : w6.cell? ⟨gb986, 3, none⟩ = some (.int .i64 0) := (blk_cell BK986.out 3).trans rfl; have hcz7_4 : w6.cell? ⟨gb986, 4, none⟩ = some (.int .i64 0) := (blk_cell BK986.out 4).trans rfl; have hcz7_5 : w6.cell? ⟨gb986, 5, none⟩ = some (.int .i64 0) := (blk_cell BK986.out 5).trans rfl; have hcz7_6 : w6.cell? ⟨gb986, 6, none⟩ = some (.slice none 0 0) := (blk_cell BK986.out 6).trans rfl; have hfz7_0 := blk_frozen BK986.out 0; have hfz7_1 := blk_frozen BK986.out 1; have hfz7_2 := blk_frozen BK986.out 2; have hfz7_3 := blk_frozen BK986.out 3; have hfz7_4 := blk_frozen BK986.out 4; have hfz7_5 := blk_frozen BK986.out 5; have hfz7_6 := blk_frozen BK986.out 6) | ((with_reducible refine gate_dst (N := 2) rfl ?_); refine box_event ?hg (N := 2) ?hd (cs := #[.int .u8 0, .int .i64 0, .int .i64 0, .int .i64 0, .int .i64 0, .int .i64 0, .slice none 0 0]) (t := 26) ?hr ?_; (case hd => rfl); (case hg => rfl); (case hr => (go_simp; done)); intro gb987 hg w8 hbox hb; have BK987 := Aside0.mk (hbox); have GE987 := Aside0.mk ((by rw [hg]; exact (below_size (by repeat ((with_reducible first | exact HB.out | refine below_set ?_ GE986.out)))) : w.heap.size ≤ gb987)); have NB986_987 := Aside0.mk ((by rw [hg]; exact Nat.ne_of_lt (blk_lt (g := gb986) (o := .cells #[.int .u8 1, .int .i64 0, .int .i64 0, .int .i64 3, .int .i64 2, .int .i64 1, .slice none 0 0] 26 (0, 0)) (by refine blk_put (cs := #[.int .u8 1, .int .i64 0, .int .i64 0, .int .i64 3, .int .i64 2, .int .i64 1, .slice none 0 0]) ?_ 6 _ rfl; refine blk_put (cs := #[.int .u8 1, .int .i64 0, .int .i64 0, .int .i64 3, .int .i64 2, .int .i64 0, .slice none 0 0]) ?_ 5 _ rfl; refine blk_put (cs := #[.int .u8 1, .int .i64 0, .int .i64 0, .int .i64 3, .int .i64 0, .int .i64 0, .slice none 0 0]) ?_ 4 _ rfl; refine blk_put (cs := #[.int .u8 1, .int .i64 0, .int .i64 0, .int .i64 0, .int .i64 0, .int .i64 0, .slice none 0 0]) ?_ 3 _ rfl; refine blk_put (cs := #[.int .u8 1, .int .i64 0, .int .i64 0, .int .i64 0, .int .i64 0, .int .i64 0, .slice none 0 0]) ?_ 2 _ rfl; refine blk_put (cs := #[.int .u8 1, .int .i64 0, .int .i64 0, .int .i64 0, .int .i64 0, .int .i64 0, .slice none 0 0]) ?_ 1 _ rfl; refine blk_put (cs := #[.int .u8 0, .int .i64 0, .int .i64 0, .int .i64 0, .int .i64 0, .int .i64 0, .slice none 0 0]) ?_ 0 _ rfl; exact BK986.out)) : gb986 ≠ gb987)); have NB987_986 := Aside0.mk ((by rw [hg]; exact Nat.ne_of_gt (blk_lt (g := gb986) (o := .cells #[.int .u8 1, .int .i64 0, .int .i64 0, .int .i64 3, .int .i64 2, .int .i64 1, .slice none 0 0] 26 (0, 0)) (by refine blk_put (cs := #[.int .u8 1, .int .i64 0, .int .i64 0, .int .i64 3, .int .i64 2, .int .i64 1, .slice none 0 0]) ?_ 6 _ rfl; refine blk_put (cs := #[.int .u8 1, .int .i64 0, .int .i64 0, .int .i64 3, .int .i64 2, .int .i64 0, .slice none 0 0]) ?_ 5 _ rfl; refine blk_put (cs := #[.int .u8 1, .int .i64 0, .int .i64 0, .int .i64 3, .int .i64 0, .int .i64 0, .slice none 0 0]) ?_ 4 _ rfl; refine blk_put (cs := #[.int .u8 1, .int .i64 0, .int .i64 0, .int .i64 0, .int .i64 0, .int .i64 0, .slice none 0 0]) ?_ 3 _ rfl; refine blk_put (cs := #[.int .u8 1, .int .i64 0, .int .i64 0, .int .i64 0, .int .i64 0, .int .i64 0, .slice none 0 0]) ?_ 2 _ rfl; refine blk_put (cs := #[.int .u8 1, .int .i64 0, .int .i64 0, .int .i64 0, .int .i64 0, .int .i64 0, .slice none 0 0]) ?_ 1 _ rfl; refine blk_put (cs := #[.int .u8 0, .int .i64 0, .int .i64 0, .int .i64 0, .int .i64 0, .int .i64 0, .slice none 0 0]) ?_ 0 _ rfl; exact BK986.out)) : gb987 ≠ gb986)); replace BK986 := Aside0.mk (blk_below (g := gb986) (o := .cells #[.int .u8 1, .int .i64 0, .int .i64 0, .int .i64 3, .int .i64 2, .int .i64 1, .slice none 0 0] 26 (0, 0)) (by refine blk_put (cs := #[.int .u8 1, .int .i64 0, .int .i64 0, .int .i64 3, .int .i64 2, .int .i64 1, .slice none 0 0]) ?_ 6 _ rfl; refine blk_put (cs := #[.int .u8 1, .int .i64 0, .int .i64 0, .int .i64 3, .int .i64 2, .int .i64 0, .slice none 0 0]) ?_ 5 _ rfl; refine blk_put (cs := #[.int .u8 1, .int .i64 0, .int .i64 0, .int .i64 3, .int .i64 0, .int .i64 0, .slice none 0 0]) ?_ 4 _ rfl; refine blk_put (cs := #[.int .u8 1, .int .i64 0, .int .i64 0, .int .i64 0, .int .i64 0, .int .i64 0, .slice none 0 0]) ?_ 3 _ rfl; refine blk_put (cs := #[.int .u8 1, .int .i64 0, .int .i64 0, .int .i64 0, .int .i64 0, .int .i64 0, .slice none 0 0]) ?_ 2 _ rfl; refine blk_put (cs := #[.int .u8 1, .int .i64 0, .int .i64 0, .int .i64 0, .int .i64 0, .int .i64 0, .slice none 0 0]) ?_ 1 _ rfl; refine blk_put (cs := #[.int .u8 0, .int .i64 0, .int .i64 0, .int .i64 0, .int .i64 0, .int .i64 0, .slice none 0 0]) ?_ 0 _ rfl; exact BK986.out) hb); replace HB := Aside0.mk (below_step (by repeat ((with_reducible first | exact HB.out | refine below_set ?_ GE986.out))) hb); clear hb hbox hg; have hnb9 := NB987_986.out; have hnc9 := NB986_987.out; have hcz10_0 : w8.cell? ⟨gb987, 0, none⟩ = some (.int .u8 0) := (blk_cell BK987.out 0).trans rfl; have hcz10_1 : w8.cell? ⟨gb987, 1, none⟩ = some (.int .i64 0) := (blk_cell BK987.out 1).trans rfl; have hcz10_2 : w8.cell? ⟨gb987, 2, none⟩ = some (.int .i64 0) := (blk_cell BK987.out 2).trans rfl; have hcz10_3 : w8.cell? ⟨gb987, 3, none⟩ = some (.int .i64 0) := (blk_cell BK987.out 3).trans rfl; have hcz10_4 : w8.cell? ⟨gb987, 4, none⟩ = some (.int .i64 0) := (blk_cell BK987.out 4).trans rfl; have hcz10_5 : w8.cell? ⟨gb987, 5, none⟩ = some (.int .i64 0) := (blk_cell BK987.out 5).trans rfl; have hcz10_6 : w8.cell? ⟨gb987, 6, none⟩ = some (.slice none 0 0) := (blk_cell BK987.out 6).trans rfl; have hfz10_0 := blk_frozen BK987.out 0; have hfz10_1 := blk_frozen BK987.out 1; have hfz10_2 := blk_frozen BK987.out 2; have hfz10_3 := blk_frozen BK987.out 3; have hfz10_4 := blk_frozen BK987.out 4; have hfz10_5 := blk_frozen BK987.out 5; have hfz10_6 := blk_frozen BK987.out 6; have hcz11_0 : w8.cell? ⟨gb986, 0, none⟩ = some (.int .u8 1) := (blk_cell BK986.out 0).trans rfl; have hcz11_1 : w8.cell? ⟨gb986, 1, none⟩ = some (.int .i64 0) := (blk_cell BK986.out 1).trans rfl; have hcz11_2 : w8.cell? ⟨gb986, 2, none⟩ = some (.int .i64 0) := (blk_cell BK986.out 2).trans rfl; have hcz11_3 : w8.cell? ⟨gb986, 3, none⟩ = some (.int .i64 3) := (blk_cell BK986.out 3).trans rfl; have hcz11_4 : w8.cell? ⟨gb986, 4, none⟩ = some (.int .i64 2) := (blk_cell BK986.out 4).trans rfl; have hcz11_5 : w8.cell? ⟨gb986, 5, none⟩ = some (.int .i64 1) := (blk_cell BK986.out 5).trans rfl; have hcz11_6 : w8.cell? ⟨gb986, 6, none⟩ = some (.slice none 0 0) := (blk_cell BK986.out 6).trans rfl; have hfz11_0 := blk_frozen BK986.out 0; have hfz11_1 := blk_frozen BK986.out 1; have hfz11_2 := blk_frozen BK986.out 2; have hfz11_3 := blk_frozen BK986.out 3; have hfz11_4 := blk_frozen BK986.out 4; have hfz11_5 := blk_frozen BK986.out 5; have hfz11_6 := blk_frozen BK986.out 6) | ((with_reducible refine gate_dst (N := 11) rfl ?_); refine Kd.R_lit k26 _ 26 ?hg (N := 11) ?hd (xs := ([(⟨1, (⟨0, 0, 3, 2⟩ : S23), 1, ([] : List (S26))⟩ : S26), (⟨1, (⟨4, 0, 3, 2⟩ : S23), 2, ([] : List (S26))⟩ : S26)] : List (S26))) (inner := [.int .u8 1, .int .i64 0, .int .i64 0, .int .i64 3, .int .i64 2, .int .i64 1, .slice none 0 0, .int .u8 1, .int .i64 4, .int .i64 0, .int .i64 3, .int .i64 2, .int .i64 2, .slice none 0 0]) (ok := fun _ => True) (okp := fun _ => True) ?hr ?hp (fun _ hk => hk) trivial (Below.refl _ _) (Nat.le_refl _) (by simp) ?_; (case hd => rfl); (case hg => rfl); (case hr => (go_simp; done)); (case hp => exact (Reps.c7 (show Kd.M k26 _ _ _ (⟨1, (⟨0, 0, 3, 2⟩ : S23), 1, ([] : List (S26))⟩ : S26) [.int .u8 1, .int .i64 0, .int .i64 0, .int .i64 3, .int .i64 2, .int .i64 1, .slice none 0 0] from (k26_mkM _ _ _ (⟨1, (⟨0, 0, 3, 2⟩ : S23), 1, ([] : List (S26))⟩ : S26) (Kd.R_nil _ _ _ _ _))) (Reps.c7 (show Kd.M k26 _ _ _ (⟨1, (⟨4, 0, 3, 2⟩ : S23), 2, ([] : List (S26))⟩ : S26) [.int .u8 1, .int .i64 4, .int .i64 0, .int .i64 3, .int .i64 2, .int .i64 2, .slice none 0 0] from (k26_mkM _ _ _ (⟨1, (⟨4, 0, 3, 2⟩ : S23), 2, ([] : List (S26))⟩ : S26) (Kd.R_nil _ _ _ _ _))) (Reps.none _ _)))); intro v989 w12 ho13 hb hg_ hnew_; clear hg_ hnew_; (rw [← Ny988.out] at ho13); have HO990 := Aside0.mk (Kd.R_lower (Kd.R_newB (Kd.R_newB ho13 (g := gb986) (o := .cells #[.int .u8 1, .int .i64 0, .int .i64 0, .int .i64 3, .int .i64 2, .int .i64 1, .slice none 0 0] 26 (0, 0)) (by refine blk_far ?_ NB986_987.out _; refine blk_far ?_ NB986_987.out _; refine blk_far ?_ NB986_987.out _; refine blk_far ?_ NB986_987.out _; refine blk_far ?_ NB986_987.out _; refine blk_far ?_ NB986_987.out _; refine blk_far ?_ NB986_987.out _; exact BK986.out)) (g := gb987) (o := .cells #[.int .u8 1, .int .i64 4, .int .i64 0, .int .i64 3, .int .i64 2, .int .i64 2, .slice none 0 0] 26 (0, 0)) (by refine blk_put (cs := #[.int .u8 1, .int .i64 4, .int .i64 0, .int .i64 3, .int .i64 2, .int .i64 2, .slice none 0 0]) ?_ 6 _ rfl; refine blk_put (cs := #[.int .u8 1, .int .i64 4, .int .i64 0, .int .i64 3, .int .i64 2, .int .i64 0, .slice none 0 0]) ?_ 5 _ rfl; refine blk_put (cs := #[.int .u8 1, .int .i64 4, .int .i64 0, .int .i64 3, .int .i64 0, .int .i64 0, .slice none 0 0]) ?_ 4 _ rfl; refine blk_put (cs := #[.int .u8 1, .int .i64 4, .int .i64 0, .int .i64 0, .int .i64 0, .int .i64 0, .slice none 0 0]) ?_ 3 _ rfl; refine blk_put (cs := #[.int .u8 1, .int .i64 4, .int .i64 0, .int .i64 0, .int .i64 0, .int .i64 0, .slice none 0 0]) ?_ 2 _ rfl; refine blk_put (cs := #[.int .u8 1, .int .i64 0, .int .i64 0, .int .i64 0, .int .i64 0, .int .i64 0, .slice none 0 0]) ?_ 1 _ rfl; refine blk_put (cs := #[.int .u8 0, .int .i64 0, .int .i64 0, .int .i64 0, .int .i64 0, .int .i64 0, .slice none 0 0]) ?_ 0 _ rfl; exact BK987.out)) (below_size (by repeat ((with_reducible first | exact HB.out | refine below_set ?_ GE987.out))))); replace BK986 := Aside0.mk (blk_below (g := gb986) (o := .cells #[.int .u8 1, .int .i64 0, .int .i64 0, .int .i64 3, .int .i64 2, .int .i64 1, .slice none 0 0] 26 (0, 0)) (by refine blk_far ?_ NB986_987.out _; refine blk_far ?_ NB986_987.out _; refine blk_far ?_ NB986_987.out _; refine blk_far ?_ NB986_987.out _; refine blk_far ?_ NB986_987.out _; refine blk_far ?_ NB986_987.out _; refine blk_far ?_ NB986_987.out _; exact BK986.out) hb); replace BK987 := Aside0.mk (blk_below (g := gb987) (o := .cells #[.int .u8 1, .int .i64 4, .int .i64 0, .int .i64 3, .int .i64 2, .int .i64 2, .slice none 0 0] 26 (0, 0)) (by refine blk_put (cs := #[.int .u8 1, .int .i64 4, .int .i64 0, .int .i64 3, .int .i64 2, .int .i64 2, .slice none 0 0]) ?_ 6 _ rfl; refine blk_put (cs := #[.int .u8 1, .int .i64 4, .int .i64 0, .int .i64 3, .int .i64 2, .int .i64 0, .slice none 0 0]) ?_ 5 _ rfl; refine blk_put (cs := #[.int .u8 1, .int .i64 4, .int .i64 0, .int .i64 3, .int .i64 0, .int .i64 0, .slice none 0 0]) ?_ 4 _ rfl; refine blk_put (cs := #[.int .u8 1, .int .i64 4, .int .i64 0, .int .i64 0, .int .i64 0, .int .i64 0, .slice none 0 0]) ?_ 3 _ rfl; refine blk_put (cs := #[.int .u8 1, .int .i64 4, .int .i64 0, .int .i64 0, .int .i64 0, .int .i64 0, .slice none 0 0]) ?_ 2 _ rfl; refine blk_put (cs := #[.int .u8 1, .int .i64 0, .int .i64 0, .int .i64 0, .int .i64 0, .int .i64 0, .slice none 0 0]) ?_ 1 _ rfl; refine blk_put (cs := #[.int .u8 0, .int .i64 0, .int .i64 0, .int .i64 0, .int .i64 0, .int .i64 0, .slice none 0 0]) ?_ 0 _ rfl; exact BK987.out) hb); replace HB := Aside0.mk (below_step (by repeat ((with_reducible first | exact HB.out | refine below_set ?_ GE987.out))) hb); clear hb ho13; obtain ⟨Ao14, co14, eo14⟩ := Kd.R_slice HO990.out; subst eo14) | ((with_reducible refine gate_dst (N := 3) rfl ?_); refine box_event ?hg (N := 3) ?hd (cs := #[.int .u8 0, .int .i64 0, .int .i64 0, .int .i64 0, .int .i64 0, .int .i64 0, .slice none 0 0]) (t := 26) ?hr ?_; (case hd => rfl); (case hg => rfl); (case hr => (go_simp; done)); intro gb991 hg w15 hbox hb; have BK991 := Aside0.mk (hbox); have GE991 := Aside0.mk ((by rw [hg]; exact (below_size (by repeat ((with_reducible exact HB.out)))) : w.heap.size ≤ gb991)); have NB986_991 := Aside0.mk ((by rw [hg]; exact Nat.ne_of_lt (blk_lt BK986.out) : gb986 ≠ gb991)); have NB991_986 := Aside0.mk ((by rw [hg]; exact Nat.ne_of_gt (blk_lt BK986.out) : gb991 ≠ gb986)); have NB987_991 := Aside0.mk ((by rw [hg]; exact Nat.ne_of_lt (blk_lt BK987.out) : gb987 ≠ gb991)); have NB991_987 := Aside0.mk ((by rw [hg]; exact Nat.ne_of_gt (blk_lt BK987.out) : gb991 ≠ gb987)); replace HO990 := Aside0.mk (Kd.R_below (Kd.R_elderB HO990.out gb991 (Nat.le_of_eq hg.symm)) hb); replace BK986 := Aside0.mk (blk_below BK986.out hb); replace BK987 := Aside0.mk (blk_below BK987.out hb); replace HB := Aside0.mk (below_step (by repeat ((with_reducible exact HB.out))) hb); clear hb hbox hg; have hnb16 := NB991_986.out; have hnc16 := NB986_991.out; have hnb17 := NB991_987.out; have hnc17 := NB987_991.out; have hcz18_0 : w15.cell? ⟨gb991, 0, none⟩ = some (.int .u8 0) := (blk_cell BK991.out 0).trans rfl; have hcz18_1 : w15.cell? ⟨gb991, 1, none⟩ = some (.int .i64 0) := (blk_cell BK991.out 1).trans rfl; have hcz18_2 : w15.cell? ⟨gb991, 2, none⟩ = some (.int .i64 0) := (blk_cell BK991.out 2).trans rfl; have hcz18_3 : w15.cell? ⟨gb991, 3, none⟩ = some (.int .i64 0) := (blk_cell BK991.out 3).trans rfl; have hcz18_4 : w15.cell? ⟨gb991, 4, none⟩ = some (.int .i64 0) := (blk_cell BK991.out 4).trans rfl; have hcz18_5 : w15.cell? ⟨gb991, 5, none⟩ = some (.int .i64 0) := (blk_cell BK991.out 5).trans rfl; have hcz18_6 : w15.cell? ⟨gb991, 6, none⟩ = some (.slice none 0 0) := (blk_cell BK991.out 6).trans rfl; have hfz18_0 := blk_frozen BK991.out 0; have hfz18_1 := blk_frozen BK991.out 1; have hfz18_2 := blk_frozen BK991.out 2; have hfz18_3 := blk_frozen BK991.out 3; have hfz18_4 := blk_frozen BK991.out 4; have hfz18_5 := blk_frozen BK991.out 5; have hfz18_6 := blk_frozen BK991.out 6) | ((with_reducible refine gate_store (t := 26) (p := 3) rfl ?_); refine store_event (t := 26) (p := 3) (v := ?vo_w19) (w1 := (((((((w15.setCell ⟨gb991, 0, none⟩ (.int .u8 2)).setCell ⟨gb991, 1, none⟩ (.int .i64 0)).setCell ⟨gb991, 2, none⟩ (.int .i64 0)).setCell ⟨gb991, 3, none⟩ (.int .i64 7)).setCell ⟨gb991, 4, none⟩ (.int .i64 2)).setCell ⟨gb991, 5, none⟩ (.int .i64 0)).setCell ⟨gb991, 6, none⟩ (.slice Ao14 y988.length co14))) ?hg ?ho ?hn ?hr ?_; (case ho => rfl); (case hg => rfl); (case hn => rfl); (case hr => (go_simp; done)); intro w19 hw; have n0_ : Aside0 (Kd.R k26 26 w19 w.heap.size (fun k_ => k_ ≠ gb986 ∧ k_ ≠ gb987 ∧ k_ ≠ gb991) (.slice Ao14 y988.length co14) y988) := ⟨(by rw [hw]; exact (by exact Kd.R_mono (Kd.R_far (p := ⟨gb991, 6, none⟩) (Kd.R_far (p := ⟨gb991, 5, none⟩) (Kd.R_far (p := ⟨gb991, 4, none⟩) (Kd.R_far (p := ⟨gb991, 3, none⟩) (Kd.R_far (p := ⟨gb991, 2, none⟩) (Kd.R_far (p := ⟨gb991, 1, none⟩) (Kd.R_far (p := ⟨gb991, 0, none⟩) (Kd.R_mono HO990.out (fun k_ hk => (⟨hk, hk.2⟩ : _ ∧ k_ ≠ gb991))) (fun _ hk => hk.2) (.int .u8 2)) (fun _ hk => hk.2) (.int .i64 0)) (fun _ hk => hk.2) (.int .i64 0)) (fun _ hk => hk.2) (.int .i64 7)) (fun _ hk => hk.2) (.int .i64 2)) (fun _ hk => hk.2) (.int .i64 0)) (fun _ hk => hk.2) (.slice Ao14 y988.length co14)) (fun _ hk => ⟨hk.1.1.1.2, ⟨hk.1.1.2, hk.1.2⟩⟩)))⟩; have n1_ : Aside0 (w19.heap[gb986]? = some (.cells #[.int .u8 1, .int .i64 0, .int .i64 0, .int .i64 3, .int .i64 2, .int .i64 1, .slice none 0 0] 26 (0, 0))) := ⟨(by rw [hw]; exact (by refine blk_far ?_ NB986_991.out _; refine blk_far ?_ NB986_991.out _; refine blk_far ?_ NB986_991.out _; refine blk_far ?_ NB986_991.out _; refine blk_far ?_ NB986_991.out _; refine blk_far ?_ NB986_991.out _; refine blk_far ?_ NB986_991.out _; exact BK986.out))⟩; have n2_ : Aside0 (w19.heap[gb987]? = some (.cells #[.int .u8 1, .int .i64 4, .int .i64 0, .int .i64 3, .int .i64 2, .int .i64 2, .slice none 0 0] 26 (0, 0))) := ⟨(by rw [hw]; exact (by refine blk_far ?_ NB987_991.out _; refine blk_far ?_ NB987_991.out _; refine blk_far ?_ NB987_991.out _; refine blk_far ?_ NB987_991.out _; refine blk_far ?_ NB987_991.out _; refine blk_far ?_ NB987_991.out _; refine blk_far ?_ NB987_991.out _; exact BK987.out))⟩; have n3_ : Aside0 (w19.heap[gb991]? = some (.cells #[.int .u8 2, .int .i64 0, .int .i64 0, .int .i64 7, .int .i64 2, .int .i64 0, .slice Ao14 y988.length co14] 26 (0, 0))) := ⟨(by rw [hw]; exact (by refine blk_put (cs := #[.int .u8 2, .int .i64 0, .int .i64 0, .int .i64 7, .int .i64 2, .int .i64 0, .slice none 0 0]) ?_ 6 _ rfl; refine blk_put (cs := #[.int .u8 2, .int .i64 0, .int .i64 0, .int .i64 7, .int .i64 2, .int .i64 0, .slice none 0 0]) ?_ 5 _ rfl; refine blk_put (cs := #[.int .u8 2, .int .i64 0, .int .i64 0, .int .i64 7, .int .i64 0, .int .i64 0, .slice none 0 0]) ?_ 4 _ rfl; refine blk_put (cs := #[.int .u8 2, .int .i64 0, .int .i64 0, .int .i64 0, .int .i64 0, .int .i64 0, .slice none 0 0]) ?_ 3 _ rfl; refine blk_put (cs := #[.int .u8 2, .int .i64 0, .int .i64 0, .int .i64 0, .int .i64 0, .int .i64 0, .slice none 0 0]) ?_ 2 _ rfl; refine blk_put (cs := #[.int .u8 2, .int .i64 0, .int .i64 0, .int .i64 0, .int .i64 0, .int .i64 0, .slice none 0 0]) ?_ 1 _ rfl; refine blk_put (cs := #[.int .u8 0, .int .i64 0, .int .i64 0, .int .i64 0, .int .i64 0, .int .i64 0, .slice none 0 0]) ?_ 0 _ rfl; exact BK991.out))⟩; have n4_ : Aside0 (Below w.heap.size w w19) := ⟨(by rw [hw]; exact (by repeat ((with_reducible first | exact HB.out | refine below_set ?_ GE991.out))))⟩; clear hw; clear HO990; clear BK986; clear BK987; clear BK991; clear HB; have HO990 := n0_; have BK986 := n1_; have BK987 := n2_; have BK991 := n3_; have HB := n4_; clear n0_ n1_ n2_ n3_ n4_; have hcz20_0 : w19.cell? ⟨gb991, 0, none⟩ = some (.int .u8 2) := (blk_cell BK991.out 0).trans rfl; have hcz20_1 : w19.cell? ⟨gb991, 1, none⟩ = some (.int .i64 0) := (blk_cell BK991.out 1).trans rfl; have hcz20_2 : w19.cell? ⟨gb991, 2, none⟩ = some (.int .i64 0) := (blk_cell BK991.out 2).trans rfl; have hcz20_3 : w19.cell? ⟨gb991, 3, none⟩ = some (.int .i64 7) := (blk_cell BK991.out 3).trans rfl; have hcz20_4 : w19.cell? ⟨gb991, 4, none⟩ = some (.int .i64 2) := (blk_cell BK991.out 4).trans rfl; have hcz20_5 : w19.cell? ⟨gb991, 5, none⟩ = some (.int .i64 0) := (blk_cell BK991.out 5).trans rfl; have hcz20_6 : w19.cell? ⟨gb991, 6, none⟩ = some (.slice Ao14 y988.length co14) := (blk_cell BK991.out 6).trans rfl; have hfz20_0 := blk_frozen BK991.out 0; have hfz20_1 := blk_frozen BK991.out 1; have hfz20_2 := blk_frozen BK991.out 2; have hfz20_3 := blk_frozen BK991.out 3; have hfz20_4 := blk_frozen BK991.out 4; have hfz20_5 := blk_frozen BK991.out 5; have hfz20_6 := blk_frozen BK991.out 6) | ((with_reducible refine gate_callee (f := 93) rfl ?_); refine goesL_ (some 14) rfl rfl Try.func93 (by kernel_rfl) rfl #[.agg #[.int .u8 2, .int .i64 0, .int .i64 0, .int .i64 7, .int .i64 2, .int .i64 0, .slice Ao14 y988.length co14], .int .u8 1] rfl (by (try simp only [List.map_toArray, List.map_cons, List.map_nil]); rfl) ?_; (with_reducible refine (least_Least.calls k 2 0 0 7 2 0 (fun k_ => (k_ ≠ gb986 ∧ (k_ ≠ gb987 ∧ k_ ≠ gb991))) _ _ y988 1 t992 _ ?side1 A1.out).mono ?_); (case side1 => exact Kd.R_V (HO990.out)); rintro e w21 ⟨rfl, hb⟩; refine ⟨_, rfl, ?_⟩; replace HO990 := Aside0.mk (Kd.R_below HO990.out hb); replace BK986 := Aside0.mk (blk_below BK986.out hb); replace BK987 := Aside0.mk (blk_below BK987.out hb); replace BK991 := Aside0.mk (blk_below BK991.out hb); replace HB := Aside0.mk (below_step (by repeat ((with_reducible exact HB.out))) hb); (try clear hb); have hcz22_0 : w21.cell? ⟨gb991, 0, none⟩ = some (.int .u8 2) := (blk_cell BK991.out 0).trans rfl; have hcz22_1 : w21.cell? ⟨gb991, 1, none⟩ = some (.int .i64 0) := (blk_cell BK991.out 1).trans rfl; have hcz22_2 : w21.cell? ⟨gb991, 2, none⟩ = some (.int .i64 0) := (blk_cell BK991.out 2).trans rfl; have hcz22_3 : w21.cell? ⟨gb991, 3, none⟩ = some (.int .i64 7) := (blk_cell BK991.out 3).trans rfl; have hcz22_4 : w21.cell? ⟨gb991, 4, none⟩ = some (.int .i64 2) := (blk_cell BK991.out 4).trans rfl; have hcz22_5 : w21.cell? ⟨gb991, 5, none⟩ = some (.int .i64 0) := (blk_cell BK991.out 5).trans rfl; have hcz22_6 : w21.cell? ⟨gb991, 6, none⟩ = some (.slice Ao14 y988.length co14) := (blk_cell BK991.out 6).trans rfl; have hfz22_0 := blk_frozen BK991.out 0; have hfz22_1 := blk_frozen BK991.out 1; have hfz22_2 := blk_frozen BK991.out 2; have hfz22_3 := blk_frozen BK991.out 3; have hfz22_4 := blk_frozen BK991.out 4; have hfz22_5 := blk_frozen BK991.out 5; have hfz22_6 := blk_frozen BK991.out 6) | (go_at_call 93; (with_reducible refine (least_Least.calls k 2 0 0 7 2 0 (fun k_ => (k_ ≠ gb986 ∧ (k_ ≠ gb987 ∧ k_ ≠ gb991))) _ _ y988 2 t993 _ ?side1 A3.out).mono ?_); (case side1 => exact Kd.R_V (HO990.out)); rintro e w23 ⟨rfl, hb⟩; replace HO990 := Aside0.mk (Kd.R_below HO990.out hb); replace BK986 := Aside0.mk (blk_below BK986.out hb); replace BK987 := Aside0.mk (blk_below BK987.out hb); replace BK991 := Aside0.mk (blk_below BK991.out hb); replace HB := Aside0.mk (below_step (by repeat ((with_reducible exact HB.out))) hb); (try clear hb); have hcz24_0 : w23.cell? ⟨gb991, 0, none⟩ = some (.int .u8 2) := (blk_cell BK991.out 0).trans rfl; have hcz24_1 : w23.cell? ⟨gb991, 1, none⟩ = some (.int .i64 0) := (blk_cell BK991.out 1).trans rfl; have hcz24_2 : w23.cell? ⟨gb991, 2, none⟩ = some (.int .i64 0) := (blk_cell BK991.out 2).trans rfl; have hcz24_3 : w23.cell? ⟨gb991, 3, none⟩ = some (.int .i64 7) := (blk_cell BK991.out 3).trans rfl; have hcz24_4 : w23.cell? ⟨gb991, 4, none⟩ = some (.int .i64 2) := (blk_cell BK991.out 4).trans rfl; have hcz24_5 : w23.cell? ⟨gb991, 5, none⟩ = some (.int .i64 0) := (blk_cell BK991.out 5).trans rfl; have hcz24_6 : w23.cell? ⟨gb991, 6, none⟩ = some (.slice Ao14 y988.length co14) := (blk_cell BK991.out 6).trans rfl; have hfz24_0 := blk_frozen BK991.out 0; have hfz24_1 := blk_frozen BK991.out 1; have hfz24_2 := blk_frozen BK991.out 2; have hfz24_3 := blk_frozen BK991.out 3; have hfz24_4 := blk_frozen BK991.out 4; have hfz24_5 := blk_frozen BK991.out 5; have hfz24_6 := blk_frozen BK991.out 6) | (go_at_call 86; (with_reducible refine (least_Gives.calls k 2 0 0 7 2 0 (fun k_ => (k_ ≠ gb986 ∧ (k_ ≠ gb987 ∧ k_ ≠ gb991))) _ _ y988 1 t994 _ ?side1 A5.out).mono ?_); (case side1 => exact Kd.R_V (HO990.out)); rintro e w25 ⟨rfl, hb⟩; replace HO990 := Aside0.mk (Kd.R_below HO990.out hb); replace BK986 := Aside0.mk (blk_below BK986.out hb); replace BK987 := Aside0.mk (blk_below BK987.out hb); replace BK991 := Aside0.mk (blk_below BK991.out hb); replace HB := Aside0.mk (below_step (by repeat ((with_reducible exact HB.out))) hb); (try clear hb)))
  go_ret
  exact ⟨by rfl, by repeat ((with_reducible exact HB.out))⟩
end Go.Proofs.Ytfdmfgaiblfbhaa.P
namespace Go.Proofs.Ytfdmfgaiblfbhaa.P
open Go.RowKit Go.Proofs.YtfdmfgaiblfbhaaW.PrintWords Go.Proofs.YtfdmfgaiblfbhaaW.PrintLast Go.Proofs.YtfdmfgaiblfbhaaW.PrintMore
attribute [local go_sem] max2_int min2_int max_two min_two max_three min_three max_four min_four   -- for this text's walks alone
set_option linter.unusedVariables false
set_option linter.unusedSimpArgs false

/-! ### sashlaw08_LeastSums: function 19 -/
mutual
noncomputable def sashlaw08_LeastSums.j0 : Nat → Int → Bool → Int → Int → Int → Int → Int → Int → List (S26) → Option (Bool)
 | 0, _, _, _, _, _, _, _, _, _ => none
 | k + 1, x1, x23, x989000, x989001, x989002, x989003, x989004, x989005, x989006 => if x23 = true then ((sashlaw08_awake.f).bind fun t991 => (some t991)) else (if x989000 = 1 then ((least_Gives.f k x989000 x989001 x989002 x989003 x989004 x989005 x989006 x1).bind fun t992 => ((sashref08_Size.f x989001 x989002 x989003 x989004 x1).bind fun t993 => (if t992 = (wrap64 (t993 - 1)) then ((sashlaw08_awake.f).bind fun t994 => (some t994)) else (some false)))) else (sashlaw08_LeastSums.l0 k x1 0 10000 0 x989000 x989001 x989002 x989003 x989004 x989005 x989006))
noncomputable def sashlaw08_LeastSums.l0 : Nat → Int → Int → Int → Int → Int → Int → Int → Int → Int → Int → List (S26) → Option (Bool)
 | 0, _, _, _, _, _, _, _, _, _, _, _ => none
 | k + 1, x1, x5, x6, x7, x989000, x989001, x989002, x989003, x989004, x989005, x989006 => if x7 < (x989006.length : Int) then (if 0 ≤ x7 then ((least_Gives.f k ((rd_T26 x989006 x7).f0) ((rd_T26 x989006 x7).f1.f0) ((rd_T26 x989006 x7).f1.f1) ((rd_T26 x989006 x7).f1.f2) ((rd_T26 x989006 x7).f1.f3) ((rd_T26 x989006 x7).f2) ((rd_T26 x989006 x7).f3) x1).bind fun t996 => (sashlaw08_LeastSums.l0 k x1 (wrap64 (x5 + t996)) (mn x6 t996) (wrap64 (x7 + 1)) x989000 x989001 x989002 x989003 x989004 x989005 x989006)) else (none)) else ((sashref08_Along.f x989000 x989001 x989002 x989003 x989004 x989005 x989006 x1).bind fun t997 => (if t997 = true then ((least_Gives.f k x989000 x989001 x989002 x989003 x989004 x989005 x989006 x1).bind fun t998 => (if t998 = x5 then ((sashlaw08_awake.f).bind fun t999 => (some t999)) else (some false))) else ((least_Gives.f k x989000 x989001 x989002 x989003 x989004 x989005 x989006 x1).bind fun t1000 => (if t1000 = x6 then ((sashlaw08_awake.f).bind fun t1001 => (some t1001)) else (some false)))))
end
noncomputable def sashlaw08_LeastSums.f (k : Nat) (a0_0 : Int) (a0_1 : Int) (a0_2 : Int) (a0_3 : Int) (a0_4 : Int) (a0_5 : Int) (l0_6 : List (S26)) (a1 : Int) : Option (Bool) := (sashref05_Great.f k a0_0 a0_1 a0_2 a0_3 a0_4 a0_5 l0_6).bind fun t989 => (if t989 = true then (sashlaw08_LeastSums.j0 k a1 true a0_0 a0_1 a0_2 a0_3 a0_4 a0_5 l0_6) else ((sashref06_Tiles.f k a0_0 a0_1 a0_2 a0_3 a0_4 a0_5 l0_6).bind fun t990 => (if t990 = true then (if a1 < 1 then (sashlaw08_LeastSums.j0 k a1 true a0_0 a0_1 a0_2 a0_3 a0_4 a0_5 l0_6) else (sashlaw08_LeastSums.j0 k a1 (decide (a1 > 2)) a0_0 a0_1 a0_2 a0_3 a0_4 a0_5 l0_6)) else (sashlaw08_LeastSums.j0 k a1 true a0_0 a0_1 a0_2 a0_3 a0_4 a0_5 l0_6))))
def sashlaw08_LeastSums.T4 : Bool × List (List Nat × List Nat) := (true, [([], []), ([], []), ([0, 1], [0, 1]), ([], []), ([3], [3]), ([], []), ([4, 5, 2], [4, 5]), ([6], [6]), ([2, 7], [2, 7]), ([8, 6], [8]), ([9, 9], [9]), ([9, 10], [9, 10]), ([11, 10, 0, 1, 2, 3, 4, 5, 6, 7, 8, 9, 10, 11], [11])])
def sashlaw08_LeastSums.B4 : List Nat := [0, 0, 3, 0, 8, 0, 63, 127, 255, 511, 1023, 2047, 4095]
theorem sashlaw08_LeastSums.tab4 : rtab .any (opsOf Try.f19 4) = sashlaw08_LeastSums.T4 := by kernel_rfl
theorem sashlaw08_LeastSums.bits4 : waitsOk sashlaw08_LeastSums.T4.2 sashlaw08_LeastSums.B4 = true := by kernel_rfl
set_option maxHeartbeats 8000000 in
set_option maxRecDepth 100000 in
theorem sashlaw08_LeastSums.calls (k : Nat) (a0_0 : Int) (a0_1 : Int) (a0_2 : Int) (a0_3 : Int) (a0_4 : Int) (a0_5 : Int) (A0_6 : Option Addr) (c0_6 : Nat) (l0_6 : List (S26)) (a1 : Int) (r : Bool) (w : World) (hr0_6 : Kd.C k26 w A0_6 l0_6.length l0_6) (hc0_6 : l0_6.length ≤ c0_6) (h : sashlaw08_LeastSums.f k a0_0 a0_1 a0_2 a0_3 a0_4 a0_5 l0_6 a1 = some r) :
  Calls Try.prog 19 #[.agg #[.int .u8 a0_0, .int .i64 a0_1, .int .i64 a0_2, .int .i64 a0_3, .int .i64 a0_4, .int .i64 a0_5, .slice A0_6 l0_6.length c0_6], .int .u8 a1] w fun e w' => e = .returned (.bool r) ∧ Below w.heap.size w w' := by
 have hu26 := Try.underlying26
 have hu23 := Try.underlying23
 have HR0_6 := Aside0.mk hr0_6
 have HC0_6 := Aside0.mk hc0_6
 clear hr0_6 hc0_6
 have HB := Aside0.mk (Below.refl w.heap.size w)
 have H : ((sashref05_Great.f k a0_0 a0_1 a0_2 a0_3 a0_4 a0_5 l0_6).bind fun t989 => (if t989 = true then (sashlaw08_LeastSums.j0 k a1 true a0_0 a0_1 a0_2 a0_3 a0_4 a0_5 l0_6) else ((sashref06_Tiles.f k a0_0 a0_1 a0_2 a0_3 a0_4 a0_5 l0_6).bind fun t990 => (if t990 = true then (if a1 < 1 then (sashlaw08_LeastSums.j0 k a1 true a0_0 a0_1 a0_2 a0_3 a0_4 a0_5 l0_6) else (sashlaw08_LeastSums.j0 k a1 (decide (a1 > 2)) a0_0 a0_1 a0_2 a0_3 a0_4 a0_5 l0_6)) else (sashlaw08_LeastSums.j0 k a1 true a0_0 a0_1 a0_2 a0_3 a0_4 a0_5 l0_6))))) = some r := h
 clear h
 have HC3 := Aside0.mk H
 clear H
 go_enter Try.func19, Try.ntmps19
 go_upto_region 1 with (((with_reducible refine gate_dst (N := 2) rfl ?_); refine box_event ?hg (N := 2) ?hd (cs := #[.int .u8 a0_0, .int .i64 a0_1, .int .i64 a0_2, .int .i64 a0_3, .int .i64 a0_4, .int .i64 a0_5, .slice A0_6 l0_6.length c0_6]) (t := 26) ?hr ?_; (case hd => rfl); (case hg => rfl); (case hr => (go_simp; done)); intro gb988 hg w4 hbox hb; have BK988 := Aside0.mk (hbox); replace HB := Aside0.mk (below_step (by repeat ((with_reducible exact HB.out))) hb); clear hb hbox hg))
 (skip)
 go_cut [23] (fun v23 wc => ∃ (kq : Nat) (x23_2 : Bool), v23 = .bool x23_2 ∧ Aside0 (sashlaw08_LeastSums.j0 kq a1 x23_2 a0_0 a0_1 a0_2 a0_3 a0_4 a0_5 l0_6 = some r) ∧ Aside0 (kq ≤ k) ∧ Aside0 (wc.heap[gb988]? = some (.cells #[.int .u8 a0_0, .int .i64 a0_1, .int .i64 a0_2, .int .i64 a0_3, .int .i64 a0_4, .int .i64 a0_5, (.slice A0_6 l0_6.length c0_6)] 26 (0, 0))) ∧ Aside0 (Below w.heap.size w wc))
 case first =>
  have H := HC3.out
  clear HC3
  replace H := Option.bind_eq_some_iff.mp H
  obtain ⟨t989, A50, H⟩ := H
  replace H : (if t989 = true then (sashlaw08_LeastSums.j0 k a1 true a0_0 a0_1 a0_2 a0_3 a0_4 a0_5 l0_6) else ((sashref06_Tiles.f k a0_0 a0_1 a0_2 a0_3 a0_4 a0_5 l0_6).bind fun t990 => (if t990 = true then (if a1 < 1 then (sashlaw08_LeastSums.j0 k a1 true a0_0 a0_1 a0_2 a0_3 a0_4 a0_5 l0_6) else (sashlaw08_LeastSums.j0 k a1 (decide (a1 > 2)) a0_0 a0_1 a0_2 a0_3 a0_4 a0_5 l0_6)) else (sashlaw08_LeastSums.j0 k a1 true a0_0 a0_1 a0_2 a0_3 a0_4 a0_5 l0_6)))) = some r := H
  have A5 := Aside0.mk A50
  clear A50
  by_cases c6 : t989 = true
  ·subst c6
   have H1 : (sashlaw08_LeastSums.j0 k a1 true a0_0 a0_1 a0_2 a0_3 a0_4 a0_5 l0_6) = some r := by rw [if_pos rfl] at H; exact H
   clear H
   have H := H1
   clear H1
   have H' := Aside0.mk H
   clear H
   have hcz7_0 : w4.cell? ⟨gb988, 0, none⟩ = some (.int .u8 a0_0) := (blk_cell BK988.out 0).trans rfl
   have hcz7_1 : w4.cell? ⟨gb988, 1, none⟩ = some (.int .i64 a0_1) := (blk_cell BK988.out 1).trans rfl
   have hcz7_2 : w4.cell? ⟨gb988, 2, none⟩ = some (.int .i64 a0_2) := (blk_cell BK988.out 2).trans rfl
   have hcz7_3 : w4.cell? ⟨gb988, 3, none⟩ = some (.int .i64 a0_3) := (blk_cell BK988.out 3).trans rfl
   have hcz7_4 : w4.cell? ⟨gb988, 4, none⟩ = some (.int .i64 a0_4) := (blk_cell BK988.out 4).trans rfl
   have hcz7_5 : w4.cell? ⟨gb988, 5, none⟩ = some (.int .i64 a0_5) := (blk_cell BK988.out 5).trans rfl
   have hcz7_6 : w4.cell? ⟨gb988, 6, none⟩ = some (.slice A0_6 l0_6.length c0_6) := (blk_cell BK988.out 6).trans rfl
   have hfz7_0 := blk_frozen BK988.out 0
   have hfz7_1 := blk_frozen BK988.out 1
   have hfz7_2 := blk_frozen BK988.out 2
   have hfz7_3 := blk_frozen BK988.out 3
   have hfz7_4 := blk_frozen BK988.out 4
   have hfz7_5 := blk_frozen BK988.out 5
   have hfz7_6 := blk_frozen BK988.out 6
   go_wp2_with (((with_reducible refine gate_callee (f := 34) rfl ?_); refine goesL_ (some 10) rfl rfl Try.func34 (by kernel_rfl) rfl #[.agg #[.int .u8 a0_0, .int .i64 a0_1, .int .i64 a0_2, .int .i64 a0_3, .int .i64 a0_4, .int .i64 a0_5, .slice A0_6 l0_6.length c0_6]] rfl (by (try simp only [List.map_toArray, List.map_cons, List.map_nil]); rfl) ?_; (with_reducible refine (sashref05_Great.calls k a0_0 a0_1 a0_2 a0_3 a0_4 a0_5 _ _ l0_6 true _ ?side1 ?side2 A5.out).mono ?_); (case side1 => repeat (exact (Kd.C_below HR0_6.out HB.out))); (case side2 => exact HC0_6.out); rintro e w8 ⟨rfl, hb⟩; refine ⟨_, rfl, ?_⟩; replace BK988 := Aside0.mk (blk_below BK988.out hb); replace HB := Aside0.mk (below_step (by repeat ((with_reducible exact HB.out))) hb); (try clear hb)))
   go_meet
   case rel => exact ⟨_, (true), (by rfl), H', ⟨by omega⟩, ⟨by exact BK988.out⟩, ⟨by repeat ((with_reducible exact HB.out))⟩⟩
  ·replace c6 := Bool.eq_false_iff.mpr c6
   subst c6
   have H1 : ((sashref06_Tiles.f k a0_0 a0_1 a0_2 a0_3 a0_4 a0_5 l0_6).bind fun t990 => (if t990 = true then (if a1 < 1 then (sashlaw08_LeastSums.j0 k a1 true a0_0 a0_1 a0_2 a0_3 a0_4 a0_5 l0_6) else (sashlaw08_LeastSums.j0 k a1 (decide (a1 > 2)) a0_0 a0_1 a0_2 a0_3 a0_4 a0_5 l0_6)) else (sashlaw08_LeastSums.j0 k a1 true a0_0 a0_1 a0_2 a0_3 a0_4 a0_5 l0_6))) = some r := by rw [if_neg (show ¬ (false = true) by decide)] at H; exact H
   clear H
   have H := H1
   clear H1
   replace H := Option.bind_eq_some_iff.mp H
   obtain ⟨t990, A90, H⟩ := H
   replace H : (if t990 = true then (if a1 < 1 then (sashlaw08_LeastSums.j0 k a1 true a0_0 a0_1 a0_2 a0_3 a0_4 a0_5 l0_6) else (sashlaw08_LeastSums.j0 k a1 (decide (a1 > 2)) a0_0 a0_1 a0_2 a0_3 a0_4 a0_5 l0_6)) else (sashlaw08_LeastSums.j0 k a1 true a0_0 a0_1 a0_2 a0_3 a0_4 a0_5 l0_6)) = some r := H
   have A9 := Aside0.mk A90
   clear A90
   by_cases c10 : t990 = true
   ·subst c10
    have H1 : (if a1 < 1 then (sashlaw08_LeastSums.j0 k a1 true a0_0 a0_1 a0_2 a0_3 a0_4 a0_5 l0_6) else (sashlaw08_LeastSums.j0 k a1 (decide (a1 > 2)) a0_0 a0_1 a0_2 a0_3 a0_4 a0_5 l0_6)) = some r := by rw [if_pos rfl] at H; exact H
    clear H
    have H := H1
    clear H1
    by_cases c11 : a1 < 1
    ·rw [if_pos c11] at H
     have c11b0 : decide (a1 < 1) = true := decide_eq_true c11
     clear c11
     (skip)
     have H' := Aside0.mk H
     clear H
     have hcz12_0 : w4.cell? ⟨gb988, 0, none⟩ = some (.int .u8 a0_0) := (blk_cell BK988.out 0).trans rfl
     have hcz12_1 : w4.cell? ⟨gb988, 1, none⟩ = some (.int .i64 a0_1) := (blk_cell BK988.out 1).trans rfl
     have hcz12_2 : w4.cell? ⟨gb988, 2, none⟩ = some (.int .i64 a0_2) := (blk_cell BK988.out 2).trans rfl
     have hcz12_3 : w4.cell? ⟨gb988, 3, none⟩ = some (.int .i64 a0_3) := (blk_cell BK988.out 3).trans rfl
     have hcz12_4 : w4.cell? ⟨gb988, 4, none⟩ = some (.int .i64 a0_4) := (blk_cell BK988.out 4).trans rfl
     have hcz12_5 : w4.cell? ⟨gb988, 5, none⟩ = some (.int .i64 a0_5) := (blk_cell BK988.out 5).trans rfl
     have hcz12_6 : w4.cell? ⟨gb988, 6, none⟩ = some (.slice A0_6 l0_6.length c0_6) := (blk_cell BK988.out 6).trans rfl
     have hfz12_0 := blk_frozen BK988.out 0
     have hfz12_1 := blk_frozen BK988.out 1
     have hfz12_2 := blk_frozen BK988.out 2
     have hfz12_3 := blk_frozen BK988.out 3
     have hfz12_4 := blk_frozen BK988.out 4
     have hfz12_5 := blk_frozen BK988.out 5
     have hfz12_6 := blk_frozen BK988.out 6
     go_wp2_with (first | ((with_reducible refine gate_callee (f := 34) rfl ?_); refine goesL_ (some 10) rfl rfl Try.func34 (by kernel_rfl) rfl #[.agg #[.int .u8 a0_0, .int .i64 a0_1, .int .i64 a0_2, .int .i64 a0_3, .int .i64 a0_4, .int .i64 a0_5, .slice A0_6 l0_6.length c0_6]] rfl (by (try simp only [List.map_toArray, List.map_cons, List.map_nil]); rfl) ?_; (with_reducible refine (sashref05_Great.calls k a0_0 a0_1 a0_2 a0_3 a0_4 a0_5 _ _ l0_6 false _ ?side1 ?side2 A5.out).mono ?_); (case side1 => repeat (exact (Kd.C_below HR0_6.out HB.out))); (case side2 => exact HC0_6.out); rintro e w13 ⟨rfl, hb⟩; refine ⟨_, rfl, ?_⟩; replace BK988 := Aside0.mk (blk_below BK988.out hb); replace HB := Aside0.mk (below_step (by repeat ((with_reducible exact HB.out))) hb); (try clear hb); have hcz14_0 : w13.cell? ⟨gb988, 0, none⟩ = some (.int .u8 a0_0) := (blk_cell BK988.out 0).trans rfl; have hcz14_1 : w13.cell? ⟨gb988, 1, none⟩ = some (.int .i64 a0_1) := (blk_cell BK988.out 1).trans rfl; have hcz14_2 : w13.cell? ⟨gb988, 2, none⟩ = some (.int .i64 a0_2) := (blk_cell BK988.out 2).trans rfl; have hcz14_3 : w13.cell? ⟨gb988, 3, none⟩ = some (.int .i64 a0_3) := (blk_cell BK988.out 3).trans rfl; have hcz14_4 : w13.cell? ⟨gb988, 4, none⟩ = some (.int .i64 a0_4) := (blk_cell BK988.out 4).trans rfl; have hcz14_5 : w13.cell? ⟨gb988, 5, none⟩ = some (.int .i64 a0_5) := (blk_cell BK988.out 5).trans rfl; have hcz14_6 : w13.cell? ⟨gb988, 6, none⟩ = some (.slice A0_6 l0_6.length c0_6) := (blk_cell BK988.out 6).trans rfl; have hfz14_0 := blk_frozen BK988.out 0; have hfz14_1 := blk_frozen BK988.out 1; have hfz14_2 := blk_frozen BK988.out 2; have hfz14_3 := blk_frozen BK988.out 3; have hfz14_4 := blk_frozen BK988.out 4; have hfz14_5 := blk_frozen BK988.out 5; have hfz14_6 := blk_frozen BK988.out 6) | (go_at_call 84; (with_reducible refine (sashref06_Tiles.calls k a0_0 a0_1 a0_2 a0_3 a0_4 a0_5 _ _ l0_6 true _ ?side1 ?side2 A9.out).mono ?_); (case side1 => repeat (exact (Kd.C_below HR0_6.out HB.out))); (case side2 => exact HC0_6.out); rintro e w15 ⟨rfl, hb⟩; replace BK988 := Aside0.mk (blk_below BK988.out hb); replace HB := Aside0.mk (below_step (by repeat ((with_reducible exact HB.out))) hb); (try clear hb)))
     go_meet
     case rel => exact ⟨_, (true), (by rfl), H', ⟨by omega⟩, ⟨by exact BK988.out⟩, ⟨by repeat ((with_reducible exact HB.out))⟩⟩
    ·rw [if_neg c11] at H
     have c11b0 : decide (a1 < 1) = false := decide_eq_false c11
     clear c11
     (skip)
     have H' := Aside0.mk H
     clear H
     have hcz16_0 : w4.cell? ⟨gb988, 0, none⟩ = some (.int .u8 a0_0) := (blk_cell BK988.out 0).trans rfl
     have hcz16_1 : w4.cell? ⟨gb988, 1, none⟩ = some (.int .i64 a0_1) := (blk_cell BK988.out 1).trans rfl
     have hcz16_2 : w4.cell? ⟨gb988, 2, none⟩ = some (.int .i64 a0_2) := (blk_cell BK988.out 2).trans rfl
     have hcz16_3 : w4.cell? ⟨gb988, 3, none⟩ = some (.int .i64 a0_3) := (blk_cell BK988.out 3).trans rfl
     have hcz16_4 : w4.cell? ⟨gb988, 4, none⟩ = some (.int .i64 a0_4) := (blk_cell BK988.out 4).trans rfl
     have hcz16_5 : w4.cell? ⟨gb988, 5, none⟩ = some (.int .i64 a0_5) := (blk_cell BK988.out 5).trans rfl
     have hcz16_6 : w4.cell? ⟨gb988, 6, none⟩ = some (.slice A0_6 l0_6.length c0_6) := (blk_cell BK988.out 6).trans rfl
     have hfz16_0 := blk_frozen BK988.out 0
     have hfz16_1 := blk_frozen BK988.out 1
     have hfz16_2 := blk_frozen BK988.out 2
     have hfz16_3 := blk_frozen BK988.out 3
     have hfz16_4 := blk_frozen BK988.out 4
     have hfz16_5 := blk_frozen BK988.out 5
     have hfz16_6 := blk_frozen BK988.out 6
     go_wp2_with (first | ((with_reducible refine gate_callee (f := 34) rfl ?_); refine goesL_ (some 10) rfl rfl Try.func34 (by kernel_rfl) rfl #[.agg #[.int .u8 a0_0, .int .i64 a0_1, .int .i64 a0_2, .int .i64 a0_3, .int .i64 a0_4, .int .i64 a0_5, .slice A0_6 l0_6.length c0_6]] rfl (by (try simp only [List.map_toArray, List.map_cons, List.map_nil]); rfl) ?_; (with_reducible refine (sashref05_Great.calls k a0_0 a0_1 a0_2 a0_3 a0_4 a0_5 _ _ l0_6 false _ ?side1 ?side2 A5.out).mono ?_); (case side1 => repeat (exact (Kd.C_below HR0_6.out HB.out))); (case side2 => exact HC0_6.out); rintro e w17 ⟨rfl, hb⟩; refine ⟨_, rfl, ?_⟩; replace BK988 := Aside0.mk (blk_below BK988.out hb); replace HB := Aside0.mk (below_step (by repeat ((with_reducible exact HB.out))) hb); (try clear hb); have hcz18_0 : w17.cell? ⟨gb988, 0, none⟩ = some (.int .u8 a0_0) := (blk_cell BK988.out 0).trans rfl; have hcz18_1 : w17.cell? ⟨gb988, 1, none⟩ = some (.int .i64 a0_1) := (blk_cell BK988.out 1).trans rfl; have hcz18_2 : w17.cell? ⟨gb988, 2, none⟩ = some (.int .i64 a0_2) := (blk_cell BK988.out 2).trans rfl; have hcz18_3 : w17.cell? ⟨gb988, 3, none⟩ = some (.int .i64 a0_3) := (blk_cell BK988.out 3).trans rfl; have hcz18_4 : w17.cell? ⟨gb988, 4, none⟩ = some (.int .i64 a0_4) := (blk_cell BK988.out 4).trans rfl; have hcz18_5 : w17.cell? ⟨gb988, 5, none⟩ = some (.int .i64 a0_5) := (blk_cell BK988.out 5).trans rfl; have hcz18_6 : w17.cell? ⟨gb988, 6, none⟩ = some (.slice A0_6 l0_6.length c0_6) := (blk_cell BK988.out 6).trans rfl; have hfz18_0 := blk_frozen BK988.out 0; have hfz18_1 := blk_frozen BK988.out 1; have hfz18_2 := blk_frozen BK988.out 2; have hfz18_3 := blk_frozen BK988.out 3; have hfz18_4 := blk_frozen BK988.out 4; have hfz18_5 := blk_frozen BK988.out 5; have hfz18_6 := blk_frozen BK988.out 6) | (go_at_call 84; (with_reducible refine (sashref06_Tiles.calls k a0_0 a0_1 a0_2 a0_3 a0_4 a0_5 _ _ l0_6 true _ ?side1 ?side2 A9.out).mono ?_); (case side1 => repeat (exact (Kd.C_below HR0_6.out HB.out))); (case side2 => exact HC0_6.out); rintro e w19 ⟨rfl, hb⟩; replace BK988 := Aside0.mk (blk_below BK988.out hb); replace HB := Aside0.mk (below_step (by repeat ((with_reducible exact HB.out))) hb); (try clear hb)))
     go_meet
     case rel => exact ⟨_, (decide (a1 > 2)), (by rfl), H', ⟨by omega⟩, ⟨by exact BK988.out⟩, ⟨by repeat ((with_reducible exact HB.out))⟩⟩
   ·replace c10 := Bool.eq_false_iff.mpr c10
    subst c10
    have H1 : (sashlaw08_LeastSums.j0 k a1 true a0_0 a0_1 a0_2 a0_3 a0_4 a0_5 l0_6) = some r := by rw [if_neg (show ¬ (false = true) by decide)] at H; exact H
    clear H
    have H := H1
    clear H1
    have H' := Aside0.mk H
    clear H
    have hcz20_0 : w4.cell? ⟨gb988, 0, none⟩ = some (.int .u8 a0_0) := (blk_cell BK988.out 0).trans rfl
    have hcz20_1 : w4.cell? ⟨gb988, 1, none⟩ = some (.int .i64 a0_1) := (blk_cell BK988.out 1).trans rfl
    have hcz20_2 : w4.cell? ⟨gb988, 2, none⟩ = some (.int .i64 a0_2) := (blk_cell BK988.out 2).trans rfl
    have hcz20_3 : w4.cell? ⟨gb988, 3, none⟩ = some (.int .i64 a0_3) := (blk_cell BK988.out 3).trans rfl
    have hcz20_4 : w4.cell? ⟨gb988, 4, none⟩ = some (.int .i64 a0_4) := (blk_cell BK988.out 4).trans rfl
    have hcz20_5 : w4.cell? ⟨gb988, 5, none⟩ = some (.int .i64 a0_5) := (blk_cell BK988.out 5).trans rfl
    have hcz20_6 : w4.cell? ⟨gb988, 6, none⟩ = some (.slice A0_6 l0_6.length c0_6) := (blk_cell BK988.out 6).trans rfl
    have hfz20_0 := blk_frozen BK988.out 0
    have hfz20_1 := blk_frozen BK988.out 1
    have hfz20_2 := blk_frozen BK988.out 2
    have hfz20_3 := blk_frozen BK988.out 3
    have hfz20_4 := blk_frozen BK988.out 4
    have hfz20_5 := blk_frozen BK988.out 5
    have hfz20_6 := blk_frozen BK988.out 6
    go_wp2_with (first | ((with_reducible refine gate_callee (f := 34) rfl ?_); refine goesL_ (some 10) rfl rfl Try.func34 (by kernel_rfl) rfl #[.agg #[.int .u8 a0_0, .int .i64 a0_1, .int .i64 a0_2, .int .i64 a0_3, .int .i64 a0_4, .int .i64 a0_5, .slice A0_6 l0_6.length c0_6]] rfl (by (try simp only [List.map_toArray, List.map_cons, List.map_nil]); rfl) ?_; (with_reducible refine (sashref05_Great.calls k a0_0 a0_1 a0_2 a0_3 a0_4 a0_5 _ _ l0_6 false _ ?side1 ?side2 A5.out).mono ?_); (case side1 => repeat (exact (Kd.C_below HR0_6.out HB.out))); (case side2 => exact HC0_6.out); rintro e w21 ⟨rfl, hb⟩; refine ⟨_, rfl, ?_⟩; replace BK988 := Aside0.mk (blk_below BK988.out hb); replace HB := Aside0.mk (below_step (by repeat ((with_reducible exact HB.out))) hb); (try clear hb); have hcz22_0 : w21.cell? ⟨gb988, 0, none⟩ = some (.int .u8 a0_0) := (blk_cell BK988.out 0).trans rfl; have hcz22_1 : w21.cell? ⟨gb988, 1, none⟩ = some (.int .i64 a0_1) := (blk_cell BK988.out 1).trans rfl; have hcz22_2 : w21.cell? ⟨gb988, 2, none⟩ = some (.int .i64 a0_2) := (blk_cell BK988.out 2).trans rfl; have hcz22_3 : w21.cell? ⟨gb988, 3, none⟩ = some (.int .i64 a0_3) := (blk_cell BK988.out 3).trans rfl; have hcz22_4 : w21.cell? ⟨gb988, 4, none⟩ = some (.int .i64 a0_4) := (blk_cell BK988.out 4).trans rfl; have hcz22_5 : w21.cell? ⟨gb988, 5, none⟩ = some (.int .i64 a0_5) := (blk_cell BK988.out 5).trans rfl; have hcz22_6 : w21.cell? ⟨gb988, 6, none⟩ = some (.slice A0_6 l0_6.length c0_6) := (blk_cell BK988.out 6).trans rfl; have hfz22_0 := blk_frozen BK988.out 0; have hfz22_1 := blk_frozen BK988.out 1; have hfz22_2 := blk_frozen BK988.out 2; have hfz22_3 := blk_frozen BK988.out 3; have hfz22_4 := blk_frozen BK988.out 4; have hfz22_5 := blk_frozen BK988.out 5; have hfz22_6 := blk_frozen BK988.out 6) | (go_at_call 84; (with_reducible refine (sashref06_Tiles.calls k a0_0 a0_1 a0_2 a0_3 a0_4 a0_5 _ _ l0_6 false _ ?side1 ?side2 A9.out).mono ?_); (case side1 => repeat (exact (Kd.C_below HR0_6.out HB.out))); (case side2 => exact HC0_6.out); rintro e w23 ⟨rfl, hb⟩; replace BK988 := Aside0.mk (blk_below BK988.out hb); replace HB := Aside0.mk (below_step (by repeat ((with_reducible exact HB.out))) hb); (try clear hb)))
    go_meet
    case rel => exact ⟨_, (true), (by rfl), H', ⟨by omega⟩, ⟨by exact BK988.out⟩, ⟨by repeat ((with_reducible exact HB.out))⟩⟩
 case rest =>
  clear HC3
  obtain ⟨kq, x23_2, rfl, HA, HJ2, BK988, HB⟩ := hcut
  cases kq with
  | zero => exact absurd HA.out (by simp [sashlaw08_LeastSums.j0])
  | succ kj2 =>
   have H := HA.out
   clear HA
   simp only [sashlaw08_LeastSums.j0] at H
   by_cases c24 : x23_2 = true
   ·subst c24
    have H1 : ((sashlaw08_awake.f).bind fun t991 => (some t991)) = some r := by rw [if_pos rfl] at H; exact H
    clear H
    have H := H1
    clear H1
    replace H := Option.bind_eq_some_iff.mp H
    obtain ⟨t991, A250, H⟩ := H
    replace H : (some t991) = some r := H
    have A25 := Aside0.mk A250
    clear A250
    obtain rfl := Option.some.inj H
    go_wp2_with (((with_reducible refine gate_callee (f := 85) rfl ?_); refine goesL_ (some 24) rfl rfl Try.func85 (by kernel_rfl) rfl #[] rfl (by (try simp only [List.map_toArray, List.map_cons, List.map_nil]); done) ?_; (with_reducible refine (sashlaw08_awake.calls  t991 _ A25.out).mono ?_); rintro e w26 ⟨rfl, hb⟩; refine ⟨_, rfl, ?_⟩; replace BK988 := Aside0.mk (blk_below BK988.out hb); replace HB := Aside0.mk (below_step (by repeat ((with_reducible exact HB.out))) hb); (try clear hb)))
    go_ret
    exact ⟨by rfl, by repeat ((with_reducible exact HB.out))⟩
   ·replace c24 := Bool.eq_false_iff.mpr c24
    subst c24
    have H1 : (if a0_0 = 1 then ((least_Gives.f kj2 a0_0 a0_1 a0_2 a0_3 a0_4 a0_5 l0_6 a1).bind fun t992 => ((sashref08_Size.f a0_1 a0_2 a0_3 a0_4 a1).bind fun t993 => (if t992 = (wrap64 (t993 - 1)) then ((sashlaw08_awake.f).bind fun t994 => (some t994)) else (some false)))) else (sashlaw08_LeastSums.l0 kj2 a1 0 10000 0 a0_0 a0_1 a0_2 a0_3 a0_4 a0_5 l0_6)) = some r := by rw [if_neg (show ¬ (false = true) by decide)] at H; exact H
    clear H
    have H := H1
    clear H1
    by_cases c27 : a0_0 = 1
    ·rw [if_pos c27] at H
     have c27b0 : (a0_0 == 1) = true := beq_iff_eq.mpr c27
     have c27b1 : (a0_0 != 1) = false := bne_eq_false_iff_eq.mpr c27
     clear c27
     replace H := Option.bind_eq_some_iff.mp H
     obtain ⟨t992, A280, H⟩ := H
     replace H : ((sashref08_Size.f a0_1 a0_2 a0_3 a0_4 a1).bind fun t993 => (if t992 = (wrap64 (t993 - 1)) then ((sashlaw08_awake.f).bind fun t994 => (some t994)) else (some false))) = some r := H
     have A28 := Aside0.mk A280
     clear A280
     replace H := Option.bind_eq_some_iff.mp H
     obtain ⟨t993, A290, H⟩ := H
     replace H : (if t992 = (wrap64 (t993 - 1)) then ((sashlaw08_awake.f).bind fun t994 => (some t994)) else (some false)) = some r := H
     have A29 := Aside0.mk A290
     clear A290
     by_cases c30 : t992 = (wrap64 (t993 - 1))
     ·rw [if_pos c30] at H
      have c30b0 : (t992 == (wrap64 (t993 - 1))) = true := beq_iff_eq.mpr c30
      have c30b1 : (t992 != (wrap64 (t993 - 1))) = false := bne_eq_false_iff_eq.mpr c30
      clear c30
      replace H := Option.bind_eq_some_iff.mp H
      obtain ⟨t994, A310, H⟩ := H
      replace H : (some t994) = some r := H
      have A31 := Aside0.mk A310
      clear A310
      obtain rfl := Option.some.inj H
      have hcz32_0 : wc.cell? ⟨gb988, 0, none⟩ = some (.int .u8 a0_0) := (blk_cell BK988.out 0).trans rfl
      have hcz32_1 : wc.cell? ⟨gb988, 1, none⟩ = some (.int .i64 a0_1) := (blk_cell BK988.out 1).trans rfl
      have hcz32_2 : wc.cell? ⟨gb988, 2, none⟩ = some (.int .i64 a0_2) := (blk_cell BK988.out 2).trans rfl
      have hcz32_3 : wc.cell? ⟨gb988, 3, none⟩ = some (.int .i64 a0_3) := (blk_cell BK988.out 3).trans rfl
      have hcz32_4 : wc.cell? ⟨gb988, 4, none⟩ = some (.int .i64 a0_4) := (blk_cell BK988.out 4).trans rfl
      have hcz32_5 : wc.cell? ⟨gb988, 5, none⟩ = some (.int .i64 a0_5) := (blk_cell BK988.out 5).trans rfl
      have hcz32_6 : wc.cell? ⟨gb988, 6, none⟩ = some (.slice A0_6 l0_6.length c0_6) := (blk_cell BK988.out 6).trans rfl
      have hfz32_0 := blk_frozen BK988.out 0
      have hfz32_1 := blk_frozen BK988.out 1
      have hfz32_2 := blk_frozen BK988.out 2
      have hfz32_3 := blk_frozen BK988.out 3
      have hfz32_4 := blk_frozen BK988.out 4
      have hfz32_5 := blk_frozen BK988.out 5
      have hfz32_6 := blk_frozen BK988.out 6
      try go_wp2
      replace BK988 := Aside0.mk (blk_drew BK988.out); replace HB := Aside0.mk (below_drew1 HB.out)
      refine start_ (n := 13) (S := fun w' => w'.cell? ⟨gb988, 0, none⟩ = some (.int .u8 a0_0) ∧ w'.cell? ⟨gb988, 1, none⟩ = some (.int .i64 a0_1) ∧ w'.cell? ⟨gb988, 2, none⟩ = some (.int .i64 a0_2) ∧ w'.cell? ⟨gb988, 3, none⟩ = some (.int .i64 a0_3) ∧ w'.cell? ⟨gb988, 4, none⟩ = some (.int .i64 a0_4) ∧ w'.cell? ⟨gb988, 5, none⟩ = some (.int .i64 a0_5) ∧ w'.cell? ⟨gb988, 6, none⟩ = some (.slice A0_6 l0_6.length c0_6)) (ds := []) #[false, false, false, false, false, false, false, false, false, false, false, false, false] (by kernel_rfl) rfl rfl ⟨(blk_cell BK988.out 0).trans rfl, (blk_cell BK988.out 1).trans rfl, (blk_cell BK988.out 2).trans rfl, (blk_cell BK988.out 3).trans rfl, (blk_cell BK988.out 4).trans rfl, (blk_cell BK988.out 5).trans rfl, (blk_cell BK988.out 6).trans rfl⟩ (fun hHeld => ?_); refine with_tabW sashlaw08_LeastSums.tab4 sashlaw08_LeastSums.bits4 (fun HT_ HW_ => ?_)
      generalize wc.drew = w33 at BK988 HB hHeld ⊢
      refine pure_ (i := 1) (N := some 29) (v := ?_) (a' := ?_) #[false, true, false, false, false, false, false, false, false, false, false, false, false] rfl rfl (any_of HT_.out (by kernel_rfl)) (fun _ _ _ h => h) (Or.inl ⟨by rfl, ?_⟩) ?_ ?_
      rotate_left
      ·intro w'
       go_simp
       with_reducible rfl
      rotate_left
      ·simp only [Act.put, List.setIfInBounds_toArray, List.set_cons_zero, List.set_cons_succ, i64_w, i32_w]
       rfl
      refine pure_ (i := 3) (N := some 31) (v := ?_) (a' := ?_) #[false, true, false, true, false, false, false, false, false, false, false, false, false] rfl rfl (any_of HT_.out (by kernel_rfl)) (fun _ _ _ h => h) (Or.inl ⟨by rfl, ?_⟩) ?_ ?_
      rotate_left
      ·intro w'
       go_simp
       with_reducible rfl
      rotate_left
      ·simp only [Act.put, List.setIfInBounds_toArray, List.set_cons_zero, List.set_cons_succ, i64_w, i32_w]
       rfl
      refine pure_ (i := 5) (N := some 33) (v := ?_) (a' := ?_) #[false, true, false, true, false, true, false, false, false, false, false, false, false] rfl rfl (any_of HT_.out (by kernel_rfl)) (fun _ _ _ h => h) (Or.inl ⟨by rfl, ?_⟩) ?_ ?_
      rotate_left
      ·intro w'
       go_simp
       with_reducible rfl
      rotate_left
      ·simp only [Act.put, List.setIfInBounds_toArray, List.set_cons_zero, List.set_cons_succ, i64_w, i32_w]
       rfl
      refine take_ (i := 0) (N := some 28) (v := ?_) (a' := ?_) #[true, true, false, true, false, true, false, false, false, false, false, false, false] rfl rfl (take_ofW HT_.out HW_.out (by kernel_rfl)) (fun _ _ _ h => h) (Or.inl ⟨by rfl, ?_⟩) hHeld ?_ ?_
      rotate_left
      ·rintro w' ⟨s0, s1, s2, s3, s4, s5, s6⟩
       go_simp
       with_reducible rfl
      rotate_left
      ·simp only [Act.put, List.setIfInBounds_toArray, List.set_cons_zero, List.set_cons_succ, i64_w, i32_w]
       rfl
      refine take_ (i := 4) (N := some 32) (v := ?_) (a' := ?_) #[true, true, false, true, true, true, false, false, false, false, false, false, false] rfl rfl (take_ofW HT_.out HW_.out (by kernel_rfl)) (fun _ _ _ h => h) (Or.inl ⟨by rfl, ?_⟩) hHeld ?_ ?_
      rotate_left
      ·rintro w' ⟨s0, s1, s2, s3, s4, s5, s6⟩
       go_simp
       with_reducible rfl
      rotate_left
      ·simp only [Act.put, List.setIfInBounds_toArray, List.set_cons_zero, List.set_cons_succ, i64_w, i32_w]
       rfl
      refine one_ (i := 2) (N := some 30) #[true, true, true, true, true, true, false, false, false, false, false, false, false] rfl rfl (one_of HT_.out (by kernel_rfl)) (by decide) (fun K hK => ?_)
      refine goes_ Try.func86 (by kernel_rfl) rfl #[.agg #[.int .u8 a0_0, .int .i64 a0_1, .int .i64 a0_2, .int .i64 a0_3, .int .i64 a0_4, .int .i64 a0_5, .slice A0_6 l0_6.length c0_6], .int .u8 a1] (by rfl) rfl rfl (by (try simp only [List.map_toArray, List.map_cons, List.map_nil]); rfl) ?_
      with_reducible refine (least_Gives.calls kj2 a0_0 a0_1 a0_2 a0_3 a0_4 a0_5 (fun k_ => k_ < w.heap.size) _ _ l0_6 a1 t992 _ ?side1 A28.out).mono ?_
      (case side1 => exact Kd.V_mk HC0_6.out (Kd.F_below (Kd.C_F k26_heap HR0_6.out) (by repeat ((with_reducible exact HB.out)))))
      rintro e w34 ⟨rfl, hb⟩
      refine ⟨_, rfl, ?_⟩
      replace BK988 := Aside0.mk (blk_below BK988.out hb); replace HB := Aside0.mk (below_step (by repeat ((with_reducible exact HB.out))) hb)
      (try clear hb)
      (skip)
      (skip)
      (skip)
      refine hK.out _ _ ⟨(blk_cell BK988.out 0).trans rfl, (blk_cell BK988.out 1).trans rfl, (blk_cell BK988.out 2).trans rfl, (blk_cell BK988.out 3).trans rfl, (blk_cell BK988.out 4).trans rfl, (blk_cell BK988.out 5).trans rfl, (blk_cell BK988.out 6).trans rfl⟩ (fun hHeld => ?_)
      clear hK K
      refine norm_ (a' := ?_) ?_ ?_
      rotate_left
      ·show Act.put _ (some 30) _ = _
       simp only [Act.put, List.setIfInBounds_toArray, List.set_cons_zero, List.set_cons_succ, i64_w, i32_w]
       rfl
      refine one_ (i := 6) (N := some 34) #[true, true, true, true, true, true, true, false, false, false, false, false, false] rfl rfl (one_of HT_.out (by kernel_rfl)) (by decide) (fun K hK => ?_)
      refine goes_ Try.func87 (by kernel_rfl) rfl #[.agg #[.int .i64 a0_1, .int .i64 a0_2, .int .i64 a0_3, .int .i64 a0_4], .int .u8 a1] (by rfl) rfl rfl (by (try simp only [List.map_toArray, List.map_cons, List.map_nil]); rfl) ?_
      with_reducible refine (sashref08_Size.calls a0_1 a0_2 a0_3 a0_4 a1 t993 _ A29.out).mono ?_
      rintro e w35 ⟨rfl, hb⟩
      refine ⟨_, rfl, ?_⟩
      replace BK988 := Aside0.mk (blk_below BK988.out hb); replace HB := Aside0.mk (below_step (by repeat ((with_reducible exact HB.out))) hb)
      (try clear hb)
      (skip)
      (skip)
      (skip)
      refine hK.out _ _ ⟨(blk_cell BK988.out 0).trans rfl, (blk_cell BK988.out 1).trans rfl, (blk_cell BK988.out 2).trans rfl, (blk_cell BK988.out 3).trans rfl, (blk_cell BK988.out 4).trans rfl, (blk_cell BK988.out 5).trans rfl, (blk_cell BK988.out 6).trans rfl⟩ (fun hHeld => ?_)
      clear hK K
      refine norm_ (a' := ?_) ?_ ?_
      rotate_left
      ·show Act.put _ (some 34) _ = _
       simp only [Act.put, List.setIfInBounds_toArray, List.set_cons_zero, List.set_cons_succ, i64_w, i32_w]
       rfl
      refine pure_ (i := 7) (N := some 35) (v := ?_) (a' := ?_) #[true, true, true, true, true, true, true, true, false, false, false, false, false] rfl rfl (any_of HT_.out (by kernel_rfl)) (fun _ _ _ h => h) (Or.inl ⟨by rfl, ?_⟩) ?_ ?_
      rotate_left
      ·intro w'
       go_simp
       with_reducible rfl
      rotate_left
      ·simp only [Act.put, List.setIfInBounds_toArray, List.set_cons_zero, List.set_cons_succ, i64_w, i32_w]
       rfl
      refine pure_ (i := 8) (N := some 36) (v := ?_) (a' := ?_) #[true, true, true, true, true, true, true, true, true, false, false, false, false] rfl rfl (any_of HT_.out (by kernel_rfl)) (fun _ _ _ h => h) (Or.inl ⟨by rfl, ?_⟩) ?_ ?_
      rotate_left
      ·intro w'
       go_simp
       with_reducible rfl
      rotate_left
      ·simp only [Act.put, List.setIfInBounds_toArray, List.set_cons_zero, List.set_cons_succ, i64_w, i32_w]
       rfl
      refine pure_ (i := 9) (N := some 37) (v := ?_) (a' := ?_) #[true, true, true, true, true, true, true, true, true, true, false, false, false] rfl rfl (any_of HT_.out (by kernel_rfl)) (fun _ _ _ h => h) (Or.inl ⟨by rfl, ?_⟩) ?_ ?_
      rotate_left
      ·intro w'
       go_simp
       with_reducible rfl
      rotate_left
      ·simp only [Act.put, List.setIfInBounds_toArray, List.set_cons_zero, List.set_cons_succ, i64_w, i32_w]
       rfl
      refine one_ (i := 10) (N := some 38) #[true, true, true, true, true, true, true, true, true, true, true, false, false] rfl rfl (one_of HT_.out (by kernel_rfl)) (by decide) (fun K hK => ?_)
      refine goes_ Try.func85 (by kernel_rfl) rfl #[] (by rfl) rfl rfl (by (try simp only [List.map_toArray, List.map_cons, List.map_nil]); done) ?_
      with_reducible refine (sashlaw08_awake.calls  t994 _ A31.out).mono ?_
      rintro e w36 ⟨rfl, hb⟩
      refine ⟨_, rfl, ?_⟩
      replace BK988 := Aside0.mk (blk_below BK988.out hb); replace HB := Aside0.mk (below_step (by repeat ((with_reducible exact HB.out))) hb)
      (try clear hb)
      (skip)
      (skip)
      (skip)
      refine hK.out _ _ ⟨(blk_cell BK988.out 0).trans rfl, (blk_cell BK988.out 1).trans rfl, (blk_cell BK988.out 2).trans rfl, (blk_cell BK988.out 3).trans rfl, (blk_cell BK988.out 4).trans rfl, (blk_cell BK988.out 5).trans rfl, (blk_cell BK988.out 6).trans rfl⟩ (fun hHeld => ?_)
      clear hK K
      refine norm_ (a' := ?_) ?_ ?_
      rotate_left
      ·show Act.put _ (some 38) _ = _
       simp only [Act.put, List.setIfInBounds_toArray, List.set_cons_zero, List.set_cons_succ, i64_w, i32_w]
       rfl
      refine pure_ (i := 11) (N := some 39) (v := ?_) (a' := ?_) #[true, true, true, true, true, true, true, true, true, true, true, true, false] rfl rfl (any_of HT_.out (by kernel_rfl)) (fun _ _ _ h => h) (Or.inl ⟨by rfl, ?_⟩) ?_ ?_
      rotate_left
      ·intro w'
       go_simp
       with_reducible rfl
      rotate_left
      ·simp only [Act.put, List.setIfInBounds_toArray, List.set_cons_zero, List.set_cons_succ, i64_w, i32_w]
       rfl
      refine pure_ (i := 12) (N := some 4) (v := ?_) (a' := ?_) #[true, true, true, true, true, true, true, true, true, true, true, true, true] rfl rfl (any_of HT_.out (by kernel_rfl)) (fun _ _ _ h => h) (Or.inl ⟨by rfl, ?_⟩) ?_ ?_
      rotate_left
      ·intro w'
       go_simp
       with_reducible rfl
      rotate_left
      ·simp only [Act.put, List.setIfInBounds_toArray, List.set_cons_zero, List.set_cons_succ, i64_w, i32_w]
       rfl
      refine done_ (done_of HT_.out (by kernel_rfl)) ?_
      try go_wp2
      go_ret
      exact ⟨by rfl, by repeat ((with_reducible exact HB.out))⟩
     ·rw [if_neg c30] at H
      have c30b0 : (t992 == (wrap64 (t993 - 1))) = false := beq_eq_false_iff_ne.mpr c30
      have c30b1 : (t992 != (wrap64 (t993 - 1))) = true := bne_iff_ne.mpr c30
      obtain rfl := Option.some.inj H
      have hcz37_0 : wc.cell? ⟨gb988, 0, none⟩ = some (.int .u8 a0_0) := (blk_cell BK988.out 0).trans rfl
      have hcz37_1 : wc.cell? ⟨gb988, 1, none⟩ = some (.int .i64 a0_1) := (blk_cell BK988.out 1).trans rfl
      have hcz37_2 : wc.cell? ⟨gb988, 2, none⟩ = some (.int .i64 a0_2) := (blk_cell BK988.out 2).trans rfl
      have hcz37_3 : wc.cell? ⟨gb988, 3, none⟩ = some (.int .i64 a0_3) := (blk_cell BK988.out 3).trans rfl
      have hcz37_4 : wc.cell? ⟨gb988, 4, none⟩ = some (.int .i64 a0_4) := (blk_cell BK988.out 4).trans rfl
      have hcz37_5 : wc.cell? ⟨gb988, 5, none⟩ = some (.int .i64 a0_5) := (blk_cell BK988.out 5).trans rfl
      have hcz37_6 : wc.cell? ⟨gb988, 6, none⟩ = some (.slice A0_6 l0_6.length c0_6) := (blk_cell BK988.out 6).trans rfl
      have hfz37_0 := blk_frozen BK988.out 0
      have hfz37_1 := blk_frozen BK988.out 1
      have hfz37_2 := blk_frozen BK988.out 2
      have hfz37_3 := blk_frozen BK988.out 3
      have hfz37_4 := blk_frozen BK988.out 4
      have hfz37_5 := blk_frozen BK988.out 5
      have hfz37_6 := blk_frozen BK988.out 6
      try go_wp2
      replace BK988 := Aside0.mk (blk_drew BK988.out); replace HB := Aside0.mk (below_drew1 HB.out)
      refine start_ (n := 13) (S := fun w' => w'.cell? ⟨gb988, 0, none⟩ = some (.int .u8 a0_0) ∧ w'.cell? ⟨gb988, 1, none⟩ = some (.int .i64 a0_1) ∧ w'.cell? ⟨gb988, 2, none⟩ = some (.int .i64 a0_2) ∧ w'.cell? ⟨gb988, 3, none⟩ = some (.int .i64 a0_3) ∧ w'.cell? ⟨gb988, 4, none⟩ = some (.int .i64 a0_4) ∧ w'.cell? ⟨gb988, 5, none⟩ = some (.int .i64 a0_5) ∧ w'.cell? ⟨gb988, 6, none⟩ = some (.slice A0_6 l0_6.length c0_6)) (ds := []) #[false, false, false, false, false, false, false, false, false, false, false, false, false] (by kernel_rfl) rfl rfl ⟨(blk_cell BK988.out 0).trans rfl, (blk_cell BK988.out 1).trans rfl, (blk_cell BK988.out 2).trans rfl, (blk_cell BK988.out 3).trans rfl, (blk_cell BK988.out 4).trans rfl, (blk_cell BK988.out 5).trans rfl, (blk_cell BK988.out 6).trans rfl⟩ (fun hHeld => ?_); refine with_tabW sashlaw08_LeastSums.tab4 sashlaw08_LeastSums.bits4 (fun HT_ HW_ => ?_)
      generalize wc.drew = w38 at BK988 HB hHeld ⊢
      refine pure_ (i := 1) (N := some 29) (v := ?_) (a' := ?_) #[false, true, false, false, false, false, false, false, false, false, false, false, false] rfl rfl (any_of HT_.out (by kernel_rfl)) (fun _ _ _ h => h) (Or.inl ⟨by rfl, ?_⟩) ?_ ?_
      rotate_left
      ·intro w'
       go_simp
       with_reducible rfl
      rotate_left
      ·simp only [Act.put, List.setIfInBounds_toArray, List.set_cons_zero, List.set_cons_succ, i64_w, i32_w]
       rfl
      refine pure_ (i := 3) (N := some 31) (v := ?_) (a' := ?_) #[false, true, false, true, false, false, false, false, false, false, false, false, false] rfl rfl (any_of HT_.out (by kernel_rfl)) (fun _ _ _ h => h) (Or.inl ⟨by rfl, ?_⟩) ?_ ?_
      rotate_left
      ·intro w'
       go_simp
       with_reducible rfl
      rotate_left
      ·simp only [Act.put, List.setIfInBounds_toArray, List.set_cons_zero, List.set_cons_succ, i64_w, i32_w]
       rfl
      refine pure_ (i := 5) (N := some 33) (v := ?_) (a' := ?_) #[false, true, false, true, false, true, false, false, false, false, false, false, false] rfl rfl (any_of HT_.out (by kernel_rfl)) (fun _ _ _ h => h) (Or.inl ⟨by rfl, ?_⟩) ?_ ?_
      rotate_left
      ·intro w'
       go_simp
       with_reducible rfl
      rotate_left
      ·simp only [Act.put, List.setIfInBounds_toArray, List.set_cons_zero, List.set_cons_succ, i64_w, i32_w]
       rfl
      refine take_ (i := 0) (N := some 28) (v := ?_) (a' := ?_) #[true, true, false, true, false, true, false, false, false, false, false, false, false] rfl rfl (take_ofW HT_.out HW_.out (by kernel_rfl)) (fun _ _ _ h => h) (Or.inl ⟨by rfl, ?_⟩) hHeld ?_ ?_
      rotate_left
      ·rintro w' ⟨s0, s1, s2, s3, s4, s5, s6⟩
       go_simp
       with_reducible rfl
      rotate_left
      ·simp only [Act.put, List.setIfInBounds_toArray, List.set_cons_zero, List.set_cons_succ, i64_w, i32_w]
       rfl
      refine take_ (i := 4) (N := some 32) (v := ?_) (a' := ?_) #[true, true, false, true, true, true, false, false, false, false, false, false, false] rfl rfl (take_ofW HT_.out HW_.out (by kernel_rfl)) (fun _ _ _ h => h) (Or.inl ⟨by rfl, ?_⟩) hHeld ?_ ?_
      rotate_left
      ·rintro w' ⟨s0, s1, s2, s3, s4, s5, s6⟩
       go_simp
       with_reducible rfl
      rotate_left
      ·simp only [Act.put, List.setIfInBounds_toArray, List.set_cons_zero, List.set_cons_succ, i64_w, i32_w]
       rfl
      refine one_ (i := 2) (N := some 30) #[true, true, true, true, true, true, false, false, false, false, false, false, false] rfl rfl (one_of HT_.out (by kernel_rfl)) (by decide) (fun K hK => ?_)
      refine goes_ Try.func86 (by kernel_rfl) rfl #[.agg #[.int .u8 a0_0, .int .i64 a0_1, .int .i64 a0_2, .int .i64 a0_3, .int .i64 a0_4, .int .i64 a0_5, .slice A0_6 l0_6.length c0_6], .int .u8 a1] (by rfl) rfl rfl (by (try simp only [List.map_toArray, List.map_cons, List.map_nil]); rfl) ?_
      with_reducible refine (least_Gives.calls kj2 a0_0 a0_1 a0_2 a0_3 a0_4 a0_5 (fun k_ => k_ < w.heap.size) _ _ l0_6 a1 t992 _ ?side1 A28.out).mono ?_
      (case side1 => exact Kd.V_mk HC0_6.out (Kd.F_below (Kd.C_F k26_heap HR0_6.out) (by repeat ((with_reducible exact HB.out)))))
      rintro e w39 ⟨rfl, hb⟩
      refine ⟨_, rfl, ?_⟩
      replace BK988 := Aside0.mk (blk_below BK988.out hb); replace HB := Aside0.mk (below_step (by repeat ((with_reducible exact HB.out))) hb)
      (try clear hb)
      (skip)
      (skip)
      (skip)
      refine hK.out _ _ ⟨(blk_cell BK988.out 0).trans rfl, (blk_cell BK988.out 1).trans rfl, (blk_cell BK988.out 2).trans rfl, (blk_cell BK988.out 3).trans rfl, (blk_cell BK988.out 4).trans rfl, (blk_cell BK988.out 5).trans rfl, (blk_cell BK988.out 6).trans rfl⟩ (fun hHeld => ?_)
      clear hK K
      refine norm_ (a' := ?_) ?_ ?_
      rotate_left
      ·show Act.put _ (some 30) _ = _
       simp only [Act.put, List.setIfInBounds_toArray, List.set_cons_zero, List.set_cons_succ, i64_w, i32_w]
       rfl
      refine one_ (i := 6) (N := some 34) #[true, true, true, true, true, true, true, false, false, false, false, false, false] rfl rfl (one_of HT_.out (by kernel_rfl)) (by decide) (fun K hK => ?_)
      refine goes_ Try.func87 (by kernel_rfl) rfl #[.agg #[.int .i64 a0_1, .int .i64 a0_2, .int .i64 a0_3, .int .i64 a0_4], .int .u8 a1] (by rfl) rfl rfl (by (try simp only [List.map_toArray, List.map_cons, List.map_nil]); rfl) ?_
      with_reducible refine (sashref08_Size.calls a0_1 a0_2 a0_3 a0_4 a1 t993 _ A29.out).mono ?_
      rintro e w40 ⟨rfl, hb⟩
      refine ⟨_, rfl, ?_⟩
      replace BK988 := Aside0.mk (blk_below BK988.out hb); replace HB := Aside0.mk (below_step (by repeat ((with_reducible exact HB.out))) hb)
      (try clear hb)
      (skip)
      (skip)
      (skip)
      refine hK.out _ _ ⟨(blk_cell BK988.out 0).trans rfl, (blk_cell BK988.out 1).trans rfl, (blk_cell BK988.out 2).trans rfl, (blk_cell BK988.out 3).trans rfl, (blk_cell BK988.out 4).trans rfl, (blk_cell BK988.out 5).trans rfl, (blk_cell BK988.out 6).trans rfl⟩ (fun hHeld => ?_)
      clear hK K
      refine norm_ (a' := ?_) ?_ ?_
      rotate_left
      ·show Act.put _ (some 34) _ = _
       simp only [Act.put, List.setIfInBounds_toArray, List.set_cons_zero, List.set_cons_succ, i64_w, i32_w]
       rfl
      refine pure_ (i := 7) (N := some 35) (v := ?_) (a' := ?_) #[true, true, true, true, true, true, true, true, false, false, false, false, false] rfl rfl (any_of HT_.out (by kernel_rfl)) (fun _ _ _ h => h) (Or.inl ⟨by rfl, ?_⟩) ?_ ?_
      rotate_left
      ·intro w'
       go_simp
       with_reducible rfl
      rotate_left
      ·simp only [Act.put, List.setIfInBounds_toArray, List.set_cons_zero, List.set_cons_succ, i64_w, i32_w]
       rfl
      refine pure_ (i := 8) (N := some 36) (v := ?_) (a' := ?_) #[true, true, true, true, true, true, true, true, true, false, false, false, false] rfl rfl (any_of HT_.out (by kernel_rfl)) (fun _ _ _ h => h) (Or.inl ⟨by rfl, ?_⟩) ?_ ?_
      rotate_left
      ·intro w'
       go_simp
       with_reducible rfl
      rotate_left
      ·simp only [Act.put, List.setIfInBounds_toArray, List.set_cons_zero, List.set_cons_succ, i64_w, i32_w]
       rfl
      refine pure_ (i := 9) (N := some 37) (v := ?_) (a' := ?_) #[true, true, true, true, true, true, true, true, true, true, false, false, false] rfl rfl (any_of HT_.out (by kernel_rfl)) (fun _ _ _ h => h) (Or.inl ⟨by rfl, ?_⟩) ?_ ?_
      rotate_left
      ·intro w'
       go_simp
       with_reducible rfl
      rotate_left
      ·simp only [Act.put, List.setIfInBounds_toArray, List.set_cons_zero, List.set_cons_succ, i64_w, i32_w]
       rfl
      refine pure_ (i := 10) (N := some 38) (v := undef) (a' := ?_) #[true, true, true, true, true, true, true, true, true, true, true, false, false] rfl rfl (any_of HT_.out (by kernel_rfl)) (fun _ _ _ h => h) (Or.inr ⟨by rfl, rfl⟩) ?_ ?_
      rotate_left
      ·simp only [Act.put, List.setIfInBounds_toArray, List.set_cons_zero, List.set_cons_succ, i64_w, i32_w]
       rfl
      refine pure_ (i := 11) (N := some 39) (v := ?_) (a' := ?_) #[true, true, true, true, true, true, true, true, true, true, true, true, false] rfl rfl (any_of HT_.out (by kernel_rfl)) (fun _ _ _ h => h) (Or.inl ⟨by rfl, ?_⟩) ?_ ?_
      rotate_left
      ·intro w'
       go_simp
       with_reducible rfl
      rotate_left
      ·simp only [Act.put, List.setIfInBounds_toArray, List.set_cons_zero, List.set_cons_succ, i64_w, i32_w]
       rfl
      refine pure_ (i := 12) (N := some 4) (v := ?_) (a' := ?_) #[true, true, true, true, true, true, true, true, true, true, true, true, true] rfl rfl (any_of HT_.out (by kernel_rfl)) (fun _ _ _ h => h) (Or.inl ⟨by rfl, ?_⟩) ?_ ?_
      rotate_left
      ·intro w'
       go_simp
       with_reducible rfl
      rotate_left
      ·simp only [Act.put, List.setIfInBounds_toArray, List.set_cons_zero, List.set_cons_succ, i64_w, i32_w]
       rfl
      refine done_ (done_of HT_.out (by kernel_rfl)) ?_
      try go_wp2
      go_ret
      exact ⟨by rfl, by repeat ((with_reducible exact HB.out))⟩
    ·rw [if_neg c27] at H
     have c27b0 : (a0_0 == 1) = false := beq_eq_false_iff_ne.mpr c27
     have c27b1 : (a0_0 != 1) = true := bne_iff_ne.mpr c27
     have H' := Aside0.mk H
     clear H
     have hcz41_0 : wc.cell? ⟨gb988, 0, none⟩ = some (.int .u8 a0_0) := (blk_cell BK988.out 0).trans rfl
     have hcz41_1 : wc.cell? ⟨gb988, 1, none⟩ = some (.int .i64 a0_1) := (blk_cell BK988.out 1).trans rfl
     have hcz41_2 : wc.cell? ⟨gb988, 2, none⟩ = some (.int .i64 a0_2) := (blk_cell BK988.out 2).trans rfl
     have hcz41_3 : wc.cell? ⟨gb988, 3, none⟩ = some (.int .i64 a0_3) := (blk_cell BK988.out 3).trans rfl
     have hcz41_4 : wc.cell? ⟨gb988, 4, none⟩ = some (.int .i64 a0_4) := (blk_cell BK988.out 4).trans rfl
     have hcz41_5 : wc.cell? ⟨gb988, 5, none⟩ = some (.int .i64 a0_5) := (blk_cell BK988.out 5).trans rfl
     have hcz41_6 : wc.cell? ⟨gb988, 6, none⟩ = some (.slice A0_6 l0_6.length c0_6) := (blk_cell BK988.out 6).trans rfl
     have hfz41_0 := blk_frozen BK988.out 0
     have hfz41_1 := blk_frozen BK988.out 1
     have hfz41_2 := blk_frozen BK988.out 2
     have hfz41_3 := blk_frozen BK988.out 3
     have hfz41_4 := blk_frozen BK988.out 4
     have hfz41_5 := blk_frozen BK988.out 5
     have hfz41_6 := blk_frozen BK988.out 6
     go_wp2
     go_loopg [5, 6, 7] kj2 (fun kq v5 v6 v7 w' => ∃ (x5_2 : Int) (x6_2 : Int) (x7_2 : Int), v5 = .int .i64 x5_2 ∧ v6 = .int .i64 x6_2 ∧ v7 = .int .i64 x7_2 ∧ Aside0 (sashlaw08_LeastSums.l0 kq a1 x5_2 x6_2 x7_2 a0_0 a0_1 a0_2 a0_3 a0_4 a0_5 l0_6 = some r) ∧ Aside0 (kq ≤ kj2) ∧ Aside0 (w'.heap[gb988]? = some (.cells #[.int .u8 a0_0, .int .i64 a0_1, .int .i64 a0_2, .int .i64 a0_3, .int .i64 a0_4, .int .i64 a0_5, (.slice A0_6 l0_6.length c0_6)] 26 (0, 0))) ∧ Aside0 (Below w.heap.size w w'))
     case atStart => exact ⟨(0), (10000), (0), (by rfl), (by rfl), (by rfl), H', ⟨Nat.le_refl _⟩, ⟨by exact BK988.out⟩, ⟨by repeat ((with_reducible exact HB.out))⟩⟩
     case round =>
      clear H'
      clear c27 c27b0 c27b1 hcz41_0 hcz41_1 hcz41_2 hcz41_3 hcz41_4 hcz41_5 hcz41_6 hfz41_0 hfz41_1 hfz41_2 hfz41_3 hfz41_4 hfz41_5 hfz41_6
      obtain ⟨x5_2, x6_2, x7_2, rfl, rfl, rfl, HA, HK2, BK988, HB⟩ := hrel
      cases gk with
      | zero => exact absurd HA.out (by simp [sashlaw08_LeastSums.l0])
      | succ k2 =>
       have H := HA.out
       clear HA
       simp only [sashlaw08_LeastSums.l0] at H
       by_cases c42 : x7_2 < (l0_6.length : Int)
       ·rw [if_pos c42] at H
        have c42b0 : decide (x7_2 < (l0_6.length : Int)) = true := decide_eq_true c42
        clear c42
        by_cases c43 : 0 ≤ x7_2
        ·rw [if_pos c43] at H
         have c43b0 : decide (0 ≤ x7_2) = true := decide_eq_true c43
         clear c43
         replace H := Option.bind_eq_some_iff.mp H
         obtain ⟨t996, A440, H⟩ := H
         replace H : (sashlaw08_LeastSums.l0 k2 a1 (wrap64 (x5_2 + t996)) (mn x6_2 t996) (wrap64 (x7_2 + 1)) a0_0 a0_1 a0_2 a0_3 a0_4 a0_5 l0_6) = some r := H
         have A44 := Aside0.mk A440
         clear A440
         obtain ⟨ji45, hji45⟩ : ∃ j_ : Int, (mn x6_2 t996) = j_ := ⟨_, rfl⟩
         replace H : (sashlaw08_LeastSums.l0 k2 a1 (wrap64 (x5_2 + t996)) ji45 (wrap64 (x7_2 + 1)) a0_0 a0_1 a0_2 a0_3 a0_4 a0_5 l0_6) = some r := by (rw [hji45] at H; exact H)
         (skip)
         have hji45_ : (if t996 < x6_2 then t996 else x6_2) = ji45 := hji45
         have H' := Aside0.mk H
         clear H
         have hcz46_0 : wr.cell? ⟨gb988, 0, none⟩ = some (.int .u8 a0_0) := (blk_cell BK988.out 0).trans rfl
         have hcz46_1 : wr.cell? ⟨gb988, 1, none⟩ = some (.int .i64 a0_1) := (blk_cell BK988.out 1).trans rfl
         have hcz46_2 : wr.cell? ⟨gb988, 2, none⟩ = some (.int .i64 a0_2) := (blk_cell BK988.out 2).trans rfl
         have hcz46_3 : wr.cell? ⟨gb988, 3, none⟩ = some (.int .i64 a0_3) := (blk_cell BK988.out 3).trans rfl
         have hcz46_4 : wr.cell? ⟨gb988, 4, none⟩ = some (.int .i64 a0_4) := (blk_cell BK988.out 4).trans rfl
         have hcz46_5 : wr.cell? ⟨gb988, 5, none⟩ = some (.int .i64 a0_5) := (blk_cell BK988.out 5).trans rfl
         have hcz46_6 : wr.cell? ⟨gb988, 6, none⟩ = some (.slice A0_6 l0_6.length c0_6) := (blk_cell BK988.out 6).trans rfl
         have hfz46_0 := blk_frozen BK988.out 0
         have hfz46_1 := blk_frozen BK988.out 1
         have hfz46_2 := blk_frozen BK988.out 2
         have hfz46_3 := blk_frozen BK988.out 3
         have hfz46_4 := blk_frozen BK988.out 4
         have hfz46_5 := blk_frozen BK988.out 5
         have hfz46_6 := blk_frozen BK988.out 6
         have p995 : 0 ≤ (x7_2 : Int) := of_decide_eq_true (by (with_reducible assumption))
         have q995 : x7_2 < (l0_6.length : Int) := of_decide_eq_true (by (with_reducible assumption))
         obtain ⟨ad995, A995_6, c995_6, e995, hx995_0, hx995_1, hx995_2, hx995_3, hx995_4, hx995_5, hx995_6, hl995_6, hi995_6⟩ := at_T26 HR0_6.out x7_2 p995 q995
         cases e995
         replace hx995_0 := (HB.out.cell (World.block_lt_of_cell? w _ hx995_0)).trans hx995_0
         replace hx995_1 := (HB.out.cell (World.block_lt_of_cell? w _ hx995_1)).trans hx995_1
         replace hx995_2 := (HB.out.cell (World.block_lt_of_cell? w _ hx995_2)).trans hx995_2
         replace hx995_3 := (HB.out.cell (World.block_lt_of_cell? w _ hx995_3)).trans hx995_3
         replace hx995_4 := (HB.out.cell (World.block_lt_of_cell? w _ hx995_4)).trans hx995_4
         replace hx995_5 := (HB.out.cell (World.block_lt_of_cell? w _ hx995_5)).trans hx995_5
         replace hx995_6 := (HB.out.cell (World.block_lt_of_cell? w _ hx995_6)).trans hx995_6
         have HR995_6 := Aside0.mk hi995_6
         have HC995_6 := Aside0.mk hl995_6
         clear hi995_6 hl995_6
         replace p995 := eq_true p995
         replace q995 := eq_true q995
         go_wp2_with (((with_reducible refine gate_callee (f := 86) rfl ?_); refine goesL_ (some 53) rfl rfl Try.func86 (by kernel_rfl) rfl #[.agg #[.int .u8 ((rd_T26 l0_6 x7_2).f0), .int .i64 ((rd_T26 l0_6 x7_2).f1.f0), .int .i64 ((rd_T26 l0_6 x7_2).f1.f1), .int .i64 ((rd_T26 l0_6 x7_2).f1.f2), .int .i64 ((rd_T26 l0_6 x7_2).f1.f3), .int .i64 ((rd_T26 l0_6 x7_2).f2), .slice A995_6 ((rd_T26 l0_6 x7_2).f3).length c995_6], .int .u8 a1] rfl (by (try simp only [List.map_toArray, List.map_cons, List.map_nil]); rfl) ?_; (with_reducible refine (least_Gives.calls k2 ((rd_T26 l0_6 x7_2).f0) ((rd_T26 l0_6 x7_2).f1.f0) ((rd_T26 l0_6 x7_2).f1.f1) ((rd_T26 l0_6 x7_2).f1.f2) ((rd_T26 l0_6 x7_2).f1.f3) ((rd_T26 l0_6 x7_2).f2) (fun k_ => k_ < w.heap.size) _ _ ((rd_T26 l0_6 x7_2).f3) a1 t996 _ ?side1 A44.out).mono ?_); (case side1 => exact Kd.V_mk HC995_6.out (Kd.F_below (Kd.C_F k26_heap HR995_6.out) (by repeat ((with_reducible exact HB.out))))); rintro e w47 ⟨rfl, hb⟩; refine ⟨_, rfl, ?_⟩; replace BK988 := Aside0.mk (blk_below BK988.out hb); replace HB := Aside0.mk (below_step (by repeat ((with_reducible exact HB.out))) hb); (try clear hb)))
         go_roundg k2
         case measure => have := HJ2.out; have := HK2.out; omega
         case rel => exact ⟨(wrap64 (x5_2 + t996)), (ji45), (wrap64 (x7_2 + 1)), (by rfl), (by rfl), (by rfl), H', ⟨by have := HJ2.out; have := HK2.out; omega⟩, ⟨by exact BK988.out⟩, ⟨by repeat ((with_reducible exact HB.out))⟩⟩
        ·rw [if_neg c43] at H
         exact absurd H (by simp)
       ·rw [if_neg c42] at H
        have c42b0 : decide (x7_2 < (l0_6.length : Int)) = false := decide_eq_false c42
        clear c42
        replace H := Option.bind_eq_some_iff.mp H
        obtain ⟨t997, A480, H⟩ := H
        replace H : (if t997 = true then ((least_Gives.f k2 a0_0 a0_1 a0_2 a0_3 a0_4 a0_5 l0_6 a1).bind fun t998 => (if t998 = x5_2 then ((sashlaw08_awake.f).bind fun t999 => (some t999)) else (some false))) else ((least_Gives.f k2 a0_0 a0_1 a0_2 a0_3 a0_4 a0_5 l0_6 a1).bind fun t1000 => (if t1000 = x6_2 then ((sashlaw08_awake.f).bind fun t1001 => (some t1001)) else (some false)))) = some r := H
        have A48 := Aside0.mk A480
        clear A480
        by_cases c49 : t997 = true
        ·subst c49
         have H1 : ((least_Gives.f k2 a0_0 a0_1 a0_2 a0_3 a0_4 a0_5 l0_6 a1).bind fun t998 => (if t998 = x5_2 then ((sashlaw08_awake.f).bind fun t999 => (some t999)) else (some false))) = some r := by rw [if_pos rfl] at H; exact H
         clear H
         have H := H1
         clear H1
         replace H := Option.bind_eq_some_iff.mp H
         obtain ⟨t998, A500, H⟩ := H
         replace H : (if t998 = x5_2 then ((sashlaw08_awake.f).bind fun t999 => (some t999)) else (some false)) = some r := H
         have A50 := Aside0.mk A500
         clear A500
         by_cases c51 : t998 = x5_2
         ·rw [if_pos c51] at H
          have c51b0 : (t998 == x5_2) = true := beq_iff_eq.mpr c51
          have c51b1 : (t998 != x5_2) = false := bne_eq_false_iff_eq.mpr c51
          clear c51
          replace H := Option.bind_eq_some_iff.mp H
          obtain ⟨t999, A520, H⟩ := H
          replace H : (some t999) = some r := H
          have A52 := Aside0.mk A520
          clear A520
          obtain rfl := Option.some.inj H
          have hcz53_0 : wr.cell? ⟨gb988, 0, none⟩ = some (.int .u8 a0_0) := (blk_cell BK988.out 0).trans rfl
          have hcz53_1 : wr.cell? ⟨gb988, 1, none⟩ = some (.int .i64 a0_1) := (blk_cell BK988.out 1).trans rfl
          have hcz53_2 : wr.cell? ⟨gb988, 2, none⟩ = some (.int .i64 a0_2) := (blk_cell BK988.out 2).trans rfl
          have hcz53_3 : wr.cell? ⟨gb988, 3, none⟩ = some (.int .i64 a0_3) := (blk_cell BK988.out 3).trans rfl
          have hcz53_4 : wr.cell? ⟨gb988, 4, none⟩ = some (.int .i64 a0_4) := (blk_cell BK988.out 4).trans rfl
          have hcz53_5 : wr.cell? ⟨gb988, 5, none⟩ = some (.int .i64 a0_5) := (blk_cell BK988.out 5).trans rfl
          have hcz53_6 : wr.cell? ⟨gb988, 6, none⟩ = some (.slice A0_6 l0_6.length c0_6) := (blk_cell BK988.out 6).trans rfl
          have hfz53_0 := blk_frozen BK988.out 0
          have hfz53_1 := blk_frozen BK988.out 1
          have hfz53_2 := blk_frozen BK988.out 2
          have hfz53_3 := blk_frozen BK988.out 3
          have hfz53_4 := blk_frozen BK988.out 4
          have hfz53_5 := blk_frozen BK988.out 5
          have hfz53_6 := blk_frozen BK988.out 6
          go_wp2_with (first | ((with_reducible refine gate_callee (f := 88) rfl ?_); refine goesL_ (some 62) rfl rfl Try.func88 (by kernel_rfl) rfl #[.agg #[.int .u8 a0_0, .int .i64 a0_1, .int .i64 a0_2, .int .i64 a0_3, .int .i64 a0_4, .int .i64 a0_5, .slice A0_6 l0_6.length c0_6], .int .u8 a1] rfl (by (try simp only [List.map_toArray, List.map_cons, List.map_nil]); rfl) ?_; (with_reducible refine (sashref08_Along.calls a0_0 a0_1 a0_2 a0_3 a0_4 a0_5 _ _ l0_6 a1 true _ ?side1 ?side2 A48.out).mono ?_); (case side1 => repeat (exact (Kd.C_below HR0_6.out HB.out))); (case side2 => exact HC0_6.out); rintro e w54 ⟨rfl, hb⟩; refine ⟨_, rfl, ?_⟩; replace BK988 := Aside0.mk (blk_below BK988.out hb); replace HB := Aside0.mk (below_step (by repeat ((with_reducible exact HB.out))) hb); (try clear hb); have hcz55_0 : w54.cell? ⟨gb988, 0, none⟩ = some (.int .u8 a0_0) := (blk_cell BK988.out 0).trans rfl; have hcz55_1 : w54.cell? ⟨gb988, 1, none⟩ = some (.int .i64 a0_1) := (blk_cell BK988.out 1).trans rfl; have hcz55_2 : w54.cell? ⟨gb988, 2, none⟩ = some (.int .i64 a0_2) := (blk_cell BK988.out 2).trans rfl; have hcz55_3 : w54.cell? ⟨gb988, 3, none⟩ = some (.int .i64 a0_3) := (blk_cell BK988.out 3).trans rfl; have hcz55_4 : w54.cell? ⟨gb988, 4, none⟩ = some (.int .i64 a0_4) := (blk_cell BK988.out 4).trans rfl; have hcz55_5 : w54.cell? ⟨gb988, 5, none⟩ = some (.int .i64 a0_5) := (blk_cell BK988.out 5).trans rfl; have hcz55_6 : w54.cell? ⟨gb988, 6, none⟩ = some (.slice A0_6 l0_6.length c0_6) := (blk_cell BK988.out 6).trans rfl; have hfz55_0 := blk_frozen BK988.out 0; have hfz55_1 := blk_frozen BK988.out 1; have hfz55_2 := blk_frozen BK988.out 2; have hfz55_3 := blk_frozen BK988.out 3; have hfz55_4 := blk_frozen BK988.out 4; have hfz55_5 := blk_frozen BK988.out 5; have hfz55_6 := blk_frozen BK988.out 6) | ((with_reducible refine gate_callee (f := 86) rfl ?_); refine goesL_ (some 65) rfl rfl Try.func86 (by kernel_rfl) rfl #[.agg #[.int .u8 a0_0, .int .i64 a0_1, .int .i64 a0_2, .int .i64 a0_3, .int .i64 a0_4, .int .i64 a0_5, .slice A0_6 l0_6.length c0_6], .int .u8 a1] rfl (by (try simp only [List.map_toArray, List.map_cons, List.map_nil]); rfl) ?_; (with_reducible refine (least_Gives.calls k2 a0_0 a0_1 a0_2 a0_3 a0_4 a0_5 (fun k_ => k_ < w.heap.size) _ _ l0_6 a1 t998 _ ?side1 A50.out).mono ?_); (case side1 => exact Kd.V_mk HC0_6.out (Kd.F_below (Kd.C_F k26_heap HR0_6.out) (by repeat ((with_reducible exact HB.out))))); rintro e w56 ⟨rfl, hb⟩; refine ⟨_, rfl, ?_⟩; replace BK988 := Aside0.mk (blk_below BK988.out hb); replace HB := Aside0.mk (below_step (by repeat ((with_reducible exact HB.out))) hb); (try clear hb)) | (go_at_call 85; (with_reducible refine (sashlaw08_awake.calls  t999 _ A52.out).mono ?_); rintro e w57 ⟨rfl, hb⟩; replace BK988 := Aside0.mk (blk_below BK988.out hb); replace HB := Aside0.mk (below_step (by repeat ((with_reducible exact HB.out))) hb); (try clear hb)))
          go_ret
          exact ⟨by rfl, by repeat ((with_reducible exact HB.out))⟩
         ·rw [if_neg c51] at H
          have c51b0 : (t998 == x5_2) = false := beq_eq_false_iff_ne.mpr c51
          have c51b1 : (t998 != x5_2) = true := bne_iff_ne.mpr c51
          obtain rfl := Option.some.inj H
          have hcz58_0 : wr.cell? ⟨gb988, 0, none⟩ = some (.int .u8 a0_0) := (blk_cell BK988.out 0).trans rfl
          have hcz58_1 : wr.cell? ⟨gb988, 1, none⟩ = some (.int .i64 a0_1) := (blk_cell BK988.out 1).trans rfl
          have hcz58_2 : wr.cell? ⟨gb988, 2, none⟩ = some (.int .i64 a0_2) := (blk_cell BK988.out 2).trans rfl
          have hcz58_3 : wr.cell? ⟨gb988, 3, none⟩ = some (.int .i64 a0_3) := (blk_cell BK988.out 3).trans rfl
          have hcz58_4 : wr.cell? ⟨gb988, 4, none⟩ = some (.int .i64 a0_4) := (blk_cell BK988.out 4).trans rfl
          have hcz58_5 : wr.cell? ⟨gb988, 5, none⟩ = some (.int .i64 a0_5) := (blk_cell BK988.out 5).trans rfl
          have hcz58_6 : wr.cell? ⟨gb988, 6, none⟩ = some (.slice A0_6 l0_6.length c0_6) := (blk_cell BK988.out 6).trans rfl
          have hfz58_0 := blk_frozen BK988.out 0
          have hfz58_1 := blk_frozen BK988.out 1
          have hfz58_2 := blk_frozen BK988.out 2
          have hfz58_3 := blk_frozen BK988.out 3
          have hfz58_4 := blk_frozen BK988.out 4
          have hfz58_5 := blk_frozen BK988.out 5
          have hfz58_6 := blk_frozen BK988.out 6
          go_wp2_with (first | ((with_reducible refine gate_callee (f := 88) rfl ?_); refine goesL_ (some 62) rfl rfl Try.func88 (by kernel_rfl) rfl #[.agg #[.int .u8 a0_0, .int .i64 a0_1, .int .i64 a0_2, .int .i64 a0_3, .int .i64 a0_4, .int .i64 a0_5, .slice A0_6 l0_6.length c0_6], .int .u8 a1] rfl (by (try simp only [List.map_toArray, List.map_cons, List.map_nil]); rfl) ?_; (with_reducible refine (sashref08_Along.calls a0_0 a0_1 a0_2 a0_3 a0_4 a0_5 _ _ l0_6 a1 true _ ?side1 ?side2 A48.out).mono ?_); (case side1 => repeat (exact (Kd.C_below HR0_6.out HB.out))); (case side2 => exact HC0_6.out); rintro e w59 ⟨rfl, hb⟩; refine ⟨_, rfl, ?_⟩; replace BK988 := Aside0.mk (blk_below BK988.out hb); replace HB := Aside0.mk (below_step (by repeat ((with_reducible exact HB.out))) hb); (try clear hb); have hcz60_0 : w59.cell? ⟨gb988, 0, none⟩ = some (.int .u8 a0_0) := (blk_cell BK988.out 0).trans rfl; have hcz60_1 : w59.cell? ⟨gb988, 1, none⟩ = some (.int .i64 a0_1) := (blk_cell BK988.out 1).trans rfl; have hcz60_2 : w59.cell? ⟨gb988, 2, none⟩ = some (.int .i64 a0_2) := (blk_cell BK988.out 2).trans rfl; have hcz60_3 : w59.cell? ⟨gb988, 3, none⟩ = some (.int .i64 a0_3) := (blk_cell BK988.out 3).trans rfl; have hcz60_4 : w59.cell? ⟨gb988, 4, none⟩ = some (.int .i64 a0_4) := (blk_cell BK988.out 4).trans rfl; have hcz60_5 : w59.cell? ⟨gb988, 5, none⟩ = some (.int .i64 a0_5) := (blk_cell BK988.out 5).trans rfl; have hcz60_6 : w59.cell? ⟨gb988, 6, none⟩ = some (.slice A0_6 l0_6.length c0_6) := (blk_cell BK988.out 6).trans rfl; have hfz60_0 := blk_frozen BK988.out 0; have hfz60_1 := blk_frozen BK988.out 1; have hfz60_2 := blk_frozen BK988.out 2; have hfz60_3 := blk_frozen BK988.out 3; have hfz60_4 := blk_frozen BK988.out 4; have hfz60_5 := blk_frozen BK988.out 5; have hfz60_6 := blk_frozen BK988.out 6) | ((with_reducible refine gate_callee (f := 86) rfl ?_); refine goesL_ (some 65) rfl rfl Try.func86 (by kernel_rfl) rfl #[.agg #[.int .u8 a0_0, .int .i64 a0_1, .int .i64 a0_2, .int .i64 a0_3, .int .i64 a0_4, .int .i64 a0_5, .slice A0_6 l0_6.length c0_6], .int .u8 a1] rfl (by (try simp only [List.map_toArray, List.map_cons, List.map_nil]); rfl) ?_; (with_reducible refine (least_Gives.calls k2 a0_0 a0_1 a0_2 a0_3 a0_4 a0_5 (fun k_ => k_ < w.heap.size) _ _ l0_6 a1 t998 _ ?side1 A50.out).mono ?_); (case side1 => exact Kd.V_mk HC0_6.out (Kd.F_below (Kd.C_F k26_heap HR0_6.out) (by repeat ((with_reducible exact HB.out))))); rintro e w61 ⟨rfl, hb⟩; refine ⟨_, rfl, ?_⟩; replace BK988 := Aside0.mk (blk_below BK988.out hb); replace HB := Aside0.mk (below_step (by repeat ((with_reducible exact HB.out))) hb); (try clear hb)))
          go_ret
          exact ⟨by rfl, by repeat ((with_reducible exact HB.out))⟩
        ·replace c49 := Bool.eq_false_iff.mpr c49
         subst c49
         have H1 : ((least_Gives.f k2 a0_0 a0_1 a0_2 a0_3 a0_4 a0_5 l0_6 a1).bind fun t1000 => (if t1000 = x6_2 then ((sashlaw08_awake.f).bind fun t1001 => (some t1001)) else (some false))) = some r := by rw [if_neg (show ¬ (false = true) by decide)] at H; exact H
         clear H
         have H := H1
         clear H1
         replace H := Option.bind_eq_some_iff.mp H
         obtain ⟨t1000, A620, H⟩ := H
         replace H : (if t1000 = x6_2 then ((sashlaw08_awake.f).bind fun t1001 => (some t1001)) else (some false)) = some r := H
         have A62 := Aside0.mk A620
         clear A620
         by_cases c63 : t1000 = x6_2
         ·rw [if_pos c63] at H
          have c63b0 : (t1000 == x6_2) = true := beq_iff_eq.mpr c63
          have c63b1 : (t1000 != x6_2) = false := bne_eq_false_iff_eq.mpr c63
          clear c63
          replace H := Option.bind_eq_some_iff.mp H
          obtain ⟨t1001, A640, H⟩ := H
          replace H : (some t1001) = some r := H
          have A64 := Aside0.mk A640
          clear A640
          obtain rfl := Option.some.inj H
          have hcz65_0 : wr.cell? ⟨gb988, 0, none⟩ = some (.int .u8 a0_0) := (blk_cell BK988.out 0).trans rfl
          have hcz65_1 : wr.cell? ⟨gb988, 1, none⟩ = some (.int .i64 a0_1) := (blk_cell BK988.out 1).trans rfl
          have hcz65_2 : wr.cell? ⟨gb988, 2, none⟩ = some (.int .i64 a0_2) := (blk_cell BK988.out 2).trans rfl
          have hcz65_3 : wr.cell? ⟨gb988, 3, none⟩ = some (.int .i64 a0_3) := (blk_cell BK988.out 3).trans rfl
          have hcz65_4 : wr.cell? ⟨gb988, 4, none⟩ = some (.int .i64 a0_4) := (blk_cell BK988.out 4).trans rfl
          have hcz65_5 : wr.cell? ⟨gb988, 5, none⟩ = some (.int .i64 a0_5) := (blk_cell BK988.out 5).trans rfl
          have hcz65_6 : wr.cell? ⟨gb988, 6, none⟩ = some (.slice A0_6 l0_6.length c0_6) := (blk_cell BK988.out 6).trans rfl
          have hfz65_0 := blk_frozen BK988.out 0
          have hfz65_1 := blk_frozen BK988.out 1
          have hfz65_2 := blk_frozen BK988.out 2
          have hfz65_3 := blk_frozen BK988.out 3
          have hfz65_4 := blk_frozen BK988.out 4
          have hfz65_5 := blk_frozen BK988.out 5
          have hfz65_6 := blk_frozen BK988.out 6
          go_wp2_with (first | ((with_reducible refine gate_callee (f := 88) rfl ?_); refine goesL_ (some 62) rfl rfl Try.func88 (by kernel_rfl) rfl #[.agg #[.int .u8 a0_0, .int .i64 a0_1, .int .i64 a0_2, .int .i64 a0_3, .int .i64 a0_4, .int .i64 a0_5, .slice A0_6 l0_6.length c0_6], .int .u8 a1] rfl (by (try simp only [List.map_toArray, List.map_cons, List.map_nil]); rfl) ?_; (with_reducible refine (sashref08_Along.calls a0_0 a0_1 a0_2 a0_3 a0_4 a0_5 _ _ l0_6 a1 false _ ?side1 ?side2 A48.out).mono ?_); (case side1 => repeat (exact (Kd.C_below HR0_6.out HB.out))); (case side2 => exact HC0_6.out); rintro e w66 ⟨rfl, hb⟩; refine ⟨_, rfl, ?_⟩; replace BK988 := Aside0.mk (blk_below BK988.out hb); replace HB := Aside0.mk (below_step (by repeat ((with_reducible exact HB.out))) hb); (try clear hb); have hcz67_0 : w66.cell? ⟨gb988, 0, none⟩ = some (.int .u8 a0_0) := (blk_cell BK988.out 0).trans rfl; have hcz67_1 : w66.cell? ⟨gb988, 1, none⟩ = some (.int .i64 a0_1) := (blk_cell BK988.out 1).trans rfl; have hcz67_2 : w66.cell? ⟨gb988, 2, none⟩ = some (.int .i64 a0_2) := (blk_cell BK988.out 2).trans rfl; have hcz67_3 : w66.cell? ⟨gb988, 3, none⟩ = some (.int .i64 a0_3) := (blk_cell BK988.out 3).trans rfl; have hcz67_4 : w66.cell? ⟨gb988, 4, none⟩ = some (.int .i64 a0_4) := (blk_cell BK988.out 4).trans rfl; have hcz67_5 : w66.cell? ⟨gb988, 5, none⟩ = some (.int .i64 a0_5) := (blk_cell BK988.out 5).trans rfl; have hcz67_6 : w66.cell? ⟨gb988, 6, none⟩ = some (.slice A0_6 l0_6.length c0_6) := (blk_cell BK988.out 6).trans rfl; have hfz67_0 := blk_frozen BK988.out 0; have hfz67_1 := blk_frozen BK988.out 1; have hfz67_2 := blk_frozen BK988.out 2; have hfz67_3 := blk_frozen BK988.out 3; have hfz67_4 := blk_frozen BK988.out 4; have hfz67_5 := blk_frozen BK988.out 5; have hfz67_6 := blk_frozen BK988.out 6) | ((with_reducible refine gate_callee (f := 86) rfl ?_); refine goesL_ (some 73) rfl rfl Try.func86 (by kernel_rfl) rfl #[.agg #[.int .u8 a0_0, .int .i64 a0_1, .int .i64 a0_2, .int .i64 a0_3, .int .i64 a0_4, .int .i64 a0_5, .slice A0_6 l0_6.length c0_6], .int .u8 a1] rfl (by (try simp only [List.map_toArray, List.map_cons, List.map_nil]); rfl) ?_; (with_reducible refine (least_Gives.calls k2 a0_0 a0_1 a0_2 a0_3 a0_4 a0_5 (fun k_ => k_ < w.heap.size) _ _ l0_6 a1 t1000 _ ?side1 A62.out).mono ?_); (case side1 => exact Kd.V_mk HC0_6.out (Kd.F_below (Kd.C_F k26_heap HR0_6.out) (by repeat ((with_reducible exact HB.out))))); rintro e w68 ⟨rfl, hb⟩; refine ⟨_, rfl, ?_⟩; replace BK988 := Aside0.mk (blk_below BK988.out hb); replace HB := Aside0.mk (below_step (by repeat ((with_reducible exact HB.out))) hb); (try clear hb)) | (go_at_call 85; (with_reducible refine (sashlaw08_awake.calls  t1001 _ A64.out).mono ?_); rintro e w69 ⟨rfl, hb⟩; replace BK988 := Aside0.mk (blk_below BK988.out hb); replace HB := Aside0.mk (below_step (by repeat ((with_reducible exact HB.out))) hb); (try clear hb)))
          go_ret
          exact ⟨by rfl, by repeat ((with_reducible exact HB.out))⟩
         ·rw [if_neg c63] at H
          have c63b0 : (t1000 == x6_2) = false := beq_eq_false_iff_ne.mpr c63
          have c63b1 : (t1000 != x6_2) = true := bne_iff_ne.mpr c63
          obtain rfl := Option.some.inj H
          have hcz70_0 : wr.cell? ⟨gb988, 0, none⟩ = some (.int .u8 a0_0) := (blk_cell BK988.out 0).trans rfl
          have hcz70_1 : wr.cell? ⟨gb988, 1, none⟩ = some (.int .i64 a0_1) := (blk_cell BK988.out 1).trans rfl
          have hcz70_2 : wr.cell? ⟨gb988, 2, none⟩ = some (.int .i64 a0_2) := (blk_cell BK988.out 2).trans rfl
          have hcz70_3 : wr.cell? ⟨gb988, 3, none⟩ = some (.int .i64 a0_3) := (blk_cell BK988.out 3).trans rfl
          have hcz70_4 : wr.cell? ⟨gb988, 4, none⟩ = some (.int .i64 a0_4) := (blk_cell BK988.out 4).trans rfl
          have hcz70_5 : wr.cell? ⟨gb988, 5, none⟩ = some (.int .i64 a0_5) := (blk_cell BK988.out 5).trans rfl
          have hcz70_6 : wr.cell? ⟨gb988, 6, none⟩ = some (.slice A0_6 l0_6.length c0_6) := (blk_cell BK988.out 6).trans rfl
          have hfz70_0 := blk_frozen BK988.out 0
          have hfz70_1 := blk_frozen BK988.out 1
          have hfz70_2 := blk_frozen BK988.out 2
          have hfz70_3 := blk_frozen BK988.out 3
          have hfz70_4 := blk_frozen BK988.out 4
          have hfz70_5 := blk_frozen BK988.out 5
          have hfz70_6 := blk_frozen BK988.out 6
          go_wp2_with (first | ((with_reducible refine gate_callee (f := 88) rfl ?_); refine goesL_ (some 62) rfl rfl Try.func88 (by kernel_rfl) rfl #[.agg #[.int .u8 a0_0, .int .i64 a0_1, .int .i64 a0_2, .int .i64 a0_3, .int .i64 a0_4, .int .i64 a0_5, .slice A0_6 l0_6.length c0_6], .int .u8 a1] rfl (by (try simp only [List.map_toArray, List.map_cons, List.map_nil]); rfl) ?_; (with_reducible refine (sashref08_Along.calls a0_0 a0_1 a0_2 a0_3 a0_4 a0_5 _ _ l0_6 a1 false _ ?side1 ?side2 A48.out).mono ?_); (case side1 => repeat (exact (Kd.C_below HR0_6.out HB.out))); (case side2 => exact HC0_6.out); rintro e w71 ⟨rfl, hb⟩; refine ⟨_, rfl, ?_⟩; replace BK988 := Aside0.mk (blk_below BK988.out hb); replace HB := Aside0.mk (below_step (by repeat ((with_reducible exact HB.out))) hb); (try clear hb); have hcz72_0 : w71.cell? ⟨gb988, 0, none⟩ = some (.int .u8 a0_0) := (blk_cell BK988.out 0).trans rfl; have hcz72_1 : w71.cell? ⟨gb988, 1, none⟩ = some (.int .i64 a0_1) := (blk_cell BK988.out 1).trans rfl; have hcz72_2 : w71.cell? ⟨gb988, 2, none⟩ = some (.int .i64 a0_2) := (blk_cell BK988.out 2).trans rfl; have hcz72_3 : w71.cell? ⟨gb988, 3, none⟩ = some (.int .i64 a0_3) := (blk_cell BK988.out 3).trans rfl; have hcz72_4 : w71.cell? ⟨gb988, 4, none⟩ = some (.int .i64 a0_4) := (blk_cell BK988.out 4).trans rfl; have hcz72_5 : w71.cell? ⟨gb988, 5, none⟩ = some (.int .i64 a0_5) := (blk_cell BK988.out 5).trans rfl; have hcz72_6 : w71.cell? ⟨gb988, 6, none⟩ = some (.slice A0_6 l0_6.length c0_6) := (blk_cell BK988.out 6).trans rfl; have hfz72_0 := blk_frozen BK988.out 0; have hfz72_1 := blk_frozen BK988.out 1; have hfz72_2 := blk_frozen BK988.out 2; have hfz72_3 := blk_frozen BK988.out 3; have hfz72_4 := blk_frozen BK988.out 4; have hfz72_5 := blk_frozen BK988.out 5; have hfz72_6 := blk_frozen BK988.out 6) | ((with_reducible refine gate_callee (f := 86) rfl ?_); refine goesL_ (some 73) rfl rfl Try.func86 (by kernel_rfl) rfl #[.agg #[.int .u8 a0_0, .int .i64 a0_1, .int .i64 a0_2, .int .i64 a0_3, .int .i64 a0_4, .int .i64 a0_5, .slice A0_6 l0_6.length c0_6], .int .u8 a1] rfl (by (try simp only [List.map_toArray, List.map_cons, List.map_nil]); rfl) ?_; (with_reducible refine (least_Gives.calls k2 a0_0 a0_1 a0_2 a0_3 a0_4 a0_5 (fun k_ => k_ < w.heap.size) _ _ l0_6 a1 t1000 _ ?side1 A62.out).mono ?_); (case side1 => exact Kd.V_mk HC0_6.out (Kd.F_below (Kd.C_F k26_heap HR0_6.out) (by repeat ((with_reducible exact HB.out))))); rintro e w73 ⟨rfl, hb⟩; refine ⟨_, rfl, ?_⟩; replace BK988 := Aside0.mk (blk_below BK988.out hb); replace HB := Aside0.mk (below_step (by repeat ((with_reducible exact HB.out))) hb); (try clear hb)))
          go_ret
          exact ⟨by rfl, by repeat ((with_reducible exact HB.out))⟩

end Go.Proofs.Ytfdmfgaiblfbhaa.P
