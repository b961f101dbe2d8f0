/- LeastIs: part 5 of 7 of this claim's texts, one behind the other. The words of the kit's printer stand in it cut down, by a program, to those that are used. -/
import Derived.Test.YtfdmfgaiblfbhaaMLeastIsd
import Derived.Maps.OwnOps
import Derived.Maps.Views
import Derived.Test.YtfdmfgaiblfbhaaMLeastIsc
/- cell.all, cell.none: what they answer, with any function value that keeps an invariant of the world. -/
namespace Go.Proofs.Ytfdmfgaiblfbhaa.P
open Go.RowKit Go.Proofs.YtfdmfgaiblfbhaaW.PrintWords Go.Proofs.YtfdmfgaiblfbhaaW.PrintLast Go.Proofs.YtfdmfgaiblfbhaaW.PrintMore

set_option maxHeartbeats 1000000 in
/-- cell.none: whether the test says yes of none. -/
theorem none142 (l : List S26) (A : Option Addr) (c : Nat) (g : Nat) (lb : Array Value) (Q : World → Prop) (b : Bool) (w : World)
    (h : Calls Try.prog 174 #[.slice A l.length c, .func (.func g) #[] lb] w fun e w' => e = .returned (.bool b) ∧ Q w') (hD : ∀ W n, Q W → Q (W.drewN n)) :
    Calls Try.prog 142 #[.slice A l.length c, .func (.func g) #[] lb] w fun e w' => e = .returned (.bool (!b)) ∧ Q w' := by
  have H := Aside0.mk h
  clear h hD
  cases b
  all_goals
    go_enter Try.func142, Try.ntmps142
    go_wp2_with fail
    refine H.out.mono ?_
    rintro e w' ⟨rfl, hb⟩
    have HB := Aside0.mk hb
    clear hb
    go_wp2
    go_ret
    exact ⟨rfl, HB.out⟩
/-- Only new blocks, and those of S, may differ. -/
structure Kp (S : Nat → Prop) (W W' : World) : Prop where
  size : W.heap.size ≤ W'.heap.size
  blk : ∀ k, k < W.heap.size → ¬ S k → W'.heap[k]? = W.heap[k]?
theorem Kp.refl (S : Nat → Prop) (W : World) : Kp S W W := ⟨Nat.le_refl _, fun _ _ _ => rfl⟩
theorem Kp.trans {S : Nat → Prop} {W W1 W2 : World} (h : Kp S W W1) (k : Kp S W1 W2) : Kp S W W2 := ⟨Nat.le_trans h.size k.size, fun i hi hs => (k.blk i (Nat.lt_of_lt_of_le hi h.size) hs).trans (h.blk i hi hs)⟩
theorem Kp.below {S : Nat → Prop} {W W1 : World} (h : Below W.heap.size W W1) : Kp S W W1 := ⟨h.size, fun i hi _ => h.block i hi⟩
theorem Kp.at {S : Nat → Prop} {W W1 : World} {g : Nat} {o : Obj} (h : Kp S W W1) (hb : W.heap[g]? = some o) (hs : ¬ S g) : W1.heap[g]? = some o := (h.blk g (blk_lt hb) hs).trans hb
set_option maxHeartbeats 1000000 in
theorem clo193 (x : S26) (B : Option Addr) (cb g : Nat) (lb : Array Value) (b3 : Nat) (r : Bool) (R : World → Prop) (W : World) (hk : W.heap[b3]? = some (.cells #[.func (.func g) #[] lb] 27 (0, 0)))
    (h : ∀ W1, Below W.heap.size W W1 → Calls Try.prog 175 #[.agg #[.int .u8 x.f0, .int .i64 x.f1.f0, .int .i64 x.f1.f1, .int .i64 x.f1.f2, .int .i64 x.f1.f3, .int .i64 x.f2, .slice B x.f3.length cb], .func (.func g) #[] lb] W1 fun e w' => e = .returned (.bool r) ∧ R w') :
    Calls Try.prog 193 (#[.agg #[.int .u8 x.f0, .int .i64 x.f1.f0, .int .i64 x.f1.f1, .int .i64 x.f1.f2, .int .i64 x.f1.f3, .int .i64 x.f2, .slice B x.f3.length cb]] ++ #[.pointer (some ⟨b3, 0, none⟩)]) W fun e w' => e = .returned (.bool (!r)) ∧ R w' := by
  have HK := Aside0.mk hk
  have H := Aside0.mk h
  clear hk h
  simp only [List.append_toArray, List.cons_append, List.nil_append]
  cases r
  all_goals
    go_enter Try.func193, Try.ntmps193
    go_wp2_with (((with_reducible refine gate_dst (N := 2) rfl ?_); refine box_event ?hg (N := 2) ?hd (cs := #[.int .u8 x.f0, .int .i64 x.f1.f0, .int .i64 x.f1.f1, .int .i64 x.f1.f2, .int .i64 x.f1.f3, .int .i64 x.f2, .slice B x.f3.length cb]) (t := 26) ?hr ?_; (case hd => rfl); (case hg => rfl); (case hr => (go_simp; done)); intro b2 hg w2 hbox hb; have HB := Aside0.mk hb; have K2 := Aside0.mk hbox; have K3 := Aside0.mk (blk_below HK.out hb); clear hb hbox hg; have c0 := (blk_cell K2.out 0).trans rfl; have c1 := (blk_cell K2.out 1).trans rfl; have c2 := (blk_cell K2.out 2).trans rfl; have c3 := (blk_cell K2.out 3).trans rfl; have c4 := (blk_cell K2.out 4).trans rfl; have c5 := (blk_cell K2.out 5).trans rfl; have c6 := (blk_cell K2.out 6).trans rfl; have d0 := (blk_cell K3.out 0).trans rfl))
    clear c0 c1 c2 c3 c4 c5 c6 d0
    refine (H.out _ HB.out).mono ?_
    rintro e w' ⟨rfl, hR⟩
    have HR := Aside0.mk hR
    clear hR
    go_wp2
    go_ret
    exact ⟨rfl, HR.out⟩
set_option maxHeartbeats 4000000 in
set_option maxRecDepth 100000 in
theorem all175 {σ : Type} (S : Nat → Prop) (Inv : σ → World → Prop) (step : σ → S26 → Bool × σ) (g : Nat) (lb : Array Value) (eg : ∀ args w, (callFunc g args).run Try.prog w = .ok (.enter g args) w) (w0 : World)
    (hW : ∀ s W, Inv s W → Below w0.heap.size w0 W) (hB : ∀ s W W', Inv s W → Below W.heap.size W W' → Inv s W') (hS : ∀ s W, Inv s W → ∀ k, S k → k < W.heap.size)
    (hcall : ∀ s W (x : S26) (B : Option Addr) (cb : Nat), Inv s W → Kd.C k26 w0 B x.f3.length x.f3 → x.f3.length ≤ cb → Calls Try.prog g (#[.agg #[.int .u8 x.f0, .int .i64 x.f1.f0, .int .i64 x.f1.f1, .int .i64 x.f1.f2, .int .i64 x.f1.f3, .int .i64 x.f2, .slice B x.f3.length cb]] ++ lb) W fun e w' => e = .returned (.bool (step s x).1) ∧ Inv (step s x).2 w' ∧ Kp S W w') :
    ∀ (N : Nat) (c : S26), sz c ≤ N → ∀ (A : Option Addr) (cc : Nat), Kd.C k26 w0 A c.f3.length c.f3 → c.f3.length ≤ cc → ∀ s W, Inv s W →
      Calls Try.prog 175 #[.agg #[.int .u8 c.f0, .int .i64 c.f1.f0, .int .i64 c.f1.f1, .int .i64 c.f1.f2, .int .i64 c.f1.f3, .int .i64 c.f2, .slice A c.f3.length cc], .func (.func g) #[] lb] W fun e w' => e = .returned (.bool (allS step c s).1) ∧ Inv (allS step c s).2 w' ∧ Kp S W w' := by
  intro N
  induction N with
  | zero => intro c h; rw [sz_eq] at h; omega
  | succ N ih =>
    intro c hc A cc hr hlc s W hI
    have hsz := sz_eq c
    -- what the kids' test does
    have hNone : ∀ (b3 : Nat) (s1 : σ) (W1 : World), Inv s1 W1 → W1.heap[b3]? = some (.cells #[.func (.func g) #[] lb] 27 (0, 0)) → ¬ S b3 →
        Calls Try.prog 142 #[.slice A c.f3.length cc, .func (.func 193) #[] #[.pointer (some ⟨b3, 0, none⟩)]] W1 fun e w' => e = .returned (.bool (noneS step c.f3 s1).1) ∧ Inv (noneS step c.f3 s1).2 w' ∧ Kp S W1 w' := by
      intro b3 s1 W1 hI1 hk3 hs3
      have hcon := con174 (fun t w' => Inv t w' ∧ Kp S W1 w') (fun t k => (!(allS step k t).1, (allS step k t).2)) 193 #[.pointer (some ⟨b3, 0, none⟩)] (enters_fn Try.func193 (by decide +kernel) (by kernel_rfl)) c.f3 A cc w0 hr (fun t w' h => hW t w' h.1)
        (fun t w' n h => ⟨hB t w' _ h.1 (pw_below_drewN (Below.refl _ _) n), h.2.trans (Kp.below (pw_below_drewN (Below.refl _ _) n))⟩)
        (fun t w' x B cb hx h hCx hlx => by
          refine clo193 x B cb g lb b3 _ _ w' (h.2.at hk3 hs3) (fun W2 hb2 => ?_)
          refine (ih x ?_ B cb hCx hlx t W2 (hB t w' W2 h.1 hb2)).mono fun e w'' ⟨he, hi, hk⟩ => ⟨he, hi, (h.2.trans (Kp.below hb2)).trans hk⟩
          have : sz x ≤ szL c.f3 := by
            obtain ⟨p, q, e⟩ := List.append_of_mem hx
            rw [e, szL_app, szL_cons]; omega
          omega) s1 W1 ⟨hI1, Kp.refl S W1⟩ hr.2.1
      rw [scan_none] at hcon
      have := none142 c.f3 A cc 193 _ _ _ W1 hcon (fun w' n h => ⟨hB _ w' _ h.1 (pw_below_drewN (Below.refl _ _) n), h.2.trans (Kp.below (pw_below_drewN (Below.refl _ _) n))⟩)
      rw [Bool.not_not] at this
      exact this
    have hHS0 : ∀ k, S k → k < W.heap.size := hS s W hI
    have hE := allS_eq step c s
    have hcl := fun W1 (h : Inv s W1) => hcall s W1 c A cc h hr hlc
    rcases hst : step s c with ⟨q, s1⟩
    rw [hst] at hE hcl
    simp only [] at hE hcl
    rw [hE]
    have HN := Aside0.mk fun b3 W1 => hNone b3 s1 W1
    have HI := Aside0.mk hI
    have HCall := Aside0.mk hcl
    have HBb := Aside0.mk hB
    have HS := Aside0.mk hS
    have HS0 := Aside0.mk hHS0
    have HK := Aside0.mk (Kp.refl S W)
    clear hNone hI hcall hB hS ih hr hlc hsz hc hW hE hcl hst hHS0
    obtain ⟨ck, ⟨cx, cy, cw, ch⟩, cid, l⟩ := c
    simp only [] at HN HCall ⊢
    generalize noneS step l s1 = ns at HN ⊢
    obtain ⟨n1, n2⟩ := ns
    cases q with
    | false =>
      simp only [Bool.false_eq_true, if_false]
      clear HN
      go_enter Try.func175, Try.ntmps175
      go_wp2_with (first | ((with_reducible refine gate_dst (N := 2) rfl ?_); refine box_event ?hg (N := 2) ?hd (cs := #[.int .u8 ck, .int .i64 cx, .int .i64 cy, .int .i64 cw, .int .i64 ch, .int .i64 cid, .slice A l.length cc]) (t := 26) ?hr ?_; (case hd => rfl); (case hg => rfl); (case hr => (go_simp; done)); intro b2 hg wb2 hbox hb; have K2 := Aside0.mk hbox; have HS2 := Aside0.mk (show ¬ b2 < W.heap.size by rw [hg]; exact Nat.lt_irrefl _); have q1_ := Aside0.mk (HBb.out _ _ _ HI.out hb); have q2_ := Aside0.mk (HK.out.trans (Kp.below hb)); clear HI HK; have HI := q1_; have HK := q2_; clear q1_ q2_; clear hb hbox hg) | ((with_reducible refine gate_dst (N := 3) rfl ?_); refine box_event ?hg (N := 3) ?hd (cs := #[.func (.func g) #[] lb]) (t := 27) ?hr ?_; (case hd => rfl); (case hg => rfl); (case hr => (go_simp; done)); intro b3 hg wb3 hbox hb; have K3 := Aside0.mk hbox; have q3_ := Aside0.mk (blk_below K2.out hb); have NS := Aside0.mk (fun h => Nat.lt_irrefl _ (Nat.lt_of_lt_of_le (hg ▸ HS.out _ _ HI.out b3 h) (Nat.le_refl _)) : ¬ S b3); have NS2 := Aside0.mk (fun h => HS2.out (HS0.out b2 h) : ¬ S b2); clear K2; have K2 := q3_; clear q3_; have q1_ := Aside0.mk (HBb.out _ _ _ HI.out hb); have q2_ := Aside0.mk (HK.out.trans (Kp.below hb)); clear HI HK; have HI := q1_; have HK := q2_; clear q1_ q2_; clear hb hbox hg; have c0 := (blk_cell K2.out 0).trans rfl; have c1 := (blk_cell K2.out 1).trans rfl; have c2 := (blk_cell K2.out 2).trans rfl; have c3 := (blk_cell K2.out 3).trans rfl; have c4 := (blk_cell K2.out 4).trans rfl; have c5 := (blk_cell K2.out 5).trans rfl; have c6 := (blk_cell K2.out 6).trans rfl; have d0 := (blk_cell K3.out 0).trans rfl))
      clear c0 c1 c2 c3 c4 c5 c6 d0
      refine (HCall.out _ HI.out).mono ?_
      rintro e w' ⟨rfl, hi, hk⟩
      have HI' := Aside0.mk hi
      have HK' := Aside0.mk (HK.out.trans hk)
      clear hi hk
      go_wp2
      go_ret
      exact ⟨rfl, HI'.out, HK'.out⟩
    | true =>
      simp only [if_true]
      cases n1
      all_goals
        go_enter Try.func175, Try.ntmps175
        go_wp2_with (first | ((with_reducible refine gate_dst (N := 2) rfl ?_); refine box_event ?hg (N := 2) ?hd (cs := #[.int .u8 ck, .int .i64 cx, .int .i64 cy, .int .i64 cw, .int .i64 ch, .int .i64 cid, .slice A l.length cc]) (t := 26) ?hr ?_; (case hd => rfl); (case hg => rfl); (case hr => (go_simp; done)); intro b2 hg wb2 hbox hb; have K2 := Aside0.mk hbox; have HS2 := Aside0.mk (show ¬ b2 < W.heap.size by rw [hg]; exact Nat.lt_irrefl _); have q1_ := Aside0.mk (HBb.out _ _ _ HI.out hb); have q2_ := Aside0.mk (HK.out.trans (Kp.below hb)); clear HI HK; have HI := q1_; have HK := q2_; clear q1_ q2_; clear hb hbox hg) | ((with_reducible refine gate_dst (N := 3) rfl ?_); refine box_event ?hg (N := 3) ?hd (cs := #[.func (.func g) #[] lb]) (t := 27) ?hr ?_; (case hd => rfl); (case hg => rfl); (case hr => (go_simp; done)); intro b3 hg wb3 hbox hb; have K3 := Aside0.mk hbox; have q3_ := Aside0.mk (blk_below K2.out hb); have NS := Aside0.mk (fun h => Nat.lt_irrefl _ (Nat.lt_of_lt_of_le (hg ▸ HS.out _ _ HI.out b3 h) (Nat.le_refl _)) : ¬ S b3); have NS2 := Aside0.mk (fun h => HS2.out (HS0.out b2 h) : ¬ S b2); clear K2; have K2 := q3_; clear q3_; have q1_ := Aside0.mk (HBb.out _ _ _ HI.out hb); have q2_ := Aside0.mk (HK.out.trans (Kp.below hb)); clear HI HK; have HI := q1_; have HK := q2_; clear q1_ q2_; clear hb hbox hg; have c0 := (blk_cell K2.out 0).trans rfl; have c1 := (blk_cell K2.out 1).trans rfl; have c2 := (blk_cell K2.out 2).trans rfl; have c3 := (blk_cell K2.out 3).trans rfl; have c4 := (blk_cell K2.out 4).trans rfl; have c5 := (blk_cell K2.out 5).trans rfl; have c6 := (blk_cell K2.out 6).trans rfl; have d0 := (blk_cell K3.out 0).trans rfl))
        clear c0 c1 c2 c3 c4 c5 c6 d0
        refine (HCall.out _ HI.out).mono ?_
        rintro e w' ⟨rfl, hi, hk⟩
        have HI' := Aside0.mk hi
        have HK' := Aside0.mk (HK.out.trans hk)
        have K3' := Aside0.mk (hk.at K3.out NS.out)
        have K2' := Aside0.mk (hk.at K2.out NS2.out)
        clear hi hk
        have c6 : w'.cell? ⟨b2, 6, none⟩ = some (.slice A l.length cc) := (blk_cell K2'.out 6).trans rfl
        go_wp2_with fail
        clear c6
        refine (HN.out b3 w' HI'.out K3'.out NS.out).mono ?_
        rintro e w'' ⟨rfl, hi, hk⟩
        have HI2 := Aside0.mk hi
        have HK2 := Aside0.mk (HK'.out.trans hk)
        clear hi hk
        go_wp2
        go_ret
        exact ⟨rfl, HI2.out, HK2.out⟩
end Go.Proofs.Ytfdmfgaiblfbhaa.P
/- Whether a tree may be, cell by cell with the numbers met: plain words; and the numbers met as a map of the call's own. -/
namespace Go.Proofs.Ytfdmfgaiblfbhaa.P
open Go.RowKit Go.Proofs.YtfdmfgaiblfbhaaW.PrintWords Go.Proofs.YtfdmfgaiblfbhaaW.PrintLast Go.Proofs.YtfdmfgaiblfbhaaW.PrintMore

def nodeB (x : S26) : Bool := if x.f0 = 1 then decide (x.f3.length = 0) && (decide (0 ≤ x.f2) && decide (x.f2 ≤ 2147483647)) else if x.f0 = 2 ∨ x.f0 = 3 then decide (2 ≤ x.f3.length) && decide (x.f2 = 0) else false
theorem okC_node (x : S26) : okC x = (nodeB x && mayR x.f1) := by
  unfold okC nodeB
  by_cases h1 : x.f0 = 1
  · simp [h1, Bool.and_comm, Bool.and_assoc]
  · by_cases h2 : x.f0 = 2
    · simp [h2, Bool.and_comm]
    · by_cases h3 : x.f0 = 3
      · simp [h3, Bool.and_comm]
      · have : ¬ (1 ≤ x.f0 ∧ x.f0 ≤ 3) := by omega
        simp [h1, h2, h3, this]
/-- One cell: the count, and the numbers met. -/
def mStep (s : Int × List Int) (x : S26) : Bool × (Int × List Int) :=
  if 20000 < wrap64 (s.1 + 1) then (false, (wrap64 (s.1 + 1), s.2))
  else if okC x = false then (false, (wrap64 (s.1 + 1), s.2))
  else if x.f0 = 1 then (if x.f2 ∈ s.2 then (false, (wrap64 (s.1 + 1), s.2)) else (true, (wrap64 (s.1 + 1), x.f2 :: s.2)))
  else (true, (wrap64 (s.1 + 1), s.2))
def lv (l : List S26) : List S26 := l.filter fun x => decide (x.f0 = 1)
theorem mStep_seq : ∀ (rest pre : List S26), (pre ++ rest).length ≤ 1048576 → pre.length ≤ 20000 → distinctC (lv pre) = true →
    (seqS mStep rest ((pre.length : Int), ((lv pre).map (·.f2)).reverse)).1 = (decide (pre.length + rest.length ≤ 20000) && (rest.all okC && distinctC (lv (pre ++ rest)))) := by
  intro rest
  induction rest with
  | nil =>
    intro pre _ h2 h3
    simp [seqS, h3]
    exact h2
  | cons x xs ih =>
    intro pre h1 h2 h3
    have hlen : (pre ++ x :: xs).length = pre.length + xs.length + 1 := by simp; omega
    have hw : wrap64 ((pre.length : Int) + 1) = ((pre.length + 1 : Nat) : Int) := (wq (by omega) (by omega)).trans (by omega)
    have hsp : pre ++ x :: xs = (pre ++ [x]) ++ xs := by simp
    simp only [seqS]
    unfold mStep
    simp only [hw]
    by_cases c1 : (20000 : Int) < ((pre.length + 1 : Nat) : Int)
    · rw [if_pos c1]
      simp
      intro h
      omega
    · rw [if_neg c1]
      cases c2 : okC x with
      | false => simp [c2]
      | true =>
        simp only [Bool.true_eq_false, if_false, List.all_cons, c2, Bool.true_and]
        have hl1 : (pre ++ [x]).length = pre.length + 1 := by simp
        have hcnt : decide (pre.length + (x :: xs).length ≤ 20000) = decide ((pre ++ [x]).length + xs.length ≤ 20000) := by
          rw [hl1, List.length_cons, decide_eq_decide]; omega
        rw [hcnt]
        by_cases c3 : x.f0 = 1
        · rw [if_pos c3]
          have hlv : lv (pre ++ [x]) = lv pre ++ [x] := by simp [lv, c3]
          have hmem : x.f2 ∈ ((lv pre).map (·.f2)).reverse ↔ apartTo (lv pre) x = false := by
            simp [apartTo]
            constructor
            · rintro ⟨y, hy, e⟩; exact ⟨y, hy, e.symm⟩
            · rintro ⟨y, hy, e⟩; exact ⟨y, hy, e.symm⟩
          by_cases c4 : x.f2 ∈ ((lv pre).map (·.f2)).reverse
          · rw [if_pos c4]
            have hd : distinctC (lv (pre ++ x :: xs)) = false := by
              rw [hsp]
              unfold lv
              rw [List.filter_append]
              apply distinctC_pre
              have : List.filter (fun x => decide (x.f0 = 1)) (pre ++ [x]) = lv pre ++ [x] := hlv
              rw [this, distinctC_app, hmem.1 c4, Bool.and_false]
            simp [hd]
          · rw [if_neg c4]
            have ha : apartTo (lv pre) x = true := by
              cases h : apartTo (lv pre) x with
              | true => rfl
              | false => exact absurd (hmem.2 h) c4
            have e := ih (pre ++ [x]) (by rw [← hsp]; exact h1) (by rw [hl1]; omega) (by rw [hlv, distinctC_app, h3, ha]; rfl)
            rw [hlv, List.map_append, List.reverse_append, hl1, ← hsp] at e
            simp only [if_true]
            rw [hl1]
            exact e
        · rw [if_neg c3]
          have hlv : lv (pre ++ [x]) = lv pre := by simp [lv, c3]
          have e := ih (pre ++ [x]) (by rw [← hsp]; exact h1) (by rw [hl1]; omega) (by rw [hlv]; exact h3)
          rw [hlv, hl1, ← hsp] at e
          simp only [if_true]
          rw [hl1]
          exact e
theorem allS_may (c : S26) (h : sz c ≤ 1048576) : (allS mStep c (0, [])).1 = mayC c := by
  rw [(allS_seq mStep (sz c)).1 c (Nat.le_refl _)]
  have e := mStep_seq (allC c) [] (by rw [List.nil_append]; exact h) (by simp) rfl
  have e2 : (seqS mStep (allC c) (0, [])).1 = (decide (0 + (allC c).length ≤ 20000) && ((allC c).all okC && distinctC (lv ([] ++ allC c)))) := e
  rw [e2, Nat.zero_add, List.nil_append]
  rfl
/-- No more numbers than there are. -/
theorem nodup_le : ∀ (N : Nat) (l : List Int), l.Nodup → (∀ i ∈ l, 0 ≤ i ∧ i < (N : Int)) → l.length ≤ N := by
  intro N
  induction N with
  | zero =>
    intro l _ h
    cases l with
    | nil => simp
    | cons x xs => have := h x (by simp); omega
  | succ N ih =>
    intro l hn h
    have h1 := ih (l.filter fun i => decide (i ≠ (N : Int))) (hn.filter _) (fun i hi => by
      have h2 := List.mem_filter.1 hi
      have h3 := h i h2.1
      have h4 := of_decide_eq_true h2.2
      omega)
    have h5 : ∀ (m : List Int), m.Nodup → m.length ≤ (m.filter fun i => decide (i ≠ (N : Int))).length + 1 := by
      intro m
      induction m with
      | nil => intro _; simp
      | cons y ys ihm =>
        intro hm
        rw [List.nodup_cons] at hm
        by_cases hy : y = (N : Int)
        · have : ys.filter (fun i => decide (i ≠ (N : Int))) = ys := by
            rw [List.filter_eq_self]
            intro i hi
            exact decide_eq_true (fun e => hm.1 (by rw [hy, ← e]; exact hi))
          rw [List.filter_cons_of_neg (by simp [hy]), this, List.length_cons]
          exact Nat.le_refl _
        · rw [List.filter_cons_of_pos (by simpa using hy), List.length_cons, List.length_cons]
          have := ihm hm.2
          omega
    have := h5 l hn
    omega
/-- The numbers met, as a map's datum. -/
def setD (ids : List Int) : DataW Unit := ids.foldr (fun i D => D.put (.int .i64 i) (.lit (.bool true))) (.map [])
theorem setD_map : ∀ ids : List Int, Maps.IsMap (setD ids) := by
  intro ids
  induction ids with
  | nil => exact Maps.isMap_empty
  | cons x xs ih => exact Maps.IsMap.put ih _ _
theorem setD_at (i : Int) : ∀ ids : List Int, (setD ids).atKey (.int .i64 i) (.lit (.bool false)) = .lit (.bool (decide (i ∈ ids))) := by
  intro ids
  induction ids with
  | nil => rfl
  | cons x xs ih =>
    show (DataW.put (setD xs) (.int .i64 x) (.lit (.bool true))).atKey (.int .i64 i) (.lit (.bool false)) = _
    by_cases h : i = x
    · subst h
      rw [Maps.atKey_put_same (setD_map xs) (by simp [WideAt.IsKeyLit])]
      simp
    · rw [Maps.atKey_put_other (by intro e; injection e with _ e; exact h e), ih]
      simp [h]
/-- What cell.may holds: the count, the numbers met. -/
structure MayI (w0 : World) (bn bm B : Nat) (s : Int × List Int) (W : World) : Prop where
  hn : W.heap[bn]? = some (.cells #[.int .i64 s.1] 3 (0, 0))
  hm : W.heap[bm]? = some (.cells #[.map (some B)] 161 (0, 0))
  map : W.ownsMap (H := Unit) Try.prog 3 (plainElem Try.prog 4) B s.2.length (setD s.2)
  below : Below w0.heap.size w0 W
  gn : w0.heap.size ≤ bn
  gB : w0.heap.size ≤ B
  nd : s.2.Nodup
  rg : ∀ i ∈ s.2, 0 ≤ i ∧ i ≤ 2147483647
theorem below_grown {W W' : World} (h : Below W.heap.size W W') : W.grownBy W' none := ⟨h.os, h.tape, h.output, h.size, fun k hk _ => h.block k hk⟩
theorem MayI.step {w0 W W' : World} {bn bm B : Nat} {s : Int × List Int} (h : MayI w0 bn bm B s W) (hb : Below W.heap.size W W') : MayI w0 bn bm B s W' :=
  ⟨blk_below h.hn hb, blk_below h.hm hb, h.map.kept (below_grown hb) (by simp), below_step h.below hb, h.gn, h.gB, h.nd, h.rg⟩
theorem MayI.neB {w0 W : World} {bn bm B : Nat} {s : Int × List Int} (h : MayI w0 bn bm B s W) : bn ≠ B ∧ bm ≠ B ∧ bm ≠ bn := by
  obtain ⟨es, cl, hB, _⟩ := h.map
  refine ⟨fun e => ?_, fun e => ?_, blk_ne h.hm h.hn (by decide)⟩
  · have := h.hn; rw [e, hB] at this; cases this
  · have := h.hm; rw [e, hB] at this; cases this
def MayS (bn B : Nat) (k : Nat) : Prop := k = bn ∨ k = B
section
variable {P : Program} {ops : Array Oper} {rest : List Oper} {o : Oper} {a : Act} {Q : Exit → Act → World → Prop}
/-- A look-up in a map of bools of the call's own. -/
theorem lookup_bool (w : World) (hg : o.guard = none) (m x : Operand) (t : TypeId) (hop : o.op = Op.lookup t m x false)
    (k e : TypeId) (K : Maps.Keyed P k) (ht : P.underlying t = some (.map k e)) (he : P.underlying e = some .bool) (hz : (zeroValue e).run P w = .ok (.bool false) w) (b n : Nat) (D : DataW Unit)
    (hm : a.eval m = .map (some b)) (hown : w.ownsMap P k (plainElem P e) b n D) (key : Value) (kl : Lit) (hx : a.eval x = key) (hkey : keyOf P k key = some kl) (r : Bool) (hr : D.atKey kl (.lit (.bool false)) = .lit (.bool r))
    (hK : wpList P ops Q rest (a.put o.dst (.bool r)) w) : wpList P ops Q (o :: rest) a w := by
  refine wpList_plain hg fun K' hK' => ?_
  obtain ⟨v, ps, hrun, hv⟩ := hown.lookup K ht hz (plainElem_bool he false) hkey
  have hv2 : v = .bool r := by
    rw [hr] at hv
    unfold plainElem at hv
    rw [he] at hv
    cases v with
    | bool q =>
      simp only [Option.some.injEq, Prod.mk.injEq, DataW.lit.injEq, Lit.bool.injEq] at hv
      rw [hv.1]
    | _ => cases hv
  subst hv2
  unfold Oper.wp
  simp [execOp, hop, hm, hx, hrun, Result.andThen]
  exact hK' _ _ hK
end
end Go.Proofs.Ytfdmfgaiblfbhaa.P
/- The contract of cell.node: whether a cell alone is right. -/
namespace Go.Proofs.Ytfdmfgaiblfbhaa.P
open Go.RowKit Go.Proofs.YtfdmfgaiblfbhaaW.PrintWords Go.Proofs.YtfdmfgaiblfbhaaW.PrintLast Go.Proofs.YtfdmfgaiblfbhaaW.PrintMore
set_option linter.unusedVariables false
set_option linter.unusedSimpArgs false
set_option maxHeartbeats 2000000 in
set_option maxRecDepth 100000 in
theorem node177 (x : S26) (B : Option Addr) (cb : Nat) (w : World) : Calls Try.prog 177 #[.agg #[.int .u8 x.f0, .int .i64 x.f1.f0, .int .i64 x.f1.f1, .int .i64 x.f1.f2, .int .i64 x.f1.f3, .int .i64 x.f2, .slice B x.f3.length cb]] w fun e w' => e = .returned (.bool (nodeB x)) ∧ Below w.heap.size w w' := by
  unfold nodeB
  by_cases k1 : x.f0 = 1
  · rw [if_pos k1]
    have k1b : (x.f0 == 1) = true := beq_iff_eq.mpr k1
    clear k1
    by_cases l0 : x.f3.length = 0
    · rw [decide_eq_true l0, Bool.true_and]
      have l1 : ((x.f3.length : Int) == 0) = true := by simp [l0]
      have l2 : (x.f3.length == 0) = true := by simp [l0]
      clear l0
      by_cases i0 : 0 ≤ x.f2
      · rw [decide_eq_true i0, Bool.true_and]
        have i0b : decide (0 ≤ x.f2) = true := decide_eq_true i0
        by_cases i1 : x.f2 ≤ 2147483647
        · rw [decide_eq_true i1]
          have i1b : decide (x.f2 ≤ 2147483647) = true := decide_eq_true i1
          go_enter Try.func177, Try.ntmps177
          go_wp2_with (((with_reducible refine gate_dst (N := 1) rfl ?_); refine box_event ?hg (N := 1) ?hd (cs := #[.int .u8 x.f0, .int .i64 x.f1.f0, .int .i64 x.f1.f1, .int .i64 x.f1.f2, .int .i64 x.f1.f3, .int .i64 x.f2, .slice B x.f3.length cb]) (t := 26) ?hr ?_; (case hd => rfl); (case hg => rfl); (case hr => (go_simp; done)); intro b1 hg w1 hbox hb; have HB := Aside0.mk hb; have K1 := Aside0.mk hbox; clear hb hbox hg; have c0 := (blk_cell K1.out 0).trans rfl; have c1 := (blk_cell K1.out 1).trans rfl; have c2 := (blk_cell K1.out 2).trans rfl; have c3 := (blk_cell K1.out 3).trans rfl; have c4 := (blk_cell K1.out 4).trans rfl; have c5 := (blk_cell K1.out 5).trans rfl; have c6 := (blk_cell K1.out 6).trans rfl))
          go_ret
          exact ⟨rfl, HB.out⟩
        · rw [decide_eq_false i1]
          have i1b : decide (x.f2 ≤ 2147483647) = false := decide_eq_false i1
          go_enter Try.func177, Try.ntmps177
          go_wp2_with (((with_reducible refine gate_dst (N := 1) rfl ?_); refine box_event ?hg (N := 1) ?hd (cs := #[.int .u8 x.f0, .int .i64 x.f1.f0, .int .i64 x.f1.f1, .int .i64 x.f1.f2, .int .i64 x.f1.f3, .int .i64 x.f2, .slice B x.f3.length cb]) (t := 26) ?hr ?_; (case hd => rfl); (case hg => rfl); (case hr => (go_simp; done)); intro b1 hg w1 hbox hb; have HB := Aside0.mk hb; have K1 := Aside0.mk hbox; clear hb hbox hg; have c0 := (blk_cell K1.out 0).trans rfl; have c1 := (blk_cell K1.out 1).trans rfl; have c2 := (blk_cell K1.out 2).trans rfl; have c3 := (blk_cell K1.out 3).trans rfl; have c4 := (blk_cell K1.out 4).trans rfl; have c5 := (blk_cell K1.out 5).trans rfl; have c6 := (blk_cell K1.out 6).trans rfl))
          go_ret
          exact ⟨rfl, HB.out⟩
      · rw [decide_eq_false i0, Bool.false_and]
        have i0b : decide (0 ≤ x.f2) = false := decide_eq_false i0
        go_enter Try.func177, Try.ntmps177
        go_wp2_with (((with_reducible refine gate_dst (N := 1) rfl ?_); refine box_event ?hg (N := 1) ?hd (cs := #[.int .u8 x.f0, .int .i64 x.f1.f0, .int .i64 x.f1.f1, .int .i64 x.f1.f2, .int .i64 x.f1.f3, .int .i64 x.f2, .slice B x.f3.length cb]) (t := 26) ?hr ?_; (case hd => rfl); (case hg => rfl); (case hr => (go_simp; done)); intro b1 hg w1 hbox hb; have HB := Aside0.mk hb; have K1 := Aside0.mk hbox; clear hb hbox hg; have c0 := (blk_cell K1.out 0).trans rfl; have c1 := (blk_cell K1.out 1).trans rfl; have c2 := (blk_cell K1.out 2).trans rfl; have c3 := (blk_cell K1.out 3).trans rfl; have c4 := (blk_cell K1.out 4).trans rfl; have c5 := (blk_cell K1.out 5).trans rfl; have c6 := (blk_cell K1.out 6).trans rfl))
        go_ret
        exact ⟨rfl, HB.out⟩
    · rw [decide_eq_false l0, Bool.false_and]
      have l1 : ((x.f3.length : Int) == 0) = false := by simp; intro h; exact l0 (by simp [h])
      have l2 : (x.f3.length == 0) = false := by simpa using l0
      clear l0
      go_enter Try.func177, Try.ntmps177
      go_wp2_with (((with_reducible refine gate_dst (N := 1) rfl ?_); refine box_event ?hg (N := 1) ?hd (cs := #[.int .u8 x.f0, .int .i64 x.f1.f0, .int .i64 x.f1.f1, .int .i64 x.f1.f2, .int .i64 x.f1.f3, .int .i64 x.f2, .slice B x.f3.length cb]) (t := 26) ?hr ?_; (case hd => rfl); (case hg => rfl); (case hr => (go_simp; done)); intro b1 hg w1 hbox hb; have HB := Aside0.mk hb; have K1 := Aside0.mk hbox; clear hb hbox hg; have c0 := (blk_cell K1.out 0).trans rfl; have c1 := (blk_cell K1.out 1).trans rfl; have c2 := (blk_cell K1.out 2).trans rfl; have c3 := (blk_cell K1.out 3).trans rfl; have c4 := (blk_cell K1.out 4).trans rfl; have c5 := (blk_cell K1.out 5).trans rfl; have c6 := (blk_cell K1.out 6).trans rfl))
      go_ret
      exact ⟨rfl, HB.out⟩
  · rw [if_neg k1]
    have k1b : (x.f0 == 1) = false := beq_eq_false_iff_ne.mpr k1
    by_cases k2 : x.f0 = 2
    · rw [if_pos (.inl k2)]
      have k2b : (x.f0 == 2) = true := beq_iff_eq.mpr k2
      clear k2 k1
      by_cases l0 : 2 ≤ x.f3.length
      · rw [decide_eq_true l0, Bool.true_and]
        have l1 : (2 : Int) ≤ (x.f3.length : Int) := by omega
        by_cases i0 : x.f2 = 0
        · rw [decide_eq_true i0]
          have i0b : (x.f2 == 0) = true := beq_iff_eq.mpr i0
          clear i0
          go_enter Try.func177, Try.ntmps177
          go_wp2_with (((with_reducible refine gate_dst (N := 1) rfl ?_); refine box_event ?hg (N := 1) ?hd (cs := #[.int .u8 x.f0, .int .i64 x.f1.f0, .int .i64 x.f1.f1, .int .i64 x.f1.f2, .int .i64 x.f1.f3, .int .i64 x.f2, .slice B x.f3.length cb]) (t := 26) ?hr ?_; (case hd => rfl); (case hg => rfl); (case hr => (go_simp; done)); intro b1 hg w1 hbox hb; have HB := Aside0.mk hb; have K1 := Aside0.mk hbox; clear hb hbox hg; have c0 := (blk_cell K1.out 0).trans rfl; have c1 := (blk_cell K1.out 1).trans rfl; have c2 := (blk_cell K1.out 2).trans rfl; have c3 := (blk_cell K1.out 3).trans rfl; have c4 := (blk_cell K1.out 4).trans rfl; have c5 := (blk_cell K1.out 5).trans rfl; have c6 := (blk_cell K1.out 6).trans rfl))
          go_ret
          exact ⟨rfl, HB.out⟩
        · rw [decide_eq_false i0]
          have i0b : (x.f2 == 0) = false := beq_eq_false_iff_ne.mpr i0
          clear i0
          go_enter Try.func177, Try.ntmps177
          go_wp2_with (((with_reducible refine gate_dst (N := 1) rfl ?_); refine box_event ?hg (N := 1) ?hd (cs := #[.int .u8 x.f0, .int .i64 x.f1.f0, .int .i64 x.f1.f1, .int .i64 x.f1.f2, .int .i64 x.f1.f3, .int .i64 x.f2, .slice B x.f3.length cb]) (t := 26) ?hr ?_; (case hd => rfl); (case hg => rfl); (case hr => (go_simp; done)); intro b1 hg w1 hbox hb; have HB := Aside0.mk hb; have K1 := Aside0.mk hbox; clear hb hbox hg; have c0 := (blk_cell K1.out 0).trans rfl; have c1 := (blk_cell K1.out 1).trans rfl; have c2 := (blk_cell K1.out 2).trans rfl; have c3 := (blk_cell K1.out 3).trans rfl; have c4 := (blk_cell K1.out 4).trans rfl; have c5 := (blk_cell K1.out 5).trans rfl; have c6 := (blk_cell K1.out 6).trans rfl))
          go_ret
          exact ⟨rfl, HB.out⟩
      · rw [decide_eq_false l0, Bool.false_and]
        have l1 : ¬ (2 : Int) ≤ (x.f3.length : Int) := by omega
        go_enter Try.func177, Try.ntmps177
        go_wp2_with (((with_reducible refine gate_dst (N := 1) rfl ?_); refine box_event ?hg (N := 1) ?hd (cs := #[.int .u8 x.f0, .int .i64 x.f1.f0, .int .i64 x.f1.f1, .int .i64 x.f1.f2, .int .i64 x.f1.f3, .int .i64 x.f2, .slice B x.f3.length cb]) (t := 26) ?hr ?_; (case hd => rfl); (case hg => rfl); (case hr => (go_simp; done)); intro b1 hg w1 hbox hb; have HB := Aside0.mk hb; have K1 := Aside0.mk hbox; clear hb hbox hg; have c0 := (blk_cell K1.out 0).trans rfl; have c1 := (blk_cell K1.out 1).trans rfl; have c2 := (blk_cell K1.out 2).trans rfl; have c3 := (blk_cell K1.out 3).trans rfl; have c4 := (blk_cell K1.out 4).trans rfl; have c5 := (blk_cell K1.out 5).trans rfl; have c6 := (blk_cell K1.out 6).trans rfl))
        go_ret
        exact ⟨rfl, HB.out⟩
    · by_cases k3 : x.f0 = 3
      · rw [if_pos (.inr k3)]
        have k2b : (x.f0 == 2) = false := beq_eq_false_iff_ne.mpr k2
        have k3b : (x.f0 == 3) = true := beq_iff_eq.mpr k3
        clear k3 k2 k1
        by_cases l0 : 2 ≤ x.f3.length
        · rw [decide_eq_true l0, Bool.true_and]
          have l1 : (2 : Int) ≤ (x.f3.length : Int) := by omega
          by_cases i0 : x.f2 = 0
          · rw [decide_eq_true i0]
            have i0b : (x.f2 == 0) = true := beq_iff_eq.mpr i0
            clear i0
            go_enter Try.func177, Try.ntmps177
            go_wp2_with (((with_reducible refine gate_dst (N := 1) rfl ?_); refine box_event ?hg (N := 1) ?hd (cs := #[.int .u8 x.f0, .int .i64 x.f1.f0, .int .i64 x.f1.f1, .int .i64 x.f1.f2, .int .i64 x.f1.f3, .int .i64 x.f2, .slice B x.f3.length cb]) (t := 26) ?hr ?_; (case hd => rfl); (case hg => rfl); (case hr => (go_simp; done)); intro b1 hg w1 hbox hb; have HB := Aside0.mk hb; have K1 := Aside0.mk hbox; clear hb hbox hg; have c0 := (blk_cell K1.out 0).trans rfl; have c1 := (blk_cell K1.out 1).trans rfl; have c2 := (blk_cell K1.out 2).trans rfl; have c3 := (blk_cell K1.out 3).trans rfl; have c4 := (blk_cell K1.out 4).trans rfl; have c5 := (blk_cell K1.out 5).trans rfl; have c6 := (blk_cell K1.out 6).trans rfl))
            go_ret
            exact ⟨rfl, HB.out⟩
          · rw [decide_eq_false i0]
            have i0b : (x.f2 == 0) = false := beq_eq_false_iff_ne.mpr i0
            clear i0
            go_enter Try.func177, Try.ntmps177
            go_wp2_with (((with_reducible refine gate_dst (N := 1) rfl ?_); refine box_event ?hg (N := 1) ?hd (cs := #[.int .u8 x.f0, .int .i64 x.f1.f0, .int .i64 x.f1.f1, .int .i64 x.f1.f2, .int .i64 x.f1.f3, .int .i64 x.f2, .slice B x.f3.length cb]) (t := 26) ?hr ?_; (case hd => rfl); (case hg => rfl); (case hr => (go_simp; done)); intro b1 hg w1 hbox hb; have HB := Aside0.mk hb; have K1 := Aside0.mk hbox; clear hb hbox hg; have c0 := (blk_cell K1.out 0).trans rfl; have c1 := (blk_cell K1.out 1).trans rfl; have c2 := (blk_cell K1.out 2).trans rfl; have c3 := (blk_cell K1.out 3).trans rfl; have c4 := (blk_cell K1.out 4).trans rfl; have c5 := (blk_cell K1.out 5).trans rfl; have c6 := (blk_cell K1.out 6).trans rfl))
            go_ret
            exact ⟨rfl, HB.out⟩
        · rw [decide_eq_false l0, Bool.false_and]
          have l1 : ¬ (2 : Int) ≤ (x.f3.length : Int) := by omega
          go_enter Try.func177, Try.ntmps177
          go_wp2_with (((with_reducible refine gate_dst (N := 1) rfl ?_); refine box_event ?hg (N := 1) ?hd (cs := #[.int .u8 x.f0, .int .i64 x.f1.f0, .int .i64 x.f1.f1, .int .i64 x.f1.f2, .int .i64 x.f1.f3, .int .i64 x.f2, .slice B x.f3.length cb]) (t := 26) ?hr ?_; (case hd => rfl); (case hg => rfl); (case hr => (go_simp; done)); intro b1 hg w1 hbox hb; have HB := Aside0.mk hb; have K1 := Aside0.mk hbox; clear hb hbox hg; have c0 := (blk_cell K1.out 0).trans rfl; have c1 := (blk_cell K1.out 1).trans rfl; have c2 := (blk_cell K1.out 2).trans rfl; have c3 := (blk_cell K1.out 3).trans rfl; have c4 := (blk_cell K1.out 4).trans rfl; have c5 := (blk_cell K1.out 5).trans rfl; have c6 := (blk_cell K1.out 6).trans rfl))
          go_ret
          exact ⟨rfl, HB.out⟩
      · rw [if_neg (fun h => h.elim k2 k3)]
        have k2b : (x.f0 == 2) = false := beq_eq_false_iff_ne.mpr k2
        have k3b : (x.f0 == 3) = false := beq_eq_false_iff_ne.mpr k3
        go_enter Try.func177, Try.ntmps177
        go_wp2_with (((with_reducible refine gate_dst (N := 1) rfl ?_); refine box_event ?hg (N := 1) ?hd (cs := #[.int .u8 x.f0, .int .i64 x.f1.f0, .int .i64 x.f1.f1, .int .i64 x.f1.f2, .int .i64 x.f1.f3, .int .i64 x.f2, .slice B x.f3.length cb]) (t := 26) ?hr ?_; (case hd => rfl); (case hg => rfl); (case hr => (go_simp; done)); intro b1 hg w1 hbox hb; have HB := Aside0.mk hb; have K1 := Aside0.mk hbox; clear hb hbox hg; have c0 := (blk_cell K1.out 0).trans rfl; have c1 := (blk_cell K1.out 1).trans rfl; have c2 := (blk_cell K1.out 2).trans rfl; have c3 := (blk_cell K1.out 3).trans rfl; have c4 := (blk_cell K1.out 4).trans rfl; have c5 := (blk_cell K1.out 5).trans rfl; have c6 := (blk_cell K1.out 6).trans rfl))
        go_ret
        exact ⟨rfl, HB.out⟩
end Go.Proofs.Ytfdmfgaiblfbhaa.P
/- slices.IndexFunc, slices.ContainsFunc at S23: what they answer, with any function value that keeps an invariant of the world. -/
namespace Go.Proofs.Ytfdmfgaiblfbhaa.P
open Go.RowKit Go.Proofs.YtfdmfgaiblfbhaaW.PrintWords Go.Proofs.YtfdmfgaiblfbhaaW.PrintLast Go.Proofs.YtfdmfgaiblfbhaaW.PrintMore

set_option maxHeartbeats 2000000 in
set_option maxRecDepth 100000 in
theorem idx173 {σ : Type} (Inv : σ → World → Prop) (step : σ → S23 → Bool × σ) (g : Nat) (lb : Array Value) (eg : ∀ args w, (callFunc g args).run Try.prog w = .ok (.enter g args) w) (l : List S23) (A : Option Addr) (c : Nat)
    (hR : ∀ s W, Inv s W → Kd.C k23 W A l.length l) (hD : ∀ s W n, Inv s W → Inv s (W.drewN n))
    (hcall : ∀ s W (x : S23), x ∈ l → Inv s W → Calls Try.prog g (#[.agg #[.int .i64 x.f0, .int .i64 x.f1, .int .i64 x.f2, .int .i64 x.f3]] ++ lb) W fun e w' => e = .returned (.bool (step s x).1) ∧ Inv (step s x).2 w')
    (s : σ) (w : World) (hI : Inv s w) (hl : l.length ≤ 9223372036854775807) :
    Calls Try.prog 173 #[.slice A l.length c, .func (.func g) #[] lb] w fun e w' => e = .returned (.int .i64 (scanI step 0 s l).1) ∧ Inv (scanI step 0 s l).2 w' := by
  have HR := Aside0.mk hR
  have HI := Aside0.mk hI
  have HCall := Aside0.mk hcall
  clear hR hcall hD hI
  go_enter Try.func173, Try.ntmps173
  go_wp2
  go_loopg [5, 8] l.length (fun gg _ v8 wr => ∃ (kk : Nat) (t : σ), kk ≤ l.length ∧ l.length - kk ≤ gg ∧ v8 = .int .i64 kk ∧ Aside0 (Inv t wr) ∧ Aside0 (scanI step 0 s l = scanI step kk t (l.drop kk)))
  case atStart => exact ⟨0, s, Nat.zero_le _, by omega, rfl, HI, ⟨by simp⟩⟩
  case round =>
    clear HI
    obtain ⟨kk, t, hkk, hg, rfl, HI, HS⟩ := hrel
    by_cases hlt : kk < l.length
    · have hltz : (kk : Int) < (l.length : Int) := by omega
      obtain ⟨ad, rfl, hc0, hc1, hc2, hc3⟩ := at_T23 (HR.out t wr HI.out) (kk : Int) (by omega) (by omega)
      have HX : Aside0 (scanI step kk t (l.drop kk) = if (step t (rd_T23 l (kk : Int))).1 = true then ((kk : Int), (step t (rd_T23 l (kk : Int))).2) else scanI step ((kk + 1 : Nat) : Int) (step t (rd_T23 l (kk : Int))).2 (l.drop (kk + 1))) := ⟨scan_at step z23 l kk hlt t⟩
      have hmem : (rd_T23 l (kk : Int)) ∈ l := scan_mem z23 l kk hlt
      have hcall := HCall.out t wr _ hmem HI.out
      clear hmem
      simp only [Int.toNat_natCast] at hc0 hc1 hc2 hc3
      generalize rd_T23 l (kk : Int) = x at hc0 hc1 hc2 hc3 HX hcall
      have HC := Aside0.mk hcall
      clear hcall
      cases hq : (step t x).1 with
      | true =>
        have h := HC.out
        rw [hq] at h
        have HH := Aside0.mk h
        have HQ := Aside0.mk hq
        clear hq HC h
        go_wp2_with fail
        refine HH.out.mono ?_
        rintro e w' ⟨rfl, hb'⟩
        have HB := Aside0.mk hb'
        clear hb'
        go_wp2
        go_ret
        rw [HS.out, HX.out, if_pos HQ.out]
        exact ⟨rfl, HB.out⟩
      | false =>
        have h := HC.out
        rw [hq] at h
        have HH := Aside0.mk h
        have HQ := Aside0.mk hq
        clear hq HC h
        go_wp2_with fail
        refine HH.out.mono ?_
        rintro e w' ⟨rfl, hb'⟩
        have HB := Aside0.mk hb'
        clear hb'
        go_wp2
        go_roundg (l.length - (kk + 1))
        case measure => omega
        case rel =>
          refine ⟨kk + 1, (step t x).2, by omega, by omega, by go_num, HB, ⟨?_⟩⟩
          rw [HS.out, HX.out, if_neg (by rw [HQ.out]; simp)]
    · have hltz : ¬ (kk : Int) < (l.length : Int) := by omega
      go_wp2
      go_ret
      rw [HS.out, List.drop_eq_nil_of_le (by omega)]
      exact ⟨rfl, HI.out⟩

set_option maxHeartbeats 1000000 in
theorem con134 {σ : Type} (Inv : σ → World → Prop) (step : σ → S23 → Bool × σ) (g : Nat) (lb : Array Value) (eg : ∀ args w, (callFunc g args).run Try.prog w = .ok (.enter g args) w) (l : List S23) (A : Option Addr) (c : Nat)
    (hR : ∀ s W, Inv s W → Kd.C k23 W A l.length l) (hD : ∀ s W n, Inv s W → Inv s (W.drewN n))
    (hcall : ∀ s W (x : S23), x ∈ l → Inv s W → Calls Try.prog g (#[.agg #[.int .i64 x.f0, .int .i64 x.f1, .int .i64 x.f2, .int .i64 x.f3]] ++ lb) W fun e w' => e = .returned (.bool (step s x).1) ∧ Inv (step s x).2 w')
    (s : σ) (w : World) (hI : Inv s w) (hl : l.length ≤ 9223372036854775807) :
    Calls Try.prog 134 #[.slice A l.length c, .func (.func g) #[] lb] w fun e w' => e = .returned (.bool (scanB step s l).1) ∧ Inv (scanB step s l).2 w' := by
  have hi := idx173 Inv step g lb eg l A c hR hD hcall s w hI hl
  rw [scanB_eq]
  clear hR hD hcall hI
  generalize scanI step 0 s l = r at hi
  have HI := Aside0.mk hi
  clear hi
  go_enter Try.func134, Try.ntmps134
  go_wp2_with fail
  refine HI.out.mono ?_
  rintro e w' ⟨rfl, hb'⟩
  have HB := Aside0.mk hb'
  clear hb'
  go_wp2
  go_ret
  exact ⟨rfl, HB.out⟩
end Go.Proofs.Ytfdmfgaiblfbhaa.P
/- The contract of rect.May: whether all of some rectangles may be. -/
namespace Go.Proofs.Ytfdmfgaiblfbhaa.P
open Go.RowKit Go.Proofs.YtfdmfgaiblfbhaaW.PrintWords Go.Proofs.YtfdmfgaiblfbhaaW.PrintLast Go.Proofs.YtfdmfgaiblfbhaaW.PrintMore

set_option maxHeartbeats 1000000 in
theorem may1 (x : S23) (w : World) : Calls Try.prog 138 #[.agg #[.int .i64 x.f0, .int .i64 x.f1, .int .i64 x.f2, .int .i64 x.f3]] w fun e w' => e = .returned (.bool (!mayR x)) ∧ Below w.heap.size w w' := by
  have hc := fun W => rect_may.calls x.f0 x.f1 x.f2 x.f3 (mayR x) W (may_some _ _ _ _)
  have HC := Aside0.mk hc
  clear hc
  cases hm : mayR x with
  | true =>
    rw [hm] at HC
    clear hm
    go_enter Try.func138, Try.ntmps138
    go_wp2_with fail
    refine (HC.out _).mono ?_
    rintro e w' ⟨rfl, hb⟩
    have HB := Aside0.mk hb
    clear hb
    go_wp2
    go_ret
    exact ⟨rfl, below_then (below_alloc (Below.refl _ _) _) (by simp) HB.out⟩
  | false =>
    rw [hm] at HC
    clear hm
    go_enter Try.func138, Try.ntmps138
    go_wp2_with fail
    refine (HC.out _).mono ?_
    rintro e w' ⟨rfl, hb⟩
    have HB := Aside0.mk hb
    clear hb
    go_wp2
    go_ret
    exact ⟨rfl, below_then (below_alloc (Below.refl _ _) _) (by simp) HB.out⟩
def rect_May.f (l0 : List (S23)) : Option Bool := some (l0.all mayR)
set_option maxHeartbeats 1000000 in
theorem rect_May.calls (A0 : Option Addr) (c0 : Nat) (l0 : List (S23)) (r : Bool) (w : World) (hr0 : Kd.C k23 w A0 l0.length l0) (_hc0 : l0.length ≤ c0) (h : rect_May.f l0 = some r) :
    Calls Try.prog 68 #[.slice A0 l0.length c0] w fun e w' => e = .returned (.bool r) ∧ Below w.heap.size w w' := by
  have hcon := con134 (fun (_ : Unit) W => Below w.heap.size w W) (fun _ x => (!mayR x, ())) 138 #[] (enters_fn Try.func138 (by decide +kernel) (by kernel_rfl)) l0 A0 c0 (fun _ W hW => Kd.C_below hr0 hW) (fun _ W n hW => pw_below_drewN hW n)
    (fun _ W x _ hW => by
      rw [show (#[Value.agg #[.int .i64 x.f0, .int .i64 x.f1, .int .i64 x.f2, .int .i64 x.f3]] ++ #[] : Array Value) = #[.agg #[.int .i64 x.f0, .int .i64 x.f1, .int .i64 x.f2, .int .i64 x.f3]] by simp]
      exact (may1 x W).mono fun e w' ⟨he, hb⟩ => ⟨he, below_then hW hW.size hb⟩) () w (Below.refl _ _) hr0.2.1
  rw [scanB_any] at hcon
  have e1 : r = !(l0.any fun x => !mayR x) := by
    injection h with h
    rw [← h]
    clear h hcon hr0 _hc0
    induction l0 with
    | nil => rfl
    | cons x xs ih => simp only [List.all_cons, List.any_cons, ih, Bool.not_or, Bool.not_not]
  subst e1
  generalize (l0.any fun x => !mayR x) = b at hcon
  have HC := Aside0.mk hcon
  clear hcon h hr0
  go_enter Try.func68, Try.ntmps68
  go_wp2_with fail
  refine HC.out.mono ?_
  rintro e w' ⟨rfl, hb⟩
  have HB := Aside0.mk hb
  clear hb
  go_wp2
  go_ret
  exact ⟨rfl, HB.out⟩
end Go.Proofs.Ytfdmfgaiblfbhaa.P
/- The contract of cell.May: whether trees may be. Condition: each has at most 1048576 cells. -/
namespace Go.Proofs.Ytfdmfgaiblfbhaa.P
open Go.RowKit Go.Proofs.YtfdmfgaiblfbhaaW.PrintWords Go.Proofs.YtfdmfgaiblfbhaaW.PrintLast Go.Proofs.YtfdmfgaiblfbhaaW.PrintMore
set_option linter.unusedVariables false
set_option linter.unusedSimpArgs false
theorem Kp.grown {S : Nat → Prop} {W W1 : World} {g : Nat} (h : W.grownBy W1 (some g)) (hs : S g) : Kp S W W1 := ⟨h.size, fun k hk hn => h.block k hk (fun e => hn (by injection e with e; rw [e]; exact hs))⟩
theorem MayI.count {w0 W W1 : World} {bn bm B : Nat} {s : Int × List Int} {n : Int} (h : MayI w0 bn bm B s W) (hk : W1.heap[bn]? = some (.cells #[.int .i64 n] 3 (0, 0))) (hb : Below w0.heap.size w0 W1) (hg : W.grownBy W1 (some bn)) : MayI w0 bn bm B (n, s.2) W1 :=
  ⟨hk, blk_grown h.hm hg (fun e => h.neB.2.2 (Option.some.inj e)), h.map.kept hg (fun e => h.neB.1 (Option.some.inj e).symm), hb, h.gn, h.gB, h.nd, h.rg⟩
theorem MayI.met {w0 W W1 : World} {bn bm B : Nat} {s : Int × List Int} {i : Int} (h : MayI w0 bn bm B s W) (hm : W1.ownsMap (H := Unit) Try.prog 3 (plainElem Try.prog 4) B (s.2.length + 1) ((setD s.2).put (.int .i64 i) (.lit (.bool true)))) (hg : W.grownBy W1 (some B)) (hi : i ∉ s.2) (h0 : 0 ≤ i) (h1 : i ≤ 2147483647) : MayI w0 bn bm B (s.1, i :: s.2) W1 :=
  ⟨blk_grown h.hn hg (fun e => h.neB.1 (Option.some.inj e)), blk_grown h.hm hg (fun e => h.neB.2.1 (Option.some.inj e)), hm, grown_below h.below hg h.gB h.below.size, h.gn, h.gB, List.nodup_cons.2 ⟨hi, h.nd⟩, fun j hj => by
    rcases List.mem_cons.1 hj with rfl | hj
    · exact ⟨h0, h1⟩
    · exact h.rg j hj⟩
theorem zero4 (w : World) : (zeroValue 4).run Try.prog w = .ok (.bool false) w := by kernel_rfl
set_option maxHeartbeats 4000000 in
set_option maxRecDepth 100000 in
theorem may_A (w0 : World) (bn bm B : Nat) (s : Int × List Int) (W : World) (x : S26) (A : Option Addr) (cb : Nat) (hI : MayI w0 bn bm B s W) (h1 : 20000 < wrap64 (s.1 + 1)) :
    Calls Try.prog 176 (#[.agg #[.int .u8 x.f0, .int .i64 x.f1.f0, .int .i64 x.f1.f1, .int .i64 x.f1.f2, .int .i64 x.f1.f3, .int .i64 x.f2, .slice A x.f3.length cb]] ++ #[.pointer (some ⟨bn, 0, none⟩), .pointer (some ⟨bm, 0, none⟩)]) W fun e w' => e = .returned (.bool (mStep s x).1) ∧ MayI w0 bn bm B (mStep s x).2 w' ∧ Kp (MayS bn B) W w' := by
  rw [show mStep s x = (false, (wrap64 (s.1 + 1), s.2)) from by unfold mStep; rw [if_pos h1]]
  have HI := Aside0.mk hI
  have HK := Aside0.mk (Kp.refl (MayS bn B) W)
  clear hI
  simp only [List.append_toArray, List.cons_append, List.nil_append]
  go_enter Try.func176, Try.ntmps176
  go_wp2_with (first | ((with_reducible refine gate_dst (N := 3) rfl ?_); refine box_event ?hg (N := 3) ?hd (cs := #[.int .u8 x.f0, .int .i64 x.f1.f0, .int .i64 x.f1.f1, .int .i64 x.f1.f2, .int .i64 x.f1.f3, .int .i64 x.f2, .slice A x.f3.length cb]) (t := 26) ?hr ?_; (case hd => rfl); (case hg => rfl); (case hr => (go_simp; done)); intro b3 hg w3 hbox hb; have K3 := Aside0.mk hbox; have q1_ := Aside0.mk (HI.out.step hb); have q2_ := Aside0.mk (HK.out.trans (Kp.below hb)); clear HI HK; have HI := q1_; have HK := q2_; clear q1_ q2_; clear hb hbox hg; have cn := (blk_cell HI.out.hn 0).trans rfl) | ((with_reducible refine gate_ (.store 3 (.tmp 1) (.tmp 6)) rfl ?_); go_loud (clear cn; refine box_store (w0 := w0) rfl rfl 3 (.tmp 1) (.tmp 6) rfl (g := bn) (j := 0) (base := w0.heap.size) #[.int .i64 (wrap64 (s.1 + 1))] (u := .int .i64 (wrap64 (s.1 + 1))) (seg := [.int .i64 (wrap64 (s.1 + 1))]) ?sA ?sX rfl ?sT ?s1 HI.out.hn ?sJ rfl HI.out.below HI.out.below.size HI.out.gn ?_; (case sA => rfl); (case sX => rfl); (case sT => rfl); (case s1 => (simp [Value.oneCell'])); (case sJ => (simp)); intro ws hbk hbb hgg; have q1_ := Aside0.mk (HI.out.count hbk hbb hgg); have q2_ := Aside0.mk (HK.out.trans (Kp.grown hgg (Or.inl rfl))); have q3_ := Aside0.mk (blk_grown K3.out hgg (fun e_ => blk_ne K3.out HI.out.hn (by decide) (Option.some.inj e_))); clear HI HK K3 hbk hbb hgg; have HI := q1_; have HK := q2_; have K3 := q3_; clear q1_ q2_ q3_; have cn := (blk_cell HI.out.hn 0).trans rfl; have c0 := (blk_cell K3.out 0).trans rfl; have c1 := (blk_cell K3.out 1).trans rfl; have c2 := (blk_cell K3.out 2).trans rfl; have c3 := (blk_cell K3.out 3).trans rfl; have c4 := (blk_cell K3.out 4).trans rfl; have c5 := (blk_cell K3.out 5).trans rfl; have c6 := (blk_cell K3.out 6).trans rfl)))
  go_ret
  exact ⟨rfl, HI.out, HK.out⟩
set_option maxHeartbeats 4000000 in
set_option maxRecDepth 100000 in
theorem may_B (w0 : World) (bn bm B : Nat) (s : Int × List Int) (W : World) (x : S26) (A : Option Addr) (cb : Nat) (hI : MayI w0 bn bm B s W) (h1 : ¬ 20000 < wrap64 (s.1 + 1)) (h2 : nodeB x = false) :
    Calls Try.prog 176 (#[.agg #[.int .u8 x.f0, .int .i64 x.f1.f0, .int .i64 x.f1.f1, .int .i64 x.f1.f2, .int .i64 x.f1.f3, .int .i64 x.f2, .slice A x.f3.length cb]] ++ #[.pointer (some ⟨bn, 0, none⟩), .pointer (some ⟨bm, 0, none⟩)]) W fun e w' => e = .returned (.bool (mStep s x).1) ∧ MayI w0 bn bm B (mStep s x).2 w' ∧ Kp (MayS bn B) W w' := by
  rw [show mStep s x = (false, (wrap64 (s.1 + 1), s.2)) from by unfold mStep; rw [if_neg h1, okC_node, h2]; simp]
  have HN := Aside0.mk fun W => node177 x A cb W
  rw [h2] at HN
  clear h2
  have HI := Aside0.mk hI
  have HK := Aside0.mk (Kp.refl (MayS bn B) W)
  clear hI
  simp only [List.append_toArray, List.cons_append, List.nil_append]
  go_enter Try.func176, Try.ntmps176
  go_wp2_with (first | ((with_reducible refine gate_dst (N := 3) rfl ?_); refine box_event ?hg (N := 3) ?hd (cs := #[.int .u8 x.f0, .int .i64 x.f1.f0, .int .i64 x.f1.f1, .int .i64 x.f1.f2, .int .i64 x.f1.f3, .int .i64 x.f2, .slice A x.f3.length cb]) (t := 26) ?hr ?_; (case hd => rfl); (case hg => rfl); (case hr => (go_simp; done)); intro b3 hg w3 hbox hb; have K3 := Aside0.mk hbox; have q1_ := Aside0.mk (HI.out.step hb); have q2_ := Aside0.mk (HK.out.trans (Kp.below hb)); clear HI HK; have HI := q1_; have HK := q2_; clear q1_ q2_; clear hb hbox hg; have cn := (blk_cell HI.out.hn 0).trans rfl) | ((with_reducible refine gate_ (.store 3 (.tmp 1) (.tmp 6)) rfl ?_); go_loud (clear cn; refine box_store (w0 := w0) rfl rfl 3 (.tmp 1) (.tmp 6) rfl (g := bn) (j := 0) (base := w0.heap.size) #[.int .i64 (wrap64 (s.1 + 1))] (u := .int .i64 (wrap64 (s.1 + 1))) (seg := [.int .i64 (wrap64 (s.1 + 1))]) ?sA ?sX rfl ?sT ?s1 HI.out.hn ?sJ rfl HI.out.below HI.out.below.size HI.out.gn ?_; (case sA => rfl); (case sX => rfl); (case sT => rfl); (case s1 => (simp [Value.oneCell'])); (case sJ => (simp)); intro ws hbk hbb hgg; have q1_ := Aside0.mk (HI.out.count hbk hbb hgg); have q2_ := Aside0.mk (HK.out.trans (Kp.grown hgg (Or.inl rfl))); have q3_ := Aside0.mk (blk_grown K3.out hgg (fun e_ => blk_ne K3.out HI.out.hn (by decide) (Option.some.inj e_))); clear HI HK K3 hbk hbb hgg; have HI := q1_; have HK := q2_; have K3 := q3_; clear q1_ q2_ q3_; have cn := (blk_cell HI.out.hn 0).trans rfl; have c0 := (blk_cell K3.out 0).trans rfl; have c1 := (blk_cell K3.out 1).trans rfl; have c2 := (blk_cell K3.out 2).trans rfl; have c3 := (blk_cell K3.out 3).trans rfl; have c4 := (blk_cell K3.out 4).trans rfl; have c5 := (blk_cell K3.out 5).trans rfl; have c6 := (blk_cell K3.out 6).trans rfl)))
  clear cn
  clear c0 c1 c2 c3 c4 c5 c6
  refine (HN.out _).mono ?_
  rintro e wk ⟨rfl, hb⟩
  have q3_ := Aside0.mk (blk_below K3.out hb)
  clear K3
  have K3 := q3_
  clear q3_
  have q1_ := Aside0.mk (HI.out.step hb); have q2_ := Aside0.mk (HK.out.trans (Kp.below hb)); clear HI HK; have HI := q1_; have HK := q2_; clear q1_ q2_
  clear hb
  go_wp2
  go_ret
  exact ⟨rfl, HI.out, HK.out⟩
set_option maxHeartbeats 4000000 in
set_option maxRecDepth 100000 in
theorem may_C (w0 : World) (bn bm B : Nat) (s : Int × List Int) (W : World) (x : S26) (A : Option Addr) (cb : Nat) (hI : MayI w0 bn bm B s W) (h1 : ¬ 20000 < wrap64 (s.1 + 1)) (h2 : nodeB x = true) (h3 : mayR x.f1 = false) :
    Calls Try.prog 176 (#[.agg #[.int .u8 x.f0, .int .i64 x.f1.f0, .int .i64 x.f1.f1, .int .i64 x.f1.f2, .int .i64 x.f1.f3, .int .i64 x.f2, .slice A x.f3.length cb]] ++ #[.pointer (some ⟨bn, 0, none⟩), .pointer (some ⟨bm, 0, none⟩)]) W fun e w' => e = .returned (.bool (mStep s x).1) ∧ MayI w0 bn bm B (mStep s x).2 w' ∧ Kp (MayS bn B) W w' := by
  rw [show mStep s x = (false, (wrap64 (s.1 + 1), s.2)) from by unfold mStep; rw [if_neg h1, okC_node, h2, h3]; simp]
  have HN := Aside0.mk fun W => node177 x A cb W
  rw [h2] at HN
  clear h2
  have M1 := Aside0.mk (show rect_May.f [x.f1] = some false by simp [rect_May.f, h3])
  clear h3
  have HI := Aside0.mk hI
  have HK := Aside0.mk (Kp.refl (MayS bn B) W)
  clear hI
  simp only [List.append_toArray, List.cons_append, List.nil_append]
  go_enter Try.func176, Try.ntmps176
  go_wp2_with (first | ((with_reducible refine gate_dst (N := 3) rfl ?_); refine box_event ?hg (N := 3) ?hd (cs := #[.int .u8 x.f0, .int .i64 x.f1.f0, .int .i64 x.f1.f1, .int .i64 x.f1.f2, .int .i64 x.f1.f3, .int .i64 x.f2, .slice A x.f3.length cb]) (t := 26) ?hr ?_; (case hd => rfl); (case hg => rfl); (case hr => (go_simp; done)); intro b3 hg w3 hbox hb; have K3 := Aside0.mk hbox; have q1_ := Aside0.mk (HI.out.step hb); have q2_ := Aside0.mk (HK.out.trans (Kp.below hb)); clear HI HK; have HI := q1_; have HK := q2_; clear q1_ q2_; clear hb hbox hg; have cn := (blk_cell HI.out.hn 0).trans rfl) | ((with_reducible refine gate_ (.store 3 (.tmp 1) (.tmp 6)) rfl ?_); go_loud (clear cn; refine box_store (w0 := w0) rfl rfl 3 (.tmp 1) (.tmp 6) rfl (g := bn) (j := 0) (base := w0.heap.size) #[.int .i64 (wrap64 (s.1 + 1))] (u := .int .i64 (wrap64 (s.1 + 1))) (seg := [.int .i64 (wrap64 (s.1 + 1))]) ?sA ?sX rfl ?sT ?s1 HI.out.hn ?sJ rfl HI.out.below HI.out.below.size HI.out.gn ?_; (case sA => rfl); (case sX => rfl); (case sT => rfl); (case s1 => (simp [Value.oneCell'])); (case sJ => (simp)); intro ws hbk hbb hgg; have q1_ := Aside0.mk (HI.out.count hbk hbb hgg); have q2_ := Aside0.mk (HK.out.trans (Kp.grown hgg (Or.inl rfl))); have q3_ := Aside0.mk (blk_grown K3.out hgg (fun e_ => blk_ne K3.out HI.out.hn (by decide) (Option.some.inj e_))); clear HI HK K3 hbk hbb hgg; have HI := q1_; have HK := q2_; have K3 := q3_; clear q1_ q2_ q3_; have cn := (blk_cell HI.out.hn 0).trans rfl; have c0 := (blk_cell K3.out 0).trans rfl; have c1 := (blk_cell K3.out 1).trans rfl; have c2 := (blk_cell K3.out 2).trans rfl; have c3 := (blk_cell K3.out 3).trans rfl; have c4 := (blk_cell K3.out 4).trans rfl; have c5 := (blk_cell K3.out 5).trans rfl; have c6 := (blk_cell K3.out 6).trans rfl)))
  clear cn
  clear c0 c1 c2 c3 c4 c5 c6
  refine (HN.out _).mono ?_
  rintro e wk ⟨rfl, hb⟩
  have q3_ := Aside0.mk (blk_below K3.out hb)
  clear K3
  have K3 := q3_
  clear q3_
  have q1_ := Aside0.mk (HI.out.step hb); have q2_ := Aside0.mk (HK.out.trans (Kp.below hb)); clear HI HK; have HI := q1_; have HK := q2_; clear q1_ q2_
  clear hb
  have c0 := (blk_cell K3.out 0).trans rfl
  have c1 := (blk_cell K3.out 1).trans rfl
  have c2 := (blk_cell K3.out 2).trans rfl
  have c3 := (blk_cell K3.out 3).trans rfl
  have c4 := (blk_cell K3.out 4).trans rfl
  have c5 := (blk_cell K3.out 5).trans rfl
  have c6 := (blk_cell K3.out 6).trans rfl
  go_wp2_with (((with_reducible refine gate_dst (N := 17) rfl ?_); (try (refine gate_guard (by rfl) ?_; dsimp only)); refine Kd.R_lit k23 _ 23 ?hg (N := 17) ?hd (xs := ([x.f1] : List S23)) (inner := [.int .i64 x.f1.f0, .int .i64 x.f1.f1, .int .i64 x.f1.f2, .int .i64 x.f1.f3]) (ok := fun _ => True) (okp := fun _ => True) ?hr ?hp (fun _ hk => hk) trivial (Below.refl _ _) (Nat.le_refl _) (by simp) ?_; (case hd => rfl); (case hg => rfl); (case hr => (go_simp; done)); (case hp => exact (Reps.c4 (show Kd.M k23 _ _ _ x.f1 [.int .i64 x.f1.f0, .int .i64 x.f1.f1, .int .i64 x.f1.f2, .int .i64 x.f1.f3] from k23_mkM _ _ _ x.f1) (Reps.none _ _))); intro vr wr ho hb hg_ hnew_; clear hg_ hnew_; obtain ⟨Ar, cr, er⟩ := Kd.R_slice ho; subst er; have q3_ := Aside0.mk (blk_below K3.out hb); clear K3; have K3 := q3_; clear q3_; have q1_ := Aside0.mk (HI.out.step hb); have q2_ := Aside0.mk (HK.out.trans (Kp.below hb)); clear HI HK; have HI := q1_; have HK := q2_; clear q1_ q2_; have HR := Aside0.mk (Kd.R_reads' ho).2.2; have LR := Aside0.mk (Kd.R_reads' ho).2.1; clear ho hb))
  clear c0 c1 c2 c3 c4 c5 c6
  refine (rect_May.calls Ar cr [x.f1] false _ HR.out LR.out M1.out).mono ?_
  rintro e wk ⟨rfl, hb⟩
  have q3_ := Aside0.mk (blk_below K3.out hb)
  clear K3
  have K3 := q3_
  clear q3_
  have q1_ := Aside0.mk (HI.out.step hb); have q2_ := Aside0.mk (HK.out.trans (Kp.below hb)); clear HI HK; have HI := q1_; have HK := q2_; clear q1_ q2_
  clear hb
  go_wp2
  go_ret
  exact ⟨rfl, HI.out, HK.out⟩
set_option maxHeartbeats 4000000 in
set_option maxRecDepth 100000 in
theorem may_D (w0 : World) (bn bm B : Nat) (s : Int × List Int) (W : World) (x : S26) (A : Option Addr) (cb : Nat) (hI : MayI w0 bn bm B s W) (h1 : ¬ 20000 < wrap64 (s.1 + 1)) (h2 : nodeB x = true) (h3 : mayR x.f1 = true) (h4 : x.f0 ≠ 1) :
    Calls Try.prog 176 (#[.agg #[.int .u8 x.f0, .int .i64 x.f1.f0, .int .i64 x.f1.f1, .int .i64 x.f1.f2, .int .i64 x.f1.f3, .int .i64 x.f2, .slice A x.f3.length cb]] ++ #[.pointer (some ⟨bn, 0, none⟩), .pointer (some ⟨bm, 0, none⟩)]) W fun e w' => e = .returned (.bool (mStep s x).1) ∧ MayI w0 bn bm B (mStep s x).2 w' ∧ Kp (MayS bn B) W w' := by
  rw [show mStep s x = (true, (wrap64 (s.1 + 1), s.2)) from by unfold mStep; rw [if_neg h1, okC_node, h2, h3, if_neg (by simp), if_neg h4]]
  have HN := Aside0.mk fun W => node177 x A cb W
  rw [h2] at HN
  clear h2
  have M1 := Aside0.mk (show rect_May.f [x.f1] = some true by simp [rect_May.f, h3])
  clear h3
  have h4b : (x.f0 == 1) = false := beq_eq_false_iff_ne.mpr h4
  clear h4
  have HI := Aside0.mk hI
  have HK := Aside0.mk (Kp.refl (MayS bn B) W)
  clear hI
  simp only [List.append_toArray, List.cons_append, List.nil_append]
  go_enter Try.func176, Try.ntmps176
  go_wp2_with (first | ((with_reducible refine gate_dst (N := 3) rfl ?_); refine box_event ?hg (N := 3) ?hd (cs := #[.int .u8 x.f0, .int .i64 x.f1.f0, .int .i64 x.f1.f1, .int .i64 x.f1.f2, .int .i64 x.f1.f3, .int .i64 x.f2, .slice A x.f3.length cb]) (t := 26) ?hr ?_; (case hd => rfl); (case hg => rfl); (case hr => (go_simp; done)); intro b3 hg w3 hbox hb; have K3 := Aside0.mk hbox; have q1_ := Aside0.mk (HI.out.step hb); have q2_ := Aside0.mk (HK.out.trans (Kp.below hb)); clear HI HK; have HI := q1_; have HK := q2_; clear q1_ q2_; clear hb hbox hg; have cn := (blk_cell HI.out.hn 0).trans rfl) | ((with_reducible refine gate_ (.store 3 (.tmp 1) (.tmp 6)) rfl ?_); go_loud (clear cn; refine box_store (w0 := w0) rfl rfl 3 (.tmp 1) (.tmp 6) rfl (g := bn) (j := 0) (base := w0.heap.size) #[.int .i64 (wrap64 (s.1 + 1))] (u := .int .i64 (wrap64 (s.1 + 1))) (seg := [.int .i64 (wrap64 (s.1 + 1))]) ?sA ?sX rfl ?sT ?s1 HI.out.hn ?sJ rfl HI.out.below HI.out.below.size HI.out.gn ?_; (case sA => rfl); (case sX => rfl); (case sT => rfl); (case s1 => (simp [Value.oneCell'])); (case sJ => (simp)); intro ws hbk hbb hgg; have q1_ := Aside0.mk (HI.out.count hbk hbb hgg); have q2_ := Aside0.mk (HK.out.trans (Kp.grown hgg (Or.inl rfl))); have q3_ := Aside0.mk (blk_grown K3.out hgg (fun e_ => blk_ne K3.out HI.out.hn (by decide) (Option.some.inj e_))); clear HI HK K3 hbk hbb hgg; have HI := q1_; have HK := q2_; have K3 := q3_; clear q1_ q2_ q3_; have cn := (blk_cell HI.out.hn 0).trans rfl; have c0 := (blk_cell K3.out 0).trans rfl; have c1 := (blk_cell K3.out 1).trans rfl; have c2 := (blk_cell K3.out 2).trans rfl; have c3 := (blk_cell K3.out 3).trans rfl; have c4 := (blk_cell K3.out 4).trans rfl; have c5 := (blk_cell K3.out 5).trans rfl; have c6 := (blk_cell K3.out 6).trans rfl)))
  clear cn
  clear c0 c1 c2 c3 c4 c5 c6
  refine (HN.out _).mono ?_
  rintro e wk ⟨rfl, hb⟩
  have q3_ := Aside0.mk (blk_below K3.out hb)
  clear K3
  have K3 := q3_
  clear q3_
  have q1_ := Aside0.mk (HI.out.step hb); have q2_ := Aside0.mk (HK.out.trans (Kp.below hb)); clear HI HK; have HI := q1_; have HK := q2_; clear q1_ q2_
  clear hb
  have c0 := (blk_cell K3.out 0).trans rfl
  have c1 := (blk_cell K3.out 1).trans rfl
  have c2 := (blk_cell K3.out 2).trans rfl
  have c3 := (blk_cell K3.out 3).trans rfl
  have c4 := (blk_cell K3.out 4).trans rfl
  have c5 := (blk_cell K3.out 5).trans rfl
  have c6 := (blk_cell K3.out 6).trans rfl
  go_wp2_with (((with_reducible refine gate_dst (N := 17) rfl ?_); (try (refine gate_guard (by rfl) ?_; dsimp only)); refine Kd.R_lit k23 _ 23 ?hg (N := 17) ?hd (xs := ([x.f1] : List S23)) (inner := [.int .i64 x.f1.f0, .int .i64 x.f1.f1, .int .i64 x.f1.f2, .int .i64 x.f1.f3]) (ok := fun _ => True) (okp := fun _ => True) ?hr ?hp (fun _ hk => hk) trivial (Below.refl _ _) (Nat.le_refl _) (by simp) ?_; (case hd => rfl); (case hg => rfl); (case hr => (go_simp; done)); (case hp => exact (Reps.c4 (show Kd.M k23 _ _ _ x.f1 [.int .i64 x.f1.f0, .int .i64 x.f1.f1, .int .i64 x.f1.f2, .int .i64 x.f1.f3] from k23_mkM _ _ _ x.f1) (Reps.none _ _))); intro vr wr ho hb hg_ hnew_; clear hg_ hnew_; obtain ⟨Ar, cr, er⟩ := Kd.R_slice ho; subst er; have q3_ := Aside0.mk (blk_below K3.out hb); clear K3; have K3 := q3_; clear q3_; have q1_ := Aside0.mk (HI.out.step hb); have q2_ := Aside0.mk (HK.out.trans (Kp.below hb)); clear HI HK; have HI := q1_; have HK := q2_; clear q1_ q2_; have HR := Aside0.mk (Kd.R_reads' ho).2.2; have LR := Aside0.mk (Kd.R_reads' ho).2.1; clear ho hb))
  clear c0 c1 c2 c3 c4 c5 c6
  refine (rect_May.calls Ar cr [x.f1] true _ HR.out LR.out M1.out).mono ?_
  rintro e wk ⟨rfl, hb⟩
  have q3_ := Aside0.mk (blk_below K3.out hb)
  clear K3
  have K3 := q3_
  clear q3_
  have q1_ := Aside0.mk (HI.out.step hb); have q2_ := Aside0.mk (HK.out.trans (Kp.below hb)); clear HI HK; have HI := q1_; have HK := q2_; clear q1_ q2_
  clear hb
  have c0 := (blk_cell K3.out 0).trans rfl
  have c1 := (blk_cell K3.out 1).trans rfl
  have c2 := (blk_cell K3.out 2).trans rfl
  have c3 := (blk_cell K3.out 3).trans rfl
  have c4 := (blk_cell K3.out 4).trans rfl
  have c5 := (blk_cell K3.out 5).trans rfl
  have c6 := (blk_cell K3.out 6).trans rfl
  go_wp2
  go_ret
  exact ⟨rfl, HI.out, HK.out⟩
set_option maxHeartbeats 4000000 in
set_option maxRecDepth 100000 in
theorem may_E (w0 : World) (bn bm B : Nat) (s : Int × List Int) (W : World) (x : S26) (A : Option Addr) (cb : Nat) (hI : MayI w0 bn bm B s W) (h1 : ¬ 20000 < wrap64 (s.1 + 1)) (h2 : nodeB x = true) (h3 : mayR x.f1 = true) (h4 : x.f0 = 1) (h5 : 0 ≤ x.f2) (h6 : x.f2 ≤ 2147483647) (h7 : x.f2 ∈ s.2) :
    Calls Try.prog 176 (#[.agg #[.int .u8 x.f0, .int .i64 x.f1.f0, .int .i64 x.f1.f1, .int .i64 x.f1.f2, .int .i64 x.f1.f3, .int .i64 x.f2, .slice A x.f3.length cb]] ++ #[.pointer (some ⟨bn, 0, none⟩), .pointer (some ⟨bm, 0, none⟩)]) W fun e w' => e = .returned (.bool (mStep s x).1) ∧ MayI w0 bn bm B (mStep s x).2 w' ∧ Kp (MayS bn B) W w' := by
  rw [show mStep s x = (false, (wrap64 (s.1 + 1), s.2)) from by unfold mStep; rw [if_neg h1, okC_node, h2, h3, if_neg (by simp), if_pos h4, if_pos h7]]
  have HN := Aside0.mk fun W => node177 x A cb W
  rw [h2] at HN
  clear h2
  have M1 := Aside0.mk (show rect_May.f [x.f1] = some true by simp [rect_May.f, h3])
  clear h3
  have LK : Aside0 ((setD s.2).atKey (.int .i64 x.f2) (.lit (.bool false)) = .lit (.bool true)) := ⟨by rw [setD_at, decide_eq_true h7]⟩
  clear h7
  have WF : Aside0 ((Lit.int .i64 x.f2).wf = true) := ⟨WalkArith.wf_i64 (by omega)⟩
  have h4b : (x.f0 == 1) = true := beq_iff_eq.mpr h4
  clear h4 h5 h6
  have HI := Aside0.mk hI
  have HK := Aside0.mk (Kp.refl (MayS bn B) W)
  clear hI
  simp only [List.append_toArray, List.cons_append, List.nil_append]
  go_enter Try.func176, Try.ntmps176
  go_wp2_with (first | ((with_reducible refine gate_dst (N := 3) rfl ?_); refine box_event ?hg (N := 3) ?hd (cs := #[.int .u8 x.f0, .int .i64 x.f1.f0, .int .i64 x.f1.f1, .int .i64 x.f1.f2, .int .i64 x.f1.f3, .int .i64 x.f2, .slice A x.f3.length cb]) (t := 26) ?hr ?_; (case hd => rfl); (case hg => rfl); (case hr => (go_simp; done)); intro b3 hg w3 hbox hb; have K3 := Aside0.mk hbox; have q1_ := Aside0.mk (HI.out.step hb); have q2_ := Aside0.mk (HK.out.trans (Kp.below hb)); clear HI HK; have HI := q1_; have HK := q2_; clear q1_ q2_; clear hb hbox hg; have cn := (blk_cell HI.out.hn 0).trans rfl) | ((with_reducible refine gate_ (.store 3 (.tmp 1) (.tmp 6)) rfl ?_); go_loud (clear cn; refine box_store (w0 := w0) rfl rfl 3 (.tmp 1) (.tmp 6) rfl (g := bn) (j := 0) (base := w0.heap.size) #[.int .i64 (wrap64 (s.1 + 1))] (u := .int .i64 (wrap64 (s.1 + 1))) (seg := [.int .i64 (wrap64 (s.1 + 1))]) ?sA ?sX rfl ?sT ?s1 HI.out.hn ?sJ rfl HI.out.below HI.out.below.size HI.out.gn ?_; (case sA => rfl); (case sX => rfl); (case sT => rfl); (case s1 => (simp [Value.oneCell'])); (case sJ => (simp)); intro ws hbk hbb hgg; have q1_ := Aside0.mk (HI.out.count hbk hbb hgg); have q2_ := Aside0.mk (HK.out.trans (Kp.grown hgg (Or.inl rfl))); have q3_ := Aside0.mk (blk_grown K3.out hgg (fun e_ => blk_ne K3.out HI.out.hn (by decide) (Option.some.inj e_))); clear HI HK K3 hbk hbb hgg; have HI := q1_; have HK := q2_; have K3 := q3_; clear q1_ q2_ q3_; have cn := (blk_cell HI.out.hn 0).trans rfl; have c0 := (blk_cell K3.out 0).trans rfl; have c1 := (blk_cell K3.out 1).trans rfl; have c2 := (blk_cell K3.out 2).trans rfl; have c3 := (blk_cell K3.out 3).trans rfl; have c4 := (blk_cell K3.out 4).trans rfl; have c5 := (blk_cell K3.out 5).trans rfl; have c6 := (blk_cell K3.out 6).trans rfl)))
  clear cn
  clear c0 c1 c2 c3 c4 c5 c6
  refine (HN.out _).mono ?_
  rintro e wk ⟨rfl, hb⟩
  have q3_ := Aside0.mk (blk_below K3.out hb)
  clear K3
  have K3 := q3_
  clear q3_
  have q1_ := Aside0.mk (HI.out.step hb); have q2_ := Aside0.mk (HK.out.trans (Kp.below hb)); clear HI HK; have HI := q1_; have HK := q2_; clear q1_ q2_
  clear hb
  have c0 := (blk_cell K3.out 0).trans rfl
  have c1 := (blk_cell K3.out 1).trans rfl
  have c2 := (blk_cell K3.out 2).trans rfl
  have c3 := (blk_cell K3.out 3).trans rfl
  have c4 := (blk_cell K3.out 4).trans rfl
  have c5 := (blk_cell K3.out 5).trans rfl
  have c6 := (blk_cell K3.out 6).trans rfl
  go_wp2_with (((with_reducible refine gate_dst (N := 17) rfl ?_); (try (refine gate_guard (by rfl) ?_; dsimp only)); refine Kd.R_lit k23 _ 23 ?hg (N := 17) ?hd (xs := ([x.f1] : List S23)) (inner := [.int .i64 x.f1.f0, .int .i64 x.f1.f1, .int .i64 x.f1.f2, .int .i64 x.f1.f3]) (ok := fun _ => True) (okp := fun _ => True) ?hr ?hp (fun _ hk => hk) trivial (Below.refl _ _) (Nat.le_refl _) (by simp) ?_; (case hd => rfl); (case hg => rfl); (case hr => (go_simp; done)); (case hp => exact (Reps.c4 (show Kd.M k23 _ _ _ x.f1 [.int .i64 x.f1.f0, .int .i64 x.f1.f1, .int .i64 x.f1.f2, .int .i64 x.f1.f3] from k23_mkM _ _ _ x.f1) (Reps.none _ _))); intro vr wr ho hb hg_ hnew_; clear hg_ hnew_; obtain ⟨Ar, cr, er⟩ := Kd.R_slice ho; subst er; have q3_ := Aside0.mk (blk_below K3.out hb); clear K3; have K3 := q3_; clear q3_; have q1_ := Aside0.mk (HI.out.step hb); have q2_ := Aside0.mk (HK.out.trans (Kp.below hb)); clear HI HK; have HI := q1_; have HK := q2_; clear q1_ q2_; have HR := Aside0.mk (Kd.R_reads' ho).2.2; have LR := Aside0.mk (Kd.R_reads' ho).2.1; clear ho hb))
  clear c0 c1 c2 c3 c4 c5 c6
  refine (rect_May.calls Ar cr [x.f1] true _ HR.out LR.out M1.out).mono ?_
  rintro e wk ⟨rfl, hb⟩
  have q3_ := Aside0.mk (blk_below K3.out hb)
  clear K3
  have K3 := q3_
  clear q3_
  have q1_ := Aside0.mk (HI.out.step hb); have q2_ := Aside0.mk (HK.out.trans (Kp.below hb)); clear HI HK; have HI := q1_; have HK := q2_; clear q1_ q2_
  clear hb
  have c0 := (blk_cell K3.out 0).trans rfl
  have c1 := (blk_cell K3.out 1).trans rfl
  have c2 := (blk_cell K3.out 2).trans rfl
  have c3 := (blk_cell K3.out 3).trans rfl
  have c4 := (blk_cell K3.out 4).trans rfl
  have c5 := (blk_cell K3.out 5).trans rfl
  have c6 := (blk_cell K3.out 6).trans rfl
  have cm := (blk_cell HI.out.hm 0).trans rfl
  go_wp2_with (((with_reducible refine gate_dst (N := 29) rfl ?_); (try (refine gate_guard (by rfl) ?_; dsimp only)); refine lookup_bool _ rfl _ _ 161 rfl 3 4 (Maps.int_keyed Try.underlying3) Try.underlying161 Try.underlying4 (zero4 _) B _ _ rfl HI.out.map _ (.int .i64 x.f2) rfl (Maps.keyOf_int_mk Try.underlying3 WF.out) true LK.out ?_))
  go_ret
  exact ⟨rfl, HI.out, HK.out⟩
set_option maxHeartbeats 4000000 in
set_option maxRecDepth 100000 in
theorem may_F (w0 : World) (bn bm B : Nat) (s : Int × List Int) (W : World) (x : S26) (A : Option Addr) (cb : Nat) (hI : MayI w0 bn bm B s W) (h1 : ¬ 20000 < wrap64 (s.1 + 1)) (h2 : nodeB x = true) (h3 : mayR x.f1 = true) (h4 : x.f0 = 1) (h5 : 0 ≤ x.f2) (h6 : x.f2 ≤ 2147483647) (h7 : x.f2 ∉ s.2) :
    Calls Try.prog 176 (#[.agg #[.int .u8 x.f0, .int .i64 x.f1.f0, .int .i64 x.f1.f1, .int .i64 x.f1.f2, .int .i64 x.f1.f3, .int .i64 x.f2, .slice A x.f3.length cb]] ++ #[.pointer (some ⟨bn, 0, none⟩), .pointer (some ⟨bm, 0, none⟩)]) W fun e w' => e = .returned (.bool (mStep s x).1) ∧ MayI w0 bn bm B (mStep s x).2 w' ∧ Kp (MayS bn B) W w' := by
  rw [show mStep s x = (true, (wrap64 (s.1 + 1), x.f2 :: s.2)) from by unfold mStep; rw [if_neg h1, okC_node, h2, h3, if_neg (by simp), if_pos h4, if_neg h7]]
  have HN := Aside0.mk fun W => node177 x A cb W
  rw [h2] at HN
  clear h2
  have M1 := Aside0.mk (show rect_May.f [x.f1] = some true by simp [rect_May.f, h3])
  clear h3
  have LK : Aside0 ((setD s.2).atKey (.int .i64 x.f2) (.lit (.bool false)) = .lit (.bool false)) := ⟨by rw [setD_at, decide_eq_false h7]⟩
  have NM := Aside0.mk h7
  clear h7
  have HLN : Aside0 (s.2.length < maxLen) := ⟨by have h8 := nodup_le 2147483648 s.2 hI.nd (fun i hi => by have := hI.rg i hi; omega); unfold maxLen; omega⟩
  have I0 := Aside0.mk h5
  have I1 := Aside0.mk h6
  have WF : Aside0 ((Lit.int .i64 x.f2).wf = true) := ⟨WalkArith.wf_i64 (by omega)⟩
  have h4b : (x.f0 == 1) = true := beq_iff_eq.mpr h4
  clear h4 h5 h6
  have HI := Aside0.mk hI
  have HK := Aside0.mk (Kp.refl (MayS bn B) W)
  clear hI
  simp only [List.append_toArray, List.cons_append, List.nil_append]
  go_enter Try.func176, Try.ntmps176
  go_wp2_with (first | ((with_reducible refine gate_dst (N := 3) rfl ?_); refine box_event ?hg (N := 3) ?hd (cs := #[.int .u8 x.f0, .int .i64 x.f1.f0, .int .i64 x.f1.f1, .int .i64 x.f1.f2, .int .i64 x.f1.f3, .int .i64 x.f2, .slice A x.f3.length cb]) (t := 26) ?hr ?_; (case hd => rfl); (case hg => rfl); (case hr => (go_simp; done)); intro b3 hg w3 hbox hb; have K3 := Aside0.mk hbox; have q1_ := Aside0.mk (HI.out.step hb); have q2_ := Aside0.mk (HK.out.trans (Kp.below hb)); clear HI HK; have HI := q1_; have HK := q2_; clear q1_ q2_; clear hb hbox hg; have cn := (blk_cell HI.out.hn 0).trans rfl) | ((with_reducible refine gate_ (.store 3 (.tmp 1) (.tmp 6)) rfl ?_); go_loud (clear cn; refine box_store (w0 := w0) rfl rfl 3 (.tmp 1) (.tmp 6) rfl (g := bn) (j := 0) (base := w0.heap.size) #[.int .i64 (wrap64 (s.1 + 1))] (u := .int .i64 (wrap64 (s.1 + 1))) (seg := [.int .i64 (wrap64 (s.1 + 1))]) ?sA ?sX rfl ?sT ?s1 HI.out.hn ?sJ rfl HI.out.below HI.out.below.size HI.out.gn ?_; (case sA => rfl); (case sX => rfl); (case sT => rfl); (case s1 => (simp [Value.oneCell'])); (case sJ => (simp)); intro ws hbk hbb hgg; have q1_ := Aside0.mk (HI.out.count hbk hbb hgg); have q2_ := Aside0.mk (HK.out.trans (Kp.grown hgg (Or.inl rfl))); have q3_ := Aside0.mk (blk_grown K3.out hgg (fun e_ => blk_ne K3.out HI.out.hn (by decide) (Option.some.inj e_))); clear HI HK K3 hbk hbb hgg; have HI := q1_; have HK := q2_; have K3 := q3_; clear q1_ q2_ q3_; have cn := (blk_cell HI.out.hn 0).trans rfl; have c0 := (blk_cell K3.out 0).trans rfl; have c1 := (blk_cell K3.out 1).trans rfl; have c2 := (blk_cell K3.out 2).trans rfl; have c3 := (blk_cell K3.out 3).trans rfl; have c4 := (blk_cell K3.out 4).trans rfl; have c5 := (blk_cell K3.out 5).trans rfl; have c6 := (blk_cell K3.out 6).trans rfl)))
  clear cn
  clear c0 c1 c2 c3 c4 c5 c6
  refine (HN.out _).mono ?_
  rintro e wk ⟨rfl, hb⟩
  have q3_ := Aside0.mk (blk_below K3.out hb)
  clear K3
  have K3 := q3_
  clear q3_
  have q1_ := Aside0.mk (HI.out.step hb); have q2_ := Aside0.mk (HK.out.trans (Kp.below hb)); clear HI HK; have HI := q1_; have HK := q2_; clear q1_ q2_
  clear hb
  have c0 := (blk_cell K3.out 0).trans rfl
  have c1 := (blk_cell K3.out 1).trans rfl
  have c2 := (blk_cell K3.out 2).trans rfl
  have c3 := (blk_cell K3.out 3).trans rfl
  have c4 := (blk_cell K3.out 4).trans rfl
  have c5 := (blk_cell K3.out 5).trans rfl
  have c6 := (blk_cell K3.out 6).trans rfl
  go_wp2_with (((with_reducible refine gate_dst (N := 17) rfl ?_); (try (refine gate_guard (by rfl) ?_; dsimp only)); refine Kd.R_lit k23 _ 23 ?hg (N := 17) ?hd (xs := ([x.f1] : List S23)) (inner := [.int .i64 x.f1.f0, .int .i64 x.f1.f1, .int .i64 x.f1.f2, .int .i64 x.f1.f3]) (ok := fun _ => True) (okp := fun _ => True) ?hr ?hp (fun _ hk => hk) trivial (Below.refl _ _) (Nat.le_refl _) (by simp) ?_; (case hd => rfl); (case hg => rfl); (case hr => (go_simp; done)); (case hp => exact (Reps.c4 (show Kd.M k23 _ _ _ x.f1 [.int .i64 x.f1.f0, .int .i64 x.f1.f1, .int .i64 x.f1.f2, .int .i64 x.f1.f3] from k23_mkM _ _ _ x.f1) (Reps.none _ _))); intro vr wr ho hb hg_ hnew_; clear hg_ hnew_; obtain ⟨Ar, cr, er⟩ := Kd.R_slice ho; subst er; have q3_ := Aside0.mk (blk_below K3.out hb); clear K3; have K3 := q3_; clear q3_; have q1_ := Aside0.mk (HI.out.step hb); have q2_ := Aside0.mk (HK.out.trans (Kp.below hb)); clear HI HK; have HI := q1_; have HK := q2_; clear q1_ q2_; have HR := Aside0.mk (Kd.R_reads' ho).2.2; have LR := Aside0.mk (Kd.R_reads' ho).2.1; clear ho hb))
  clear c0 c1 c2 c3 c4 c5 c6
  refine (rect_May.calls Ar cr [x.f1] true _ HR.out LR.out M1.out).mono ?_
  rintro e wk ⟨rfl, hb⟩
  have q3_ := Aside0.mk (blk_below K3.out hb)
  clear K3
  have K3 := q3_
  clear q3_
  have q1_ := Aside0.mk (HI.out.step hb); have q2_ := Aside0.mk (HK.out.trans (Kp.below hb)); clear HI HK; have HI := q1_; have HK := q2_; clear q1_ q2_
  clear hb
  have c0 := (blk_cell K3.out 0).trans rfl
  have c1 := (blk_cell K3.out 1).trans rfl
  have c2 := (blk_cell K3.out 2).trans rfl
  have c3 := (blk_cell K3.out 3).trans rfl
  have c4 := (blk_cell K3.out 4).trans rfl
  have c5 := (blk_cell K3.out 5).trans rfl
  have c6 := (blk_cell K3.out 6).trans rfl
  have cm := (blk_cell HI.out.hm 0).trans rfl
  go_wp2_with (first | ((with_reducible refine gate_dst (N := 29) rfl ?_); (try (refine gate_guard (by rfl) ?_; dsimp only)); refine lookup_bool _ rfl _ _ 161 rfl 3 4 (Maps.int_keyed Try.underlying3) Try.underlying161 Try.underlying4 (zero4 _) B _ _ rfl HI.out.map _ (.int .i64 x.f2) rfl (Maps.keyOf_int_mk Try.underlying3 WF.out) false LK.out ?_) | (at_mapUpdate; refine wpList_mapUpdate_own _ rfl _ _ _ 161 rfl 3 4 (Maps.int_keyed Try.underlying3) Try.underlying161 _ B _ _ rfl HI.out.map HLN.out _ _ (.int .i64 x.f2) rfl rfl (Maps.keyOf_int_mk Try.underlying3 WF.out) (.lit (.bool true)) [] (plainElem_bool Try.underlying4 true) ?_; intro wu hown1 hgrow1; have q1_ := Aside0.mk (HI.out.met hown1 hgrow1 NM.out I0.out I1.out); have q2_ := Aside0.mk (HK.out.trans (Kp.grown hgrow1 (Or.inr rfl))); clear HI HK hown1 hgrow1; have HI := q1_; have HK := q2_; clear q1_ q2_))
  go_ret
  exact ⟨rfl, HI.out, HK.out⟩
theorem may176 (w0 : World) (bn bm B : Nat) (s : Int × List Int) (W : World) (x : S26) (A : Option Addr) (cb : Nat) (hI : MayI w0 bn bm B s W) :
    Calls Try.prog 176 (#[.agg #[.int .u8 x.f0, .int .i64 x.f1.f0, .int .i64 x.f1.f1, .int .i64 x.f1.f2, .int .i64 x.f1.f3, .int .i64 x.f2, .slice A x.f3.length cb]] ++ #[.pointer (some ⟨bn, 0, none⟩), .pointer (some ⟨bm, 0, none⟩)]) W fun e w' => e = .returned (.bool (mStep s x).1) ∧ MayI w0 bn bm B (mStep s x).2 w' ∧ Kp (MayS bn B) W w' := by
  by_cases h1 : 20000 < wrap64 (s.1 + 1)
  · exact may_A w0 bn bm B s W x A cb hI h1
  · cases h2 : nodeB x with
    | false => exact may_B w0 bn bm B s W x A cb hI h1 h2
    | true =>
      cases h3 : mayR x.f1 with
      | false => exact may_C w0 bn bm B s W x A cb hI h1 h2 h3
      | true =>
        by_cases h4 : x.f0 = 1
        · have h8 := h2
          unfold nodeB at h8
          rw [if_pos h4] at h8
          simp only [Bool.and_eq_true, decide_eq_true_eq] at h8
          by_cases h7 : x.f2 ∈ s.2
          · exact may_E w0 bn bm B s W x A cb hI h1 h2 h3 h4 h8.2.1 h8.2.2 h7
          · exact may_F w0 bn bm B s W x A cb hI h1 h2 h3 h4 h8.2.1 h8.2.2 h7
        · exact may_D w0 bn bm B s W x A cb hI h1 h2 h3 h4
end Go.Proofs.Ytfdmfgaiblfbhaa.P
/- The contract of cell.May: whether trees may be. Condition: each has at most 1048576 cells. -/
namespace Go.Proofs.Ytfdmfgaiblfbhaa.P
open Go.RowKit Go.Proofs.YtfdmfgaiblfbhaaW.PrintWords Go.Proofs.YtfdmfgaiblfbhaaW.PrintLast Go.Proofs.YtfdmfgaiblfbhaaW.PrintMore
set_option linter.unusedVariables false
set_option linter.unusedSimpArgs false
section
variable {P : Program} {ops : Array Oper} {rest : List Oper} {o : Oper} {a : Act} {Q : Exit → Act → World → Prop}
theorem map_event {W : World} (hgd : o.guard = none) {N : Tmp} (_hd : o.dst = some N) (t k e : TypeId) (ho : o.op = .makeMap t none)
    (h : ∀ g, g = W.heap.size → ∀ w1, Below W.heap.size W w1 → w1.ownsMap (H := Unit) P k (plainElem P e) g 0 (.map []) → wpList P ops Q rest (a.put o.dst (.map (some g))) w1) : wpList P ops Q (o :: rest) a W := by
  refine Kd.event_run hgd (w1 := W.alloc (.map #[] 0)) (v := .map (some W.heap.size)) ?_ (h _ rfl _ (below_alloc (Below.refl _ _) _) (World.ownsMap_made W P k _))
  unfold execOp
  simp [ho, run_makeMap, Result.andThen]
end
set_option maxHeartbeats 4000000 in
set_option maxRecDepth 100000 in
theorem may144 (c : S26) (A : Option Addr) (cc : Nat) (W : World) (hz : sz c ≤ 1048576) (hr : Kd.C k26 W A c.f3.length c.f3) (hc : c.f3.length ≤ cc) : Calls Try.prog 144 #[.agg #[.int .u8 c.f0, .int .i64 c.f1.f0, .int .i64 c.f1.f1, .int .i64 c.f1.f2, .int .i64 c.f1.f3, .int .i64 c.f2, .slice A c.f3.length cc]] W fun e w' => e = .returned (.bool (mayC c)) ∧ Below W.heap.size W w' := by
  have H175 := Aside0.mk fun (bn bm B : Nat) (W1 : World) (hI : MayI W bn bm B (0, []) W1) => all175 (MayS bn B) (MayI W bn bm B) mStep 176 #[.pointer (some ⟨bn, 0, none⟩), .pointer (some ⟨bm, 0, none⟩)] (enters_fn Try.func176 (by decide +kernel) (by kernel_rfl)) W (fun s w h => h.below) (fun s w w' h hb => h.step hb)
    (fun s w h k hk => hk.elim (fun e => e ▸ blk_lt h.hn) (fun e => e ▸ h.map.lt)) (fun s w x B' cb h _ _ => may176 W bn bm B s w x B' cb h) (sz c) c (Nat.le_refl _) A cc hr hc (0, []) W1 hI
  rw [allS_may c hz] at H175
  have HB := Aside0.mk (Below.refl W.heap.size W)
  clear hr hc hz
  generalize mayC c = r at H175 ⊢
  go_enter Try.func144, Try.ntmps144
  go_wp2_with (first | ((with_reducible refine gate_dst (N := 1) rfl ?_); refine box_event ?hg (N := 1) ?hd (cs := #[.int .u8 c.f0, .int .i64 c.f1.f0, .int .i64 c.f1.f1, .int .i64 c.f1.f2, .int .i64 c.f1.f3, .int .i64 c.f2, .slice A c.f3.length cc]) (t := 26) ?hr ?_; (case hd => rfl); (case hg => rfl); (case hr => (go_simp; done)); intro b1 hg wb1 hbox hb; have Kb1 := Aside0.mk hbox; have q_HB := Aside0.mk (below_step HB.out hb); clear HB; have HB := q_HB; clear q_HB; clear hb hbox hg) | ((with_reducible refine gate_dst (N := 5) rfl ?_); refine map_event rfl (N := 5) rfl 161 3 4 rfl ?_; intro B hg wB hb hM; have GB := Aside0.mk (show W.heap.size ≤ B by rw [hg]; exact HB.out.size); have HM := Aside0.mk hM; have q_HB := Aside0.mk (below_step HB.out hb); have q_Kb1 := Aside0.mk (blk_below Kb1.out hb); clear HB Kb1; have HB := q_HB; have Kb1 := q_Kb1; clear q_HB q_Kb1; clear hb hM hg) | ((with_reducible refine gate_dst (N := 3) rfl ?_); refine box_event ?hg (N := 3) ?hd (cs := #[.map none]) (t := 161) ?hr ?_; (case hd => rfl); (case hg => rfl); (case hr => (go_simp; done)); intro bm hg wbm hbox hb; have Kbm := Aside0.mk hbox; have Gbm := Aside0.mk (show W.heap.size ≤ bm by rw [hg]; exact HB.out.size); have q_HB := Aside0.mk (below_step HB.out hb); have q_Kb1 := Aside0.mk (blk_below Kb1.out hb); have q_HM := Aside0.mk (HM.out.kept (below_grown hb) (by simp)); clear HB Kb1 HM; have HB := q_HB; have Kb1 := q_Kb1; have HM := q_HM; clear q_HB q_Kb1 q_HM; clear hb hbox hg) | ((with_reducible refine gate_ (.store 161 (.tmp 3) (.tmp 5)) rfl ?_); go_loud (refine box_store (w0 := W) rfl rfl 161 (.tmp 3) (.tmp 5) rfl (g := bm) (j := 0) (base := W.heap.size) #[.map (some B)] (u := .map (some B)) (seg := [.map (some B)]) ?sA ?sX rfl ?sT ?s1 Kbm.out ?sJ rfl HB.out HB.out.size Gbm.out ?_; (case sA => rfl); (case sX => rfl); (case sT => rfl); (case s1 => (simp [Value.oneCell'])); (case sJ => (simp)); intro wsbm hbk hbb hgg; have NB : Aside0 (B ≠ bm) := ⟨fun e => by have hq := Kbm.out; obtain ⟨es, cl, hB, _⟩ := HM.out; rw [← e, hB] at hq; cases hq⟩; have q_Kb1 := Aside0.mk (blk_grown Kb1.out hgg (fun e_ => blk_ne Kb1.out Kbm.out (by decide) (Option.some.inj e_))); have q_HM := Aside0.mk (HM.out.kept hgg (fun e_ => NB.out (Option.some.inj e_))); clear Kb1 HM; have Kb1 := q_Kb1; have HM := q_HM; clear q_Kb1 q_HM; clear Kbm HB; have Kbm := Aside0.mk hbk; have HB := Aside0.mk hbb; clear hbk hbb hgg)) | ((with_reducible refine gate_dst (N := 4) rfl ?_); refine box_event ?hg (N := 4) ?hd (cs := #[.int .i64 0]) (t := 3) ?hr ?_; (case hd => rfl); (case hg => rfl); (case hr => (go_simp; done)); intro bn hg wbn hbox hb; have Kbn := Aside0.mk hbox; have Gbn := Aside0.mk (show W.heap.size ≤ bn by rw [hg]; exact HB.out.size); have q_HB := Aside0.mk (below_step HB.out hb); have q_Kb1 := Aside0.mk (blk_below Kb1.out hb); have q_Kbm := Aside0.mk (blk_below Kbm.out hb); have q_HM := Aside0.mk (HM.out.kept (below_grown hb) (by simp)); clear HB Kb1 Kbm HM; have HB := q_HB; have Kb1 := q_Kb1; have Kbm := q_Kbm; have HM := q_HM; clear q_HB q_Kb1 q_Kbm q_HM; clear hb hbox hg) | ((with_reducible refine gate_ (.store 3 (.tmp 4) (.const (.int .i64 0))) rfl ?_); go_loud (refine box_store (w0 := W) rfl rfl 3 (.tmp 4) (.const (.int .i64 0)) rfl (g := bn) (j := 0) (base := W.heap.size) #[.int .i64 0] (u := .int .i64 0) (seg := [.int .i64 0]) ?sA ?sX rfl ?sT ?s1 Kbn.out ?sJ rfl HB.out HB.out.size Gbn.out ?_; (case sA => rfl); (case sX => rfl); (case sT => rfl); (case s1 => (simp [Value.oneCell'])); (case sJ => (decide)); intro wsbn hbk hbb hgg; have NN : Aside0 (B ≠ bn) := ⟨fun e => by have hq := Kbn.out; obtain ⟨es, cl, hB, _⟩ := HM.out; rw [← e, hB] at hq; cases hq⟩; have q_Kb1 := Aside0.mk (blk_grown Kb1.out hgg (fun e_ => blk_ne Kb1.out Kbn.out (by decide) (Option.some.inj e_))); have q_Kbm := Aside0.mk (blk_grown Kbm.out hgg (fun e_ => blk_ne Kbm.out Kbn.out (by decide) (Option.some.inj e_))); have q_HM := Aside0.mk (HM.out.kept hgg (fun e_ => NN.out (Option.some.inj e_))); clear Kb1 Kbm HM; have Kb1 := q_Kb1; have Kbm := q_Kbm; have HM := q_HM; clear q_Kb1 q_Kbm q_HM; clear Kbn HB; have Kbn := Aside0.mk hbk; have HB := Aside0.mk hbb; clear hbk hbb hgg; have c0 := (blk_cell Kb1.out 0).trans rfl; have c1 := (blk_cell Kb1.out 1).trans rfl; have c2 := (blk_cell Kb1.out 2).trans rfl; have c3 := (blk_cell Kb1.out 3).trans rfl; have c4 := (blk_cell Kb1.out 4).trans rfl; have c5 := (blk_cell Kb1.out 5).trans rfl; have c6 := (blk_cell Kb1.out 6).trans rfl)))
  clear c0 c1 c2 c3 c4 c5 c6
  refine (H175.out bn bm B _ ⟨Kbn.out, Kbm.out, HM.out, HB.out, Gbn.out, GB.out, List.nodup_nil, fun i hi => absurd hi (by simp)⟩).mono ?_
  rintro e w' ⟨rfl, hi, _⟩
  have HI := Aside0.mk hi.below
  clear hi
  go_wp2
  go_ret
  exact ⟨rfl, HI.out⟩
set_option maxHeartbeats 2000000 in
set_option maxRecDepth 100000 in
theorem may143 (c : S26) (A : Option Addr) (cc : Nat) (W : World) (hz : sz c ≤ 1048576) (hr : Kd.C k26 W A c.f3.length c.f3) (hc : c.f3.length ≤ cc) : Calls Try.prog 143 #[.agg #[.int .u8 c.f0, .int .i64 c.f1.f0, .int .i64 c.f1.f1, .int .i64 c.f1.f2, .int .i64 c.f1.f3, .int .i64 c.f2, .slice A c.f3.length cc]] W fun e w' => e = .returned (.bool (!mayC c)) ∧ Below W.heap.size W w' := by
  have H := Aside0.mk fun (W1 : World) (hb : Below W.heap.size W W1) => may144 c A cc W1 hz (Kd.C_below hr hb) hc
  clear hr hc hz
  cases hm : mayC c
  all_goals
    rw [hm] at H
    clear hm
    go_enter Try.func143, Try.ntmps143
    go_wp2_with (((with_reducible refine gate_dst (N := 1) rfl ?_); refine box_event ?hg (N := 1) ?hd (cs := #[.int .u8 c.f0, .int .i64 c.f1.f0, .int .i64 c.f1.f1, .int .i64 c.f1.f2, .int .i64 c.f1.f3, .int .i64 c.f2, .slice A c.f3.length cc]) (t := 26) ?hr ?_; (case hd => rfl); (case hg => rfl); (case hr => (go_simp; done)); intro b1 hg w1 hbox hb; have HB := Aside0.mk hb; have K1 := Aside0.mk hbox; clear hb hbox hg; have c0 := (blk_cell K1.out 0).trans rfl; have c1 := (blk_cell K1.out 1).trans rfl; have c2 := (blk_cell K1.out 2).trans rfl; have c3 := (blk_cell K1.out 3).trans rfl; have c4 := (blk_cell K1.out 4).trans rfl; have c5 := (blk_cell K1.out 5).trans rfl; have c6 := (blk_cell K1.out 6).trans rfl))
    clear c0 c1 c2 c3 c4 c5 c6
    refine (H.out _ HB.out).mono ?_
    rintro e w' ⟨rfl, hb⟩
    have HB2 := Aside0.mk (below_step HB.out hb)
    clear hb
    go_wp2
    go_ret
    exact ⟨rfl, HB2.out⟩
def cell_May.f (l0 : List S26) : Option Bool := if l0.all (fun c => decide (sz c ≤ 1048576)) = true then some (l0.all mayC) else none
set_option maxHeartbeats 2000000 in
theorem cell_May.calls (A0 : Option Addr) (c0 : Nat) (l0 : List S26) (r : Bool) (w : World) (hr0 : Kd.C k26 w A0 l0.length l0) (hc0 : l0.length ≤ c0) (h : cell_May.f l0 = some r) :
    Calls Try.prog 76 #[.slice A0 l0.length c0] w fun e w' => e = .returned (.bool r) ∧ Below w.heap.size w w' := by
  unfold cell_May.f at h
  split at h
  · rename_i hz
    injection h with h
    have hcon := con174 (fun (_ : Unit) W => Below w.heap.size w W) (fun _ x => (!mayC x, ())) 143 #[] (enters_fn Try.func143 (by decide +kernel) (by kernel_rfl)) l0 A0 c0 w hr0 (fun _ W hW => hW) (fun _ W n hW => pw_below_drewN hW n)
      (fun _ W x B cb hx hW hC hl => by
        rw [show (#[Value.agg #[.int .u8 x.f0, .int .i64 x.f1.f0, .int .i64 x.f1.f1, .int .i64 x.f1.f2, .int .i64 x.f1.f3, .int .i64 x.f2, .slice B x.f3.length cb]] ++ #[] : Array Value) = #[.agg #[.int .u8 x.f0, .int .i64 x.f1.f0, .int .i64 x.f1.f1, .int .i64 x.f1.f2, .int .i64 x.f1.f3, .int .i64 x.f2, .slice B x.f3.length cb]] by simp]
        exact (may143 x B cb W (of_decide_eq_true (List.all_eq_true.1 hz x hx)) (Kd.C_below hC hW) hl).mono fun e w' ⟨he, hb⟩ => ⟨he, below_then hW hW.size hb⟩) () w (Below.refl _ _) hr0.2.1
    rw [scanB_any] at hcon
    have hnone := none142 l0 A0 c0 143 #[] _ _ w hcon (fun W n hW => pw_below_drewN hW n)
    have e1 : r = !(l0.any fun x => !mayC x) := by
      rw [← h]
      clear h hcon hr0 hc0 hz hnone
      induction l0 with
      | nil => rfl
      | cons x xs ih => simp only [List.all_cons, List.any_cons, ih, Bool.not_or, Bool.not_not]
    subst e1
    generalize (l0.any fun x => !mayC x) = b at hnone
    have HC := Aside0.mk hnone
    clear hcon h hr0 hnone hz
    go_enter Try.func76, Try.ntmps76
    go_wp2_with fail
    refine HC.out.mono ?_
    rintro e w' ⟨rfl, hb⟩
    have HB := Aside0.mk hb
    clear hb
    go_wp2
    go_ret
    exact ⟨rfl, HB.out⟩
  · exact absurd h (by simp)
end Go.Proofs.Ytfdmfgaiblfbhaa.P
/- The contracts of tile.Check and tile.Tiles: whether a tree may be and tiles. Condition: at most 1048576 cells. -/
namespace Go.Proofs.Ytfdmfgaiblfbhaa.P
open Go.RowKit Go.Proofs.YtfdmfgaiblfbhaaW.PrintWords Go.Proofs.YtfdmfgaiblfbhaaW.PrintLast Go.Proofs.YtfdmfgaiblfbhaaW.PrintMore
set_option linter.unusedVariables false
set_option linter.unusedSimpArgs false
noncomputable def tilesC (c : S26) : Bool := mayC c && tilesB c
theorem may_small {c : S26} (h : mayC c = true) : sz c ≤ 20000 := by
  unfold mayC at h
  simp only [Bool.and_eq_true, decide_eq_true_eq] at h
  omega
theorem row_some {x : ByteArray} {w : World} {A : Option Addr} (h : Kd.C Kd.string w A 1 [x]) : ∃ ad, A = some ad := by
  obtain ⟨ad, h1, _⟩ := h.2.2 (by omega)
  exact ⟨ad, h1⟩
set_option maxHeartbeats 4000000 in
set_option maxRecDepth 100000 in
theorem check180 (c : S26) (hz : sz c ≤ 1048576) (A : Option Addr) (cc : Nat) (w : World) (hr : Kd.C k26 w A c.f3.length c.f3) (hc : c.f3.length ≤ cc) :
    Calls Try.prog 180 #[.agg #[.int .u8 c.f0, .int .i64 c.f1.f0, .int .i64 c.f1.f1, .int .i64 c.f1.f2, .int .i64 c.f1.f3, .int .i64 c.f2, .slice A c.f3.length cc]] w fun e w' => (if tilesC c = true then e = .returned .nilIface else ∃ t u, e = .returned (.iface t u)) ∧ Below w.heap.size w w' := by
  have hM : cell_May.f [c] = some (mayC c) := by
    unfold cell_May.f
    rw [if_pos (by simp [hz])]
    simp
  have hW : mayC c = true → ∀ (gw : Nat) (W : World), w.heap.size ≤ gw → WalkI w gw 0 W → Calls Try.prog 197 #[.pointer (some ⟨gw, 0, none⟩), .agg #[.int .u8 c.f0, .int .i64 c.f1.f0, .int .i64 c.f1.f1, .int .i64 c.f1.f2, .int .i64 c.f1.f3, .int .i64 c.f2, .slice A c.f3.length cc]] W fun e w' => e = .returned (.bool (tilesB c)) ∧ WalkI w gw (0 + szL c.f3) w' ∧ Fr gw W w' := fun hm gw W hg hI => walk197 w gw hg (sz c) c (Nat.le_refl _) (may_small hm) A cc hr hc 0 W (by have := may_small hm; have := sz_eq c; omega) hI
  unfold tilesC
  have HR := Aside0.mk hr
  have HC := Aside0.mk hc
  have HM := Aside0.mk hM
  have HW := Aside0.mk hW
  have HB := Aside0.mk (Below.refl w.heap.size w)
  clear hr hc hM hW hz
  obtain ⟨ck, ⟨cx, cy, cw, ch⟩, cid, l⟩ := c
  simp only [] at HR HC HW ⊢
  generalize tilesB ⟨ck, ⟨cx, cy, cw, ch⟩, cid, l⟩ = q at HW ⊢
  cases hm : mayC (⟨ck, ⟨cx, cy, cw, ch⟩, cid, l⟩ : S26) with
  | false =>
    rw [hm] at HM
    have HM := HM
    simp only [Bool.false_and, Bool.false_eq_true, if_false]
    clear hm HW
    go_enter Try.func180, Try.ntmps180
    go_wp2_with (first | ((with_reducible refine gate_dst (N := 1) rfl ?_); refine box_event ?hg (N := 1) ?hd (cs := #[.int .u8 ck, .int .i64 cx, .int .i64 cy, .int .i64 cw, .int .i64 ch, .int .i64 cid, .slice A l.length cc]) (t := 26) ?hr ?_; (case hd => rfl); (case hg => rfl); (case hr => (go_simp; done)); intro b1 hg wb1 hbox hb; have Kb1 := Aside0.mk hbox; have q_HB := Aside0.mk (below_step HB.out hb); clear HB; have HB := q_HB; clear q_HB; clear hb hbox hg) | ((with_reducible refine gate_dst (N := 5) rfl ?_); refine box_event ?hg (N := 5) ?hd (cs := #[.int .i64 0, .slice none 0 0]) (t := 182) ?hr ?_; (case hd => rfl); (case hg => rfl); (case hr => (go_simp; done)); intro gw hg wgw hbox hb; have Kgw := Aside0.mk hbox; have GG := Aside0.mk (show w.heap.size ≤ gw by rw [hg]; exact HB.out.size); have q_HB := Aside0.mk (below_step HB.out hb); have q_Kb1 := Aside0.mk (blk_below Kb1.out hb); clear HB Kb1; have HB := q_HB; have Kb1 := q_Kb1; clear q_HB q_Kb1; have c0 := (blk_cell Kb1.out 0).trans rfl; have c1 := (blk_cell Kb1.out 1).trans rfl; have c2 := (blk_cell Kb1.out 2).trans rfl; have c3 := (blk_cell Kb1.out 3).trans rfl; have c4 := (blk_cell Kb1.out 4).trans rfl; have c5 := (blk_cell Kb1.out 5).trans rfl; have c6 := (blk_cell Kb1.out 6).trans rfl; clear hb hbox hg) | ((with_reducible refine gate_dst (N := 8) rfl ?_); refine Kd.N_lit k26 _ 26 ?hg (N' := 8) ?hd (xs := [(⟨ck, ⟨cx, cy, cw, ch⟩, cid, l⟩ : S26)]) (inner := [.int .u8 ck, .int .i64 cx, .int .i64 cy, .int .i64 cw, .int .i64 ch, .int .i64 cid, .slice A l.length cc]) (ok := fun _ => True) (okp := fun _ => True) ?hr ?hp (fun _ hk => hk) trivial (Below.refl _ _) (Nat.le_refl _) (by simp) ?_; (case hd => rfl); (case hg => rfl); (case hr => (go_simp; done)); (case hp => exact (Reps.c7 (k26_mkF _ _ (⟨ck, ⟨cx, cy, cw, ch⟩, cid, l⟩ : S26) HC.out (Kd.F_mono (Kd.C_F k26_heap (Kd.C_below HR.out HB.out)) (fun _ _ => trivial))) (Reps.none _ _))); intro vr wr ho hb hg_ hnew_; clear hg_ hnew_; obtain ⟨Am, cm, er⟩ := Kd.N_slice ho; subst er; have q_HB := Aside0.mk (below_step HB.out hb); have q_Kb1 := Aside0.mk (blk_below Kb1.out hb); have q_Kgw := Aside0.mk (blk_below Kgw.out hb); clear HB Kb1 Kgw; have HB := q_HB; have Kb1 := q_Kb1; have Kgw := q_Kgw; clear q_HB q_Kb1 q_Kgw; have Hm := Aside0.mk (Kd.N_reads' ho).2.2; have Lm := Aside0.mk (Kd.N_reads' ho).2.1; clear ho hb c0 c1 c2 c3 c4 c5 c6))
    refine (cell_May.calls Am cm [(⟨ck, ⟨cx, cy, cw, ch⟩, cid, l⟩ : S26)] false _ Hm.out Lm.out HM.out).mono ?_
    rintro e w1 ⟨rfl, hb⟩
    have q_HB := Aside0.mk (below_step HB.out hb); have q_Kb1 := Aside0.mk (blk_below Kb1.out hb); have q_Kgw := Aside0.mk (blk_below Kgw.out hb); clear HB Kb1 Kgw; have HB := q_HB; have Kb1 := q_Kb1; have Kgw := q_Kgw; clear q_HB q_Kb1 q_Kgw
    clear hb Hm Lm
    go_wp2_with fail
    refine (new196 1 0 (by decide) _).mono ?_
    rintro e w2 ⟨⟨tv, v, rfl⟩, hb⟩
    have q_HB := Aside0.mk (below_step HB.out hb); clear HB; have HB := q_HB; clear q_HB
    clear hb
    go_wp2_with (((with_reducible refine gate_dst (N := 12) rfl ?_); refine Kd.R_lit Kd.string _ 9 ?hg (N := 12) ?hd (xs := [(⟨#[108, 97, 121, 111, 117, 116]⟩ : ByteArray)]) (inner := [.string (⟨#[108, 97, 121, 111, 117, 116]⟩ : ByteArray)]) (ok := fun _ => True) (okp := fun _ => True) ?hr ?hp (fun _ hk => hk) trivial (Below.refl _ _) (Nat.le_refl _) (by simp) ?_; (case hd => rfl); (case hg => rfl); (case hr => (go_simp; done)); (case hp => exact (Reps.one (show Kd.M Kd.string _ _ _ (⟨#[108, 97, 121, 111, 117, 116]⟩ : ByteArray) [.string (⟨#[108, 97, 121, 111, 117, 116]⟩ : ByteArray)] from rfl) (Reps.none _ _))); intro vs wr ho hb hg_ hnew_; clear hg_ hnew_; obtain ⟨As, cs_, er⟩ := Kd.R_slice ho; subst er; have q_HB := Aside0.mk (below_step HB.out hb); clear HB; have HB := q_HB; clear q_HB; have Hs := Aside0.mk (Kd.R_reads' ho).2.2; have Ls := Aside0.mk (Kd.R_reads' ho).2.1; clear ho hb))
    obtain ⟨ad, ea⟩ := row_some Hs.out
    subst ea
    refine (in195 tv v ad cs_ _ _ Hs.out Ls.out).mono ?_
    rintro e w3 ⟨⟨tu, u, rfl⟩, hb⟩
    have q_HB := Aside0.mk (below_step HB.out hb); clear HB; have HB := q_HB; clear q_HB
    clear hb Hs Ls
    go_wp2
    go_ret
    exact ⟨⟨_, _, rfl⟩, HB.out⟩
  | true =>
    rw [hm] at HM
    have HW := Aside0.mk (HW.out hm)
    simp only [Bool.true_and]
    clear hm
    cases q with
    | true =>
      simp only [if_true]
      go_enter Try.func180, Try.ntmps180
      go_wp2_with (first | ((with_reducible refine gate_dst (N := 1) rfl ?_); refine box_event ?hg (N := 1) ?hd (cs := #[.int .u8 ck, .int .i64 cx, .int .i64 cy, .int .i64 cw, .int .i64 ch, .int .i64 cid, .slice A l.length cc]) (t := 26) ?hr ?_; (case hd => rfl); (case hg => rfl); (case hr => (go_simp; done)); intro b1 hg wb1 hbox hb; have Kb1 := Aside0.mk hbox; have q_HB := Aside0.mk (below_step HB.out hb); clear HB; have HB := q_HB; clear q_HB; clear hb hbox hg) | ((with_reducible refine gate_dst (N := 5) rfl ?_); refine box_event ?hg (N := 5) ?hd (cs := #[.int .i64 0, .slice none 0 0]) (t := 182) ?hr ?_; (case hd => rfl); (case hg => rfl); (case hr => (go_simp; done)); intro gw hg wgw hbox hb; have Kgw := Aside0.mk hbox; have GG := Aside0.mk (show w.heap.size ≤ gw by rw [hg]; exact HB.out.size); have q_HB := Aside0.mk (below_step HB.out hb); have q_Kb1 := Aside0.mk (blk_below Kb1.out hb); clear HB Kb1; have HB := q_HB; have Kb1 := q_Kb1; clear q_HB q_Kb1; have c0 := (blk_cell Kb1.out 0).trans rfl; have c1 := (blk_cell Kb1.out 1).trans rfl; have c2 := (blk_cell Kb1.out 2).trans rfl; have c3 := (blk_cell Kb1.out 3).trans rfl; have c4 := (blk_cell Kb1.out 4).trans rfl; have c5 := (blk_cell Kb1.out 5).trans rfl; have c6 := (blk_cell Kb1.out 6).trans rfl; clear hb hbox hg) | ((with_reducible refine gate_dst (N := 8) rfl ?_); refine Kd.N_lit k26 _ 26 ?hg (N' := 8) ?hd (xs := [(⟨ck, ⟨cx, cy, cw, ch⟩, cid, l⟩ : S26)]) (inner := [.int .u8 ck, .int .i64 cx, .int .i64 cy, .int .i64 cw, .int .i64 ch, .int .i64 cid, .slice A l.length cc]) (ok := fun _ => True) (okp := fun _ => True) ?hr ?hp (fun _ hk => hk) trivial (Below.refl _ _) (Nat.le_refl _) (by simp) ?_; (case hd => rfl); (case hg => rfl); (case hr => (go_simp; done)); (case hp => exact (Reps.c7 (k26_mkF _ _ (⟨ck, ⟨cx, cy, cw, ch⟩, cid, l⟩ : S26) HC.out (Kd.F_mono (Kd.C_F k26_heap (Kd.C_below HR.out HB.out)) (fun _ _ => trivial))) (Reps.none _ _))); intro vr wr ho hb hg_ hnew_; clear hg_ hnew_; obtain ⟨Am, cm, er⟩ := Kd.N_slice ho; subst er; have q_HB := Aside0.mk (below_step HB.out hb); have q_Kb1 := Aside0.mk (blk_below Kb1.out hb); have q_Kgw := Aside0.mk (blk_below Kgw.out hb); clear HB Kb1 Kgw; have HB := q_HB; have Kb1 := q_Kb1; have Kgw := q_Kgw; clear q_HB q_Kb1 q_Kgw; have Hm := Aside0.mk (Kd.N_reads' ho).2.2; have Lm := Aside0.mk (Kd.N_reads' ho).2.1; clear ho hb c0 c1 c2 c3 c4 c5 c6))
      refine (cell_May.calls Am cm [(⟨ck, ⟨cx, cy, cw, ch⟩, cid, l⟩ : S26)] true _ Hm.out Lm.out HM.out).mono ?_
      rintro e w1 ⟨rfl, hb⟩
      have q_HB := Aside0.mk (below_step HB.out hb); have q_Kb1 := Aside0.mk (blk_below Kb1.out hb); have q_Kgw := Aside0.mk (blk_below Kgw.out hb); clear HB Kb1 Kgw; have HB := q_HB; have Kb1 := q_Kb1; have Kgw := q_Kgw; clear q_HB q_Kb1 q_Kgw
      clear hb Hm Lm
      have HI := Aside0.mk (show WalkI w gw 0 w1 from ⟨HB.out, 0, .slice none 0 0, [], Kgw.out, Kd.R_nil _ _ _ _ _, Nat.le_refl _⟩)
      have c0 := (blk_cell Kb1.out 0).trans rfl
      have c1 := (blk_cell Kb1.out 1).trans rfl
      have c2 := (blk_cell Kb1.out 2).trans rfl
      have c3 := (blk_cell Kb1.out 3).trans rfl
      have c4 := (blk_cell Kb1.out 4).trans rfl
      have c5 := (blk_cell Kb1.out 5).trans rfl
      have c6 := (blk_cell Kb1.out 6).trans rfl
      go_wp2_with fail
      clear c0 c1 c2 c3 c4 c5 c6
      refine (HW.out gw w1 GG.out HI.out).mono ?_
      rintro e w2 ⟨rfl, ⟨hb2, n, v, ls, hk, _, _⟩, _⟩
      clear HB Kgw HI Kb1
      have HB := Aside0.mk hb2
      have Kgw := Aside0.mk hk
      clear hb2 hk
      go_wp2
      go_ret
      exact ⟨rfl, HB.out⟩
    | false =>
      simp only [Bool.false_eq_true, if_false]
      go_enter Try.func180, Try.ntmps180
      go_wp2_with (first | ((with_reducible refine gate_dst (N := 1) rfl ?_); refine box_event ?hg (N := 1) ?hd (cs := #[.int .u8 ck, .int .i64 cx, .int .i64 cy, .int .i64 cw, .int .i64 ch, .int .i64 cid, .slice A l.length cc]) (t := 26) ?hr ?_; (case hd => rfl); (case hg => rfl); (case hr => (go_simp; done)); intro b1 hg wb1 hbox hb; have Kb1 := Aside0.mk hbox; have q_HB := Aside0.mk (below_step HB.out hb); clear HB; have HB := q_HB; clear q_HB; clear hb hbox hg) | ((with_reducible refine gate_dst (N := 5) rfl ?_); refine box_event ?hg (N := 5) ?hd (cs := #[.int .i64 0, .slice none 0 0]) (t := 182) ?hr ?_; (case hd => rfl); (case hg => rfl); (case hr => (go_simp; done)); intro gw hg wgw hbox hb; have Kgw := Aside0.mk hbox; have GG := Aside0.mk (show w.heap.size ≤ gw by rw [hg]; exact HB.out.size); have q_HB := Aside0.mk (below_step HB.out hb); have q_Kb1 := Aside0.mk (blk_below Kb1.out hb); clear HB Kb1; have HB := q_HB; have Kb1 := q_Kb1; clear q_HB q_Kb1; have c0 := (blk_cell Kb1.out 0).trans rfl; have c1 := (blk_cell Kb1.out 1).trans rfl; have c2 := (blk_cell Kb1.out 2).trans rfl; have c3 := (blk_cell Kb1.out 3).trans rfl; have c4 := (blk_cell Kb1.out 4).trans rfl; have c5 := (blk_cell Kb1.out 5).trans rfl; have c6 := (blk_cell Kb1.out 6).trans rfl; clear hb hbox hg) | ((with_reducible refine gate_dst (N := 8) rfl ?_); refine Kd.N_lit k26 _ 26 ?hg (N' := 8) ?hd (xs := [(⟨ck, ⟨cx, cy, cw, ch⟩, cid, l⟩ : S26)]) (inner := [.int .u8 ck, .int .i64 cx, .int .i64 cy, .int .i64 cw, .int .i64 ch, .int .i64 cid, .slice A l.length cc]) (ok := fun _ => True) (okp := fun _ => True) ?hr ?hp (fun _ hk => hk) trivial (Below.refl _ _) (Nat.le_refl _) (by simp) ?_; (case hd => rfl); (case hg => rfl); (case hr => (go_simp; done)); (case hp => exact (Reps.c7 (k26_mkF _ _ (⟨ck, ⟨cx, cy, cw, ch⟩, cid, l⟩ : S26) HC.out (Kd.F_mono (Kd.C_F k26_heap (Kd.C_below HR.out HB.out)) (fun _ _ => trivial))) (Reps.none _ _))); intro vr wr ho hb hg_ hnew_; clear hg_ hnew_; obtain ⟨Am, cm, er⟩ := Kd.N_slice ho; subst er; have q_HB := Aside0.mk (below_step HB.out hb); have q_Kb1 := Aside0.mk (blk_below Kb1.out hb); have q_Kgw := Aside0.mk (blk_below Kgw.out hb); clear HB Kb1 Kgw; have HB := q_HB; have Kb1 := q_Kb1; have Kgw := q_Kgw; clear q_HB q_Kb1 q_Kgw; have Hm := Aside0.mk (Kd.N_reads' ho).2.2; have Lm := Aside0.mk (Kd.N_reads' ho).2.1; clear ho hb c0 c1 c2 c3 c4 c5 c6))
      refine (cell_May.calls Am cm [(⟨ck, ⟨cx, cy, cw, ch⟩, cid, l⟩ : S26)] true _ Hm.out Lm.out HM.out).mono ?_
      rintro e w1 ⟨rfl, hb⟩
      have q_HB := Aside0.mk (below_step HB.out hb); have q_Kb1 := Aside0.mk (blk_below Kb1.out hb); have q_Kgw := Aside0.mk (blk_below Kgw.out hb); clear HB Kb1 Kgw; have HB := q_HB; have Kb1 := q_Kb1; have Kgw := q_Kgw; clear q_HB q_Kb1 q_Kgw
      clear hb Hm Lm
      have HI := Aside0.mk (show WalkI w gw 0 w1 from ⟨HB.out, 0, .slice none 0 0, [], Kgw.out, Kd.R_nil _ _ _ _ _, Nat.le_refl _⟩)
      have c0 := (blk_cell Kb1.out 0).trans rfl
      have c1 := (blk_cell Kb1.out 1).trans rfl
      have c2 := (blk_cell Kb1.out 2).trans rfl
      have c3 := (blk_cell Kb1.out 3).trans rfl
      have c4 := (blk_cell Kb1.out 4).trans rfl
      have c5 := (blk_cell Kb1.out 5).trans rfl
      have c6 := (blk_cell Kb1.out 6).trans rfl
      go_wp2_with fail
      clear c0 c1 c2 c3 c4 c5 c6
      refine (HW.out gw w1 GG.out HI.out).mono ?_
      rintro e w2 ⟨rfl, ⟨hb2, n, v, ls, hk, _, _⟩, _⟩
      clear HB Kgw HI Kb1
      have HB := Aside0.mk hb2
      have Kgw := Aside0.mk hk
      clear hb2 hk
      have c0 := (blk_cell Kgw.out 0).trans rfl
      have c1 := (blk_cell Kgw.out 1).trans rfl
      go_wp2_with fail
      clear c0 c1
      refine (new196 5 n (by decide) _).mono ?_
      rintro e w2 ⟨⟨tv, v, rfl⟩, hb⟩
      have q_HB := Aside0.mk (below_step HB.out hb); clear HB; have HB := q_HB; clear q_HB
      clear hb
      go_wp2_with (((with_reducible refine gate_dst (N := 24) rfl ?_); refine Kd.R_lit Kd.string _ 9 ?hg (N := 24) ?hd (xs := [(⟨#[108, 97, 121, 111, 117, 116]⟩ : ByteArray)]) (inner := [.string (⟨#[108, 97, 121, 111, 117, 116]⟩ : ByteArray)]) (ok := fun _ => True) (okp := fun _ => True) ?hr ?hp (fun _ hk => hk) trivial (Below.refl _ _) (Nat.le_refl _) (by simp) ?_; (case hd => rfl); (case hg => rfl); (case hr => (go_simp; done)); (case hp => exact (Reps.one (show Kd.M Kd.string _ _ _ (⟨#[108, 97, 121, 111, 117, 116]⟩ : ByteArray) [.string (⟨#[108, 97, 121, 111, 117, 116]⟩ : ByteArray)] from rfl) (Reps.none _ _))); intro vs wr ho hb hg_ hnew_; clear hg_ hnew_; obtain ⟨As, cs_, er⟩ := Kd.R_slice ho; subst er; have q_HB := Aside0.mk (below_step HB.out hb); clear HB; have HB := q_HB; clear q_HB; have Hs := Aside0.mk (Kd.R_reads' ho).2.2; have Ls := Aside0.mk (Kd.R_reads' ho).2.1; clear ho hb))
      obtain ⟨ad, ea⟩ := row_some Hs.out
      subst ea
      refine (in195 tv v ad cs_ _ _ Hs.out Ls.out).mono ?_
      rintro e w3 ⟨⟨tu, u, rfl⟩, hb⟩
      have q_HB := Aside0.mk (below_step HB.out hb); clear HB; have HB := q_HB; clear q_HB
      clear hb Hs Ls
      go_wp2
      go_ret
      exact ⟨⟨_, _, rfl⟩, HB.out⟩
set_option maxHeartbeats 2000000 in
theorem clo179 (x : S26) (hz : sz x ≤ 1048576) (B : Option Addr) (cb : Nat) (W : World) (hr : Kd.C k26 W B x.f3.length x.f3) (hl : x.f3.length ≤ cb) :
    Calls Try.prog 179 #[.agg #[.int .u8 x.f0, .int .i64 x.f1.f0, .int .i64 x.f1.f1, .int .i64 x.f1.f2, .int .i64 x.f1.f3, .int .i64 x.f2, .slice B x.f3.length cb]] W fun e w' => e = .returned (.bool (!tilesC x)) ∧ Below W.heap.size W w' := by
  have HC := Aside0.mk (fun W1 (hb : Below W.heap.size W W1) => check180 x hz B cb W1 (Kd.C_below hr hb) hl)
  have HB := Aside0.mk (Below.refl W.heap.size W)
  clear hr hl hz
  cases hq : tilesC x
  all_goals
    simp only [hq, if_pos, Bool.false_eq_true, if_false] at HC
    clear hq
    go_enter Try.func179, Try.ntmps179
    go_wp2_with (((with_reducible refine gate_dst (N := 1) rfl ?_); refine box_event ?hg (N := 1) ?hd (cs := #[.int .u8 x.f0, .int .i64 x.f1.f0, .int .i64 x.f1.f1, .int .i64 x.f1.f2, .int .i64 x.f1.f3, .int .i64 x.f2, .slice B x.f3.length cb]) (t := 26) ?hr ?_; (case hd => rfl); (case hg => rfl); (case hr => (go_simp; done)); intro b1 hg wb1 hbox hb; have Kb1 := Aside0.mk hbox; have q_HB := Aside0.mk (below_step HB.out hb); clear HB; have HB := q_HB; clear q_HB; have c0 := (blk_cell Kb1.out 0).trans rfl; have c1 := (blk_cell Kb1.out 1).trans rfl; have c2 := (blk_cell Kb1.out 2).trans rfl; have c3 := (blk_cell Kb1.out 3).trans rfl; have c4 := (blk_cell Kb1.out 4).trans rfl; have c5 := (blk_cell Kb1.out 5).trans rfl; have c6 := (blk_cell Kb1.out 6).trans rfl; clear hb hbox hg))
    clear c0 c1 c2 c3 c4 c5 c6
  · refine (HC.out _ HB.out).mono ?_
    rintro e w2 ⟨⟨t, u, rfl⟩, hb⟩
    have q_HB := Aside0.mk (below_step HB.out hb); clear HB; have HB := q_HB; clear q_HB
    clear hb
    go_wp2
    go_ret
    exact ⟨rfl, HB.out⟩
  · refine (HC.out _ HB.out).mono ?_
    rintro e w2 ⟨rfl, hb⟩
    have q_HB := Aside0.mk (below_step HB.out hb); clear HB; have HB := q_HB; clear q_HB
    clear hb
    go_wp2
    go_ret
    exact ⟨rfl, HB.out⟩
set_option maxHeartbeats 1000000 in
theorem tiles148 (l : List S26) (hz : ∀ x, x ∈ l → sz x ≤ 1048576) (A : Option Addr) (c : Nat) (w : World) (hr : Kd.C k26 w A l.length l) (hc : l.length ≤ c) :
    Calls Try.prog 148 #[.slice A l.length c] w fun e w' => e = .returned (.bool (l.all tilesC)) ∧ Below w.heap.size w w' := by
  have hq := cons174 (fun _ W => Below w.heap.size w W) (fun x => !tilesC x) 179 #[] (enters_fn Try.func179 (by decide +kernel) (by kernel_rfl)) l A c w hr (fun _ _ h => h) (fun _ W n h => below_step h (pw_below_drewN (Below.refl _ _) n))
    (fun x rest W B cb hx _ hI hC hlx => by
      refine (clo179 x (hz x hx) B cb W (Kd.C_below hC hI) hlx).mono ?_
      rintro e w' ⟨he, hb⟩
      exact ⟨he, below_step hI hb⟩) w (Below.refl _ _) hr.2.1
  have HQ := Aside0.mk hq
  rw [List.all_eq_not_any_not]
  clear hq hr hc hz
  generalize l.any (fun x => !tilesC x) = r at HQ ⊢
  cases r
  all_goals
    go_enter Try.func148, Try.ntmps148
    go_wp2_with fail
    refine HQ.out.mono ?_
    rintro e w2 ⟨rfl, hb⟩
    have HB := Aside0.mk hb
    clear hb
    go_wp2
    go_ret
    exact ⟨rfl, HB.out⟩
noncomputable def tile_Tiles.f (l0 : List S26) : Option Bool := if l0.all (fun c => decide (sz c ≤ 1048576)) = true then some (l0.all tilesC) else none
theorem tile_Tiles.calls (A0 : Option Addr) (c0 : Nat) (l0 : List S26) (r : Bool) (w : World) (hr0 : Kd.C k26 w A0 l0.length l0) (hc0 : l0.length ≤ c0) (h : tile_Tiles.f l0 = some r) :
    Calls Try.prog 148 #[.slice A0 l0.length c0] w fun e w' => e = .returned (.bool r) ∧ Below w.heap.size w w' := by
  unfold tile_Tiles.f at h
  split at h
  · rename_i hz
    injection h with h
    subst h
    exact tiles148 l0 (fun x hx => of_decide_eq_true (List.all_eq_true.1 hz x hx)) A0 c0 w hr0 hc0
  · exact absurd h (by simp)
end Go.Proofs.Ytfdmfgaiblfbhaa.P
namespace Go.Proofs.Ytfdmfgaiblfbhaa.P
open Go.RowKit Go.Proofs.YtfdmfgaiblfbhaaW.PrintWords Go.Proofs.YtfdmfgaiblfbhaaW.PrintLast Go.Proofs.YtfdmfgaiblfbhaaW.PrintMore
attribute [local go_sem] max2_int min2_int max_two min_two max_three min_three max_four min_four   -- for this text's walks alone
set_option linter.unusedVariables false
set_option linter.unusedSimpArgs false

/-! ### least_Gives: function 86 -/
noncomputable def least_Gives.j0 : Nat → Int → Bool → Int → Int → Int → Int → Int → Int → List (S26) → Option (Int)
 | 0, _, _, _, _, _, _, _, _, _ => none
 | k + 1, x1, x13, x972000, x972001, x972002, x972003, x972004, x972005, x972006 => if x13 = true then (some 0) else ((least_Size.f x972001 x972002 x972003 x972004 x1).bind fun t977 => ((least_least.f k x972000 x972001 x972002 x972003 x972004 x972005 x972006 x1).bind fun t978 => (some (wrap64 (t977 - t978)))))
noncomputable def least_Gives.f (k : Nat) (a0_0 : Int) (a0_1 : Int) (a0_2 : Int) (a0_3 : Int) (a0_4 : Int) (a0_5 : Int) (l0_6 : List (S26)) (a1 : Int) : Option (Int) := (least_axes.f a1).bind fun t972 => (if t972 = true then ((tile_Tiles.f (([(⟨a0_0, (⟨a0_1, a0_2, a0_3, a0_4⟩ : S23), a0_5, l0_6⟩ : S26)] : List (S26)))).bind fun t976 => (least_Gives.j0 k a1 (!t976) a0_0 a0_1 a0_2 a0_3 a0_4 a0_5 l0_6)) else (least_Gives.j0 k a1 true a0_0 a0_1 a0_2 a0_3 a0_4 a0_5 l0_6))
def least_Gives.T3 : Bool × List (List Nat × List Nat) := (true, [([], []), ([0], [0]), ([], []), ([1, 2], [1, 2]), ([], []), ([], []), ([4, 5, 3], [4, 5]), ([3, 6], [3, 6]), ([7, 6, 0, 1, 2, 3, 4, 5, 6, 7], [7])])
def least_Gives.B3 : List Nat := [0, 1, 0, 7, 0, 0, 63, 127, 255]
theorem least_Gives.tab3 : rtab .any (opsOf Try.f86 3) = least_Gives.T3 := by kernel_rfl
theorem least_Gives.bits3 : waitsOk least_Gives.T3.2 least_Gives.B3 = true := by kernel_rfl
set_option maxHeartbeats 8000000 in
set_option maxRecDepth 100000 in
theorem least_Gives.calls (k : Nat) (a0_0 : Int) (a0_1 : Int) (a0_2 : Int) (a0_3 : Int) (a0_4 : Int) (a0_5 : Int) (P0_6_ : Nat → Prop) (A0_6 : Option Addr) (c0_6 : Nat) (l0_6 : List (S26)) (a1 : Int) (r : Int) (w : World) (hs0_6 : Kd.V k26 26 w w.heap.size (fun k_ => P0_6_ k_) (.slice A0_6 l0_6.length c0_6) l0_6) (h : least_Gives.f k a0_0 a0_1 a0_2 a0_3 a0_4 a0_5 l0_6 a1 = some r) :
  Calls Try.prog 86 #[.agg #[.int .u8 a0_0, .int .i64 a0_1, .int .i64 a0_2, .int .i64 a0_3, .int .i64 a0_4, .int .i64 a0_5, .slice A0_6 l0_6.length c0_6], .int .u8 a1] w fun e w' => e = .returned (.int .i64 r) ∧ Below w.heap.size w w' := by
 have hu26 := Try.underlying26
 have hu23 := Try.underlying23
 have HO0_6 := Aside0.mk (show Kd.V k26 26 w w.heap.size (fun k_ => (P0_6_ k_ ∨ w.heap.size ≤ k_)) (.slice A0_6 l0_6.length c0_6) l0_6 from Kd.V_mono hs0_6 (fun k_ hk => .inl hk))
 have HB := Aside0.mk (Below.refl w.heap.size w)
 have H : ((least_axes.f a1).bind fun t972 => (if t972 = true then ((tile_Tiles.f (([(⟨a0_0, (⟨a0_1, a0_2, a0_3, a0_4⟩ : S23), a0_5, l0_6⟩ : S26)] : List (S26)))).bind fun t976 => (least_Gives.j0 k a1 (!t976) a0_0 a0_1 a0_2 a0_3 a0_4 a0_5 l0_6)) else (least_Gives.j0 k a1 true a0_0 a0_1 a0_2 a0_3 a0_4 a0_5 l0_6))) = some r := h
 clear h
 have HC3 := Aside0.mk H
 clear H
 go_enter Try.func86, Try.ntmps86
 go_upto_region 1 with (((with_reducible refine gate_dst (N := 2) rfl ?_); (try (refine gate_guard (by rfl) ?_; dsimp only)); refine box_event ?hg (N := 2) ?hd (cs := #[.int .u8 a0_0, .int .i64 a0_1, .int .i64 a0_2, .int .i64 a0_3, .int .i64 a0_4, .int .i64 a0_5, .slice A0_6 l0_6.length c0_6]) (t := 26) ?hr ?_; (case hd => rfl); (case hg => rfl); (case hr => (go_simp; done)); intro gb971 hg w4 hbox hb; have BK971 := Aside0.mk (hbox); replace HO0_6 := Aside0.mk (Kd.V_below (Kd.V_elderB HO0_6.out gb971 (Nat.le_of_eq hg.symm)) hb); replace HB := Aside0.mk (below_step (by repeat ((with_reducible exact HB.out))) hb); clear hb hbox hg))
 (skip)
 go_cut [13] (fun v13 wc => ∃ (kq : Nat) (x13_2 : Bool), v13 = .bool x13_2 ∧ Aside0 (least_Gives.j0 kq a1 x13_2 a0_0 a0_1 a0_2 a0_3 a0_4 a0_5 l0_6 = some r) ∧ Aside0 (kq ≤ k) ∧ Aside0 (Kd.V k26 26 wc w.heap.size (fun k_ => (P0_6_ k_ ∨ w.heap.size ≤ k_) ∧ k_ ≠ gb971) (.slice A0_6 l0_6.length c0_6) l0_6) ∧ Aside0 (wc.heap[gb971]? = some (.cells #[.int .u8 a0_0, .int .i64 a0_1, .int .i64 a0_2, .int .i64 a0_3, .int .i64 a0_4, .int .i64 a0_5, (.slice A0_6 l0_6.length c0_6)] 26 (0, 0))) ∧ Aside0 (Below w.heap.size w wc))
 case first =>
  have H := HC3.out
  clear HC3
  replace H := Option.bind_eq_some_iff.mp H
  obtain ⟨t972, A50, H⟩ := H
  replace H : (if t972 = true then ((tile_Tiles.f (([(⟨a0_0, (⟨a0_1, a0_2, a0_3, a0_4⟩ : S23), a0_5, l0_6⟩ : S26)] : List (S26)))).bind fun t976 => (least_Gives.j0 k a1 (!t976) a0_0 a0_1 a0_2 a0_3 a0_4 a0_5 l0_6)) else (least_Gives.j0 k a1 true a0_0 a0_1 a0_2 a0_3 a0_4 a0_5 l0_6)) = some r := H
  have A5 := Aside0.mk A50
  clear A50
  by_cases c6 : t972 = true
  ·subst c6
   have H1 : ((tile_Tiles.f (([(⟨a0_0, (⟨a0_1, a0_2, a0_3, a0_4⟩ : S23), a0_5, l0_6⟩ : S26)] : List (S26)))).bind fun t976 => (least_Gives.j0 k a1 (!t976) a0_0 a0_1 a0_2 a0_3 a0_4 a0_5 l0_6)) = some r := by rw [if_pos rfl] at H; exact H
   clear H
   have H := H1
   clear H1
   obtain ⟨y973, hy973⟩ : ∃ y_ : List (S26), y_ = (([(⟨a0_0, (⟨a0_1, a0_2, a0_3, a0_4⟩ : S23), a0_5, l0_6⟩ : S26)] : List (S26))) := ⟨_, rfl⟩
   replace H : ((tile_Tiles.f y973).bind fun t976 => (least_Gives.j0 k a1 (!t976) a0_0 a0_1 a0_2 a0_3 a0_4 a0_5 l0_6)) = some r := by (rw [hy973]; with_reducible exact H)
   have Ny973 := Aside0.mk hy973
   clear hy973
   replace H := Option.bind_eq_some_iff.mp H
   obtain ⟨t976, A70, H⟩ := H
   replace H : (least_Gives.j0 k a1 (!t976) a0_0 a0_1 a0_2 a0_3 a0_4 a0_5 l0_6) = some r := H
   have A7 := Aside0.mk A70
   clear A70
   have H' := Aside0.mk H
   clear H
   go_wp2_with (first | ((with_reducible refine gate_callee (f := 147) rfl ?_); refine goesL_ (some 6) rfl rfl Try.func147 (by kernel_rfl) rfl #[.int .u8 a1] rfl (by (try simp only [List.map_toArray, List.map_cons, List.map_nil]); rfl) ?_; (with_reducible refine (least_axes.calls a1 true _ A5.out).mono ?_); rintro e w8 ⟨rfl, hb⟩; refine ⟨_, rfl, ?_⟩; replace HO0_6 := Aside0.mk (Kd.V_below HO0_6.out hb); replace BK971 := Aside0.mk (blk_below BK971.out hb); replace HB := Aside0.mk (below_step (by repeat ((with_reducible exact HB.out))) hb); (try clear hb); have hcz9_0 : w8.cell? ⟨gb971, 0, none⟩ = some (.int .u8 a0_0) := (blk_cell BK971.out 0).trans rfl; have hcz9_1 : w8.cell? ⟨gb971, 1, none⟩ = some (.int .i64 a0_1) := (blk_cell BK971.out 1).trans rfl; have hcz9_2 : w8.cell? ⟨gb971, 2, none⟩ = some (.int .i64 a0_2) := (blk_cell BK971.out 2).trans rfl; have hcz9_3 : w8.cell? ⟨gb971, 3, none⟩ = some (.int .i64 a0_3) := (blk_cell BK971.out 3).trans rfl; have hcz9_4 : w8.cell? ⟨gb971, 4, none⟩ = some (.int .i64 a0_4) := (blk_cell BK971.out 4).trans rfl; have hcz9_5 : w8.cell? ⟨gb971, 5, none⟩ = some (.int .i64 a0_5) := (blk_cell BK971.out 5).trans rfl; have hcz9_6 : w8.cell? ⟨gb971, 6, none⟩ = some (.slice A0_6 l0_6.length c0_6) := (blk_cell BK971.out 6).trans rfl; have hfz9_0 := blk_frozen BK971.out 0; have hfz9_1 := blk_frozen BK971.out 1; have hfz9_2 := blk_frozen BK971.out 2; have hfz9_3 := blk_frozen BK971.out 3; have hfz9_4 := blk_frozen BK971.out 4; have hfz9_5 := blk_frozen BK971.out 5; have hfz9_6 := blk_frozen BK971.out 6) | ((with_reducible refine gate_dst (N := 10) rfl ?_); (try (refine gate_guard (by rfl) ?_; dsimp only)); refine Kd.N_lit k26 _ 26 ?hg (N' := 10) ?hd (xs := ([(⟨a0_0, (⟨a0_1, a0_2, a0_3, a0_4⟩ : S23), a0_5, l0_6⟩ : S26)] : List (S26))) (inner := [.int .u8 a0_0, .int .i64 a0_1, .int .i64 a0_2, .int .i64 a0_3, .int .i64 a0_4, .int .i64 a0_5, .slice A0_6 l0_6.length c0_6]) (ok := (fun k_ => (P0_6_ k_ ∨ w.heap.size ≤ k_) ∧ k_ ≠ gb971)) (okp := (fun k_ => (P0_6_ k_ ∨ w.heap.size ≤ k_) ∧ k_ ≠ gb971)) ?hr ?hp (fun _ hk => hk) ((show ∀ k_, w8.heap.size ≤ k_ → (fun k_ => (P0_6_ k_ ∨ w.heap.size ≤ k_) ∧ k_ ≠ gb971) k_ from fun k_ hk => ⟨(.inr (Nat.le_trans (below_size (by repeat ((with_reducible exact HB.out)))) hk)), Kd.freshB BK971.out k_ hk⟩) _ (Nat.le_refl _)) (Below.refl _ _) (Nat.le_refl _) (by simp) ?_; (case hd => rfl); (case hg => rfl); (case hr => (go_simp; done)); (case hp => exact (Reps.c7 (show Kd.FK k26 _ _ (⟨a0_0, (⟨a0_1, a0_2, a0_3, a0_4⟩ : S23), a0_5, l0_6⟩ : S26) [.int .u8 a0_0, .int .i64 a0_1, .int .i64 a0_2, .int .i64 a0_3, .int .i64 a0_4, .int .i64 a0_5, .slice A0_6 l0_6.length c0_6] from (k26_mkF _ _ (⟨a0_0, (⟨a0_1, a0_2, a0_3, a0_4⟩ : S23), a0_5, l0_6⟩ : S26) (Kd.V_reads' (Kd.V_mono (ok' := (fun k_ => (P0_6_ k_ ∨ w.heap.size ≤ k_) ∧ k_ ≠ gb971)) (HO0_6.out) (fun k_ hk => ⟨hk.1, hk.2⟩))).2.1 (Kd.V_F (Kd.V_mono (ok' := (fun k_ => (P0_6_ k_ ∨ w.heap.size ≤ k_) ∧ k_ ≠ gb971)) (HO0_6.out) (fun k_ hk => ⟨hk.1, hk.2⟩))))) (Reps.none _ _))); intro v974 w10 ho11 hb hg_ hnew_; clear hg_ hnew_; (rw [← Ny973.out] at ho11); have HO975 := Aside0.mk (Kd.N_lower ho11 (below_size (by repeat ((with_reducible exact HB.out))))); replace HO0_6 := Aside0.mk (Kd.V_elder' HO0_6.out (Kd.N_base ho11) hb); replace BK971 := Aside0.mk (blk_below BK971.out hb); replace HB := Aside0.mk (below_step (by repeat ((with_reducible exact HB.out))) hb); clear hb ho11; obtain ⟨Ao12, co12, eo12⟩ := Kd.N_slice HO975.out; subst eo12) | (go_at_call 148; (with_reducible refine (tile_Tiles.calls _ _ y973 t976 _ ?side1 ?side2 A7.out).mono ?_); (case side1 => repeat (exact (Kd.N_reads' HO975.out).2.2)); (case side2 => exact (Kd.N_reads' HO975.out).2.1); rintro e w13 ⟨rfl, hb⟩; replace HO0_6 := Aside0.mk (Kd.V_below HO0_6.out hb); replace HO975 := Aside0.mk (Kd.N_below HO975.out hb); replace BK971 := Aside0.mk (blk_below BK971.out hb); replace HB := Aside0.mk (below_step (by repeat ((with_reducible exact HB.out))) hb); (try clear hb)))
   go_meet
   case rel => exact ⟨_, (!t976), (by rfl), H', ⟨by omega⟩, ⟨by exact Kd.V_mono HO0_6.out (fun _ hk => ⟨hk.1.1, hk.1.2⟩)⟩, ⟨by exact BK971.out⟩, ⟨by repeat ((with_reducible exact HB.out))⟩⟩
  ·replace c6 := Bool.eq_false_iff.mpr c6
   subst c6
   have H1 : (least_Gives.j0 k a1 true a0_0 a0_1 a0_2 a0_3 a0_4 a0_5 l0_6) = some r := by rw [if_neg (show ¬ (false = true) by decide)] at H; exact H
   clear H
   have H := H1
   clear H1
   have H' := Aside0.mk H
   clear H
   go_wp2_with (((with_reducible refine gate_callee (f := 147) rfl ?_); refine goesL_ (some 6) rfl rfl Try.func147 (by kernel_rfl) rfl #[.int .u8 a1] rfl (by (try simp only [List.map_toArray, List.map_cons, List.map_nil]); rfl) ?_; (with_reducible refine (least_axes.calls a1 false _ A5.out).mono ?_); rintro e w14 ⟨rfl, hb⟩; refine ⟨_, rfl, ?_⟩; replace HO0_6 := Aside0.mk (Kd.V_below HO0_6.out hb); replace BK971 := Aside0.mk (blk_below BK971.out hb); replace HB := Aside0.mk (below_step (by repeat ((with_reducible exact HB.out))) hb); (try clear hb)))
   go_meet
   case rel => exact ⟨_, (true), (by rfl), H', ⟨by omega⟩, ⟨by exact HO0_6.out⟩, ⟨by exact BK971.out⟩, ⟨by repeat ((with_reducible exact HB.out))⟩⟩
 case rest =>
  clear HC3
  obtain ⟨kq, x13_2, rfl, HA, HJ2, HO_972006, BK971, HB⟩ := hcut
  cases kq with
  | zero => exact absurd HA.out (by simp [least_Gives.j0])
  | succ kj2 =>
   have H := HA.out
   clear HA
   simp only [least_Gives.j0] at H
   by_cases c15 : x13_2 = true
   ·subst c15
    have H1 : (some 0) = some r := by rw [if_pos rfl] at H; exact H
    clear H
    have H := H1
    clear H1
    obtain rfl := Option.some.inj H
    go_wp2
    go_ret
    exact ⟨by rfl, by repeat ((with_reducible exact HB.out))⟩
   ·replace c15 := Bool.eq_false_iff.mpr c15
    subst c15
    have H1 : ((least_Size.f a0_1 a0_2 a0_3 a0_4 a1).bind fun t977 => ((least_least.f kj2 a0_0 a0_1 a0_2 a0_3 a0_4 a0_5 l0_6 a1).bind fun t978 => (some (wrap64 (t977 - t978))))) = some r := by rw [if_neg (show ¬ (false = true) by decide)] at H; exact H
    clear H
    have H := H1
    clear H1
    replace H := Option.bind_eq_some_iff.mp H
    obtain ⟨t977, A160, H⟩ := H
    replace H : ((least_least.f kj2 a0_0 a0_1 a0_2 a0_3 a0_4 a0_5 l0_6 a1).bind fun t978 => (some (wrap64 (t977 - t978)))) = some r := H
    have A16 := Aside0.mk A160
    clear A160
    replace H := Option.bind_eq_some_iff.mp H
    obtain ⟨t978, A170, H⟩ := H
    replace H : (some (wrap64 (t977 - t978))) = some r := H
    have A17 := Aside0.mk A170
    clear A170
    obtain rfl := Option.some.inj H
    try go_wp2
    replace HO_972006 := Aside0.mk (Kd.V_drew HO_972006.out); replace BK971 := Aside0.mk (blk_drew BK971.out); replace HB := Aside0.mk (below_drew1 HB.out)
    refine start_ (n := 9) (S := fun w' => w'.cell? ⟨gb971, 0, none⟩ = some (.int .u8 a0_0) ∧ w'.cell? ⟨gb971, 1, none⟩ = some (.int .i64 a0_1) ∧ w'.cell? ⟨gb971, 2, none⟩ = some (.int .i64 a0_2) ∧ w'.cell? ⟨gb971, 3, none⟩ = some (.int .i64 a0_3) ∧ w'.cell? ⟨gb971, 4, none⟩ = some (.int .i64 a0_4) ∧ w'.cell? ⟨gb971, 5, none⟩ = some (.int .i64 a0_5) ∧ w'.cell? ⟨gb971, 6, none⟩ = some (.slice A0_6 l0_6.length c0_6)) (ds := []) #[false, false, false, false, false, false, false, false, false] (by kernel_rfl) rfl rfl ⟨(blk_cell BK971.out 0).trans rfl, (blk_cell BK971.out 1).trans rfl, (blk_cell BK971.out 2).trans rfl, (blk_cell BK971.out 3).trans rfl, (blk_cell BK971.out 4).trans rfl, (blk_cell BK971.out 5).trans rfl, (blk_cell BK971.out 6).trans rfl⟩ (fun hHeld => ?_); refine with_tabW least_Gives.tab3 least_Gives.bits3 (fun HT_ HW_ => ?_)
    generalize wc.drew = w18 at HO_972006 BK971 HB hHeld ⊢
    refine pure_ (i := 0) (N := some 14) (v := ?_) (a' := ?_) #[true, false, false, false, false, false, false, false, false] rfl rfl (any_of HT_.out (by kernel_rfl)) (fun _ _ _ h => h) (Or.inl ⟨by rfl, ?_⟩) ?_ ?_
    rotate_left
    ·intro w'
     go_simp
     with_reducible rfl
    rotate_left
    ·simp only [Act.put, List.setIfInBounds_toArray, List.set_cons_zero, List.set_cons_succ, i64_w, i32_w]
     rfl
    refine pure_ (i := 2) (N := some 16) (v := ?_) (a' := ?_) #[true, false, true, false, false, false, false, false, false] rfl rfl (any_of HT_.out (by kernel_rfl)) (fun _ _ _ h => h) (Or.inl ⟨by rfl, ?_⟩) ?_ ?_
    rotate_left
    ·intro w'
     go_simp
     with_reducible rfl
    rotate_left
    ·simp only [Act.put, List.setIfInBounds_toArray, List.set_cons_zero, List.set_cons_succ, i64_w, i32_w]
     rfl
    refine pure_ (i := 5) (N := some 19) (v := ?_) (a' := ?_) #[true, false, true, false, false, true, false, false, false] rfl rfl (any_of HT_.out (by kernel_rfl)) (fun _ _ _ h => h) (Or.inl ⟨by rfl, ?_⟩) ?_ ?_
    rotate_left
    ·intro w'
     go_simp
     with_reducible rfl
    rotate_left
    ·simp only [Act.put, List.setIfInBounds_toArray, List.set_cons_zero, List.set_cons_succ, i64_w, i32_w]
     rfl
    refine take_ (i := 1) (N := some 15) (v := ?_) (a' := ?_) #[true, true, true, false, false, true, false, false, false] rfl rfl (take_ofW HT_.out HW_.out (by kernel_rfl)) (fun _ _ _ h => h) (Or.inl ⟨by rfl, ?_⟩) hHeld ?_ ?_
    rotate_left
    ·rintro w' ⟨s0, s1, s2, s3, s4, s5, s6⟩
     go_simp
     with_reducible rfl
    rotate_left
    ·simp only [Act.put, List.setIfInBounds_toArray, List.set_cons_zero, List.set_cons_succ, i64_w, i32_w]
     rfl
    refine take_ (i := 4) (N := some 18) (v := ?_) (a' := ?_) #[true, true, true, false, true, true, false, false, false] rfl rfl (take_ofW HT_.out HW_.out (by kernel_rfl)) (fun _ _ _ h => h) (Or.inl ⟨by rfl, ?_⟩) hHeld ?_ ?_
    rotate_left
    ·rintro w' ⟨s0, s1, s2, s3, s4, s5, s6⟩
     go_simp
     with_reducible rfl
    rotate_left
    ·simp only [Act.put, List.setIfInBounds_toArray, List.set_cons_zero, List.set_cons_succ, i64_w, i32_w]
     rfl
    refine one_ (i := 3) (N := some 17) #[true, true, true, true, true, true, false, false, false] rfl rfl (one_of HT_.out (by kernel_rfl)) (by decide) (fun K hK => ?_)
    refine goes_ Try.func98 (by kernel_rfl) rfl #[.agg #[.int .i64 a0_1, .int .i64 a0_2, .int .i64 a0_3, .int .i64 a0_4], .int .u8 a1] (by rfl) rfl rfl (by (try simp only [List.map_toArray, List.map_cons, List.map_nil]); rfl) ?_
    with_reducible refine (least_Size.calls a0_1 a0_2 a0_3 a0_4 a1 t977 _ A16.out).mono ?_
    rintro e w19 ⟨rfl, hb⟩
    refine ⟨_, rfl, ?_⟩
    replace HO_972006 := Aside0.mk (Kd.V_below HO_972006.out hb); replace BK971 := Aside0.mk (blk_below BK971.out hb); replace HB := Aside0.mk (below_step (by repeat ((with_reducible exact HB.out))) hb)
    (try clear hb)
    (skip)
    (skip)
    (skip)
    refine hK.out _ _ ⟨(blk_cell BK971.out 0).trans rfl, (blk_cell BK971.out 1).trans rfl, (blk_cell BK971.out 2).trans rfl, (blk_cell BK971.out 3).trans rfl, (blk_cell BK971.out 4).trans rfl, (blk_cell BK971.out 5).trans rfl, (blk_cell BK971.out 6).trans rfl⟩ (fun hHeld => ?_)
    clear hK K
    refine norm_ (a' := ?_) ?_ ?_
    rotate_left
    ·show Act.put _ (some 17) _ = _
     simp only [Act.put, List.setIfInBounds_toArray, List.set_cons_zero, List.set_cons_succ, i64_w, i32_w]
     rfl
    refine one_ (i := 6) (N := some 20) #[true, true, true, true, true, true, true, false, false] rfl rfl (one_of HT_.out (by kernel_rfl)) (by decide) (fun K hK => ?_)
    refine goes_ Try.func149 (by kernel_rfl) rfl #[.agg #[.int .u8 a0_0, .int .i64 a0_1, .int .i64 a0_2, .int .i64 a0_3, .int .i64 a0_4, .int .i64 a0_5, .slice A0_6 l0_6.length c0_6], .int .u8 a1] (by rfl) rfl rfl (by (try simp only [List.map_toArray, List.map_cons, List.map_nil]); rfl) ?_
    with_reducible refine (least_least.calls kj2 a0_0 a0_1 a0_2 a0_3 a0_4 a0_5 _ _ l0_6 a1 t978 _ ?side1 ?side2 A17.out).mono ?_
    (case side1 => repeat (exact (Kd.V_reads' HO_972006.out).2.2))
    (case side2 => exact (Kd.V_reads' HO_972006.out).2.1)
    rintro e w20 ⟨rfl, hb⟩
    refine ⟨_, rfl, ?_⟩
    replace HO_972006 := Aside0.mk (Kd.V_below HO_972006.out hb); replace BK971 := Aside0.mk (blk_below BK971.out hb); replace HB := Aside0.mk (below_step (by repeat ((with_reducible exact HB.out))) hb)
    (try clear hb)
    (skip)
    (skip)
    (skip)
    refine hK.out _ _ ⟨(blk_cell BK971.out 0).trans rfl, (blk_cell BK971.out 1).trans rfl, (blk_cell BK971.out 2).trans rfl, (blk_cell BK971.out 3).trans rfl, (blk_cell BK971.out 4).trans rfl, (blk_cell BK971.out 5).trans rfl, (blk_cell BK971.out 6).trans rfl⟩ (fun hHeld => ?_)
    clear hK K
    refine norm_ (a' := ?_) ?_ ?_
    rotate_left
    ·show Act.put _ (some 20) _ = _
     simp only [Act.put, List.setIfInBounds_toArray, List.set_cons_zero, List.set_cons_succ, i64_w, i32_w]
     rfl
    refine pure_ (i := 7) (N := some 21) (v := ?_) (a' := ?_) #[true, true, true, true, true, true, true, true, false] rfl rfl (any_of HT_.out (by kernel_rfl)) (fun _ _ _ h => h) (Or.inl ⟨by rfl, ?_⟩) ?_ ?_
    rotate_left
    ·intro w'
     go_simp
     with_reducible rfl
    rotate_left
    ·simp only [Act.put, List.setIfInBounds_toArray, List.set_cons_zero, List.set_cons_succ, i64_w, i32_w]
     rfl
    refine pure_ (i := 8) (N := some 4) (v := ?_) (a' := ?_) #[true, true, true, true, true, true, true, true, true] rfl rfl (any_of HT_.out (by kernel_rfl)) (fun _ _ _ h => h) (Or.inl ⟨by rfl, ?_⟩) ?_ ?_
    rotate_left
    ·intro w'
     go_simp
     with_reducible rfl
    rotate_left
    ·simp only [Act.put, List.setIfInBounds_toArray, List.set_cons_zero, List.set_cons_succ, i64_w, i32_w]
     rfl
    refine done_ (done_of HT_.out (by kernel_rfl)) ?_
    try go_wp2
    go_ret
    exact ⟨by rfl, by repeat ((with_reducible exact HB.out))⟩

end Go.Proofs.Ytfdmfgaiblfbhaa.P
namespace Go.Proofs.Ytfdmfgaiblfbhaa.P
open Go.RowKit Go.Proofs.YtfdmfgaiblfbhaaW.PrintWords Go.Proofs.YtfdmfgaiblfbhaaW.PrintLast Go.Proofs.YtfdmfgaiblfbhaaW.PrintMore
attribute [local go_sem] max2_int min2_int max_two min_two max_three min_three max_four min_four   -- for this text's walks alone
set_option linter.unusedVariables false
set_option linter.unusedSimpArgs false

/-! ### least_Least: function 93 -/
def least_Least.f (k : Nat) (a0_0 : Int) (a0_1 : Int) (a0_2 : Int) (a0_3 : Int) (a0_4 : Int) (a0_5 : Int) (l0_6 : List (S26)) (a1 : Int) : Option (Int) := (least_axes.f a1).bind fun t980 => (if t980 = true then ((cell_May.f (([(⟨a0_0, (⟨a0_1, a0_2, a0_3, a0_4⟩ : S23), a0_5, l0_6⟩ : S26)] : List (S26)))).bind fun t984 => (if t984 = true then ((least_least.f k a0_0 a0_1 a0_2 a0_3 a0_4 a0_5 l0_6 a1).bind fun t985 => (some t985)) else (some 0))) else (some 0))
set_option maxHeartbeats 8000000 in
set_option maxRecDepth 100000 in
theorem least_Least.calls (k : Nat) (a0_0 : Int) (a0_1 : Int) (a0_2 : Int) (a0_3 : Int) (a0_4 : Int) (a0_5 : Int) (P0_6_ : Nat → Prop) (A0_6 : Option Addr) (c0_6 : Nat) (l0_6 : List (S26)) (a1 : Int) (r : Int) (w : World) (hs0_6 : Kd.V k26 26 w w.heap.size (fun k_ => P0_6_ k_) (.slice A0_6 l0_6.length c0_6) l0_6) (h : least_Least.f k a0_0 a0_1 a0_2 a0_3 a0_4 a0_5 l0_6 a1 = some r) :
  Calls Try.prog 93 #[.agg #[.int .u8 a0_0, .int .i64 a0_1, .int .i64 a0_2, .int .i64 a0_3, .int .i64 a0_4, .int .i64 a0_5, .slice A0_6 l0_6.length c0_6], .int .u8 a1] w fun e w' => e = .returned (.int .i64 r) ∧ Below w.heap.size w w' := by
 have hu26 := Try.underlying26
 have HO0_6 := Aside0.mk (show Kd.V k26 26 w w.heap.size (fun k_ => (P0_6_ k_ ∨ w.heap.size ≤ k_)) (.slice A0_6 l0_6.length c0_6) l0_6 from Kd.V_mono hs0_6 (fun k_ hk => .inl hk))
 have HB := Aside0.mk (Below.refl w.heap.size w)
 have H : ((least_axes.f a1).bind fun t980 => (if t980 = true then ((cell_May.f (([(⟨a0_0, (⟨a0_1, a0_2, a0_3, a0_4⟩ : S23), a0_5, l0_6⟩ : S26)] : List (S26)))).bind fun t984 => (if t984 = true then ((least_least.f k a0_0 a0_1 a0_2 a0_3 a0_4 a0_5 l0_6 a1).bind fun t985 => (some t985)) else (some 0))) else (some 0))) = some r := h
 clear h
 replace H := Option.bind_eq_some_iff.mp H
 obtain ⟨t980, A30, H⟩ := H
 replace H : (if t980 = true then ((cell_May.f (([(⟨a0_0, (⟨a0_1, a0_2, a0_3, a0_4⟩ : S23), a0_5, l0_6⟩ : S26)] : List (S26)))).bind fun t984 => (if t984 = true then ((least_least.f k a0_0 a0_1 a0_2 a0_3 a0_4 a0_5 l0_6 a1).bind fun t985 => (some t985)) else (some 0))) else (some 0)) = some r := H
 have A3 := Aside0.mk A30
 clear A30
 by_cases c4 : t980 = true
 ·subst c4
  have H1 : ((cell_May.f (([(⟨a0_0, (⟨a0_1, a0_2, a0_3, a0_4⟩ : S23), a0_5, l0_6⟩ : S26)] : List (S26)))).bind fun t984 => (if t984 = true then ((least_least.f k a0_0 a0_1 a0_2 a0_3 a0_4 a0_5 l0_6 a1).bind fun t985 => (some t985)) else (some 0))) = some r := by rw [if_pos rfl] at H; exact H
  clear H
  have H := H1
  clear H1
  obtain ⟨y981, hy981⟩ : ∃ y_ : List (S26), y_ = (([(⟨a0_0, (⟨a0_1, a0_2, a0_3, a0_4⟩ : S23), a0_5, l0_6⟩ : S26)] : List (S26))) := ⟨_, rfl⟩
  replace H : ((cell_May.f y981).bind fun t984 => (if t984 = true then ((least_least.f k a0_0 a0_1 a0_2 a0_3 a0_4 a0_5 l0_6 a1).bind fun t985 => (some t985)) else (some 0))) = some r := by (rw [hy981]; with_reducible exact H)
  have Ny981 := Aside0.mk hy981
  clear hy981
  replace H := Option.bind_eq_some_iff.mp H
  obtain ⟨t984, A50, H⟩ := H
  replace H : (if t984 = true then ((least_least.f k a0_0 a0_1 a0_2 a0_3 a0_4 a0_5 l0_6 a1).bind fun t985 => (some t985)) else (some 0)) = some r := H
  have A5 := Aside0.mk A50
  clear A50
  by_cases c6 : t984 = true
  ·subst c6
   have H1 : ((least_least.f k a0_0 a0_1 a0_2 a0_3 a0_4 a0_5 l0_6 a1).bind fun t985 => (some t985)) = some r := by rw [if_pos rfl] at H; exact H
   clear H
   have H := H1
   clear H1
   replace H := Option.bind_eq_some_iff.mp H
   obtain ⟨t985, A70, H⟩ := H
   replace H : (some t985) = some r := H
   have A7 := Aside0.mk A70
   clear A70
   obtain rfl := Option.some.inj H
   go_enter Try.func93, Try.ntmps93
   go_wp2_with (first | ((with_reducible refine gate_dst (N := 2) rfl ?_); (try (refine gate_guard (by rfl) ?_; dsimp only)); refine box_event ?hg (N := 2) ?hd (cs := #[.int .u8 a0_0, .int .i64 a0_1, .int .i64 a0_2, .int .i64 a0_3, .int .i64 a0_4, .int .i64 a0_5, .slice A0_6 l0_6.length c0_6]) (t := 26) ?hr ?_; (case hd => rfl); (case hg => rfl); (case hr => (go_simp; done)); intro gb979 hg w8 hbox hb; have BK979 := Aside0.mk (hbox); replace HO0_6 := Aside0.mk (Kd.V_below (Kd.V_elderB HO0_6.out gb979 (Nat.le_of_eq hg.symm)) hb); replace HB := Aside0.mk (below_step (by repeat ((with_reducible exact HB.out))) hb); clear hb hbox hg) | ((with_reducible refine gate_callee (f := 147) rfl ?_); refine goesL_ (some 6) rfl rfl Try.func147 (by kernel_rfl) rfl #[.int .u8 a1] rfl (by (try simp only [List.map_toArray, List.map_cons, List.map_nil]); rfl) ?_; (with_reducible refine (least_axes.calls a1 true _ A3.out).mono ?_); rintro e w9 ⟨rfl, hb⟩; refine ⟨_, rfl, ?_⟩; replace HO0_6 := Aside0.mk (Kd.V_below HO0_6.out hb); replace BK979 := Aside0.mk (blk_below BK979.out hb); replace HB := Aside0.mk (below_step (by repeat ((with_reducible exact HB.out))) hb); (try clear hb); have hcz10_0 : w9.cell? ⟨gb979, 0, none⟩ = some (.int .u8 a0_0) := (blk_cell BK979.out 0).trans rfl; have hcz10_1 : w9.cell? ⟨gb979, 1, none⟩ = some (.int .i64 a0_1) := (blk_cell BK979.out 1).trans rfl; have hcz10_2 : w9.cell? ⟨gb979, 2, none⟩ = some (.int .i64 a0_2) := (blk_cell BK979.out 2).trans rfl; have hcz10_3 : w9.cell? ⟨gb979, 3, none⟩ = some (.int .i64 a0_3) := (blk_cell BK979.out 3).trans rfl; have hcz10_4 : w9.cell? ⟨gb979, 4, none⟩ = some (.int .i64 a0_4) := (blk_cell BK979.out 4).trans rfl; have hcz10_5 : w9.cell? ⟨gb979, 5, none⟩ = some (.int .i64 a0_5) := (blk_cell BK979.out 5).trans rfl; have hcz10_6 : w9.cell? ⟨gb979, 6, none⟩ = some (.slice A0_6 l0_6.length c0_6) := (blk_cell BK979.out 6).trans rfl; have hfz10_0 := blk_frozen BK979.out 0; have hfz10_1 := blk_frozen BK979.out 1; have hfz10_2 := blk_frozen BK979.out 2; have hfz10_3 := blk_frozen BK979.out 3; have hfz10_4 := blk_frozen BK979.out 4; have hfz10_5 := blk_frozen BK979.out 5; have hfz10_6 := blk_frozen BK979.out 6) | ((with_reducible refine gate_dst (N := 10) rfl ?_); (try (refine gate_guard (by rfl) ?_; dsimp only)); refine Kd.N_lit k26 _ 26 ?hg (N' := 10) ?hd (xs := ([(⟨a0_0, (⟨a0_1, a0_2, a0_3, a0_4⟩ : S23), a0_5, l0_6⟩ : S26)] : List (S26))) (inner := [.int .u8 a0_0, .int .i64 a0_1, .int .i64 a0_2, .int .i64 a0_3, .int .i64 a0_4, .int .i64 a0_5, .slice A0_6 l0_6.length c0_6]) (ok := (fun k_ => (P0_6_ k_ ∨ w.heap.size ≤ k_) ∧ k_ ≠ gb979)) (okp := (fun k_ => (P0_6_ k_ ∨ w.heap.size ≤ k_) ∧ k_ ≠ gb979)) ?hr ?hp (fun _ hk => hk) ((show ∀ k_, w9.heap.size ≤ k_ → (fun k_ => (P0_6_ k_ ∨ w.heap.size ≤ k_) ∧ k_ ≠ gb979) k_ from fun k_ hk => ⟨(.inr (Nat.le_trans (below_size (by repeat ((with_reducible exact HB.out)))) hk)), Kd.freshB BK979.out k_ hk⟩) _ (Nat.le_refl _)) (Below.refl _ _) (Nat.le_refl _) (by simp) ?_; (case hd => rfl); (case hg => rfl); (case hr => (go_simp; done)); (case hp => exact (Reps.c7 (show Kd.FK k26 _ _ (⟨a0_0, (⟨a0_1, a0_2, a0_3, a0_4⟩ : S23), a0_5, l0_6⟩ : S26) [.int .u8 a0_0, .int .i64 a0_1, .int .i64 a0_2, .int .i64 a0_3, .int .i64 a0_4, .int .i64 a0_5, .slice A0_6 l0_6.length c0_6] from (k26_mkF _ _ (⟨a0_0, (⟨a0_1, a0_2, a0_3, a0_4⟩ : S23), a0_5, l0_6⟩ : S26) (Kd.V_reads' (Kd.V_mono (ok' := (fun k_ => (P0_6_ k_ ∨ w.heap.size ≤ k_) ∧ k_ ≠ gb979)) (HO0_6.out) (fun k_ hk => ⟨hk.1, hk.2⟩))).2.1 (Kd.V_F (Kd.V_mono (ok' := (fun k_ => (P0_6_ k_ ∨ w.heap.size ≤ k_) ∧ k_ ≠ gb979)) (HO0_6.out) (fun k_ hk => ⟨hk.1, hk.2⟩))))) (Reps.none _ _))); intro v982 w11 ho12 hb hg_ hnew_; clear hg_ hnew_; (rw [← Ny981.out] at ho12); have HO983 := Aside0.mk (Kd.N_lower ho12 (below_size (by repeat ((with_reducible exact HB.out))))); replace HO0_6 := Aside0.mk (Kd.V_elder' HO0_6.out (Kd.N_base ho12) hb); replace BK979 := Aside0.mk (blk_below BK979.out hb); replace HB := Aside0.mk (below_step (by repeat ((with_reducible exact HB.out))) hb); clear hb ho12; obtain ⟨Ao13, co13, eo13⟩ := Kd.N_slice HO983.out; subst eo13) | (go_at_call 76; (with_reducible refine (cell_May.calls _ _ y981 true _ ?side1 ?side2 A5.out).mono ?_); (case side1 => repeat (exact (Kd.N_reads' HO983.out).2.2)); (case side2 => exact (Kd.N_reads' HO983.out).2.1); rintro e w14 ⟨rfl, hb⟩; replace HO0_6 := Aside0.mk (Kd.V_below HO0_6.out hb); replace HO983 := Aside0.mk (Kd.N_below HO983.out hb); replace BK979 := Aside0.mk (blk_below BK979.out hb); replace HB := Aside0.mk (below_step (by repeat ((with_reducible exact HB.out))) hb); (try clear hb); have hcz15_0 : w14.cell? ⟨gb979, 0, none⟩ = some (.int .u8 a0_0) := (blk_cell BK979.out 0).trans rfl; have hcz15_1 : w14.cell? ⟨gb979, 1, none⟩ = some (.int .i64 a0_1) := (blk_cell BK979.out 1).trans rfl; have hcz15_2 : w14.cell? ⟨gb979, 2, none⟩ = some (.int .i64 a0_2) := (blk_cell BK979.out 2).trans rfl; have hcz15_3 : w14.cell? ⟨gb979, 3, none⟩ = some (.int .i64 a0_3) := (blk_cell BK979.out 3).trans rfl; have hcz15_4 : w14.cell? ⟨gb979, 4, none⟩ = some (.int .i64 a0_4) := (blk_cell BK979.out 4).trans rfl; have hcz15_5 : w14.cell? ⟨gb979, 5, none⟩ = some (.int .i64 a0_5) := (blk_cell BK979.out 5).trans rfl; have hcz15_6 : w14.cell? ⟨gb979, 6, none⟩ = some (.slice A0_6 l0_6.length c0_6) := (blk_cell BK979.out 6).trans rfl; have hfz15_0 := blk_frozen BK979.out 0; have hfz15_1 := blk_frozen BK979.out 1; have hfz15_2 := blk_frozen BK979.out 2; have hfz15_3 := blk_frozen BK979.out 3; have hfz15_4 := blk_frozen BK979.out 4; have hfz15_5 := blk_frozen BK979.out 5; have hfz15_6 := blk_frozen BK979.out 6) | ((with_reducible refine gate_callee (f := 149) rfl ?_); refine goesL_ (some 16) rfl rfl Try.func149 (by kernel_rfl) rfl #[.agg #[.int .u8 a0_0, .int .i64 a0_1, .int .i64 a0_2, .int .i64 a0_3, .int .i64 a0_4, .int .i64 a0_5, .slice A0_6 l0_6.length c0_6], .int .u8 a1] rfl (by (try simp only [List.map_toArray, List.map_cons, List.map_nil]); rfl) ?_; (with_reducible refine (least_least.calls k a0_0 a0_1 a0_2 a0_3 a0_4 a0_5 _ _ l0_6 a1 t985 _ ?side1 ?side2 A7.out).mono ?_); (case side1 => repeat (exact (Kd.V_reads' HO0_6.out).2.2)); (case side2 => exact (Kd.V_reads' HO0_6.out).2.1); rintro e w16 ⟨rfl, hb⟩; refine ⟨_, rfl, ?_⟩; replace HO0_6 := Aside0.mk (Kd.V_below HO0_6.out hb); replace HO983 := Aside0.mk (Kd.N_below HO983.out hb); replace BK979 := Aside0.mk (blk_below BK979.out hb); replace HB := Aside0.mk (below_step (by repeat ((with_reducible exact HB.out))) hb); (try clear hb)))
   go_ret
   exact ⟨by rfl, by repeat ((with_reducible exact HB.out))⟩
  ·replace c6 := Bool.eq_false_iff.mpr c6
   subst c6
   have H1 : (some 0) = some r := by rw [if_neg (show ¬ (false = true) by decide)] at H; exact H
   clear H
   have H := H1
   clear H1
   obtain rfl := Option.some.inj H
   go_enter Try.func93, Try.ntmps93
   go_wp2_with (first | ((with_reducible refine gate_dst (N := 2) rfl ?_); (try (refine gate_guard (by rfl) ?_; dsimp only)); refine box_event ?hg (N := 2) ?hd (cs := #[.int .u8 a0_0, .int .i64 a0_1, .int .i64 a0_2, .int .i64 a0_3, .int .i64 a0_4, .int .i64 a0_5, .slice A0_6 l0_6.length c0_6]) (t := 26) ?hr ?_; (case hd => rfl); (case hg => rfl); (case hr => (go_simp; done)); intro gb979 hg w17 hbox hb; have BK979 := Aside0.mk (hbox); replace HO0_6 := Aside0.mk (Kd.V_below (Kd.V_elderB HO0_6.out gb979 (Nat.le_of_eq hg.symm)) hb); replace HB := Aside0.mk (below_step (by repeat ((with_reducible exact HB.out))) hb); clear hb hbox hg) | ((with_reducible refine gate_callee (f := 147) rfl ?_); refine goesL_ (some 6) rfl rfl Try.func147 (by kernel_rfl) rfl #[.int .u8 a1] rfl (by (try simp only [List.map_toArray, List.map_cons, List.map_nil]); rfl) ?_; (with_reducible refine (least_axes.calls a1 true _ A3.out).mono ?_); rintro e w18 ⟨rfl, hb⟩; refine ⟨_, rfl, ?_⟩; replace HO0_6 := Aside0.mk (Kd.V_below HO0_6.out hb); replace BK979 := Aside0.mk (blk_below BK979.out hb); replace HB := Aside0.mk (below_step (by repeat ((with_reducible exact HB.out))) hb); (try clear hb); have hcz19_0 : w18.cell? ⟨gb979, 0, none⟩ = some (.int .u8 a0_0) := (blk_cell BK979.out 0).trans rfl; have hcz19_1 : w18.cell? ⟨gb979, 1, none⟩ = some (.int .i64 a0_1) := (blk_cell BK979.out 1).trans rfl; have hcz19_2 : w18.cell? ⟨gb979, 2, none⟩ = some (.int .i64 a0_2) := (blk_cell BK979.out 2).trans rfl; have hcz19_3 : w18.cell? ⟨gb979, 3, none⟩ = some (.int .i64 a0_3) := (blk_cell BK979.out 3).trans rfl; have hcz19_4 : w18.cell? ⟨gb979, 4, none⟩ = some (.int .i64 a0_4) := (blk_cell BK979.out 4).trans rfl; have hcz19_5 : w18.cell? ⟨gb979, 5, none⟩ = some (.int .i64 a0_5) := (blk_cell BK979.out 5).trans rfl; have hcz19_6 : w18.cell? ⟨gb979, 6, none⟩ = some (.slice A0_6 l0_6.length c0_6) := (blk_cell BK979.out 6).trans rfl; have hfz19_0 := blk_frozen BK979.out 0; have hfz19_1 := blk_frozen BK979.out 1; have hfz19_2 := blk_frozen BK979.out 2; have hfz19_3 := blk_frozen BK979.out 3; have hfz19_4 := blk_frozen BK979.out 4; have hfz19_5 := blk_frozen BK979.out 5; have hfz19_6 := blk_frozen BK979.out 6) | ((with_reducible refine gate_dst (N := 10) rfl ?_); (try (refine gate_guard (by rfl) ?_; dsimp only)); refine Kd.N_lit k26 _ 26 ?hg (N' := 10) ?hd (xs := ([(⟨a0_0, (⟨a0_1, a0_2, a0_3, a0_4⟩ : S23), a0_5, l0_6⟩ : S26)] : List (S26))) (inner := [.int .u8 a0_0, .int .i64 a0_1, .int .i64 a0_2, .int .i64 a0_3, .int .i64 a0_4, .int .i64 a0_5, .slice A0_6 l0_6.length c0_6]) (ok := (fun k_ => (P0_6_ k_ ∨ w.heap.size ≤ k_) ∧ k_ ≠ gb979)) (okp := (fun k_ => (P0_6_ k_ ∨ w.heap.size ≤ k_) ∧ k_ ≠ gb979)) ?hr ?hp (fun _ hk => hk) ((show ∀ k_, w18.heap.size ≤ k_ → (fun k_ => (P0_6_ k_ ∨ w.heap.size ≤ k_) ∧ k_ ≠ gb979) k_ from fun k_ hk => ⟨(.inr (Nat.le_trans (below_size (by repeat ((with_reducible exact HB.out)))) hk)), Kd.freshB BK979.out k_ hk⟩) _ (Nat.le_refl _)) (Below.refl _ _) (Nat.le_refl _) (by simp) ?_; (case hd => rfl); (case hg => rfl); (case hr => (go_simp; done)); (case hp => exact (Reps.c7 (show Kd.FK k26 _ _ (⟨a0_0, (⟨a0_1, a0_2, a0_3, a0_4⟩ : S23), a0_5, l0_6⟩ : S26) [.int .u8 a0_0, .int .i64 a0_1, .int .i64 a0_2, .int .i64 a0_3, .int .i64 a0_4, .int .i64 a0_5, .slice A0_6 l0_6.length c0_6] from (k26_mkF _ _ (⟨a0_0, (⟨a0_1, a0_2, a0_3, a0_4⟩ : S23), a0_5, l0_6⟩ : S26) (Kd.V_reads' (Kd.V_mono (ok' := (fun k_ => (P0_6_ k_ ∨ w.heap.size ≤ k_) ∧ k_ ≠ gb979)) (HO0_6.out) (fun k_ hk => ⟨hk.1, hk.2⟩))).2.1 (Kd.V_F (Kd.V_mono (ok' := (fun k_ => (P0_6_ k_ ∨ w.heap.size ≤ k_) ∧ k_ ≠ gb979)) (HO0_6.out) (fun k_ hk => ⟨hk.1, hk.2⟩))))) (Reps.none _ _))); intro v982 w20 ho21 hb hg_ hnew_; clear hg_ hnew_; (rw [← Ny981.out] at ho21); have HO983 := Aside0.mk (Kd.N_lower ho21 (below_size (by repeat ((with_reducible exact HB.out))))); replace HO0_6 := Aside0.mk (Kd.V_elder' HO0_6.out (Kd.N_base ho21) hb); replace BK979 := Aside0.mk (blk_below BK979.out hb); replace HB := Aside0.mk (below_step (by repeat ((with_reducible exact HB.out))) hb); clear hb ho21; obtain ⟨Ao22, co22, eo22⟩ := Kd.N_slice HO983.out; subst eo22) | (go_at_call 76; (with_reducible refine (cell_May.calls _ _ y981 false _ ?side1 ?side2 A5.out).mono ?_); (case side1 => repeat (exact (Kd.N_reads' HO983.out).2.2)); (case side2 => exact (Kd.N_reads' HO983.out).2.1); rintro e w23 ⟨rfl, hb⟩; replace HO0_6 := Aside0.mk (Kd.V_below HO0_6.out hb); replace HO983 := Aside0.mk (Kd.N_below HO983.out hb); replace BK979 := Aside0.mk (blk_below BK979.out hb); replace HB := Aside0.mk (below_step (by repeat ((with_reducible exact HB.out))) hb); (try clear hb)))
   go_ret
   exact ⟨by rfl, by repeat ((with_reducible exact HB.out))⟩
 ·replace c4 := Bool.eq_false_iff.mpr c4
  subst c4
  have H1 : (some 0) = some r := by rw [if_neg (show ¬ (false = true) by decide)] at H; exact H
  clear H
  have H := H1
  clear H1
  obtain rfl := Option.some.inj H
  go_enter Try.func93, Try.ntmps93
  go_wp2_with (first | ((with_reducible refine gate_dst (N := 2) rfl ?_); (try (refine gate_guard (by rfl) ?_; dsimp only)); refine box_event ?hg (N := 2) ?hd (cs := #[.int .u8 a0_0, .int .i64 a0_1, .int .i64 a0_2, .int .i64 a0_3, .int .i64 a0_4, .int .i64 a0_5, .slice A0_6 l0_6.length c0_6]) (t := 26) ?hr ?_; (case hd => rfl); (case hg => rfl); (case hr => (go_simp; done)); intro gb979 hg w24 hbox hb; have BK979 := Aside0.mk (hbox); replace HO0_6 := Aside0.mk (Kd.V_below (Kd.V_elderB HO0_6.out gb979 (Nat.le_of_eq hg.symm)) hb); replace HB := Aside0.mk (below_step (by repeat ((with_reducible exact HB.out))) hb); clear hb hbox hg) | ((with_reducible refine gate_callee (f := 147) rfl ?_); refine goesL_ (some 6) rfl rfl Try.func147 (by kernel_rfl) rfl #[.int .u8 a1] rfl (by (try simp only [List.map_toArray, List.map_cons, List.map_nil]); rfl) ?_; (with_reducible refine (least_axes.calls a1 false _ A3.out).mono ?_); rintro e w25 ⟨rfl, hb⟩; refine ⟨_, rfl, ?_⟩; replace HO0_6 := Aside0.mk (Kd.V_below HO0_6.out hb); replace BK979 := Aside0.mk (blk_below BK979.out hb); replace HB := Aside0.mk (below_step (by repeat ((with_reducible exact HB.out))) hb); (try clear hb)))
  go_ret
  exact ⟨by rfl, by repeat ((with_reducible exact HB.out))⟩

end Go.Proofs.Ytfdmfgaiblfbhaa.P
namespace Go.Proofs.Ytfdmfgaiblfbhaa.P
open Go.RowKit Go.Proofs.YtfdmfgaiblfbhaaW.PrintWords Go.Proofs.YtfdmfgaiblfbhaaW.PrintLast Go.Proofs.YtfdmfgaiblfbhaaW.PrintMore
attribute [local go_sem] max2_int min2_int max_two min_two max_three min_three max_four min_four   -- for this text's walks alone
set_option linter.unusedVariables false
set_option linter.unusedSimpArgs false

/-! ### sashref05_May: function 38 -/
mutual
def sashref05_May.l0 : Nat → List (S26) → Int → Int → Int → Int → Int → Int → Int → Int → List (S26) → Option (Bool)
 | 0, _, _, _, _, _, _, _, _, _, _ => none
 | k + 1, x3, x14, x15, x175000, x175001, x175002, x175003, x175004, x175005, x175006 => if x15 < x14 then (if 0 ≤ x15 then (if x15 < (x3.length : Int) then ((sashref04_May.f ((rd_T26 x3 x15).f1.f0) ((rd_T26 x3 x15).f1.f1) ((rd_T26 x3 x15).f1.f2) ((rd_T26 x3 x15).f1.f3)).bind fun t179 => (if t179 = true then (if ((rd_T26 x3 x15).f0) < 1 then (sashref05_May.j1 k x3 x15 x14 x15 true x175000 x175001 x175002 x175003 x175004 x175005 x175006) else (sashref05_May.j1 k x3 x15 x14 x15 (decide (((rd_T26 x3 x15).f0) > 3)) x175000 x175001 x175002 x175003 x175004 x175005 x175006)) else (sashref05_May.j1 k x3 x15 x14 x15 true x175000 x175001 x175002 x175003 x175004 x175005 x175006))) else (none)) else (none)) else ((sashref05_Leaves.f k x175000 x175001 x175002 x175003 x175004 x175005 x175006).bind fun t192 => (sashref05_May.l1 k t192 (t192.length : Int) 0))
def sashref05_May.j1 : Nat → List (S26) → Int → Int → Int → Bool → Int → Int → Int → Int → Int → Int → List (S26) → Option (Bool)
 | 0, _, _, _, _, _, _, _, _, _, _, _, _ => none
 | k + 1, x3, x4, x14, x15, x40, x175000, x175001, x175002, x175003, x175004, x175005, x175006 => if x40 = true then (some false) else (if 0 ≤ x4 then (if x4 < (x3.length : Int) then (if ((rd_T26 x3 x4).f0) = 1 then (if (((rd_T26 x3 x4).f3).length : Int) > 0 then (some false) else (if ((rd_T26 x3 x4).f2) < 0 then (some false) else (if ((rd_T26 x3 x4).f2) > 2147483647 then (some false) else (if ((rd_T26 x3 x4).f0) > 1 then (if (((rd_T26 x3 x4).f3).length : Int) < 2 then (some false) else (if ((rd_T26 x3 x4).f2) = 0 then (sashref05_May.l0 k x3 x14 (wrap64 (x15 + 1)) x175000 x175001 x175002 x175003 x175004 x175005 x175006) else (some false))) else (sashref05_May.l0 k x3 x14 (wrap64 (x15 + 1)) x175000 x175001 x175002 x175003 x175004 x175005 x175006))))) else (if ((rd_T26 x3 x4).f0) > 1 then (if (((rd_T26 x3 x4).f3).length : Int) < 2 then (some false) else (if ((rd_T26 x3 x4).f2) = 0 then (sashref05_May.l0 k x3 x14 (wrap64 (x15 + 1)) x175000 x175001 x175002 x175003 x175004 x175005 x175006) else (some false))) else (sashref05_May.l0 k x3 x14 (wrap64 (x15 + 1)) x175000 x175001 x175002 x175003 x175004 x175005 x175006))) else (none)) else (none))
def sashref05_May.l1 : Nat → List (S26) → Int → Int → Option (Bool)
 | 0, _, _, _ => none
 | k + 1, x5, x101, x102 => if x102 < x101 then (sashref05_May.l2 k x5 x102 0 x101 x102) else (some true)
def sashref05_May.l2 : Nat → List (S26) → Int → Int → Int → Int → Option (Bool)
 | 0, _, _, _, _, _ => none
 | k + 1, x5, x6, x7, x101, x102 => if x7 < x6 then (if 0 ≤ x6 then (if x6 < (x5.length : Int) then (if 0 ≤ x7 then (if x7 < (x5.length : Int) then (if ((rd_T26 x5 x6).f2) = ((rd_T26 x5 x7).f2) then (some false) else (sashref05_May.l2 k x5 x6 (wrap64 (x7 + 1)) x101 x102)) else (none)) else (none)) else (none)) else (none)) else (sashref05_May.l1 k x5 x101 (wrap64 (x102 + 1)))
end
def sashref05_May.f (k : Nat) (a0_0 : Int) (a0_1 : Int) (a0_2 : Int) (a0_3 : Int) (a0_4 : Int) (a0_5 : Int) (l0_6 : List (S26)) : Option (Bool) := (sashref05_All.f k a0_0 a0_1 a0_2 a0_3 a0_4 a0_5 l0_6).bind fun t175 => (if (t175.length : Int) > 20000 then (some false) else (sashref05_May.l0 k t175 (t175.length : Int) 0 a0_0 a0_1 a0_2 a0_3 a0_4 a0_5 l0_6))
theorem sashref05_May.mono_l : ∀ k, (∀ y0 y1 y2 y3 y4 y5 y6 y7 y8 y9, LeO (sashref05_May.l0 k y0 y1 y2 y3 y4 y5 y6 y7 y8 y9) (sashref05_May.l0 (k + 1) y0 y1 y2 y3 y4 y5 y6 y7 y8 y9)) ∧ (∀ y0 y1 y2 y3 y4 y5 y6 y7 y8 y9 y10 y11, LeO (sashref05_May.j1 k y0 y1 y2 y3 y4 y5 y6 y7 y8 y9 y10 y11) (sashref05_May.j1 (k + 1) y0 y1 y2 y3 y4 y5 y6 y7 y8 y9 y10 y11)) ∧ (∀ y0 y1 y2, LeO (sashref05_May.l1 k y0 y1 y2) (sashref05_May.l1 (k + 1) y0 y1 y2)) ∧ (∀ y0 y1 y2 y3 y4, LeO (sashref05_May.l2 k y0 y1 y2 y3 y4) (sashref05_May.l2 (k + 1) y0 y1 y2 y3 y4))
 | 0 => ⟨fun _ _ _ _ _ _ _ _ _ _ r h => by simp [sashref05_May.l0] at h, fun _ _ _ _ _ _ _ _ _ _ _ _ r h => by simp [sashref05_May.j1] at h, fun _ _ _ r h => by simp [sashref05_May.l1] at h, fun _ _ _ _ _ r h => by simp [sashref05_May.l2] at h⟩
 | k + 1 => by
  obtain ⟨ih0, ih1, ih2, ih3⟩ := sashref05_May.mono_l k
  refine ⟨?_, ?_, ?_, ?_⟩
  ·intro y0 y1 y2 y3 y4 y5 y6 y7 y8 y9
   unfold sashref05_May.l0
   repeat' first | (with_reducible exact ih1 _ _ _ _ _ _ _ _ _ _ _ _) | (with_reducible exact ih2 _ _ _) | (with_reducible exact sashref05_Leaves.mono _ _ _ _ _ _ _ _) | (with_reducible exact LeO.refl _) | (with_reducible refine LeO.ite ?_ ?_) | (with_reducible refine LeO.bind ?_ (fun _ => ?_))
  ·intro y0 y1 y2 y3 y4 y5 y6 y7 y8 y9 y10 y11
   unfold sashref05_May.j1
   repeat' first | (with_reducible exact ih0 _ _ _ _ _ _ _ _ _ _) | (with_reducible exact LeO.refl _) | (with_reducible refine LeO.ite ?_ ?_)
  ·intro y0 y1 y2
   unfold sashref05_May.l1
   repeat' first | (with_reducible exact ih3 _ _ _ _ _) | (with_reducible exact LeO.refl _) | (with_reducible refine LeO.ite ?_ ?_)
  ·intro y0 y1 y2 y3 y4
   unfold sashref05_May.l2
   repeat' first | (with_reducible exact ih2 _ _ _) | (with_reducible exact ih3 _ _ _ _ _) | (with_reducible exact LeO.refl _) | (with_reducible refine LeO.ite ?_ ?_)
theorem sashref05_May.mono : ∀ a0 a1 a2 a3 a4 a5 a6 k, LeO (sashref05_May.f k a0 a1 a2 a3 a4 a5 a6) (sashref05_May.f (k + 1) a0 a1 a2 a3 a4 a5 a6) := by
 intro a0 a1 a2 a3 a4 a5 a6 k
 obtain ⟨ih0, ih1, ih2, ih3⟩ := sashref05_May.mono_l k
 unfold sashref05_May.f
 repeat' first | (with_reducible exact ih0 _ _ _ _ _ _ _ _ _ _) | (with_reducible exact sashref05_All.mono _ _ _ _ _ _ _ _) | (with_reducible exact LeO.refl _) | (with_reducible refine LeO.ite ?_ ?_) | (with_reducible refine LeO.bind ?_ (fun _ => ?_))
set_option maxHeartbeats 8000000 in
set_option maxRecDepth 100000 in
theorem sashref05_May.calls (k : Nat) (a0_0 : Int) (a0_1 : Int) (a0_2 : Int) (a0_3 : Int) (a0_4 : Int) (a0_5 : Int) (A0_6 : Option Addr) (c0_6 : Nat) (l0_6 : List (S26)) (r : Bool) (w : World) (hr0_6 : Kd.C k26 w A0_6 l0_6.length l0_6) (hc0_6 : l0_6.length ≤ c0_6) (h : sashref05_May.f k a0_0 a0_1 a0_2 a0_3 a0_4 a0_5 l0_6 = some r) :
  Calls Try.prog 38 #[.agg #[.int .u8 a0_0, .int .i64 a0_1, .int .i64 a0_2, .int .i64 a0_3, .int .i64 a0_4, .int .i64 a0_5, .slice A0_6 l0_6.length c0_6]] w fun e w' => e = .returned (.bool r) ∧ Below w.heap.size w w' := by
 have hu26 := Try.underlying26
 have hu23 := Try.underlying23
 have HR0_6 := Aside0.mk hr0_6
 have HC0_6 := Aside0.mk hc0_6
 clear hr0_6 hc0_6
 have HB := Aside0.mk (Below.refl w.heap.size w)
 have H : ((sashref05_All.f k a0_0 a0_1 a0_2 a0_3 a0_4 a0_5 l0_6).bind fun t175 => (if (t175.length : Int) > 20000 then (some false) else (sashref05_May.l0 k t175 (t175.length : Int) 0 a0_0 a0_1 a0_2 a0_3 a0_4 a0_5 l0_6))) = some r := h
 clear h
 replace H := Option.bind_eq_some_iff.mp H
 obtain ⟨t175, A20, H⟩ := H
 replace H : (if (t175.length : Int) > 20000 then (some false) else (sashref05_May.l0 k t175 (t175.length : Int) 0 a0_0 a0_1 a0_2 a0_3 a0_4 a0_5 l0_6)) = some r := H
 have A2 := Aside0.mk A20
 clear A20
 by_cases c3 : (t175.length : Int) > 20000
 ·rw [if_pos c3] at H
  have c3b0 : decide (20000 < (t175.length : Int)) = true := decide_eq_true c3
  have c3b1 : decide (20000 < t175.length) = true := decide_eq_true (by omega)
  clear c3
  obtain rfl := Option.some.inj H
  go_enter Try.func38, Try.ntmps38
  go_wp2_with (first | ((with_reducible refine gate_dst (N := 1) rfl ?_); (try (refine gate_guard (by rfl) ?_; dsimp only)); refine box_event ?hg (N := 1) ?hd (cs := #[.int .u8 a0_0, .int .i64 a0_1, .int .i64 a0_2, .int .i64 a0_3, .int .i64 a0_4, .int .i64 a0_5, .slice A0_6 l0_6.length c0_6]) (t := 26) ?hr ?_; (case hd => rfl); (case hg => rfl); (case hr => (go_simp; done)); intro gb174 hg w4 hbox hb; have BK174 := Aside0.mk (hbox); have GW174 := Aside0.mk ((by rw [hg]; exact (below_size (by repeat ((with_reducible exact HB.out)))) : w.heap.size ≤ gb174)); replace HB := Aside0.mk (below_step (by repeat ((with_reducible exact HB.out))) hb); clear hb hbox hg; have hcz5_0 : w4.cell? ⟨gb174, 0, none⟩ = some (.int .u8 a0_0) := (blk_cell BK174.out 0).trans rfl; have hcz5_1 : w4.cell? ⟨gb174, 1, none⟩ = some (.int .i64 a0_1) := (blk_cell BK174.out 1).trans rfl; have hcz5_2 : w4.cell? ⟨gb174, 2, none⟩ = some (.int .i64 a0_2) := (blk_cell BK174.out 2).trans rfl; have hcz5_3 : w4.cell? ⟨gb174, 3, none⟩ = some (.int .i64 a0_3) := (blk_cell BK174.out 3).trans rfl; have hcz5_4 : w4.cell? ⟨gb174, 4, none⟩ = some (.int .i64 a0_4) := (blk_cell BK174.out 4).trans rfl; have hcz5_5 : w4.cell? ⟨gb174, 5, none⟩ = some (.int .i64 a0_5) := (blk_cell BK174.out 5).trans rfl; have hcz5_6 : w4.cell? ⟨gb174, 6, none⟩ = some (.slice A0_6 l0_6.length c0_6) := (blk_cell BK174.out 6).trans rfl; have hfz5_0 := blk_frozen BK174.out 0; have hfz5_1 := blk_frozen BK174.out 1; have hfz5_2 := blk_frozen BK174.out 2; have hfz5_3 := blk_frozen BK174.out 3; have hfz5_4 := blk_frozen BK174.out 4; have hfz5_5 := blk_frozen BK174.out 5; have hfz5_6 := blk_frozen BK174.out 6) | (go_at_call 79; (with_reducible refine (sashref05_All.calls k a0_0 a0_1 a0_2 a0_3 a0_4 a0_5 (fun k_ => k_ < w.heap.size) _ _ l0_6 t175 _ ?side1 A2.out).mono ?_); (case side1 => exact Kd.V_mk HC0_6.out (Kd.F_below (Kd.C_F k26_heap HR0_6.out) (by repeat ((with_reducible exact HB.out))))); rintro e w6 ⟨v176, rfl, ho0, hb⟩; have HO177 := Aside0.mk (Kd.N_lower (Kd.N_mono (ok' := fun k_ => k_ ≠ gb174) ho0 (fun k_ hk_ => Or.elim hk_ (fun hs_ => fun e_ => Nat.not_le.2 hs_ (by rw [e_]; exact GW174.out)) (fun hn_ => (Kd.freshB BK174.out k_ hn_)))) (below_size (by repeat ((with_reducible exact HB.out))))); replace BK174 := Aside0.mk (blk_below BK174.out hb); replace HB := Aside0.mk (below_step (by repeat ((with_reducible exact HB.out))) hb); (try clear hb); (try clear ho0); obtain ⟨Ao7, co7, eo7⟩ := Kd.N_slice HO177.out; subst eo7))
  go_ret
  exact ⟨by rfl, by repeat ((with_reducible exact HB.out))⟩
 ·rw [if_neg c3] at H
  have c3b0 : decide (20000 < (t175.length : Int)) = false := decide_eq_false c3
  have c3b1 : decide (20000 < t175.length) = false := decide_eq_false (by omega)
  clear c3
  have H' := Aside0.mk H
  clear H
  go_enter Try.func38, Try.ntmps38
  go_wp2_with (first | ((with_reducible refine gate_dst (N := 1) rfl ?_); (try (refine gate_guard (by rfl) ?_; dsimp only)); refine box_event ?hg (N := 1) ?hd (cs := #[.int .u8 a0_0, .int .i64 a0_1, .int .i64 a0_2, .int .i64 a0_3, .int .i64 a0_4, .int .i64 a0_5, .slice A0_6 l0_6.length c0_6]) (t := 26) ?hr ?_; (case hd => rfl); (case hg => rfl); (case hr => (go_simp; done)); intro gb174 hg w8 hbox hb; have BK174 := Aside0.mk (hbox); have GW174 := Aside0.mk ((by rw [hg]; exact (below_size (by repeat ((with_reducible exact HB.out)))) : w.heap.size ≤ gb174)); replace HB := Aside0.mk (below_step (by repeat ((with_reducible exact HB.out))) hb); clear hb hbox hg; have hcz9_0 : w8.cell? ⟨gb174, 0, none⟩ = some (.int .u8 a0_0) := (blk_cell BK174.out 0).trans rfl; have hcz9_1 : w8.cell? ⟨gb174, 1, none⟩ = some (.int .i64 a0_1) := (blk_cell BK174.out 1).trans rfl; have hcz9_2 : w8.cell? ⟨gb174, 2, none⟩ = some (.int .i64 a0_2) := (blk_cell BK174.out 2).trans rfl; have hcz9_3 : w8.cell? ⟨gb174, 3, none⟩ = some (.int .i64 a0_3) := (blk_cell BK174.out 3).trans rfl; have hcz9_4 : w8.cell? ⟨gb174, 4, none⟩ = some (.int .i64 a0_4) := (blk_cell BK174.out 4).trans rfl; have hcz9_5 : w8.cell? ⟨gb174, 5, none⟩ = some (.int .i64 a0_5) := (blk_cell BK174.out 5).trans rfl; have hcz9_6 : w8.cell? ⟨gb174, 6, none⟩ = some (.slice A0_6 l0_6.length c0_6) := (blk_cell BK174.out 6).trans rfl; have hfz9_0 := blk_frozen BK174.out 0; have hfz9_1 := blk_frozen BK174.out 1; have hfz9_2 := blk_frozen BK174.out 2; have hfz9_3 := blk_frozen BK174.out 3; have hfz9_4 := blk_frozen BK174.out 4; have hfz9_5 := blk_frozen BK174.out 5; have hfz9_6 := blk_frozen BK174.out 6) | (go_at_call 79; (with_reducible refine (sashref05_All.calls k a0_0 a0_1 a0_2 a0_3 a0_4 a0_5 (fun k_ => k_ < w.heap.size) _ _ l0_6 t175 _ ?side1 A2.out).mono ?_); (case side1 => exact Kd.V_mk HC0_6.out (Kd.F_below (Kd.C_F k26_heap HR0_6.out) (by repeat ((with_reducible exact HB.out))))); rintro e w10 ⟨v176, rfl, ho0, hb⟩; have HO177 := Aside0.mk (Kd.N_lower (Kd.N_mono (ok' := fun k_ => k_ ≠ gb174) ho0 (fun k_ hk_ => Or.elim hk_ (fun hs_ => fun e_ => Nat.not_le.2 hs_ (by rw [e_]; exact GW174.out)) (fun hn_ => (Kd.freshB BK174.out k_ hn_)))) (below_size (by repeat ((with_reducible exact HB.out))))); replace BK174 := Aside0.mk (blk_below BK174.out hb); replace HB := Aside0.mk (below_step (by repeat ((with_reducible exact HB.out))) hb); (try clear hb); (try clear ho0); obtain ⟨Ao11, co11, eo11⟩ := Kd.N_slice HO177.out; subst eo11))
  go_loopg [15] k (fun kq v15 w' => ∃ (x15_1 : Int), v15 = .int .i64 x15_1 ∧ Aside0 (sashref05_May.l0 kq t175 (t175.length : Int) x15_1 a0_0 a0_1 a0_2 a0_3 a0_4 a0_5 l0_6 = some r) ∧ Aside0 (kq ≤ k) ∧ Aside0 (Kd.N k26 26 w' w.heap.size (fun k_ => k_ ≠ gb174) (.slice Ao11 t175.length co11) t175) ∧ Aside0 (w'.heap[gb174]? = some (.cells #[.int .u8 a0_0, .int .i64 a0_1, .int .i64 a0_2, .int .i64 a0_3, .int .i64 a0_4, .int .i64 a0_5, (.slice A0_6 l0_6.length c0_6)] 26 (0, 0))) ∧ Aside0 (Below w.heap.size w w'))
  case atStart => exact ⟨(0), (by rfl), H', ⟨Nat.le_refl _⟩, ⟨by exact HO177.out⟩, ⟨by exact BK174.out⟩, ⟨by repeat ((with_reducible exact HB.out))⟩⟩
  case round =>
   clear H'
   clear c3b0 c3b1 hcz9_0 hcz9_1 hcz9_2 hcz9_3 hcz9_4 hcz9_5 hcz9_6 hfz9_0 hfz9_1 hfz9_2 hfz9_3 hfz9_4 hfz9_5 hfz9_6
   obtain ⟨x15_1, rfl, HA, HK1, HO_3, BK174, HB⟩ := hrel
   cases gk with
   | zero => exact absurd HA.out (by simp [sashref05_May.l0])
   | succ k1 =>
    have H := HA.out
    clear HA
    simp only [sashref05_May.l0] at H
    by_cases c12 : x15_1 < (t175.length : Int)
    ·rw [if_pos c12] at H
     have c12b0 : decide (x15_1 < (t175.length : Int)) = true := decide_eq_true c12
     clear c12
     have HC13 := Aside0.mk H
     clear H
     go_upto_region 7 with (fail)
     go_cut [40] (fun v40 wc => ∃ (kq : Nat) (x40_12 : Bool), v40 = .bool x40_12 ∧ Aside0 (sashref05_May.j1 kq t175 x15_1 (t175.length : Int) x15_1 x40_12 a0_0 a0_1 a0_2 a0_3 a0_4 a0_5 l0_6 = some r) ∧ Aside0 (kq ≤ k1) ∧ Aside0 (Kd.N k26 26 wc w.heap.size (fun k_ => k_ ≠ gb174) (.slice Ao11 t175.length co11) t175) ∧ Aside0 (wc.heap[gb174]? = some (.cells #[.int .u8 a0_0, .int .i64 a0_1, .int .i64 a0_2, .int .i64 a0_3, .int .i64 a0_4, .int .i64 a0_5, (.slice A0_6 l0_6.length c0_6)] 26 (0, 0))) ∧ Aside0 (Below w.heap.size w wc))
     case first =>
      have H := HC13.out
      clear HC13
      by_cases c14 : 0 ≤ x15_1
      ·rw [if_pos c14] at H
       have c14b0 : decide (0 ≤ x15_1) = true := decide_eq_true c14
       clear c14
       (skip)
       by_cases c15 : x15_1 < (t175.length : Int)
       ·rw [if_pos c15] at H
        have c15b0 : decide (x15_1 < (t175.length : Int)) = true := decide_eq_true c15
        clear c15
        replace H := Option.bind_eq_some_iff.mp H
        obtain ⟨t179, A160, H⟩ := H
        replace H : (if t179 = true then (if ((rd_T26 t175 x15_1).f0) < 1 then (sashref05_May.j1 k1 t175 x15_1 (t175.length : Int) x15_1 true a0_0 a0_1 a0_2 a0_3 a0_4 a0_5 l0_6) else (sashref05_May.j1 k1 t175 x15_1 (t175.length : Int) x15_1 (decide (((rd_T26 t175 x15_1).f0) > 3)) a0_0 a0_1 a0_2 a0_3 a0_4 a0_5 l0_6)) else (sashref05_May.j1 k1 t175 x15_1 (t175.length : Int) x15_1 true a0_0 a0_1 a0_2 a0_3 a0_4 a0_5 l0_6)) = some r := H
        have A16 := Aside0.mk A160
        clear A160
        by_cases c17 : t179 = true
        ·subst c17
         have H1 : (if ((rd_T26 t175 x15_1).f0) < 1 then (sashref05_May.j1 k1 t175 x15_1 (t175.length : Int) x15_1 true a0_0 a0_1 a0_2 a0_3 a0_4 a0_5 l0_6) else (sashref05_May.j1 k1 t175 x15_1 (t175.length : Int) x15_1 (decide (((rd_T26 t175 x15_1).f0) > 3)) a0_0 a0_1 a0_2 a0_3 a0_4 a0_5 l0_6)) = some r := by rw [if_pos rfl] at H; exact H
         clear H
         have H := H1
         clear H1
         by_cases c18 : ((rd_T26 t175 x15_1).f0) < 1
         ·rw [if_pos c18] at H
          have c18b0 : decide (((rd_T26 t175 x15_1).f0) < 1) = true := decide_eq_true c18
          clear c18
          have H' := Aside0.mk H
          clear H
          have p178 : 0 ≤ (x15_1 : Int) := of_decide_eq_true (by (with_reducible assumption))
          have q178 : x15_1 < (t175.length : Int) := of_decide_eq_true (by (with_reducible assumption))
          obtain ⟨ad178, A178_6, c178_6, e178, hx178_0, hx178_1, hx178_2, hx178_3, hx178_4, hx178_5, hx178_6, hl178_6, hi178_6⟩ := at_T26 (Kd.N_reads' HO_3.out).2.2 x15_1 p178 q178
          cases e178
          obtain ⟨ce178, hce178, hMe178, hcc178⟩ := Kd.N_get HO_3.out z26 x15_1 p178 q178
          obtain ⟨ua178_6, uc178_6, rfl, ul178_6, ge178_6⟩ := k26_openF hMe178
          have hv178_6 := hcc178 6 _ rfl
          rw [add_field _ _ 6 (by omega)] at hv178_6
          replace hv178_6 := Option.some.inj (hv178_6.symm.trans hx178_6)
          injection hv178_6 with hva_ hvn_ hvc_
          rw [hva_] at ge178_6
          rw [hvc_] at ul178_6
          clear hva_ hvn_ hvc_ ge178_6 ul178_6
          clear hcc178 hce178
          clear hi178_6 hl178_6
          replace p178 := eq_true p178
          replace q178 := eq_true q178
          go_wp2_with ((go_at_call 57; (with_reducible refine (sashref04_May.calls ((rd_T26 t175 x15_1).f1.f0) ((rd_T26 t175 x15_1).f1.f1) ((rd_T26 t175 x15_1).f1.f2) ((rd_T26 t175 x15_1).f1.f3) true _ A16.out).mono ?_); rintro e w19 ⟨rfl, hb⟩; replace HO_3 := Aside0.mk (Kd.N_below HO_3.out hb); replace BK174 := Aside0.mk (blk_below BK174.out hb); replace HB := Aside0.mk (below_step (by repeat ((with_reducible exact HB.out))) hb); (try clear hb); have p180 : 0 ≤ (x15_1 : Int) := of_decide_eq_true (by (with_reducible assumption)); have q180 : x15_1 < (t175.length : Int) := of_decide_eq_true (by (with_reducible assumption)); obtain ⟨ad180, A180_6, c180_6, e180, hx180_0, hx180_1, hx180_2, hx180_3, hx180_4, hx180_5, hx180_6, hl180_6, hi180_6⟩ := at_T26 (Kd.N_reads' HO_3.out).2.2 x15_1 p180 q180; obtain rfl : ad178 = ad180 := (by injection e180); obtain ⟨ce180, hce180, hMe180, hcc180⟩ := Kd.N_get HO_3.out z26 x15_1 p180 q180; obtain ⟨ua180_6, uc180_6, rfl, ul180_6, ge180_6⟩ := k26_openF hMe180; have hv180_6 := hcc180 6 _ rfl; rw [add_field _ _ 6 (by omega)] at hv180_6; replace hv180_6 := Option.some.inj (hv180_6.symm.trans hx180_6); injection hv180_6 with hva_ hvn_ hvc_; rw [hva_] at ge180_6; rw [hvc_] at ul180_6; clear hva_ hvn_ hvc_ ge180_6 ul180_6; clear hcc180 hce180; clear hi180_6 hl180_6; replace p180 := eq_true p180; replace q180 := eq_true q180))
          go_meet
          case rel => exact ⟨_, (true), (by rfl), H', ⟨by have := HK1.out; omega⟩, ⟨by exact HO_3.out⟩, ⟨by exact BK174.out⟩, ⟨by repeat ((with_reducible exact HB.out))⟩⟩
         ·rw [if_neg c18] at H
          have c18b0 : decide (((rd_T26 t175 x15_1).f0) < 1) = false := decide_eq_false c18
          clear c18
          have H' := Aside0.mk H
          clear H
          have p178 : 0 ≤ (x15_1 : Int) := of_decide_eq_true (by (with_reducible assumption))
          have q178 : x15_1 < (t175.length : Int) := of_decide_eq_true (by (with_reducible assumption))
          obtain ⟨ad178, A178_6, c178_6, e178, hx178_0, hx178_1, hx178_2, hx178_3, hx178_4, hx178_5, hx178_6, hl178_6, hi178_6⟩ := at_T26 (Kd.N_reads' HO_3.out).2.2 x15_1 p178 q178
          cases e178
          obtain ⟨ce178, hce178, hMe178, hcc178⟩ := Kd.N_get HO_3.out z26 x15_1 p178 q178
          obtain ⟨ua178_6, uc178_6, rfl, ul178_6, ge178_6⟩ := k26_openF hMe178
          have hv178_6 := hcc178 6 _ rfl
          rw [add_field _ _ 6 (by omega)] at hv178_6
          replace hv178_6 := Option.some.inj (hv178_6.symm.trans hx178_6)
          injection hv178_6 with hva_ hvn_ hvc_
          rw [hva_] at ge178_6
          rw [hvc_] at ul178_6
          clear hva_ hvn_ hvc_ ge178_6 ul178_6
          clear hcc178 hce178
          clear hi178_6 hl178_6
          replace p178 := eq_true p178
          replace q178 := eq_true q178
          go_wp2_with ((go_at_call 57; (with_reducible refine (sashref04_May.calls ((rd_T26 t175 x15_1).f1.f0) ((rd_T26 t175 x15_1).f1.f1) ((rd_T26 t175 x15_1).f1.f2) ((rd_T26 t175 x15_1).f1.f3) true _ A16.out).mono ?_); rintro e w20 ⟨rfl, hb⟩; replace HO_3 := Aside0.mk (Kd.N_below HO_3.out hb); replace BK174 := Aside0.mk (blk_below BK174.out hb); replace HB := Aside0.mk (below_step (by repeat ((with_reducible exact HB.out))) hb); (try clear hb); have p180 : 0 ≤ (x15_1 : Int) := of_decide_eq_true (by (with_reducible assumption)); have q180 : x15_1 < (t175.length : Int) := of_decide_eq_true (by (with_reducible assumption)); obtain ⟨ad180, A180_6, c180_6, e180, hx180_0, hx180_1, hx180_2, hx180_3, hx180_4, hx180_5, hx180_6, hl180_6, hi180_6⟩ := at_T26 (Kd.N_reads' HO_3.out).2.2 x15_1 p180 q180; obtain rfl : ad178 = ad180 := (by injection e180); obtain ⟨ce180, hce180, hMe180, hcc180⟩ := Kd.N_get HO_3.out z26 x15_1 p180 q180; obtain ⟨ua180_6, uc180_6, rfl, ul180_6, ge180_6⟩ := k26_openF hMe180; have hv180_6 := hcc180 6 _ rfl; rw [add_field _ _ 6 (by omega)] at hv180_6; replace hv180_6 := Option.some.inj (hv180_6.symm.trans hx180_6); injection hv180_6 with hva_ hvn_ hvc_; rw [hva_] at ge180_6; rw [hvc_] at ul180_6; clear hva_ hvn_ hvc_ ge180_6 ul180_6; clear hcc180 hce180; clear hi180_6 hl180_6; replace p180 := eq_true p180; replace q180 := eq_true q180; have p181 : 0 ≤ (x15_1 : Int) := of_decide_eq_true (by (with_reducible assumption)); have q181 : x15_1 < (t175.length : Int) := of_decide_eq_true (by (with_reducible assumption)); obtain ⟨ad181, A181_6, c181_6, e181, hx181_0, hx181_1, hx181_2, hx181_3, hx181_4, hx181_5, hx181_6, hl181_6, hi181_6⟩ := at_T26 (Kd.N_reads' HO_3.out).2.2 x15_1 p181 q181; obtain rfl : ad178 = ad181 := (by injection e181); obtain ⟨ce181, hce181, hMe181, hcc181⟩ := Kd.N_get HO_3.out z26 x15_1 p181 q181; obtain ⟨ua181_6, uc181_6, rfl, ul181_6, ge181_6⟩ := k26_openF hMe181; have hv181_6 := hcc181 6 _ rfl; rw [add_field _ _ 6 (by omega)] at hv181_6; replace hv181_6 := Option.some.inj (hv181_6.symm.trans hx181_6); injection hv181_6 with hva_ hvn_ hvc_; rw [hva_] at ge181_6; rw [hvc_] at ul181_6; clear hva_ hvn_ hvc_ ge181_6 ul181_6; clear hcc181 hce181; clear hi181_6 hl181_6; replace p181 := eq_true p181; replace q181 := eq_true q181; have ea_ := Option.some.inj (hx180_6.symm.trans hx181_6); injection ea_ with ea_ en_ ec_; subst ea_; subst ec_; clear en_))
          go_meet
          case rel => exact ⟨_, (decide (((rd_T26 t175 x15_1).f0) > 3)), (by rfl), H', ⟨by have := HK1.out; omega⟩, ⟨by exact HO_3.out⟩, ⟨by exact BK174.out⟩, ⟨by repeat ((with_reducible exact HB.out))⟩⟩
        ·replace c17 := Bool.eq_false_iff.mpr c17
         subst c17
         have H1 : (sashref05_May.j1 k1 t175 x15_1 (t175.length : Int) x15_1 true a0_0 a0_1 a0_2 a0_3 a0_4 a0_5 l0_6) = some r := by rw [if_neg (show ¬ (false = true) by decide)] at H; exact H
         clear H
         have H := H1
         clear H1
         have H' := Aside0.mk H
         clear H
         have p178 : 0 ≤ (x15_1 : Int) := of_decide_eq_true (by (with_reducible assumption))
         have q178 : x15_1 < (t175.length : Int) := of_decide_eq_true (by (with_reducible assumption))
         obtain ⟨ad178, A178_6, c178_6, e178, hx178_0, hx178_1, hx178_2, hx178_3, hx178_4, hx178_5, hx178_6, hl178_6, hi178_6⟩ := at_T26 (Kd.N_reads' HO_3.out).2.2 x15_1 p178 q178
         cases e178
         obtain ⟨ce178, hce178, hMe178, hcc178⟩ := Kd.N_get HO_3.out z26 x15_1 p178 q178
         obtain ⟨ua178_6, uc178_6, rfl, ul178_6, ge178_6⟩ := k26_openF hMe178
         have hv178_6 := hcc178 6 _ rfl
         rw [add_field _ _ 6 (by omega)] at hv178_6
         replace hv178_6 := Option.some.inj (hv178_6.symm.trans hx178_6)
         injection hv178_6 with hva_ hvn_ hvc_
         rw [hva_] at ge178_6
         rw [hvc_] at ul178_6
         clear hva_ hvn_ hvc_ ge178_6 ul178_6
         clear hcc178 hce178
         clear hi178_6 hl178_6
         replace p178 := eq_true p178
         replace q178 := eq_true q178
         go_wp2_with ((go_at_call 57; (with_reducible refine (sashref04_May.calls ((rd_T26 t175 x15_1).f1.f0) ((rd_T26 t175 x15_1).f1.f1) ((rd_T26 t175 x15_1).f1.f2) ((rd_T26 t175 x15_1).f1.f3) false _ A16.out).mono ?_); rintro e w21 ⟨rfl, hb⟩; replace HO_3 := Aside0.mk (Kd.N_below HO_3.out hb); replace BK174 := Aside0.mk (blk_below BK174.out hb); replace HB := Aside0.mk (below_step (by repeat ((with_reducible exact HB.out))) hb); (try clear hb)))
         go_meet
         case rel => exact ⟨_, (true), (by rfl), H', ⟨by have := HK1.out; omega⟩, ⟨by exact HO_3.out⟩, ⟨by exact BK174.out⟩, ⟨by repeat ((with_reducible exact HB.out))⟩⟩
       ·rw [if_neg c15] at H
        exact absurd H (by simp)
      ·rw [if_neg c14] at H
       exact absurd H (by simp)
     case rest =>
      clear HC13
      clear c12b0
      obtain ⟨kq, x40_12, rfl, HA, HJ12, HO_3, BK174, HB⟩ := hcut
      cases kq with
      | zero => exact absurd HA.out (by simp [sashref05_May.j1])
      | succ kj12 =>
       have H := HA.out
       clear HA
       simp only [sashref05_May.j1] at H
       by_cases c22 : x40_12 = true
       ·subst c22
        have H1 : (some false) = some r := by rw [if_pos rfl] at H; exact H
        clear H
        have H := H1
        clear H1
        obtain rfl := Option.some.inj H
        go_wp2
        go_ret
        exact ⟨by rfl, by repeat ((with_reducible exact HB.out))⟩
       ·replace c22 := Bool.eq_false_iff.mpr c22
        subst c22
        have H1 : (if 0 ≤ x15_1 then (if x15_1 < (t175.length : Int) then (if ((rd_T26 t175 x15_1).f0) = 1 then (if (((rd_T26 t175 x15_1).f3).length : Int) > 0 then (some false) else (if ((rd_T26 t175 x15_1).f2) < 0 then (some false) else (if ((rd_T26 t175 x15_1).f2) > 2147483647 then (some false) else (if ((rd_T26 t175 x15_1).f0) > 1 then (if (((rd_T26 t175 x15_1).f3).length : Int) < 2 then (some false) else (if ((rd_T26 t175 x15_1).f2) = 0 then (sashref05_May.l0 kj12 t175 (t175.length : Int) (wrap64 (x15_1 + 1)) a0_0 a0_1 a0_2 a0_3 a0_4 a0_5 l0_6) else (some false))) else (sashref05_May.l0 kj12 t175 (t175.length : Int) (wrap64 (x15_1 + 1)) a0_0 a0_1 a0_2 a0_3 a0_4 a0_5 l0_6))))) else (if ((rd_T26 t175 x15_1).f0) > 1 then (if (((rd_T26 t175 x15_1).f3).length : Int) < 2 then (some false) else (if ((rd_T26 t175 x15_1).f2) = 0 then (sashref05_May.l0 kj12 t175 (t175.length : Int) (wrap64 (x15_1 + 1)) a0_0 a0_1 a0_2 a0_3 a0_4 a0_5 l0_6) else (some false))) else (sashref05_May.l0 kj12 t175 (t175.length : Int) (wrap64 (x15_1 + 1)) a0_0 a0_1 a0_2 a0_3 a0_4 a0_5 l0_6))) else (none)) else (none)) = some r := by rw [if_neg (show ¬ (false = true) by decide)] at H; exact H
        clear H
        have H := H1
        clear H1
        by_cases c23 : 0 ≤ x15_1
        ·rw [if_pos c23] at H
         have c23b0 : decide (0 ≤ x15_1) = true := decide_eq_true c23
         clear c23
         by_cases c24 : x15_1 < (t175.length : Int)
         ·rw [if_pos c24] at H
          have c24b0 : decide (x15_1 < (t175.length : Int)) = true := decide_eq_true c24
          clear c24
          by_cases c25 : ((rd_T26 t175 x15_1).f0) = 1
          ·rw [if_pos c25] at H
           have c25b0 : (((rd_T26 t175 x15_1).f0) == 1) = true := beq_iff_eq.mpr c25
           have c25b1 : (((rd_T26 t175 x15_1).f0) != 1) = false := bne_eq_false_iff_eq.mpr c25
           clear c25
           by_cases c26 : (((rd_T26 t175 x15_1).f3).length : Int) > 0
           ·rw [if_pos c26] at H
            have c26b0 : decide (0 < (((rd_T26 t175 x15_1).f3).length : Int)) = true := decide_eq_true c26
            have c26b1 : decide (0 < ((rd_T26 t175 x15_1).f3).length) = true := decide_eq_true (by omega)
            clear c26
            obtain rfl := Option.some.inj H
            have p182 : 0 ≤ (x15_1 : Int) := of_decide_eq_true (by (with_reducible assumption))
            have q182 : x15_1 < (t175.length : Int) := of_decide_eq_true (by (with_reducible assumption))
            obtain ⟨ad182, A182_6, c182_6, e182, hx182_0, hx182_1, hx182_2, hx182_3, hx182_4, hx182_5, hx182_6, hl182_6, hi182_6⟩ := at_T26 (Kd.N_reads' HO_3.out).2.2 x15_1 p182 q182
            cases e182
            obtain ⟨ce182, hce182, hMe182, hcc182⟩ := Kd.N_get HO_3.out z26 x15_1 p182 q182
            obtain ⟨ua182_6, uc182_6, rfl, ul182_6, ge182_6⟩ := k26_openF hMe182
            have hv182_6 := hcc182 6 _ rfl
            rw [add_field _ _ 6 (by omega)] at hv182_6
            replace hv182_6 := Option.some.inj (hv182_6.symm.trans hx182_6)
            injection hv182_6 with hva_ hvn_ hvc_
            rw [hva_] at ge182_6
            rw [hvc_] at ul182_6
            clear hva_ hvn_ hvc_ ge182_6 ul182_6
            clear hcc182 hce182
            clear hi182_6 hl182_6
            replace p182 := eq_true p182
            replace q182 := eq_true q182
            have p183 : 0 ≤ (x15_1 : Int) := of_decide_eq_true (by (with_reducible assumption))
            have q183 : x15_1 < (t175.length : Int) := of_decide_eq_true (by (with_reducible assumption))
            obtain ⟨ad183, A183_6, c183_6, e183, hx183_0, hx183_1, hx183_2, hx183_3, hx183_4, hx183_5, hx183_6, hl183_6, hi183_6⟩ := at_T26 (Kd.N_reads' HO_3.out).2.2 x15_1 p183 q183
            obtain rfl : ad182 = ad183 := (by injection e183)
            obtain ⟨ce183, hce183, hMe183, hcc183⟩ := Kd.N_get HO_3.out z26 x15_1 p183 q183
            obtain ⟨ua183_6, uc183_6, rfl, ul183_6, ge183_6⟩ := k26_openF hMe183
            have hv183_6 := hcc183 6 _ rfl
            rw [add_field _ _ 6 (by omega)] at hv183_6
            replace hv183_6 := Option.some.inj (hv183_6.symm.trans hx183_6)
            injection hv183_6 with hva_ hvn_ hvc_
            rw [hva_] at ge183_6
            rw [hvc_] at ul183_6
            clear hva_ hvn_ hvc_ ge183_6 ul183_6
            clear hcc183 hce183
            clear hi183_6 hl183_6
            replace p183 := eq_true p183
            replace q183 := eq_true q183
            have ea_ := Option.some.inj (hx182_6.symm.trans hx183_6)
            injection ea_ with ea_ en_ ec_
            subst ea_
            subst ec_
            clear en_
            go_wp2
            go_ret
            exact ⟨by rfl, by repeat ((with_reducible exact HB.out))⟩
           ·rw [if_neg c26] at H
            have c26b0 : decide (0 < (((rd_T26 t175 x15_1).f3).length : Int)) = false := decide_eq_false c26
            have c26b1 : decide (0 < ((rd_T26 t175 x15_1).f3).length) = false := decide_eq_false (by omega)
            clear c26
            by_cases c27 : ((rd_T26 t175 x15_1).f2) < 0
            ·rw [if_pos c27] at H
             have c27b0 : decide (((rd_T26 t175 x15_1).f2) < 0) = true := decide_eq_true c27
             clear c27
             obtain rfl := Option.some.inj H
             have p182 : 0 ≤ (x15_1 : Int) := of_decide_eq_true (by (with_reducible assumption))
             have q182 : x15_1 < (t175.length : Int) := of_decide_eq_true (by (with_reducible assumption))
             obtain ⟨ad182, A182_6, c182_6, e182, hx182_0, hx182_1, hx182_2, hx182_3, hx182_4, hx182_5, hx182_6, hl182_6, hi182_6⟩ := at_T26 (Kd.N_reads' HO_3.out).2.2 x15_1 p182 q182
             cases e182
             obtain ⟨ce182, hce182, hMe182, hcc182⟩ := Kd.N_get HO_3.out z26 x15_1 p182 q182
             obtain ⟨ua182_6, uc182_6, rfl, ul182_6, ge182_6⟩ := k26_openF hMe182
             have hv182_6 := hcc182 6 _ rfl
             rw [add_field _ _ 6 (by omega)] at hv182_6
             replace hv182_6 := Option.some.inj (hv182_6.symm.trans hx182_6)
             injection hv182_6 with hva_ hvn_ hvc_
             rw [hva_] at ge182_6
             rw [hvc_] at ul182_6
             clear hva_ hvn_ hvc_ ge182_6 ul182_6
             clear hcc182 hce182
             clear hi182_6 hl182_6
             replace p182 := eq_true p182
             replace q182 := eq_true q182
             have p183 : 0 ≤ (x15_1 : Int) := of_decide_eq_true (by (with_reducible assumption))
             have q183 : x15_1 < (t175.length : Int) := of_decide_eq_true (by (with_reducible assumption))
             obtain ⟨ad183, A183_6, c183_6, e183, hx183_0, hx183_1, hx183_2, hx183_3, hx183_4, hx183_5, hx183_6, hl183_6, hi183_6⟩ := at_T26 (Kd.N_reads' HO_3.out).2.2 x15_1 p183 q183
             obtain rfl : ad182 = ad183 := (by injection e183)
             obtain ⟨ce183, hce183, hMe183, hcc183⟩ := Kd.N_get HO_3.out z26 x15_1 p183 q183
             obtain ⟨ua183_6, uc183_6, rfl, ul183_6, ge183_6⟩ := k26_openF hMe183
             have hv183_6 := hcc183 6 _ rfl
             rw [add_field _ _ 6 (by omega)] at hv183_6
             replace hv183_6 := Option.some.inj (hv183_6.symm.trans hx183_6)
             injection hv183_6 with hva_ hvn_ hvc_
             rw [hva_] at ge183_6
             rw [hvc_] at ul183_6
             clear hva_ hvn_ hvc_ ge183_6 ul183_6
             clear hcc183 hce183
             clear hi183_6 hl183_6
             replace p183 := eq_true p183
             replace q183 := eq_true q183
             have ea_ := Option.some.inj (hx182_6.symm.trans hx183_6)
             injection ea_ with ea_ en_ ec_
             subst ea_
             subst ec_
             clear en_
             have p184 : 0 ≤ (x15_1 : Int) := of_decide_eq_true (by (with_reducible assumption))
             have q184 : x15_1 < (t175.length : Int) := of_decide_eq_true (by (with_reducible assumption))
             obtain ⟨ad184, A184_6, c184_6, e184, hx184_0, hx184_1, hx184_2, hx184_3, hx184_4, hx184_5, hx184_6, hl184_6, hi184_6⟩ := at_T26 (Kd.N_reads' HO_3.out).2.2 x15_1 p184 q184
             obtain rfl : ad182 = ad184 := (by injection e184)
             obtain ⟨ce184, hce184, hMe184, hcc184⟩ := Kd.N_get HO_3.out z26 x15_1 p184 q184
             obtain ⟨ua184_6, uc184_6, rfl, ul184_6, ge184_6⟩ := k26_openF hMe184
             have hv184_6 := hcc184 6 _ rfl
             rw [add_field _ _ 6 (by omega)] at hv184_6
             replace hv184_6 := Option.some.inj (hv184_6.symm.trans hx184_6)
             injection hv184_6 with hva_ hvn_ hvc_
             rw [hva_] at ge184_6
             rw [hvc_] at ul184_6
             clear hva_ hvn_ hvc_ ge184_6 ul184_6
             clear hcc184 hce184
             clear hi184_6 hl184_6
             replace p184 := eq_true p184
             replace q184 := eq_true q184
             have ea_ := Option.some.inj (hx182_6.symm.trans hx184_6)
             injection ea_ with ea_ en_ ec_
             subst ea_
             subst ec_
             clear en_
             go_wp2
             go_ret
             exact ⟨by rfl, by repeat ((with_reducible exact HB.out))⟩
            ·rw [if_neg c27] at H
             have c27b0 : decide (((rd_T26 t175 x15_1).f2) < 0) = false := decide_eq_false c27
             clear c27
             by_cases c28 : ((rd_T26 t175 x15_1).f2) > 2147483647
             ·rw [if_pos c28] at H
              have c28b0 : decide (2147483647 < ((rd_T26 t175 x15_1).f2)) = true := decide_eq_true c28
              clear c28
              obtain rfl := Option.some.inj H
              have p182 : 0 ≤ (x15_1 : Int) := of_decide_eq_true (by (with_reducible assumption))
              have q182 : x15_1 < (t175.length : Int) := of_decide_eq_true (by (with_reducible assumption))
              obtain ⟨ad182, A182_6, c182_6, e182, hx182_0, hx182_1, hx182_2, hx182_3, hx182_4, hx182_5, hx182_6, hl182_6, hi182_6⟩ := at_T26 (Kd.N_reads' HO_3.out).2.2 x15_1 p182 q182
              cases e182
              obtain ⟨ce182, hce182, hMe182, hcc182⟩ := Kd.N_get HO_3.out z26 x15_1 p182 q182
              obtain ⟨ua182_6, uc182_6, rfl, ul182_6, ge182_6⟩ := k26_openF hMe182
              have hv182_6 := hcc182 6 _ rfl
              rw [add_field _ _ 6 (by omega)] at hv182_6
              replace hv182_6 := Option.some.inj (hv182_6.symm.trans hx182_6)
              injection hv182_6 with hva_ hvn_ hvc_
              rw [hva_] at ge182_6
              rw [hvc_] at ul182_6
              clear hva_ hvn_ hvc_ ge182_6 ul182_6
              clear hcc182 hce182
              clear hi182_6 hl182_6
              replace p182 := eq_true p182
              replace q182 := eq_true q182
              have p183 : 0 ≤ (x15_1 : Int) := of_decide_eq_true (by (with_reducible assumption))
              have q183 : x15_1 < (t175.length : Int) := of_decide_eq_true (by (with_reducible assumption))
              obtain ⟨ad183, A183_6, c183_6, e183, hx183_0, hx183_1, hx183_2, hx183_3, hx183_4, hx183_5, hx183_6, hl183_6, hi183_6⟩ := at_T26 (Kd.N_reads' HO_3.out).2.2 x15_1 p183 q183
              obtain rfl : ad182 = ad183 := (by injection e183)
              obtain ⟨ce183, hce183, hMe183, hcc183⟩ := Kd.N_get HO_3.out z26 x15_1 p183 q183
              obtain ⟨ua183_6, uc183_6, rfl, ul183_6, ge183_6⟩ := k26_openF hMe183
              have hv183_6 := hcc183 6 _ rfl
              rw [add_field _ _ 6 (by omega)] at hv183_6
              replace hv183_6 := Option.some.inj (hv183_6.symm.trans hx183_6)
              injection hv183_6 with hva_ hvn_ hvc_
              rw [hva_] at ge183_6
              rw [hvc_] at ul183_6
              clear hva_ hvn_ hvc_ ge183_6 ul183_6
              clear hcc183 hce183
              clear hi183_6 hl183_6
              replace p183 := eq_true p183
              replace q183 := eq_true q183
              have ea_ := Option.some.inj (hx182_6.symm.trans hx183_6)
              injection ea_ with ea_ en_ ec_
              subst ea_
              subst ec_
              clear en_
              have p184 : 0 ≤ (x15_1 : Int) := of_decide_eq_true (by (with_reducible assumption))
              have q184 : x15_1 < (t175.length : Int) := of_decide_eq_true (by (with_reducible assumption))
              obtain ⟨ad184, A184_6, c184_6, e184, hx184_0, hx184_1, hx184_2, hx184_3, hx184_4, hx184_5, hx184_6, hl184_6, hi184_6⟩ := at_T26 (Kd.N_reads' HO_3.out).2.2 x15_1 p184 q184
              obtain rfl : ad182 = ad184 := (by injection e184)
              obtain ⟨ce184, hce184, hMe184, hcc184⟩ := Kd.N_get HO_3.out z26 x15_1 p184 q184
              obtain ⟨ua184_6, uc184_6, rfl, ul184_6, ge184_6⟩ := k26_openF hMe184
              have hv184_6 := hcc184 6 _ rfl
              rw [add_field _ _ 6 (by omega)] at hv184_6
              replace hv184_6 := Option.some.inj (hv184_6.symm.trans hx184_6)
              injection hv184_6 with hva_ hvn_ hvc_
              rw [hva_] at ge184_6
              rw [hvc_] at ul184_6
              clear hva_ hvn_ hvc_ ge184_6 ul184_6
              clear hcc184 hce184
              clear hi184_6 hl184_6
              replace p184 := eq_true p184
              replace q184 := eq_true q184
              have ea_ := Option.some.inj (hx182_6.symm.trans hx184_6)
              injection ea_ with ea_ en_ ec_
              subst ea_
              subst ec_
              clear en_
              have p185 : 0 ≤ (x15_1 : Int) := of_decide_eq_true (by (with_reducible assumption))
              have q185 : x15_1 < (t175.length : Int) := of_decide_eq_true (by (with_reducible assumption))
              obtain ⟨ad185, A185_6, c185_6, e185, hx185_0, hx185_1, hx185_2, hx185_3, hx185_4, hx185_5, hx185_6, hl185_6, hi185_6⟩ := at_T26 (Kd.N_reads' HO_3.out).2.2 x15_1 p185 q185
              obtain rfl : ad182 = ad185 := (by injection e185)
              obtain ⟨ce185, hce185, hMe185, hcc185⟩ := Kd.N_get HO_3.out z26 x15_1 p185 q185
              obtain ⟨ua185_6, uc185_6, rfl, ul185_6, ge185_6⟩ := k26_openF hMe185
              have hv185_6 := hcc185 6 _ rfl
              rw [add_field _ _ 6 (by omega)] at hv185_6
              replace hv185_6 := Option.some.inj (hv185_6.symm.trans hx185_6)
              injection hv185_6 with hva_ hvn_ hvc_
              rw [hva_] at ge185_6
              rw [hvc_] at ul185_6
              clear hva_ hvn_ hvc_ ge185_6 ul185_6
              clear hcc185 hce185
              clear hi185_6 hl185_6
              replace p185 := eq_true p185
              replace q185 := eq_true q185
              have ea_ := Option.some.inj (hx182_6.symm.trans hx185_6)
              injection ea_ with ea_ en_ ec_
              subst ea_
              subst ec_
              clear en_
              go_wp2
              go_ret
              exact ⟨by rfl, by repeat ((with_reducible exact HB.out))⟩
             ·rw [if_neg c28] at H
              have c28b0 : decide (2147483647 < ((rd_T26 t175 x15_1).f2)) = false := decide_eq_false c28
              clear c28
              by_cases c29 : ((rd_T26 t175 x15_1).f0) > 1
              ·rw [if_pos c29] at H
               have c29b0 : decide (1 < ((rd_T26 t175 x15_1).f0)) = true := decide_eq_true c29
               clear c29
               by_cases c30 : (((rd_T26 t175 x15_1).f3).length : Int) < 2
               ·rw [if_pos c30] at H
                have c30b0 : decide ((((rd_T26 t175 x15_1).f3).length : Int) < 2) = true := decide_eq_true c30
                have c30b1 : decide (((rd_T26 t175 x15_1).f3).length < 2) = true := decide_eq_true (by omega)
                clear c30
                obtain rfl := Option.some.inj H
                have p182 : 0 ≤ (x15_1 : Int) := of_decide_eq_true (by (with_reducible assumption))
                have q182 : x15_1 < (t175.length : Int) := of_decide_eq_true (by (with_reducible assumption))
                obtain ⟨ad182, A182_6, c182_6, e182, hx182_0, hx182_1, hx182_2, hx182_3, hx182_4, hx182_5, hx182_6, hl182_6, hi182_6⟩ := at_T26 (Kd.N_reads' HO_3.out).2.2 x15_1 p182 q182
                cases e182
                obtain ⟨ce182, hce182, hMe182, hcc182⟩ := Kd.N_get HO_3.out z26 x15_1 p182 q182
                obtain ⟨ua182_6, uc182_6, rfl, ul182_6, ge182_6⟩ := k26_openF hMe182
                have hv182_6 := hcc182 6 _ rfl
                rw [add_field _ _ 6 (by omega)] at hv182_6
                replace hv182_6 := Option.some.inj (hv182_6.symm.trans hx182_6)
                injection hv182_6 with hva_ hvn_ hvc_
                rw [hva_] at ge182_6
                rw [hvc_] at ul182_6
                clear hva_ hvn_ hvc_ ge182_6 ul182_6
                clear hcc182 hce182
                clear hi182_6 hl182_6
                replace p182 := eq_true p182
                replace q182 := eq_true q182
                have p183 : 0 ≤ (x15_1 : Int) := of_decide_eq_true (by (with_reducible assumption))
                have q183 : x15_1 < (t175.length : Int) := of_decide_eq_true (by (with_reducible assumption))
                obtain ⟨ad183, A183_6, c183_6, e183, hx183_0, hx183_1, hx183_2, hx183_3, hx183_4, hx183_5, hx183_6, hl183_6, hi183_6⟩ := at_T26 (Kd.N_reads' HO_3.out).2.2 x15_1 p183 q183
                obtain rfl : ad182 = ad183 := (by injection e183)
                obtain ⟨ce183, hce183, hMe183, hcc183⟩ := Kd.N_get HO_3.out z26 x15_1 p183 q183
                obtain ⟨ua183_6, uc183_6, rfl, ul183_6, ge183_6⟩ := k26_openF hMe183
                have hv183_6 := hcc183 6 _ rfl
                rw [add_field _ _ 6 (by omega)] at hv183_6
                replace hv183_6 := Option.some.inj (hv183_6.symm.trans hx183_6)
                injection hv183_6 with hva_ hvn_ hvc_
                rw [hva_] at ge183_6
                rw [hvc_] at ul183_6
                clear hva_ hvn_ hvc_ ge183_6 ul183_6
                clear hcc183 hce183
                clear hi183_6 hl183_6
                replace p183 := eq_true p183
                replace q183 := eq_true q183
                have ea_ := Option.some.inj (hx182_6.symm.trans hx183_6)
                injection ea_ with ea_ en_ ec_
                subst ea_
                subst ec_
                clear en_
                have p184 : 0 ≤ (x15_1 : Int) := of_decide_eq_true (by (with_reducible assumption))
                have q184 : x15_1 < (t175.length : Int) := of_decide_eq_true (by (with_reducible assumption))
                obtain ⟨ad184, A184_6, c184_6, e184, hx184_0, hx184_1, hx184_2, hx184_3, hx184_4, hx184_5, hx184_6, hl184_6, hi184_6⟩ := at_T26 (Kd.N_reads' HO_3.out).2.2 x15_1 p184 q184
                obtain rfl : ad182 = ad184 := (by injection e184)
                obtain ⟨ce184, hce184, hMe184, hcc184⟩ := Kd.N_get HO_3.out z26 x15_1 p184 q184
                obtain ⟨ua184_6, uc184_6, rfl, ul184_6, ge184_6⟩ := k26_openF hMe184
                have hv184_6 := hcc184 6 _ rfl
                rw [add_field _ _ 6 (by omega)] at hv184_6
                replace hv184_6 := Option.some.inj (hv184_6.symm.trans hx184_6)
                injection hv184_6 with hva_ hvn_ hvc_
                rw [hva_] at ge184_6
                rw [hvc_] at ul184_6
                clear hva_ hvn_ hvc_ ge184_6 ul184_6
                clear hcc184 hce184
                clear hi184_6 hl184_6
                replace p184 := eq_true p184
                replace q184 := eq_true q184
                have ea_ := Option.some.inj (hx182_6.symm.trans hx184_6)
                injection ea_ with ea_ en_ ec_
                subst ea_
                subst ec_
                clear en_
                have p185 : 0 ≤ (x15_1 : Int) := of_decide_eq_true (by (with_reducible assumption))
                have q185 : x15_1 < (t175.length : Int) := of_decide_eq_true (by (with_reducible assumption))
                obtain ⟨ad185, A185_6, c185_6, e185, hx185_0, hx185_1, hx185_2, hx185_3, hx185_4, hx185_5, hx185_6, hl185_6, hi185_6⟩ := at_T26 (Kd.N_reads' HO_3.out).2.2 x15_1 p185 q185
                obtain rfl : ad182 = ad185 := (by injection e185)
                obtain ⟨ce185, hce185, hMe185, hcc185⟩ := Kd.N_get HO_3.out z26 x15_1 p185 q185
                obtain ⟨ua185_6, uc185_6, rfl, ul185_6, ge185_6⟩ := k26_openF hMe185
                have hv185_6 := hcc185 6 _ rfl
                rw [add_field _ _ 6 (by omega)] at hv185_6
                replace hv185_6 := Option.some.inj (hv185_6.symm.trans hx185_6)
                injection hv185_6 with hva_ hvn_ hvc_
                rw [hva_] at ge185_6
                rw [hvc_] at ul185_6
                clear hva_ hvn_ hvc_ ge185_6 ul185_6
                clear hcc185 hce185
                clear hi185_6 hl185_6
                replace p185 := eq_true p185
                replace q185 := eq_true q185
                have ea_ := Option.some.inj (hx182_6.symm.trans hx185_6)
                injection ea_ with ea_ en_ ec_
                subst ea_
                subst ec_
                clear en_
                have p186 : 0 ≤ (x15_1 : Int) := of_decide_eq_true (by (with_reducible assumption))
                have q186 : x15_1 < (t175.length : Int) := of_decide_eq_true (by (with_reducible assumption))
                obtain ⟨ad186, A186_6, c186_6, e186, hx186_0, hx186_1, hx186_2, hx186_3, hx186_4, hx186_5, hx186_6, hl186_6, hi186_6⟩ := at_T26 (Kd.N_reads' HO_3.out).2.2 x15_1 p186 q186
                obtain rfl : ad182 = ad186 := (by injection e186)
                obtain ⟨ce186, hce186, hMe186, hcc186⟩ := Kd.N_get HO_3.out z26 x15_1 p186 q186
                obtain ⟨ua186_6, uc186_6, rfl, ul186_6, ge186_6⟩ := k26_openF hMe186
                have hv186_6 := hcc186 6 _ rfl
                rw [add_field _ _ 6 (by omega)] at hv186_6
                replace hv186_6 := Option.some.inj (hv186_6.symm.trans hx186_6)
                injection hv186_6 with hva_ hvn_ hvc_
                rw [hva_] at ge186_6
                rw [hvc_] at ul186_6
                clear hva_ hvn_ hvc_ ge186_6 ul186_6
                clear hcc186 hce186
                clear hi186_6 hl186_6
                replace p186 := eq_true p186
                replace q186 := eq_true q186
                have ea_ := Option.some.inj (hx182_6.symm.trans hx186_6)
                injection ea_ with ea_ en_ ec_
                subst ea_
                subst ec_
                clear en_
                have p187 : 0 ≤ (x15_1 : Int) := of_decide_eq_true (by (with_reducible assumption))
                have q187 : x15_1 < (t175.length : Int) := of_decide_eq_true (by (with_reducible assumption))
                obtain ⟨ad187, A187_6, c187_6, e187, hx187_0, hx187_1, hx187_2, hx187_3, hx187_4, hx187_5, hx187_6, hl187_6, hi187_6⟩ := at_T26 (Kd.N_reads' HO_3.out).2.2 x15_1 p187 q187
                obtain rfl : ad182 = ad187 := (by injection e187)
                obtain ⟨ce187, hce187, hMe187, hcc187⟩ := Kd.N_get HO_3.out z26 x15_1 p187 q187
                obtain ⟨ua187_6, uc187_6, rfl, ul187_6, ge187_6⟩ := k26_openF hMe187
                have hv187_6 := hcc187 6 _ rfl
                rw [add_field _ _ 6 (by omega)] at hv187_6
                replace hv187_6 := Option.some.inj (hv187_6.symm.trans hx187_6)
                injection hv187_6 with hva_ hvn_ hvc_
                rw [hva_] at ge187_6
                rw [hvc_] at ul187_6
                clear hva_ hvn_ hvc_ ge187_6 ul187_6
                clear hcc187 hce187
                clear hi187_6 hl187_6
                replace p187 := eq_true p187
                replace q187 := eq_true q187
                have ea_ := Option.some.inj (hx182_6.symm.trans hx187_6)
                injection ea_ with ea_ en_ ec_
                subst ea_
                subst ec_
                clear en_
                go_wp2
                go_ret
                exact ⟨by rfl, by repeat ((with_reducible exact HB.out))⟩
               ·rw [if_neg c30] at H
                have c30b0 : decide ((((rd_T26 t175 x15_1).f3).length : Int) < 2) = false := decide_eq_false c30
                have c30b1 : decide (((rd_T26 t175 x15_1).f3).length < 2) = false := decide_eq_false (by omega)
                clear c30
                by_cases c31 : ((rd_T26 t175 x15_1).f2) = 0
                ·rw [if_pos c31] at H
                 have c31b0 : (((rd_T26 t175 x15_1).f2) == 0) = true := beq_iff_eq.mpr c31
                 have c31b1 : (((rd_T26 t175 x15_1).f2) != 0) = false := bne_eq_false_iff_eq.mpr c31
                 clear c31
                 have H' := Aside0.mk H
                 clear H
                 have p182 : 0 ≤ (x15_1 : Int) := of_decide_eq_true (by (with_reducible assumption))
                 have q182 : x15_1 < (t175.length : Int) := of_decide_eq_true (by (with_reducible assumption))
                 obtain ⟨ad182, A182_6, c182_6, e182, hx182_0, hx182_1, hx182_2, hx182_3, hx182_4, hx182_5, hx182_6, hl182_6, hi182_6⟩ := at_T26 (Kd.N_reads' HO_3.out).2.2 x15_1 p182 q182
                 cases e182
                 obtain ⟨ce182, hce182, hMe182, hcc182⟩ := Kd.N_get HO_3.out z26 x15_1 p182 q182
                 obtain ⟨ua182_6, uc182_6, rfl, ul182_6, ge182_6⟩ := k26_openF hMe182
                 have hv182_6 := hcc182 6 _ rfl
                 rw [add_field _ _ 6 (by omega)] at hv182_6
                 replace hv182_6 := Option.some.inj (hv182_6.symm.trans hx182_6)
                 injection hv182_6 with hva_ hvn_ hvc_
                 rw [hva_] at ge182_6
                 rw [hvc_] at ul182_6
                 clear hva_ hvn_ hvc_ ge182_6 ul182_6
                 clear hcc182 hce182
                 clear hi182_6 hl182_6
                 replace p182 := eq_true p182
                 replace q182 := eq_true q182
                 have p183 : 0 ≤ (x15_1 : Int) := of_decide_eq_true (by (with_reducible assumption))
                 have q183 : x15_1 < (t175.length : Int) := of_decide_eq_true (by (with_reducible assumption))
                 obtain ⟨ad183, A183_6, c183_6, e183, hx183_0, hx183_1, hx183_2, hx183_3, hx183_4, hx183_5, hx183_6, hl183_6, hi183_6⟩ := at_T26 (Kd.N_reads' HO_3.out).2.2 x15_1 p183 q183
                 obtain rfl : ad182 = ad183 := (by injection e183)
                 obtain ⟨ce183, hce183, hMe183, hcc183⟩ := Kd.N_get HO_3.out z26 x15_1 p183 q183
                 obtain ⟨ua183_6, uc183_6, rfl, ul183_6, ge183_6⟩ := k26_openF hMe183
                 have hv183_6 := hcc183 6 _ rfl
                 rw [add_field _ _ 6 (by omega)] at hv183_6
                 replace hv183_6 := Option.some.inj (hv183_6.symm.trans hx183_6)
                 injection hv183_6 with hva_ hvn_ hvc_
                 rw [hva_] at ge183_6
                 rw [hvc_] at ul183_6
                 clear hva_ hvn_ hvc_ ge183_6 ul183_6
                 clear hcc183 hce183
                 clear hi183_6 hl183_6
                 replace p183 := eq_true p183
                 replace q183 := eq_true q183
                 have ea_ := Option.some.inj (hx182_6.symm.trans hx183_6)
                 injection ea_ with ea_ en_ ec_
                 subst ea_
                 subst ec_
                 clear en_
                 have p184 : 0 ≤ (x15_1 : Int) := of_decide_eq_true (by (with_reducible assumption))
                 have q184 : x15_1 < (t175.length : Int) := of_decide_eq_true (by (with_reducible assumption))
                 obtain ⟨ad184, A184_6, c184_6, e184, hx184_0, hx184_1, hx184_2, hx184_3, hx184_4, hx184_5, hx184_6, hl184_6, hi184_6⟩ := at_T26 (Kd.N_reads' HO_3.out).2.2 x15_1 p184 q184
                 obtain rfl : ad182 = ad184 := (by injection e184)
                 obtain ⟨ce184, hce184, hMe184, hcc184⟩ := Kd.N_get HO_3.out z26 x15_1 p184 q184
                 obtain ⟨ua184_6, uc184_6, rfl, ul184_6, ge184_6⟩ := k26_openF hMe184
                 have hv184_6 := hcc184 6 _ rfl
                 rw [add_field _ _ 6 (by omega)] at hv184_6
                 replace hv184_6 := Option.some.inj (hv184_6.symm.trans hx184_6)
                 injection hv184_6 with hva_ hvn_ hvc_
                 rw [hva_] at ge184_6
                 rw [hvc_] at ul184_6
                 clear hva_ hvn_ hvc_ ge184_6 ul184_6
                 clear hcc184 hce184
                 clear hi184_6 hl184_6
                 replace p184 := eq_true p184
                 replace q184 := eq_true q184
                 have ea_ := Option.some.inj (hx182_6.symm.trans hx184_6)
                 injection ea_ with ea_ en_ ec_
                 subst ea_
                 subst ec_
                 clear en_
                 have p185 : 0 ≤ (x15_1 : Int) := of_decide_eq_true (by (with_reducible assumption))
                 have q185 : x15_1 < (t175.length : Int) := of_decide_eq_true (by (with_reducible assumption))
                 obtain ⟨ad185, A185_6, c185_6, e185, hx185_0, hx185_1, hx185_2, hx185_3, hx185_4, hx185_5, hx185_6, hl185_6, hi185_6⟩ := at_T26 (Kd.N_reads' HO_3.out).2.2 x15_1 p185 q185
                 obtain rfl : ad182 = ad185 := (by injection e185)
                 obtain ⟨ce185, hce185, hMe185, hcc185⟩ := Kd.N_get HO_3.out z26 x15_1 p185 q185
                 obtain ⟨ua185_6, uc185_6, rfl, ul185_6, ge185_6⟩ := k26_openF hMe185
                 have hv185_6 := hcc185 6 _ rfl
                 rw [add_field _ _ 6 (by omega)] at hv185_6
                 replace hv185_6 := Option.some.inj (hv185_6.symm.trans hx185_6)
                 injection hv185_6 with hva_ hvn_ hvc_
                 rw [hva_] at ge185_6
                 rw [hvc_] at ul185_6
                 clear hva_ hvn_ hvc_ ge185_6 ul185_6
                 clear hcc185 hce185
                 clear hi185_6 hl185_6
                 replace p185 := eq_true p185
                 replace q185 := eq_true q185
                 have ea_ := Option.some.inj (hx182_6.symm.trans hx185_6)
                 injection ea_ with ea_ en_ ec_
                 subst ea_
                 subst ec_
                 clear en_
                 have p186 : 0 ≤ (x15_1 : Int) := of_decide_eq_true (by (with_reducible assumption))
                 have q186 : x15_1 < (t175.length : Int) := of_decide_eq_true (by (with_reducible assumption))
                 obtain ⟨ad186, A186_6, c186_6, e186, hx186_0, hx186_1, hx186_2, hx186_3, hx186_4, hx186_5, hx186_6, hl186_6, hi186_6⟩ := at_T26 (Kd.N_reads' HO_3.out).2.2 x15_1 p186 q186
                 obtain rfl : ad182 = ad186 := (by injection e186)
                 obtain ⟨ce186, hce186, hMe186, hcc186⟩ := Kd.N_get HO_3.out z26 x15_1 p186 q186
                 obtain ⟨ua186_6, uc186_6, rfl, ul186_6, ge186_6⟩ := k26_openF hMe186
                 have hv186_6 := hcc186 6 _ rfl
                 rw [add_field _ _ 6 (by omega)] at hv186_6
                 replace hv186_6 := Option.some.inj (hv186_6.symm.trans hx186_6)
                 injection hv186_6 with hva_ hvn_ hvc_
                 rw [hva_] at ge186_6
                 rw [hvc_] at ul186_6
                 clear hva_ hvn_ hvc_ ge186_6 ul186_6
                 clear hcc186 hce186
                 clear hi186_6 hl186_6
                 replace p186 := eq_true p186
                 replace q186 := eq_true q186
                 have ea_ := Option.some.inj (hx182_6.symm.trans hx186_6)
                 injection ea_ with ea_ en_ ec_
                 subst ea_
                 subst ec_
                 clear en_
                 have p187 : 0 ≤ (x15_1 : Int) := of_decide_eq_true (by (with_reducible assumption))
                 have q187 : x15_1 < (t175.length : Int) := of_decide_eq_true (by (with_reducible assumption))
                 obtain ⟨ad187, A187_6, c187_6, e187, hx187_0, hx187_1, hx187_2, hx187_3, hx187_4, hx187_5, hx187_6, hl187_6, hi187_6⟩ := at_T26 (Kd.N_reads' HO_3.out).2.2 x15_1 p187 q187
                 obtain rfl : ad182 = ad187 := (by injection e187)
                 obtain ⟨ce187, hce187, hMe187, hcc187⟩ := Kd.N_get HO_3.out z26 x15_1 p187 q187
                 obtain ⟨ua187_6, uc187_6, rfl, ul187_6, ge187_6⟩ := k26_openF hMe187
                 have hv187_6 := hcc187 6 _ rfl
                 rw [add_field _ _ 6 (by omega)] at hv187_6
                 replace hv187_6 := Option.some.inj (hv187_6.symm.trans hx187_6)
                 injection hv187_6 with hva_ hvn_ hvc_
                 rw [hva_] at ge187_6
                 rw [hvc_] at ul187_6
                 clear hva_ hvn_ hvc_ ge187_6 ul187_6
                 clear hcc187 hce187
                 clear hi187_6 hl187_6
                 replace p187 := eq_true p187
                 replace q187 := eq_true q187
                 have ea_ := Option.some.inj (hx182_6.symm.trans hx187_6)
                 injection ea_ with ea_ en_ ec_
                 subst ea_
                 subst ec_
                 clear en_
                 have p188 : 0 ≤ (x15_1 : Int) := of_decide_eq_true (by (with_reducible assumption))
                 have q188 : x15_1 < (t175.length : Int) := of_decide_eq_true (by (with_reducible assumption))
                 obtain ⟨ad188, A188_6, c188_6, e188, hx188_0, hx188_1, hx188_2, hx188_3, hx188_4, hx188_5, hx188_6, hl188_6, hi188_6⟩ := at_T26 (Kd.N_reads' HO_3.out).2.2 x15_1 p188 q188
                 obtain rfl : ad182 = ad188 := (by injection e188)
                 clear hi188_6 hl188_6
                 replace p188 := eq_true p188
                 replace q188 := eq_true q188
                 have ea_ := Option.some.inj (hx182_6.symm.trans hx188_6)
                 injection ea_ with ea_ en_ ec_
                 subst ea_
                 subst ec_
                 clear en_
                 go_wp2
                 go_roundg kj12
                 case measure => have := HK1.out; have := HJ12.out; omega
                 case rel => exact ⟨(wrap64 (x15_1 + 1)), (by rfl), H', ⟨by have := HK1.out; have := HJ12.out; omega⟩, ⟨by exact HO_3.out⟩, ⟨by exact BK174.out⟩, ⟨by repeat ((with_reducible exact HB.out))⟩⟩
                ·rw [if_neg c31] at H
                 have c31b0 : (((rd_T26 t175 x15_1).f2) == 0) = false := beq_eq_false_iff_ne.mpr c31
                 have c31b1 : (((rd_T26 t175 x15_1).f2) != 0) = true := bne_iff_ne.mpr c31
                 obtain rfl := Option.some.inj H
                 have p182 : 0 ≤ (x15_1 : Int) := of_decide_eq_true (by (with_reducible assumption))
                 have q182 : x15_1 < (t175.length : Int) := of_decide_eq_true (by (with_reducible assumption))
                 obtain ⟨ad182, A182_6, c182_6, e182, hx182_0, hx182_1, hx182_2, hx182_3, hx182_4, hx182_5, hx182_6, hl182_6, hi182_6⟩ := at_T26 (Kd.N_reads' HO_3.out).2.2 x15_1 p182 q182
                 cases e182
                 obtain ⟨ce182, hce182, hMe182, hcc182⟩ := Kd.N_get HO_3.out z26 x15_1 p182 q182
                 obtain ⟨ua182_6, uc182_6, rfl, ul182_6, ge182_6⟩ := k26_openF hMe182
                 have hv182_6 := hcc182 6 _ rfl
                 rw [add_field _ _ 6 (by omega)] at hv182_6
                 replace hv182_6 := Option.some.inj (hv182_6.symm.trans hx182_6)
                 injection hv182_6 with hva_ hvn_ hvc_
                 rw [hva_] at ge182_6
                 rw [hvc_] at ul182_6
                 clear hva_ hvn_ hvc_ ge182_6 ul182_6
                 clear hcc182 hce182
                 clear hi182_6 hl182_6
                 replace p182 := eq_true p182
                 replace q182 := eq_true q182
                 have p183 : 0 ≤ (x15_1 : Int) := of_decide_eq_true (by (with_reducible assumption))
                 have q183 : x15_1 < (t175.length : Int) := of_decide_eq_true (by (with_reducible assumption))
                 obtain ⟨ad183, A183_6, c183_6, e183, hx183_0, hx183_1, hx183_2, hx183_3, hx183_4, hx183_5, hx183_6, hl183_6, hi183_6⟩ := at_T26 (Kd.N_reads' HO_3.out).2.2 x15_1 p183 q183
                 obtain rfl : ad182 = ad183 := (by injection e183)
                 obtain ⟨ce183, hce183, hMe183, hcc183⟩ := Kd.N_get HO_3.out z26 x15_1 p183 q183
                 obtain ⟨ua183_6, uc183_6, rfl, ul183_6, ge183_6⟩ := k26_openF hMe183
                 have hv183_6 := hcc183 6 _ rfl
                 rw [add_field _ _ 6 (by omega)] at hv183_6
                 replace hv183_6 := Option.some.inj (hv183_6.symm.trans hx183_6)
                 injection hv183_6 with hva_ hvn_ hvc_
                 rw [hva_] at ge183_6
                 rw [hvc_] at ul183_6
                 clear hva_ hvn_ hvc_ ge183_6 ul183_6
                 clear hcc183 hce183
                 clear hi183_6 hl183_6
                 replace p183 := eq_true p183
                 replace q183 := eq_true q183
                 have ea_ := Option.some.inj (hx182_6.symm.trans hx183_6)
                 injection ea_ with ea_ en_ ec_
                 subst ea_
                 subst ec_
                 clear en_
                 have p184 : 0 ≤ (x15_1 : Int) := of_decide_eq_true (by (with_reducible assumption))
                 have q184 : x15_1 < (t175.length : Int) := of_decide_eq_true (by (with_reducible assumption))
                 obtain ⟨ad184, A184_6, c184_6, e184, hx184_0, hx184_1, hx184_2, hx184_3, hx184_4, hx184_5, hx184_6, hl184_6, hi184_6⟩ := at_T26 (Kd.N_reads' HO_3.out).2.2 x15_1 p184 q184
                 obtain rfl : ad182 = ad184 := (by injection e184)
                 obtain ⟨ce184, hce184, hMe184, hcc184⟩ := Kd.N_get HO_3.out z26 x15_1 p184 q184
                 obtain ⟨ua184_6, uc184_6, rfl, ul184_6, ge184_6⟩ := k26_openF hMe184
                 have hv184_6 := hcc184 6 _ rfl
                 rw [add_field _ _ 6 (by omega)] at hv184_6
                 replace hv184_6 := Option.some.inj (hv184_6.symm.trans hx184_6)
                 injection hv184_6 with hva_ hvn_ hvc_
                 rw [hva_] at ge184_6
                 rw [hvc_] at ul184_6
                 clear hva_ hvn_ hvc_ ge184_6 ul184_6
                 clear hcc184 hce184
                 clear hi184_6 hl184_6
                 replace p184 := eq_true p184
                 replace q184 := eq_true q184
                 have ea_ := Option.some.inj (hx182_6.symm.trans hx184_6)
                 injection ea_ with ea_ en_ ec_
                 subst ea_
                 subst ec_
                 clear en_
                 have p185 : 0 ≤ (x15_1 : Int) := of_decide_eq_true (by (with_reducible assumption))
                 have q185 : x15_1 < (t175.length : Int) := of_decide_eq_true (by (with_reducible assumption))
                 obtain ⟨ad185, A185_6, c185_6, e185, hx185_0, hx185_1, hx185_2, hx185_3, hx185_4, hx185_5, hx185_6, hl185_6, hi185_6⟩ := at_T26 (Kd.N_reads' HO_3.out).2.2 x15_1 p185 q185
                 obtain rfl : ad182 = ad185 := (by injection e185)
                 obtain ⟨ce185, hce185, hMe185, hcc185⟩ := Kd.N_get HO_3.out z26 x15_1 p185 q185
                 obtain ⟨ua185_6, uc185_6, rfl, ul185_6, ge185_6⟩ := k26_openF hMe185
                 have hv185_6 := hcc185 6 _ rfl
                 rw [add_field _ _ 6 (by omega)] at hv185_6
                 replace hv185_6 := Option.some.inj (hv185_6.symm.trans hx185_6)
                 injection hv185_6 with hva_ hvn_ hvc_
                 rw [hva_] at ge185_6
                 rw [hvc_] at ul185_6
                 clear hva_ hvn_ hvc_ ge185_6 ul185_6
                 clear hcc185 hce185
                 clear hi185_6 hl185_6
                 replace p185 := eq_true p185
                 replace q185 := eq_true q185
                 have ea_ := Option.some.inj (hx182_6.symm.trans hx185_6)
                 injection ea_ with ea_ en_ ec_
                 subst ea_
                 subst ec_
                 clear en_
                 have p186 : 0 ≤ (x15_1 : Int) := of_decide_eq_true (by (with_reducible assumption))
                 have q186 : x15_1 < (t175.length : Int) := of_decide_eq_true (by (with_reducible assumption))
                 obtain ⟨ad186, A186_6, c186_6, e186, hx186_0, hx186_1, hx186_2, hx186_3, hx186_4, hx186_5, hx186_6, hl186_6, hi186_6⟩ := at_T26 (Kd.N_reads' HO_3.out).2.2 x15_1 p186 q186
                 obtain rfl : ad182 = ad186 := (by injection e186)
                 obtain ⟨ce186, hce186, hMe186, hcc186⟩ := Kd.N_get HO_3.out z26 x15_1 p186 q186
                 obtain ⟨ua186_6, uc186_6, rfl, ul186_6, ge186_6⟩ := k26_openF hMe186
                 have hv186_6 := hcc186 6 _ rfl
                 rw [add_field _ _ 6 (by omega)] at hv186_6
                 replace hv186_6 := Option.some.inj (hv186_6.symm.trans hx186_6)
                 injection hv186_6 with hva_ hvn_ hvc_
                 rw [hva_] at ge186_6
                 rw [hvc_] at ul186_6
                 clear hva_ hvn_ hvc_ ge186_6 ul186_6
                 clear hcc186 hce186
                 clear hi186_6 hl186_6
                 replace p186 := eq_true p186
                 replace q186 := eq_true q186
                 have ea_ := Option.some.inj (hx182_6.symm.trans hx186_6)
                 injection ea_ with ea_ en_ ec_
                 subst ea_
                 subst ec_
                 clear en_
                 have p187 : 0 ≤ (x15_1 : Int) := of_decide_eq_true (by (with_reducible assumption))
                 have q187 : x15_1 < (t175.length : Int) := of_decide_eq_true (by (with_reducible assumption))
                 obtain ⟨ad187, A187_6, c187_6, e187, hx187_0, hx187_1, hx187_2, hx187_3, hx187_4, hx187_5, hx187_6, hl187_6, hi187_6⟩ := at_T26 (Kd.N_reads' HO_3.out).2.2 x15_1 p187 q187
                 obtain rfl : ad182 = ad187 := (by injection e187)
                 obtain ⟨ce187, hce187, hMe187, hcc187⟩ := Kd.N_get HO_3.out z26 x15_1 p187 q187
                 obtain ⟨ua187_6, uc187_6, rfl, ul187_6, ge187_6⟩ := k26_openF hMe187
                 have hv187_6 := hcc187 6 _ rfl
                 rw [add_field _ _ 6 (by omega)] at hv187_6
                 replace hv187_6 := Option.some.inj (hv187_6.symm.trans hx187_6)
                 injection hv187_6 with hva_ hvn_ hvc_
                 rw [hva_] at ge187_6
                 rw [hvc_] at ul187_6
                 clear hva_ hvn_ hvc_ ge187_6 ul187_6
                 clear hcc187 hce187
                 clear hi187_6 hl187_6
                 replace p187 := eq_true p187
                 replace q187 := eq_true q187
                 have ea_ := Option.some.inj (hx182_6.symm.trans hx187_6)
                 injection ea_ with ea_ en_ ec_
                 subst ea_
                 subst ec_
                 clear en_
                 have p188 : 0 ≤ (x15_1 : Int) := of_decide_eq_true (by (with_reducible assumption))
                 have q188 : x15_1 < (t175.length : Int) := of_decide_eq_true (by (with_reducible assumption))
                 obtain ⟨ad188, A188_6, c188_6, e188, hx188_0, hx188_1, hx188_2, hx188_3, hx188_4, hx188_5, hx188_6, hl188_6, hi188_6⟩ := at_T26 (Kd.N_reads' HO_3.out).2.2 x15_1 p188 q188
                 obtain rfl : ad182 = ad188 := (by injection e188)
                 clear hi188_6 hl188_6
                 replace p188 := eq_true p188
                 replace q188 := eq_true q188
                 have ea_ := Option.some.inj (hx182_6.symm.trans hx188_6)
                 injection ea_ with ea_ en_ ec_
                 subst ea_
                 subst ec_
                 clear en_
                 go_wp2
                 go_ret
                 exact ⟨by rfl, by repeat ((with_reducible exact HB.out))⟩
              ·rw [if_neg c29] at H
               have c29b0 : decide (1 < ((rd_T26 t175 x15_1).f0)) = false := decide_eq_false c29
               clear c29
               have H' := Aside0.mk H
               clear H
               have p182 : 0 ≤ (x15_1 : Int) := of_decide_eq_true (by (with_reducible assumption))
               have q182 : x15_1 < (t175.length : Int) := of_decide_eq_true (by (with_reducible assumption))
               obtain ⟨ad182, A182_6, c182_6, e182, hx182_0, hx182_1, hx182_2, hx182_3, hx182_4, hx182_5, hx182_6, hl182_6, hi182_6⟩ := at_T26 (Kd.N_reads' HO_3.out).2.2 x15_1 p182 q182
               cases e182
               obtain ⟨ce182, hce182, hMe182, hcc182⟩ := Kd.N_get HO_3.out z26 x15_1 p182 q182
               obtain ⟨ua182_6, uc182_6, rfl, ul182_6, ge182_6⟩ := k26_openF hMe182
               have hv182_6 := hcc182 6 _ rfl
               rw [add_field _ _ 6 (by omega)] at hv182_6
               replace hv182_6 := Option.some.inj (hv182_6.symm.trans hx182_6)
               injection hv182_6 with hva_ hvn_ hvc_
               rw [hva_] at ge182_6
               rw [hvc_] at ul182_6
               clear hva_ hvn_ hvc_ ge182_6 ul182_6
               clear hcc182 hce182
               clear hi182_6 hl182_6
               replace p182 := eq_true p182
               replace q182 := eq_true q182
               have p183 : 0 ≤ (x15_1 : Int) := of_decide_eq_true (by (with_reducible assumption))
               have q183 : x15_1 < (t175.length : Int) := of_decide_eq_true (by (with_reducible assumption))
               obtain ⟨ad183, A183_6, c183_6, e183, hx183_0, hx183_1, hx183_2, hx183_3, hx183_4, hx183_5, hx183_6, hl183_6, hi183_6⟩ := at_T26 (Kd.N_reads' HO_3.out).2.2 x15_1 p183 q183
               obtain rfl : ad182 = ad183 := (by injection e183)
               obtain ⟨ce183, hce183, hMe183, hcc183⟩ := Kd.N_get HO_3.out z26 x15_1 p183 q183
               obtain ⟨ua183_6, uc183_6, rfl, ul183_6, ge183_6⟩ := k26_openF hMe183
               have hv183_6 := hcc183 6 _ rfl
               rw [add_field _ _ 6 (by omega)] at hv183_6
               replace hv183_6 := Option.some.inj (hv183_6.symm.trans hx183_6)
               injection hv183_6 with hva_ hvn_ hvc_
               rw [hva_] at ge183_6
               rw [hvc_] at ul183_6
               clear hva_ hvn_ hvc_ ge183_6 ul183_6
               clear hcc183 hce183
               clear hi183_6 hl183_6
               replace p183 := eq_true p183
               replace q183 := eq_true q183
               have ea_ := Option.some.inj (hx182_6.symm.trans hx183_6)
               injection ea_ with ea_ en_ ec_
               subst ea_
               subst ec_
               clear en_
               have p184 : 0 ≤ (x15_1 : Int) := of_decide_eq_true (by (with_reducible assumption))
               have q184 : x15_1 < (t175.length : Int) := of_decide_eq_true (by (with_reducible assumption))
               obtain ⟨ad184, A184_6, c184_6, e184, hx184_0, hx184_1, hx184_2, hx184_3, hx184_4, hx184_5, hx184_6, hl184_6, hi184_6⟩ := at_T26 (Kd.N_reads' HO_3.out).2.2 x15_1 p184 q184
               obtain rfl : ad182 = ad184 := (by injection e184)
               obtain ⟨ce184, hce184, hMe184, hcc184⟩ := Kd.N_get HO_3.out z26 x15_1 p184 q184
               obtain ⟨ua184_6, uc184_6, rfl, ul184_6, ge184_6⟩ := k26_openF hMe184
               have hv184_6 := hcc184 6 _ rfl
               rw [add_field _ _ 6 (by omega)] at hv184_6
               replace hv184_6 := Option.some.inj (hv184_6.symm.trans hx184_6)
               injection hv184_6 with hva_ hvn_ hvc_
               rw [hva_] at ge184_6
               rw [hvc_] at ul184_6
               clear hva_ hvn_ hvc_ ge184_6 ul184_6
               clear hcc184 hce184
               clear hi184_6 hl184_6
               replace p184 := eq_true p184
               replace q184 := eq_true q184
               have ea_ := Option.some.inj (hx182_6.symm.trans hx184_6)
               injection ea_ with ea_ en_ ec_
               subst ea_
               subst ec_
               clear en_
               have p185 : 0 ≤ (x15_1 : Int) := of_decide_eq_true (by (with_reducible assumption))
               have q185 : x15_1 < (t175.length : Int) := of_decide_eq_true (by (with_reducible assumption))
               obtain ⟨ad185, A185_6, c185_6, e185, hx185_0, hx185_1, hx185_2, hx185_3, hx185_4, hx185_5, hx185_6, hl185_6, hi185_6⟩ := at_T26 (Kd.N_reads' HO_3.out).2.2 x15_1 p185 q185
               obtain rfl : ad182 = ad185 := (by injection e185)
               obtain ⟨ce185, hce185, hMe185, hcc185⟩ := Kd.N_get HO_3.out z26 x15_1 p185 q185
               obtain ⟨ua185_6, uc185_6, rfl, ul185_6, ge185_6⟩ := k26_openF hMe185
               have hv185_6 := hcc185 6 _ rfl
               rw [add_field _ _ 6 (by omega)] at hv185_6
               replace hv185_6 := Option.some.inj (hv185_6.symm.trans hx185_6)
               injection hv185_6 with hva_ hvn_ hvc_
               rw [hva_] at ge185_6
               rw [hvc_] at ul185_6
               clear hva_ hvn_ hvc_ ge185_6 ul185_6
               clear hcc185 hce185
               clear hi185_6 hl185_6
               replace p185 := eq_true p185
               replace q185 := eq_true q185
               have ea_ := Option.some.inj (hx182_6.symm.trans hx185_6)
               injection ea_ with ea_ en_ ec_
               subst ea_
               subst ec_
               clear en_
               have p186 : 0 ≤ (x15_1 : Int) := of_decide_eq_true (by (with_reducible assumption))
               have q186 : x15_1 < (t175.length : Int) := of_decide_eq_true (by (with_reducible assumption))
               obtain ⟨ad186, A186_6, c186_6, e186, hx186_0, hx186_1, hx186_2, hx186_3, hx186_4, hx186_5, hx186_6, hl186_6, hi186_6⟩ := at_T26 (Kd.N_reads' HO_3.out).2.2 x15_1 p186 q186
               obtain rfl : ad182 = ad186 := (by injection e186)
               obtain ⟨ce186, hce186, hMe186, hcc186⟩ := Kd.N_get HO_3.out z26 x15_1 p186 q186
               obtain ⟨ua186_6, uc186_6, rfl, ul186_6, ge186_6⟩ := k26_openF hMe186
               have hv186_6 := hcc186 6 _ rfl
               rw [add_field _ _ 6 (by omega)] at hv186_6
               replace hv186_6 := Option.some.inj (hv186_6.symm.trans hx186_6)
               injection hv186_6 with hva_ hvn_ hvc_
               rw [hva_] at ge186_6
               rw [hvc_] at ul186_6
               clear hva_ hvn_ hvc_ ge186_6 ul186_6
               clear hcc186 hce186
               clear hi186_6 hl186_6
               replace p186 := eq_true p186
               replace q186 := eq_true q186
               have ea_ := Option.some.inj (hx182_6.symm.trans hx186_6)
               injection ea_ with ea_ en_ ec_
               subst ea_
               subst ec_
               clear en_
               go_wp2
               go_roundg kj12
               case measure => have := HK1.out; have := HJ12.out; omega
               case rel => exact ⟨(wrap64 (x15_1 + 1)), (by rfl), H', ⟨by have := HK1.out; have := HJ12.out; omega⟩, ⟨by exact HO_3.out⟩, ⟨by exact BK174.out⟩, ⟨by repeat ((with_reducible exact HB.out))⟩⟩
          ·rw [if_neg c25] at H
           have c25b0 : (((rd_T26 t175 x15_1).f0) == 1) = false := beq_eq_false_iff_ne.mpr c25
           have c25b1 : (((rd_T26 t175 x15_1).f0) != 1) = true := bne_iff_ne.mpr c25
           by_cases c32 : ((rd_T26 t175 x15_1).f0) > 1
           ·rw [if_pos c32] at H
            have c32b0 : decide (1 < ((rd_T26 t175 x15_1).f0)) = true := decide_eq_true c32
            clear c32
            by_cases c33 : (((rd_T26 t175 x15_1).f3).length : Int) < 2
            ·rw [if_pos c33] at H
             have c33b0 : decide ((((rd_T26 t175 x15_1).f3).length : Int) < 2) = true := decide_eq_true c33
             have c33b1 : decide (((rd_T26 t175 x15_1).f3).length < 2) = true := decide_eq_true (by omega)
             clear c33
             obtain rfl := Option.some.inj H
             have p182 : 0 ≤ (x15_1 : Int) := of_decide_eq_true (by (with_reducible assumption))
             have q182 : x15_1 < (t175.length : Int) := of_decide_eq_true (by (with_reducible assumption))
             obtain ⟨ad182, A182_6, c182_6, e182, hx182_0, hx182_1, hx182_2, hx182_3, hx182_4, hx182_5, hx182_6, hl182_6, hi182_6⟩ := at_T26 (Kd.N_reads' HO_3.out).2.2 x15_1 p182 q182
             cases e182
             obtain ⟨ce182, hce182, hMe182, hcc182⟩ := Kd.N_get HO_3.out z26 x15_1 p182 q182
             obtain ⟨ua182_6, uc182_6, rfl, ul182_6, ge182_6⟩ := k26_openF hMe182
             have hv182_6 := hcc182 6 _ rfl
             rw [add_field _ _ 6 (by omega)] at hv182_6
             replace hv182_6 := Option.some.inj (hv182_6.symm.trans hx182_6)
             injection hv182_6 with hva_ hvn_ hvc_
             rw [hva_] at ge182_6
             rw [hvc_] at ul182_6
             clear hva_ hvn_ hvc_ ge182_6 ul182_6
             clear hcc182 hce182
             clear hi182_6 hl182_6
             replace p182 := eq_true p182
             replace q182 := eq_true q182
             have p189 : 0 ≤ (x15_1 : Int) := of_decide_eq_true (by (with_reducible assumption))
             have q189 : x15_1 < (t175.length : Int) := of_decide_eq_true (by (with_reducible assumption))
             obtain ⟨ad189, A189_6, c189_6, e189, hx189_0, hx189_1, hx189_2, hx189_3, hx189_4, hx189_5, hx189_6, hl189_6, hi189_6⟩ := at_T26 (Kd.N_reads' HO_3.out).2.2 x15_1 p189 q189
             obtain rfl : ad182 = ad189 := (by injection e189)
             obtain ⟨ce189, hce189, hMe189, hcc189⟩ := Kd.N_get HO_3.out z26 x15_1 p189 q189
             obtain ⟨ua189_6, uc189_6, rfl, ul189_6, ge189_6⟩ := k26_openF hMe189
             have hv189_6 := hcc189 6 _ rfl
             rw [add_field _ _ 6 (by omega)] at hv189_6
             replace hv189_6 := Option.some.inj (hv189_6.symm.trans hx189_6)
             injection hv189_6 with hva_ hvn_ hvc_
             rw [hva_] at ge189_6
             rw [hvc_] at ul189_6
             clear hva_ hvn_ hvc_ ge189_6 ul189_6
             clear hcc189 hce189
             clear hi189_6 hl189_6
             replace p189 := eq_true p189
             replace q189 := eq_true q189
             have ea_ := Option.some.inj (hx182_6.symm.trans hx189_6)
             injection ea_ with ea_ en_ ec_
             subst ea_
             subst ec_
             clear en_
             have p190 : 0 ≤ (x15_1 : Int) := of_decide_eq_true (by (with_reducible assumption))
             have q190 : x15_1 < (t175.length : Int) := of_decide_eq_true (by (with_reducible assumption))
             obtain ⟨ad190, A190_6, c190_6, e190, hx190_0, hx190_1, hx190_2, hx190_3, hx190_4, hx190_5, hx190_6, hl190_6, hi190_6⟩ := at_T26 (Kd.N_reads' HO_3.out).2.2 x15_1 p190 q190
             obtain rfl : ad182 = ad190 := (by injection e190)
             obtain ⟨ce190, hce190, hMe190, hcc190⟩ := Kd.N_get HO_3.out z26 x15_1 p190 q190
             obtain ⟨ua190_6, uc190_6, rfl, ul190_6, ge190_6⟩ := k26_openF hMe190
             have hv190_6 := hcc190 6 _ rfl
             rw [add_field _ _ 6 (by omega)] at hv190_6
             replace hv190_6 := Option.some.inj (hv190_6.symm.trans hx190_6)
             injection hv190_6 with hva_ hvn_ hvc_
             rw [hva_] at ge190_6
             rw [hvc_] at ul190_6
             clear hva_ hvn_ hvc_ ge190_6 ul190_6
             clear hcc190 hce190
             clear hi190_6 hl190_6
             replace p190 := eq_true p190
             replace q190 := eq_true q190
             have ea_ := Option.some.inj (hx182_6.symm.trans hx190_6)
             injection ea_ with ea_ en_ ec_
             subst ea_
             subst ec_
             clear en_
             go_wp2
             go_ret
             exact ⟨by rfl, by repeat ((with_reducible exact HB.out))⟩
            ·rw [if_neg c33] at H
             have c33b0 : decide ((((rd_T26 t175 x15_1).f3).length : Int) < 2) = false := decide_eq_false c33
             have c33b1 : decide (((rd_T26 t175 x15_1).f3).length < 2) = false := decide_eq_false (by omega)
             clear c33
             by_cases c34 : ((rd_T26 t175 x15_1).f2) = 0
             ·rw [if_pos c34] at H
              have c34b0 : (((rd_T26 t175 x15_1).f2) == 0) = true := beq_iff_eq.mpr c34
              have c34b1 : (((rd_T26 t175 x15_1).f2) != 0) = false := bne_eq_false_iff_eq.mpr c34
              clear c34
              have H' := Aside0.mk H
              clear H
              have p182 : 0 ≤ (x15_1 : Int) := of_decide_eq_true (by (with_reducible assumption))
              have q182 : x15_1 < (t175.length : Int) := of_decide_eq_true (by (with_reducible assumption))
              obtain ⟨ad182, A182_6, c182_6, e182, hx182_0, hx182_1, hx182_2, hx182_3, hx182_4, hx182_5, hx182_6, hl182_6, hi182_6⟩ := at_T26 (Kd.N_reads' HO_3.out).2.2 x15_1 p182 q182
              cases e182
              obtain ⟨ce182, hce182, hMe182, hcc182⟩ := Kd.N_get HO_3.out z26 x15_1 p182 q182
              obtain ⟨ua182_6, uc182_6, rfl, ul182_6, ge182_6⟩ := k26_openF hMe182
              have hv182_6 := hcc182 6 _ rfl
              rw [add_field _ _ 6 (by omega)] at hv182_6
              replace hv182_6 := Option.some.inj (hv182_6.symm.trans hx182_6)
              injection hv182_6 with hva_ hvn_ hvc_
              rw [hva_] at ge182_6
              rw [hvc_] at ul182_6
              clear hva_ hvn_ hvc_ ge182_6 ul182_6
              clear hcc182 hce182
              clear hi182_6 hl182_6
              replace p182 := eq_true p182
              replace q182 := eq_true q182
              have p189 : 0 ≤ (x15_1 : Int) := of_decide_eq_true (by (with_reducible assumption))
              have q189 : x15_1 < (t175.length : Int) := of_decide_eq_true (by (with_reducible assumption))
              obtain ⟨ad189, A189_6, c189_6, e189, hx189_0, hx189_1, hx189_2, hx189_3, hx189_4, hx189_5, hx189_6, hl189_6, hi189_6⟩ := at_T26 (Kd.N_reads' HO_3.out).2.2 x15_1 p189 q189
              obtain rfl : ad182 = ad189 := (by injection e189)
              obtain ⟨ce189, hce189, hMe189, hcc189⟩ := Kd.N_get HO_3.out z26 x15_1 p189 q189
              obtain ⟨ua189_6, uc189_6, rfl, ul189_6, ge189_6⟩ := k26_openF hMe189
              have hv189_6 := hcc189 6 _ rfl
              rw [add_field _ _ 6 (by omega)] at hv189_6
              replace hv189_6 := Option.some.inj (hv189_6.symm.trans hx189_6)
              injection hv189_6 with hva_ hvn_ hvc_
              rw [hva_] at ge189_6
              rw [hvc_] at ul189_6
              clear hva_ hvn_ hvc_ ge189_6 ul189_6
              clear hcc189 hce189
              clear hi189_6 hl189_6
              replace p189 := eq_true p189
              replace q189 := eq_true q189
              have ea_ := Option.some.inj (hx182_6.symm.trans hx189_6)
              injection ea_ with ea_ en_ ec_
              subst ea_
              subst ec_
              clear en_
              have p190 : 0 ≤ (x15_1 : Int) := of_decide_eq_true (by (with_reducible assumption))
              have q190 : x15_1 < (t175.length : Int) := of_decide_eq_true (by (with_reducible assumption))
              obtain ⟨ad190, A190_6, c190_6, e190, hx190_0, hx190_1, hx190_2, hx190_3, hx190_4, hx190_5, hx190_6, hl190_6, hi190_6⟩ := at_T26 (Kd.N_reads' HO_3.out).2.2 x15_1 p190 q190
              obtain rfl : ad182 = ad190 := (by injection e190)
              obtain ⟨ce190, hce190, hMe190, hcc190⟩ := Kd.N_get HO_3.out z26 x15_1 p190 q190
              obtain ⟨ua190_6, uc190_6, rfl, ul190_6, ge190_6⟩ := k26_openF hMe190
              have hv190_6 := hcc190 6 _ rfl
              rw [add_field _ _ 6 (by omega)] at hv190_6
              replace hv190_6 := Option.some.inj (hv190_6.symm.trans hx190_6)
              injection hv190_6 with hva_ hvn_ hvc_
              rw [hva_] at ge190_6
              rw [hvc_] at ul190_6
              clear hva_ hvn_ hvc_ ge190_6 ul190_6
              clear hcc190 hce190
              clear hi190_6 hl190_6
              replace p190 := eq_true p190
              replace q190 := eq_true q190
              have ea_ := Option.some.inj (hx182_6.symm.trans hx190_6)
              injection ea_ with ea_ en_ ec_
              subst ea_
              subst ec_
              clear en_
              have p191 : 0 ≤ (x15_1 : Int) := of_decide_eq_true (by (with_reducible assumption))
              have q191 : x15_1 < (t175.length : Int) := of_decide_eq_true (by (with_reducible assumption))
              obtain ⟨ad191, A191_6, c191_6, e191, hx191_0, hx191_1, hx191_2, hx191_3, hx191_4, hx191_5, hx191_6, hl191_6, hi191_6⟩ := at_T26 (Kd.N_reads' HO_3.out).2.2 x15_1 p191 q191
              obtain rfl : ad182 = ad191 := (by injection e191)
              clear hi191_6 hl191_6
              replace p191 := eq_true p191
              replace q191 := eq_true q191
              have ea_ := Option.some.inj (hx182_6.symm.trans hx191_6)
              injection ea_ with ea_ en_ ec_
              subst ea_
              subst ec_
              clear en_
              go_wp2
              go_roundg kj12
              case measure => have := HK1.out; have := HJ12.out; omega
              case rel => exact ⟨(wrap64 (x15_1 + 1)), (by rfl), H', ⟨by have := HK1.out; have := HJ12.out; omega⟩, ⟨by exact HO_3.out⟩, ⟨by exact BK174.out⟩, ⟨by repeat ((with_reducible exact HB.out))⟩⟩
             ·rw [if_neg c34] at H
              have c34b0 : (((rd_T26 t175 x15_1).f2) == 0) = false := beq_eq_false_iff_ne.mpr c34
              have c34b1 : (((rd_T26 t175 x15_1).f2) != 0) = true := bne_iff_ne.mpr c34
              obtain rfl := Option.some.inj H
              have p182 : 0 ≤ (x15_1 : Int) := of_decide_eq_true (by (with_reducible assumption))
              have q182 : x15_1 < (t175.length : Int) := of_decide_eq_true (by (with_reducible assumption))
              obtain ⟨ad182, A182_6, c182_6, e182, hx182_0, hx182_1, hx182_2, hx182_3, hx182_4, hx182_5, hx182_6, hl182_6, hi182_6⟩ := at_T26 (Kd.N_reads' HO_3.out).2.2 x15_1 p182 q182
              cases e182
              obtain ⟨ce182, hce182, hMe182, hcc182⟩ := Kd.N_get HO_3.out z26 x15_1 p182 q182
              obtain ⟨ua182_6, uc182_6, rfl, ul182_6, ge182_6⟩ := k26_openF hMe182
              have hv182_6 := hcc182 6 _ rfl
              rw [add_field _ _ 6 (by omega)] at hv182_6
              replace hv182_6 := Option.some.inj (hv182_6.symm.trans hx182_6)
              injection hv182_6 with hva_ hvn_ hvc_
              rw [hva_] at ge182_6
              rw [hvc_] at ul182_6
              clear hva_ hvn_ hvc_ ge182_6 ul182_6
              clear hcc182 hce182
              clear hi182_6 hl182_6
              replace p182 := eq_true p182
              replace q182 := eq_true q182
              have p189 : 0 ≤ (x15_1 : Int) := of_decide_eq_true (by (with_reducible assumption))
              have q189 : x15_1 < (t175.length : Int) := of_decide_eq_true (by (with_reducible assumption))
              obtain ⟨ad189, A189_6, c189_6, e189, hx189_0, hx189_1, hx189_2, hx189_3, hx189_4, hx189_5, hx189_6, hl189_6, hi189_6⟩ := at_T26 (Kd.N_reads' HO_3.out).2.2 x15_1 p189 q189
              obtain rfl : ad182 = ad189 := (by injection e189)
              obtain ⟨ce189, hce189, hMe189, hcc189⟩ := Kd.N_get HO_3.out z26 x15_1 p189 q189
              obtain ⟨ua189_6, uc189_6, rfl, ul189_6, ge189_6⟩ := k26_openF hMe189
              have hv189_6 := hcc189 6 _ rfl
              rw [add_field _ _ 6 (by omega)] at hv189_6
              replace hv189_6 := Option.some.inj (hv189_6.symm.trans hx189_6)
              injection hv189_6 with hva_ hvn_ hvc_
              rw [hva_] at ge189_6
              rw [hvc_] at ul189_6
              clear hva_ hvn_ hvc_ ge189_6 ul189_6
              clear hcc189 hce189
              clear hi189_6 hl189_6
              replace p189 := eq_true p189
              replace q189 := eq_true q189
              have ea_ := Option.some.inj (hx182_6.symm.trans hx189_6)
              injection ea_ with ea_ en_ ec_
              subst ea_
              subst ec_
              clear en_
              have p190 : 0 ≤ (x15_1 : Int) := of_decide_eq_true (by (with_reducible assumption))
              have q190 : x15_1 < (t175.length : Int) := of_decide_eq_true (by (with_reducible assumption))
              obtain ⟨ad190, A190_6, c190_6, e190, hx190_0, hx190_1, hx190_2, hx190_3, hx190_4, hx190_5, hx190_6, hl190_6, hi190_6⟩ := at_T26 (Kd.N_reads' HO_3.out).2.2 x15_1 p190 q190
              obtain rfl : ad182 = ad190 := (by injection e190)
              obtain ⟨ce190, hce190, hMe190, hcc190⟩ := Kd.N_get HO_3.out z26 x15_1 p190 q190
              obtain ⟨ua190_6, uc190_6, rfl, ul190_6, ge190_6⟩ := k26_openF hMe190
              have hv190_6 := hcc190 6 _ rfl
              rw [add_field _ _ 6 (by omega)] at hv190_6
              replace hv190_6 := Option.some.inj (hv190_6.symm.trans hx190_6)
              injection hv190_6 with hva_ hvn_ hvc_
              rw [hva_] at ge190_6
              rw [hvc_] at ul190_6
              clear hva_ hvn_ hvc_ ge190_6 ul190_6
              clear hcc190 hce190
              clear hi190_6 hl190_6
              replace p190 := eq_true p190
              replace q190 := eq_true q190
              have ea_ := Option.some.inj (hx182_6.symm.trans hx190_6)
              injection ea_ with ea_ en_ ec_
              subst ea_
              subst ec_
              clear en_
              have p191 : 0 ≤ (x15_1 : Int) := of_decide_eq_true (by (with_reducible assumption))
              have q191 : x15_1 < (t175.length : Int) := of_decide_eq_true (by (with_reducible assumption))
              obtain ⟨ad191, A191_6, c191_6, e191, hx191_0, hx191_1, hx191_2, hx191_3, hx191_4, hx191_5, hx191_6, hl191_6, hi191_6⟩ := at_T26 (Kd.N_reads' HO_3.out).2.2 x15_1 p191 q191
              obtain rfl : ad182 = ad191 := (by injection e191)
              clear hi191_6 hl191_6
              replace p191 := eq_true p191
              replace q191 := eq_true q191
              have ea_ := Option.some.inj (hx182_6.symm.trans hx191_6)
              injection ea_ with ea_ en_ ec_
              subst ea_
              subst ec_
              clear en_
              go_wp2
              go_ret
              exact ⟨by rfl, by repeat ((with_reducible exact HB.out))⟩
           ·rw [if_neg c32] at H
            have c32b0 : decide (1 < ((rd_T26 t175 x15_1).f0)) = false := decide_eq_false c32
            clear c32
            have H' := Aside0.mk H
            clear H
            have p182 : 0 ≤ (x15_1 : Int) := of_decide_eq_true (by (with_reducible assumption))
            have q182 : x15_1 < (t175.length : Int) := of_decide_eq_true (by (with_reducible assumption))
            obtain ⟨ad182, A182_6, c182_6, e182, hx182_0, hx182_1, hx182_2, hx182_3, hx182_4, hx182_5, hx182_6, hl182_6, hi182_6⟩ := at_T26 (Kd.N_reads' HO_3.out).2.2 x15_1 p182 q182
            cases e182
            obtain ⟨ce182, hce182, hMe182, hcc182⟩ := Kd.N_get HO_3.out z26 x15_1 p182 q182
            obtain ⟨ua182_6, uc182_6, rfl, ul182_6, ge182_6⟩ := k26_openF hMe182
            have hv182_6 := hcc182 6 _ rfl
            rw [add_field _ _ 6 (by omega)] at hv182_6
            replace hv182_6 := Option.some.inj (hv182_6.symm.trans hx182_6)
            injection hv182_6 with hva_ hvn_ hvc_
            rw [hva_] at ge182_6
            rw [hvc_] at ul182_6
            clear hva_ hvn_ hvc_ ge182_6 ul182_6
            clear hcc182 hce182
            clear hi182_6 hl182_6
            replace p182 := eq_true p182
            replace q182 := eq_true q182
            have p189 : 0 ≤ (x15_1 : Int) := of_decide_eq_true (by (with_reducible assumption))
            have q189 : x15_1 < (t175.length : Int) := of_decide_eq_true (by (with_reducible assumption))
            obtain ⟨ad189, A189_6, c189_6, e189, hx189_0, hx189_1, hx189_2, hx189_3, hx189_4, hx189_5, hx189_6, hl189_6, hi189_6⟩ := at_T26 (Kd.N_reads' HO_3.out).2.2 x15_1 p189 q189
            obtain rfl : ad182 = ad189 := (by injection e189)
            obtain ⟨ce189, hce189, hMe189, hcc189⟩ := Kd.N_get HO_3.out z26 x15_1 p189 q189
            obtain ⟨ua189_6, uc189_6, rfl, ul189_6, ge189_6⟩ := k26_openF hMe189
            have hv189_6 := hcc189 6 _ rfl
            rw [add_field _ _ 6 (by omega)] at hv189_6
            replace hv189_6 := Option.some.inj (hv189_6.symm.trans hx189_6)
            injection hv189_6 with hva_ hvn_ hvc_
            rw [hva_] at ge189_6
            rw [hvc_] at ul189_6
            clear hva_ hvn_ hvc_ ge189_6 ul189_6
            clear hcc189 hce189
            clear hi189_6 hl189_6
            replace p189 := eq_true p189
            replace q189 := eq_true q189
            have ea_ := Option.some.inj (hx182_6.symm.trans hx189_6)
            injection ea_ with ea_ en_ ec_
            subst ea_
            subst ec_
            clear en_
            go_wp2
            go_roundg kj12
            case measure => have := HK1.out; have := HJ12.out; omega
            case rel => exact ⟨(wrap64 (x15_1 + 1)), (by rfl), H', ⟨by have := HK1.out; have := HJ12.out; omega⟩, ⟨by exact HO_3.out⟩, ⟨by exact BK174.out⟩, ⟨by repeat ((with_reducible exact HB.out))⟩⟩
         ·rw [if_neg c24] at H
          exact absurd H (by simp)
        ·rw [if_neg c23] at H
         exact absurd H (by simp)
    ·rw [if_neg c12] at H
     have c12b0 : decide (x15_1 < (t175.length : Int)) = false := decide_eq_false c12
     clear c12
     replace H := Option.bind_eq_some_iff.mp H
     obtain ⟨t192, A350, H⟩ := H
     replace H : (sashref05_May.l1 k1 t192 (t192.length : Int) 0) = some r := H
     have A35 := Aside0.mk A350
     clear A350
     have H' := Aside0.mk H
     clear H
     have hcz36_0 : wr.cell? ⟨gb174, 0, none⟩ = some (.int .u8 a0_0) := (blk_cell BK174.out 0).trans rfl
     have hcz36_1 : wr.cell? ⟨gb174, 1, none⟩ = some (.int .i64 a0_1) := (blk_cell BK174.out 1).trans rfl
     have hcz36_2 : wr.cell? ⟨gb174, 2, none⟩ = some (.int .i64 a0_2) := (blk_cell BK174.out 2).trans rfl
     have hcz36_3 : wr.cell? ⟨gb174, 3, none⟩ = some (.int .i64 a0_3) := (blk_cell BK174.out 3).trans rfl
     have hcz36_4 : wr.cell? ⟨gb174, 4, none⟩ = some (.int .i64 a0_4) := (blk_cell BK174.out 4).trans rfl
     have hcz36_5 : wr.cell? ⟨gb174, 5, none⟩ = some (.int .i64 a0_5) := (blk_cell BK174.out 5).trans rfl
     have hcz36_6 : wr.cell? ⟨gb174, 6, none⟩ = some (.slice A0_6 l0_6.length c0_6) := (blk_cell BK174.out 6).trans rfl
     have hfz36_0 := blk_frozen BK174.out 0
     have hfz36_1 := blk_frozen BK174.out 1
     have hfz36_2 := blk_frozen BK174.out 2
     have hfz36_3 := blk_frozen BK174.out 3
     have hfz36_4 := blk_frozen BK174.out 4
     have hfz36_5 := blk_frozen BK174.out 5
     have hfz36_6 := blk_frozen BK174.out 6
     go_wp2_with ((go_at_call 126; (with_reducible refine (sashref05_Leaves.calls k1 a0_0 a0_1 a0_2 a0_3 a0_4 a0_5 (fun k_ => k_ < w.heap.size) _ _ l0_6 t192 _ ?side1 A35.out).mono ?_); (case side1 => exact Kd.V_mk HC0_6.out (Kd.F_below (Kd.C_F k26_heap HR0_6.out) (by repeat ((with_reducible exact HB.out))))); rintro e w37 ⟨v193, rfl, ho0, hb⟩; have HO194 := Aside0.mk (Kd.N_lower (Kd.N_mono (ok' := fun k_ => some k_ ≠ (.slice Ao11 t175.length co11 : Value).ownBlock ∧ k_ ≠ gb174) ho0 (fun k_ hk_ => ⟨Or.elim hk_ (fun hs_ => fun e_ => Nat.not_le.2 hs_ (Kd.N_base HO_3.out k_ e_.symm)) (fun hn_ => (Kd.fresh' (Kd.N_lt HO_3.out) k_ hn_)), Or.elim hk_ (fun hs_ => fun e_ => Nat.not_le.2 hs_ (by rw [e_]; exact GW174.out)) (fun hn_ => (Kd.freshB BK174.out k_ hn_))⟩)) (below_size (by repeat ((with_reducible exact HB.out))))); replace HO_3 := Aside0.mk (Kd.N_elder' HO_3.out (Kd.N_base ho0) hb); replace BK174 := Aside0.mk (blk_below BK174.out hb); replace HB := Aside0.mk (below_step (by repeat ((with_reducible exact HB.out))) hb); (try clear hb); (try clear ho0); obtain ⟨Ao38, co38, eo38⟩ := Kd.N_slice HO194.out; subst eo38))
     go_loopg [102] k1 (fun kq v102 w' => ∃ (x102_2 : Int), v102 = .int .i64 x102_2 ∧ Aside0 (sashref05_May.l1 kq t192 (t192.length : Int) x102_2 = some r) ∧ Aside0 (kq ≤ k1) ∧ Aside0 (Kd.N k26 26 w' w.heap.size (fun k_ => k_ ≠ gb174) (.slice Ao38 t192.length co38) t192) ∧ Aside0 (w'.heap[gb174]? = some (.cells #[.int .u8 a0_0, .int .i64 a0_1, .int .i64 a0_2, .int .i64 a0_3, .int .i64 a0_4, .int .i64 a0_5, (.slice A0_6 l0_6.length c0_6)] 26 (0, 0))) ∧ Aside0 (Below w.heap.size w w'))
     case atStart => exact ⟨(0), (by rfl), H', ⟨Nat.le_refl _⟩, ⟨by exact Kd.N_mono HO194.out (fun _ hk => hk.2)⟩, ⟨by exact BK174.out⟩, ⟨by repeat ((with_reducible exact HB.out))⟩⟩
     case round =>
      clear H'
      clear c12b0 hcz36_0 hcz36_1 hcz36_2 hcz36_3 hcz36_4 hcz36_5 hcz36_6 hfz36_0 hfz36_1 hfz36_2 hfz36_3 hfz36_4 hfz36_5 hfz36_6
      obtain ⟨x102_2, rfl, HA, HK2, HO_5, BK174, HB⟩ := hrel
      cases gk with
      | zero => exact absurd HA.out (by simp [sashref05_May.l1])
      | succ k2 =>
       have H := HA.out
       clear HA
       simp only [sashref05_May.l1] at H
       by_cases c39 : x102_2 < (t192.length : Int)
       ·rw [if_pos c39] at H
        have c39b0 : decide (x102_2 < (t192.length : Int)) = true := decide_eq_true c39
        clear c39
        have H' := Aside0.mk H
        clear H
        go_wp2
        go_loopg [7] k2 (fun kq v7 w' => ∃ (x7_3 : Int), v7 = .int .i64 x7_3 ∧ Aside0 (sashref05_May.l2 kq t192 x102_2 x7_3 (t192.length : Int) x102_2 = some r) ∧ Aside0 (kq ≤ k2) ∧ Aside0 (Kd.N k26 26 w' w.heap.size (fun k_ => k_ ≠ gb174) (.slice Ao38 t192.length co38) t192) ∧ Aside0 (w'.heap[gb174]? = some (.cells #[.int .u8 a0_0, .int .i64 a0_1, .int .i64 a0_2, .int .i64 a0_3, .int .i64 a0_4, .int .i64 a0_5, (.slice A0_6 l0_6.length c0_6)] 26 (0, 0))) ∧ Aside0 (Below w.heap.size w w'))
        case atStart => exact ⟨(0), (by rfl), H', ⟨Nat.le_refl _⟩, ⟨by exact HO_5.out⟩, ⟨by exact BK174.out⟩, ⟨by repeat ((with_reducible exact HB.out))⟩⟩
        case round =>
         clear H'
         clear c39b0
         obtain ⟨x7_3, rfl, HA, HK3, HO_5, BK174, HB⟩ := hrel
         cases gk with
         | zero => exact absurd HA.out (by simp [sashref05_May.l2])
         | succ k3 =>
          have H := HA.out
          clear HA
          simp only [sashref05_May.l2] at H
          by_cases c40 : x7_3 < x102_2
          ·rw [if_pos c40] at H
           have c40b0 : decide (x7_3 < x102_2) = true := decide_eq_true c40
           clear c40
           by_cases c41 : 0 ≤ x102_2
           ·rw [if_pos c41] at H
            have c41b0 : decide (0 ≤ x102_2) = true := decide_eq_true c41
            clear c41
            by_cases c42 : x102_2 < (t192.length : Int)
            ·rw [if_pos c42] at H
             have c42b0 : decide (x102_2 < (t192.length : Int)) = true := decide_eq_true c42
             clear c42
             by_cases c43 : 0 ≤ x7_3
             ·rw [if_pos c43] at H
              have c43b0 : decide (0 ≤ x7_3) = true := decide_eq_true c43
              clear c43
              by_cases c44 : x7_3 < (t192.length : Int)
              ·rw [if_pos c44] at H
               have c44b0 : decide (x7_3 < (t192.length : Int)) = true := decide_eq_true c44
               clear c44
               by_cases c45 : ((rd_T26 t192 x102_2).f2) = ((rd_T26 t192 x7_3).f2)
               ·rw [if_pos c45] at H
                have c45b0 : (((rd_T26 t192 x102_2).f2) == ((rd_T26 t192 x7_3).f2)) = true := beq_iff_eq.mpr c45
                have c45b1 : (((rd_T26 t192 x102_2).f2) != ((rd_T26 t192 x7_3).f2)) = false := bne_eq_false_iff_eq.mpr c45
                clear c45
                obtain rfl := Option.some.inj H
                have p195 : 0 ≤ (x102_2 : Int) := of_decide_eq_true (by (with_reducible assumption))
                have q195 : x102_2 < (t192.length : Int) := of_decide_eq_true (by (with_reducible assumption))
                obtain ⟨ad195, A195_6, c195_6, e195, hx195_0, hx195_1, hx195_2, hx195_3, hx195_4, hx195_5, hx195_6, hl195_6, hi195_6⟩ := at_T26 (Kd.N_reads' HO_5.out).2.2 x102_2 p195 q195
                cases e195
                clear hi195_6 hl195_6
                replace p195 := eq_true p195
                replace q195 := eq_true q195
                have p196 : 0 ≤ (x7_3 : Int) := of_decide_eq_true (by (with_reducible assumption))
                have q196 : x7_3 < (t192.length : Int) := of_decide_eq_true (by (with_reducible assumption))
                obtain ⟨ad196, A196_6, c196_6, e196, hx196_0, hx196_1, hx196_2, hx196_3, hx196_4, hx196_5, hx196_6, hl196_6, hi196_6⟩ := at_T26 (Kd.N_reads' HO_5.out).2.2 x7_3 p196 q196
                obtain rfl : ad195 = ad196 := (by injection e196)
                clear hi196_6 hl196_6
                replace p196 := eq_true p196
                replace q196 := eq_true q196
                go_wp2
                repeat (go_quiet (fail); try go_wp2)
                go_ret
                exact ⟨by rfl, by repeat ((with_reducible first | exact HB.out | apply pw_below_drewN))⟩
               ·rw [if_neg c45] at H
                have c45b0 : (((rd_T26 t192 x102_2).f2) == ((rd_T26 t192 x7_3).f2)) = false := beq_eq_false_iff_ne.mpr c45
                have c45b1 : (((rd_T26 t192 x102_2).f2) != ((rd_T26 t192 x7_3).f2)) = true := bne_iff_ne.mpr c45
                have H' := Aside0.mk H
                clear H
                have p195 : 0 ≤ (x102_2 : Int) := of_decide_eq_true (by (with_reducible assumption))
                have q195 : x102_2 < (t192.length : Int) := of_decide_eq_true (by (with_reducible assumption))
                obtain ⟨ad195, A195_6, c195_6, e195, hx195_0, hx195_1, hx195_2, hx195_3, hx195_4, hx195_5, hx195_6, hl195_6, hi195_6⟩ := at_T26 (Kd.N_reads' HO_5.out).2.2 x102_2 p195 q195
                cases e195
                clear hi195_6 hl195_6
                replace p195 := eq_true p195
                replace q195 := eq_true q195
                have p196 : 0 ≤ (x7_3 : Int) := of_decide_eq_true (by (with_reducible assumption))
                have q196 : x7_3 < (t192.length : Int) := of_decide_eq_true (by (with_reducible assumption))
                obtain ⟨ad196, A196_6, c196_6, e196, hx196_0, hx196_1, hx196_2, hx196_3, hx196_4, hx196_5, hx196_6, hl196_6, hi196_6⟩ := at_T26 (Kd.N_reads' HO_5.out).2.2 x7_3 p196 q196
                obtain rfl : ad195 = ad196 := (by injection e196)
                clear hi196_6 hl196_6
                replace p196 := eq_true p196
                replace q196 := eq_true q196
                go_wp2
                repeat (go_quiet (fail); try go_wp2)
                go_roundg k3
                case measure => have := HK1.out; have := HK2.out; have := HK3.out; omega
                case rel => exact ⟨(wrap64 (x7_3 + 1)), (by rfl), H', ⟨by have := HK1.out; have := HK2.out; have := HK3.out; omega⟩, ⟨by (with_reducible repeat (apply Kd.N_drewN)); exact HO_5.out⟩, ⟨by (with_reducible repeat (refine blk_drewN ?_ _)); exact BK174.out⟩, ⟨by repeat ((with_reducible first | exact HB.out | apply pw_below_drewN))⟩⟩
              ·rw [if_neg c44] at H
               exact absurd H (by simp)
             ·rw [if_neg c43] at H
              exact absurd H (by simp)
            ·rw [if_neg c42] at H
             exact absurd H (by simp)
           ·rw [if_neg c41] at H
            exact absurd H (by simp)
          ·rw [if_neg c40] at H
           have c40b0 : decide (x7_3 < x102_2) = false := decide_eq_false c40
           clear c40
           have H' := Aside0.mk H
           clear H
           go_wp2
           go_roundg k3
           case measure => have := HK1.out; have := HK2.out; have := HK3.out; omega
           case rel => exact ⟨(wrap64 (x102_2 + 1)), (by rfl), H', ⟨by have := HK1.out; have := HK2.out; have := HK3.out; omega⟩, ⟨by exact HO_5.out⟩, ⟨by exact BK174.out⟩, ⟨by repeat ((with_reducible exact HB.out))⟩⟩
       ·rw [if_neg c39] at H
        have c39b0 : decide (x102_2 < (t192.length : Int)) = false := decide_eq_false c39
        clear c39
        obtain rfl := Option.some.inj H
        go_wp2
        go_ret
        exact ⟨by rfl, by repeat ((with_reducible exact HB.out))⟩

end Go.Proofs.Ytfdmfgaiblfbhaa.P
namespace Go.Proofs.Ytfdmfgaiblfbhaa.P
open Go.RowKit Go.Proofs.YtfdmfgaiblfbhaaW.PrintWords Go.Proofs.YtfdmfgaiblfbhaaW.PrintLast Go.Proofs.YtfdmfgaiblfbhaaW.PrintMore
attribute [local go_sem] max2_int min2_int max_two min_two max_three min_three max_four min_four   -- for this text's walks alone
set_option linter.unusedVariables false
set_option linter.unusedSimpArgs false

/-! ### sashref08_Along: function 88 -/
def sashref08_Along.f (a0_0 : Int) (a0_1 : Int) (a0_2 : Int) (a0_3 : Int) (a0_4 : Int) (a0_5 : Int) (l0_6 : List (S26)) (a1 : Int) : Option (Bool) := if a0_0 = 2 then (if a1 = 1 then (some true) else (if a0_0 = 3 then (some (a1 == 2)) else (some false))) else (if a0_0 = 3 then (some (a1 == 2)) else (some false))
set_option maxHeartbeats 8000000 in
set_option maxRecDepth 100000 in
theorem sashref08_Along.calls (a0_0 : Int) (a0_1 : Int) (a0_2 : Int) (a0_3 : Int) (a0_4 : Int) (a0_5 : Int) (A0_6 : Option Addr) (c0_6 : Nat) (l0_6 : List (S26)) (a1 : Int) (r : Bool) (w : World) (hr0_6 : Kd.C k26 w A0_6 l0_6.length l0_6) (hc0_6 : l0_6.length ≤ c0_6) (h : sashref08_Along.f a0_0 a0_1 a0_2 a0_3 a0_4 a0_5 l0_6 a1 = some r) :
  Calls Try.prog 88 #[.agg #[.int .u8 a0_0, .int .i64 a0_1, .int .i64 a0_2, .int .i64 a0_3, .int .i64 a0_4, .int .i64 a0_5, .slice A0_6 l0_6.length c0_6], .int .u8 a1] w fun e w' => e = .returned (.bool r) ∧ Below w.heap.size w w' := by
 have hu26 := Try.underlying26
 clear hr0_6 hc0_6
 have HB := Aside0.mk (Below.refl w.heap.size w)
 have H : (if a0_0 = 2 then (if a1 = 1 then (some true) else (if a0_0 = 3 then (some (a1 == 2)) else (some false))) else (if a0_0 = 3 then (some (a1 == 2)) else (some false))) = some r := h
 clear h
 by_cases c3 : a0_0 = 2
 ·rw [if_pos c3] at H
  have c3b0 : (a0_0 == 2) = true := beq_iff_eq.mpr c3
  have c3b1 : (a0_0 != 2) = false := bne_eq_false_iff_eq.mpr c3
  clear c3
  by_cases c4 : a1 = 1
  ·rw [if_pos c4] at H
   have c4b0 : (a1 == 1) = true := beq_iff_eq.mpr c4
   have c4b1 : (a1 != 1) = false := bne_eq_false_iff_eq.mpr c4
   clear c4
   obtain rfl := Option.some.inj H
   go_enter Try.func88, Try.ntmps88
   go_wp2_with (((with_reducible refine gate_dst (N := 2) rfl ?_); refine box_event ?hg (N := 2) ?hd (cs := #[.int .u8 a0_0, .int .i64 a0_1, .int .i64 a0_2, .int .i64 a0_3, .int .i64 a0_4, .int .i64 a0_5, .slice A0_6 l0_6.length c0_6]) (t := 26) ?hr ?_; (case hd => rfl); (case hg => rfl); (case hr => (go_simp; done)); intro gb987 hg w5 hbox hb; have BK987 := Aside0.mk (hbox); replace HB := Aside0.mk (below_step (by repeat ((with_reducible exact HB.out))) hb); clear hb hbox hg; have hcz6_0 : w5.cell? ⟨gb987, 0, none⟩ = some (.int .u8 a0_0) := (blk_cell BK987.out 0).trans rfl; have hcz6_1 : w5.cell? ⟨gb987, 1, none⟩ = some (.int .i64 a0_1) := (blk_cell BK987.out 1).trans rfl; have hcz6_2 : w5.cell? ⟨gb987, 2, none⟩ = some (.int .i64 a0_2) := (blk_cell BK987.out 2).trans rfl; have hcz6_3 : w5.cell? ⟨gb987, 3, none⟩ = some (.int .i64 a0_3) := (blk_cell BK987.out 3).trans rfl; have hcz6_4 : w5.cell? ⟨gb987, 4, none⟩ = some (.int .i64 a0_4) := (blk_cell BK987.out 4).trans rfl; have hcz6_5 : w5.cell? ⟨gb987, 5, none⟩ = some (.int .i64 a0_5) := (blk_cell BK987.out 5).trans rfl; have hcz6_6 : w5.cell? ⟨gb987, 6, none⟩ = some (.slice A0_6 l0_6.length c0_6) := (blk_cell BK987.out 6).trans rfl; have hfz6_0 := blk_frozen BK987.out 0; have hfz6_1 := blk_frozen BK987.out 1; have hfz6_2 := blk_frozen BK987.out 2; have hfz6_3 := blk_frozen BK987.out 3; have hfz6_4 := blk_frozen BK987.out 4; have hfz6_5 := blk_frozen BK987.out 5; have hfz6_6 := blk_frozen BK987.out 6))
   go_ret
   exact ⟨by rfl, by repeat ((with_reducible exact HB.out))⟩
  ·rw [if_neg c4] at H
   have c4b0 : (a1 == 1) = false := beq_eq_false_iff_ne.mpr c4
   have c4b1 : (a1 != 1) = true := bne_iff_ne.mpr c4
   by_cases c7 : a0_0 = 3
   ·rw [if_pos c7] at H
    have c7b0 : (a0_0 == 3) = true := beq_iff_eq.mpr c7
    have c7b1 : (a0_0 != 3) = false := bne_eq_false_iff_eq.mpr c7
    clear c7
    obtain rfl := Option.some.inj H
    go_enter Try.func88, Try.ntmps88
    go_wp2_with (((with_reducible refine gate_dst (N := 2) rfl ?_); refine box_event ?hg (N := 2) ?hd (cs := #[.int .u8 a0_0, .int .i64 a0_1, .int .i64 a0_2, .int .i64 a0_3, .int .i64 a0_4, .int .i64 a0_5, .slice A0_6 l0_6.length c0_6]) (t := 26) ?hr ?_; (case hd => rfl); (case hg => rfl); (case hr => (go_simp; done)); intro gb987 hg w8 hbox hb; have BK987 := Aside0.mk (hbox); replace HB := Aside0.mk (below_step (by repeat ((with_reducible exact HB.out))) hb); clear hb hbox hg; have hcz9_0 : w8.cell? ⟨gb987, 0, none⟩ = some (.int .u8 a0_0) := (blk_cell BK987.out 0).trans rfl; have hcz9_1 : w8.cell? ⟨gb987, 1, none⟩ = some (.int .i64 a0_1) := (blk_cell BK987.out 1).trans rfl; have hcz9_2 : w8.cell? ⟨gb987, 2, none⟩ = some (.int .i64 a0_2) := (blk_cell BK987.out 2).trans rfl; have hcz9_3 : w8.cell? ⟨gb987, 3, none⟩ = some (.int .i64 a0_3) := (blk_cell BK987.out 3).trans rfl; have hcz9_4 : w8.cell? ⟨gb987, 4, none⟩ = some (.int .i64 a0_4) := (blk_cell BK987.out 4).trans rfl; have hcz9_5 : w8.cell? ⟨gb987, 5, none⟩ = some (.int .i64 a0_5) := (blk_cell BK987.out 5).trans rfl; have hcz9_6 : w8.cell? ⟨gb987, 6, none⟩ = some (.slice A0_6 l0_6.length c0_6) := (blk_cell BK987.out 6).trans rfl; have hfz9_0 := blk_frozen BK987.out 0; have hfz9_1 := blk_frozen BK987.out 1; have hfz9_2 := blk_frozen BK987.out 2; have hfz9_3 := blk_frozen BK987.out 3; have hfz9_4 := blk_frozen BK987.out 4; have hfz9_5 := blk_frozen BK987.out 5; have hfz9_6 := blk_frozen BK987.out 6))
    go_ret
    exact ⟨by rfl, by repeat ((with_reducible exact HB.out))⟩
   ·rw [if_neg c7] at H
    have c7b0 : (a0_0 == 3) = false := beq_eq_false_iff_ne.mpr c7
    have c7b1 : (a0_0 != 3) = true := bne_iff_ne.mpr c7
    obtain rfl := Option.some.inj H
    go_enter Try.func88, Try.ntmps88
    go_wp2_with (((with_reducible refine gate_dst (N := 2) rfl ?_); refine box_event ?hg (N := 2) ?hd (cs := #[.int .u8 a0_0, .int .i64 a0_1, .int .i64 a0_2, .int .i64 a0_3, .int .i64 a0_4, .int .i64 a0_5, .slice A0_6 l0_6.length c0_6]) (t := 26) ?hr ?_; (case hd => rfl); (case hg => rfl); (case hr => (go_simp; done)); intro gb987 hg w10 hbox hb; have BK987 := Aside0.mk (hbox); replace HB := Aside0.mk (below_step (by repeat ((with_reducible exact HB.out))) hb); clear hb hbox hg; have hcz11_0 : w10.cell? ⟨gb987, 0, none⟩ = some (.int .u8 a0_0) := (blk_cell BK987.out 0).trans rfl; have hcz11_1 : w10.cell? ⟨gb987, 1, none⟩ = some (.int .i64 a0_1) := (blk_cell BK987.out 1).trans rfl; have hcz11_2 : w10.cell? ⟨gb987, 2, none⟩ = some (.int .i64 a0_2) := (blk_cell BK987.out 2).trans rfl; have hcz11_3 : w10.cell? ⟨gb987, 3, none⟩ = some (.int .i64 a0_3) := (blk_cell BK987.out 3).trans rfl; have hcz11_4 : w10.cell? ⟨gb987, 4, none⟩ = some (.int .i64 a0_4) := (blk_cell BK987.out 4).trans rfl; have hcz11_5 : w10.cell? ⟨gb987, 5, none⟩ = some (.int .i64 a0_5) := (blk_cell BK987.out 5).trans rfl; have hcz11_6 : w10.cell? ⟨gb987, 6, none⟩ = some (.slice A0_6 l0_6.length c0_6) := (blk_cell BK987.out 6).trans rfl; have hfz11_0 := blk_frozen BK987.out 0; have hfz11_1 := blk_frozen BK987.out 1; have hfz11_2 := blk_frozen BK987.out 2; have hfz11_3 := blk_frozen BK987.out 3; have hfz11_4 := blk_frozen BK987.out 4; have hfz11_5 := blk_frozen BK987.out 5; have hfz11_6 := blk_frozen BK987.out 6))
    go_ret
    exact ⟨by rfl, by repeat ((with_reducible exact HB.out))⟩
 ·rw [if_neg c3] at H
  have c3b0 : (a0_0 == 2) = false := beq_eq_false_iff_ne.mpr c3
  have c3b1 : (a0_0 != 2) = true := bne_iff_ne.mpr c3
  by_cases c12 : a0_0 = 3
  ·rw [if_pos c12] at H
   have c12b0 : (a0_0 == 3) = true := beq_iff_eq.mpr c12
   have c12b1 : (a0_0 != 3) = false := bne_eq_false_iff_eq.mpr c12
   clear c12
   obtain rfl := Option.some.inj H
   go_enter Try.func88, Try.ntmps88
   go_wp2_with (((with_reducible refine gate_dst (N := 2) rfl ?_); refine box_event ?hg (N := 2) ?hd (cs := #[.int .u8 a0_0, .int .i64 a0_1, .int .i64 a0_2, .int .i64 a0_3, .int .i64 a0_4, .int .i64 a0_5, .slice A0_6 l0_6.length c0_6]) (t := 26) ?hr ?_; (case hd => rfl); (case hg => rfl); (case hr => (go_simp; done)); intro gb987 hg w13 hbox hb; have BK987 := Aside0.mk (hbox); replace HB := Aside0.mk (below_step (by repeat ((with_reducible exact HB.out))) hb); clear hb hbox hg; have hcz14_0 : w13.cell? ⟨gb987, 0, none⟩ = some (.int .u8 a0_0) := (blk_cell BK987.out 0).trans rfl; have hcz14_1 : w13.cell? ⟨gb987, 1, none⟩ = some (.int .i64 a0_1) := (blk_cell BK987.out 1).trans rfl; have hcz14_2 : w13.cell? ⟨gb987, 2, none⟩ = some (.int .i64 a0_2) := (blk_cell BK987.out 2).trans rfl; have hcz14_3 : w13.cell? ⟨gb987, 3, none⟩ = some (.int .i64 a0_3) := (blk_cell BK987.out 3).trans rfl; have hcz14_4 : w13.cell? ⟨gb987, 4, none⟩ = some (.int .i64 a0_4) := (blk_cell BK987.out 4).trans rfl; have hcz14_5 : w13.cell? ⟨gb987, 5, none⟩ = some (.int .i64 a0_5) := (blk_cell BK987.out 5).trans rfl; have hcz14_6 : w13.cell? ⟨gb987, 6, none⟩ = some (.slice A0_6 l0_6.length c0_6) := (blk_cell BK987.out 6).trans rfl; have hfz14_0 := blk_frozen BK987.out 0; have hfz14_1 := blk_frozen BK987.out 1; have hfz14_2 := blk_frozen BK987.out 2; have hfz14_3 := blk_frozen BK987.out 3; have hfz14_4 := blk_frozen BK987.out 4; have hfz14_5 := blk_frozen BK987.out 5; have hfz14_6 := blk_frozen BK987.out 6))
   go_ret
   exact ⟨by rfl, by repeat ((with_reducible exact HB.out))⟩
  ·rw [if_neg c12] at H
   have c12b0 : (a0_0 == 3) = false := beq_eq_false_iff_ne.mpr c12
   have c12b1 : (a0_0 != 3) = true := bne_iff_ne.mpr c12
   obtain rfl := Option.some.inj H
   go_enter Try.func88, Try.ntmps88
   go_wp2_with (((with_reducible refine gate_dst (N := 2) rfl ?_); refine box_event ?hg (N := 2) ?hd (cs := #[.int .u8 a0_0, .int .i64 a0_1, .int .i64 a0_2, .int .i64 a0_3, .int .i64 a0_4, .int .i64 a0_5, .slice A0_6 l0_6.length c0_6]) (t := 26) ?hr ?_; (case hd => rfl); (case hg => rfl); (case hr => (go_simp; done)); intro gb987 hg w15 hbox hb; have BK987 := Aside0.mk (hbox); replace HB := Aside0.mk (below_step (by repeat ((with_reducible exact HB.out))) hb); clear hb hbox hg; have hcz16_0 : w15.cell? ⟨gb987, 0, none⟩ = some (.int .u8 a0_0) := (blk_cell BK987.out 0).trans rfl; have hcz16_1 : w15.cell? ⟨gb987, 1, none⟩ = some (.int .i64 a0_1) := (blk_cell BK987.out 1).trans rfl; have hcz16_2 : w15.cell? ⟨gb987, 2, none⟩ = some (.int .i64 a0_2) := (blk_cell BK987.out 2).trans rfl; have hcz16_3 : w15.cell? ⟨gb987, 3, none⟩ = some (.int .i64 a0_3) := (blk_cell BK987.out 3).trans rfl; have hcz16_4 : w15.cell? ⟨gb987, 4, none⟩ = some (.int .i64 a0_4) := (blk_cell BK987.out 4).trans rfl; have hcz16_5 : w15.cell? ⟨gb987, 5, none⟩ = some (.int .i64 a0_5) := (blk_cell BK987.out 5).trans rfl; have hcz16_6 : w15.cell? ⟨gb987, 6, none⟩ = some (.slice A0_6 l0_6.length c0_6) := (blk_cell BK987.out 6).trans rfl; have hfz16_0 := blk_frozen BK987.out 0; have hfz16_1 := blk_frozen BK987.out 1; have hfz16_2 := blk_frozen BK987.out 2; have hfz16_3 := blk_frozen BK987.out 3; have hfz16_4 := blk_frozen BK987.out 4; have hfz16_5 := blk_frozen BK987.out 5; have hfz16_6 := blk_frozen BK987.out 6))
   go_ret
   exact ⟨by rfl, by repeat ((with_reducible exact HB.out))⟩

end Go.Proofs.Ytfdmfgaiblfbhaa.P
