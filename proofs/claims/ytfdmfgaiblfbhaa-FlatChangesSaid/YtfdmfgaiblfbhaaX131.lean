/- The contract of slices.DeleteFunc at api.Pane over flat.Changed's closure: those panes that are new or of another size stay, in order. -/
import Derived.Test.YtfdmfgaiblfbhaaYOwn
import Derived.Test.YtfdmfgaiblfbhaaX125
import Derived.Deep.QuietTactic
import Derived.BigQuiet
namespace Go.Proofs.Ytfdmfgaiblfbhaa.P
open Go.RowKit Go.Proofs.YtfdmfgaiblfbhaaW.PrintWords Go.Proofs.YtfdmfgaiblfbhaaW.PrintLast Go.Proofs.YtfdmfgaiblfbhaaW.PrintMore

theorem wq31 {x : Int} (h0 : -9223372036854775808 ≤ x) (h1 : x ≤ 9223372036854775807) : wrap64 x = x := by unfold wrap64; omega
/-- Is a pane among l, of the same size? -/
def delB (l : List S35) (p : S35) : Bool := decide (0 ≤ findP p.f0 0 l) && ((rd_T35 l (findP p.f0 0 l)).f1.f2 == p.f1.f2 && (rd_T35 l (findP p.f0 0 l)).f1.f3 == p.f1.f3)
def keepL (l xs : List S35) : List S35 := xs.filter fun p => !delB l p
set_option maxHeartbeats 2000000 in
set_option maxRecDepth 100000 in
theorem chg133 (l : List S35) (A : Option Addr) (c : Nat) (p : S35) (bx : Nat) (w : World) (hr : Kd.C k35 w A l.length l) (hc : l.length ≤ c) (hb : w.heap[bx]? = some (.cells #[.slice A l.length c] 32 (0, 0))) :
    Calls Try.prog 133 #[.agg #[.int .i64 p.f0, .int .i64 p.f1.f0, .int .i64 p.f1.f1, .int .i64 p.f1.f2, .int .i64 p.f1.f3], .pointer (some ⟨bx, 0, none⟩)] w fun e w' => e = .returned (.bool (delB l p)) ∧ Below w.heap.size w w' := by
  have HR := Aside0.mk hr
  have HC := Aside0.mk hc
  have HK := Aside0.mk hb
  have hlen := hr.2.1
  have hrange := findP_range p.f0 l 0 (by omega)
  have hlt : bx < w.heap.size := (Array.getElem?_eq_some_iff.1 hb).1
  have hcell : w.cell? ⟨bx, 0, none⟩ = some (.slice A l.length c) := (blk_cell hb 0).trans rfl
  have HF := Aside0.mk fun (W : World) (hW : Below w.heap.size w W) => flat_find.calls A c l p.f0 (findP p.f0 0 l) W (Kd.C_below hr hW) hc rfl
  clear hb hr hc
  by_cases hi : 0 ≤ findP p.f0 0 l
  · have hi2 : findP p.f0 0 l < (l.length : Int) := by omega
    have hd0 : decide (0 ≤ findP p.f0 0 l) = true := decide_eq_true hi
    have HD : Aside0 (delB l p = ((rd_T35 l (findP p.f0 0 l)).f1.f2 == p.f1.f2 && (rd_T35 l (findP p.f0 0 l)).f1.f3 == p.f1.f3)) := ⟨by unfold delB; rw [hd0, Bool.true_and]⟩
    obtain ⟨ad, rfl, q0, q1, q2, q3, q4⟩ := at_T35 HR.out (findP p.f0 0 l) hi hi2
    rw [HD.out]
    generalize rd_T35 l (findP p.f0 0 l) = x at q0 q1 q2 q3 q4 ⊢
    generalize findP p.f0 0 l = i at hi hi2 hrange HF q0 q1 q2 q3 q4 hd0
    have Q2 := Aside0.mk q3
    have Q3 := Aside0.mk q4
    clear hrange HD q0 q1 q2 q3 q4
    cases h2 : (x.f1.f2 == p.f1.f2) <;> cases h3 : (x.f1.f3 == p.f1.f3)
    all_goals
      go_enter Try.func133, Try.ntmps133
      go_wp2_with fail
      refine (HF.out _ (below_alloc (Below.refl _ _) _)).mono ?_
      rintro e w2 ⟨rfl, hb⟩
      have HB := Aside0.mk (below_then (below_alloc (Below.refl _ _) _) (by simp) hb)
      have HP := Aside0.mk (blk_below (heap_alloc_new w _) hb)
      have c0 : w2.cell? ⟨bx, 0, none⟩ = some (.slice (some ad) l.length c) := (HB.out.cell hlt).trans hcell
      have c2 : w2.cell? ⟨w.heap.size, 3, none⟩ = some (.int .i64 p.f1.f2) := (blk_cell HP.out 3).trans rfl
      have c3 : w2.cell? ⟨w.heap.size, 4, none⟩ = some (.int .i64 p.f1.f3) := (blk_cell HP.out 4).trans rfl
      have r2 := (HB.out.cell (World.block_lt_of_cell? w _ Q2.out)).trans Q2.out
      have r3 := (HB.out.cell (World.block_lt_of_cell? w _ Q3.out)).trans Q3.out
      clear hb hcell
      go_wp2
      go_quiet (fail)
      go_wp2
      go_ret
      exact ⟨rfl, by with_reducible repeat (first | exact HB.out | apply pw_below_drewN | apply below_drew1)⟩
  · have hd0 : decide (0 ≤ findP p.f0 0 l) = false := decide_eq_false hi
    have HD : Aside0 (delB l p = false) := ⟨by unfold delB; rw [hd0, Bool.false_and]⟩
    rw [HD.out]
    generalize findP p.f0 0 l = i at hi hrange HF hd0
    clear hrange HD
    go_enter Try.func133, Try.ntmps133
    go_wp2_with fail
    refine (HF.out _ (below_alloc (Below.refl _ _) _)).mono ?_
    rintro e w2 ⟨rfl, hb⟩
    have HB := Aside0.mk (below_then (below_alloc (Below.refl _ _) _) (by simp) hb)
    clear hb hcell
    go_wp2
    go_quiet (fail)
    go_wp2
    go_ret
    exact ⟨rfl, by with_reducible repeat (first | exact HB.out | apply pw_below_drewN | apply below_drew1)⟩
theorem keepL_app (l a b : List S35) : keepL l (a ++ b) = keepL l a ++ keepL l b := List.filter_append _ _
theorem scan_del (l : List S35) : ∀ (xs : List S35) (i : Int), 0 ≤ i → ((scanI (fun (_ : Unit) (x : S35) => (delB l x, ())) i () xs).1 = -1 ∧ keepL l xs = xs) ∨ (∃ m : Nat, (scanI (fun (_ : Unit) (x : S35) => (delB l x, ())) i () xs).1 = i + m ∧ m < xs.length ∧ xs.take m = keepL l (xs.take (m + 1))) := by
  intro xs
  induction xs with
  | nil => intro i _; exact .inl ⟨rfl, rfl⟩
  | cons x xs ih =>
    intro i hi
    simp only [scanI]
    cases hx : delB l x with
    | true =>
      right
      refine ⟨0, by simp, by simp, ?_⟩
      simp [keepL, hx]
    | false =>
      rcases ih (i + 1) (by omega) with ⟨h1, h2⟩ | ⟨m, h1, h2, h3⟩
      · left
        refine ⟨by simpa using h1, ?_⟩
        unfold keepL at h2 ⊢
        rw [List.filter_cons_of_pos (by simp [hx]), h2]
      · right
        refine ⟨m + 1, ?_, by simp; omega, ?_⟩
        · simp only [Bool.false_eq_true, if_false]
          rw [h1]
          omega
        · unfold keepL at h3 ⊢
          rw [List.take_succ_cons, List.take_succ_cons, List.filter_cons_of_pos (by simp [hx]), ← h3]
theorem keep_step {l xs ys : List S35} {ii jj : Nat} (hy : ys.length = xs.length) (hij : ii < jj) (hj : jj < xs.length) (h1 : ys.take ii = keepL l (xs.take jj)) (h2 : ys.drop jj = xs.drop jj) :
    rd_T35 ys (jj : Int) = rd_T35 xs (jj : Int) ∧ (delB l (rd_T35 xs (jj : Int)) = true → ys.take ii = keepL l (xs.take (jj + 1)) ∧ ys.drop (jj + 1) = xs.drop (jj + 1)) ∧
      (delB l (rd_T35 xs (jj : Int)) = false → (ys.set ii (rd_T35 xs (jj : Int))).take (ii + 1) = keepL l (xs.take (jj + 1)) ∧ (ys.set ii (rd_T35 xs (jj : Int))).drop (jj + 1) = xs.drop (jj + 1)) := by
  have e : rd_T35 xs (jj : Int) = xs[jj] := by simp [rd_T35, List.getD_eq_getElem?_getD, hj]
  have e2 : rd_T35 ys (jj : Int) = xs[jj] := by
    have : ys[jj]? = xs[jj]? := by
      have h3 : (ys.drop jj)[0]? = (xs.drop jj)[0]? := by rw [h2]
      rwa [List.getElem?_drop, List.getElem?_drop, Nat.add_zero] at h3
    simp [rd_T35, List.getD_eq_getElem?_getD, this, hj]
  have hd : ys.drop (jj + 1) = xs.drop (jj + 1) := by
    rw [← List.drop_drop, ← List.drop_drop, h2]
  rw [e]
  refine ⟨e2, fun hx => ⟨?_, hd⟩, fun hx => ⟨?_, ?_⟩⟩
  · rw [List.take_succ_eq_append_getElem hj, keepL_app, h1]
    simp [keepL, hx]
  · rw [List.take_succ_eq_append_getElem hj, keepL_app, ← h1]
    rw [List.take_succ_eq_append_getElem (by rw [List.length_set]; omega), List.take_set_of_le (by omega), List.getElem_set_self]
    simp [keepL, hx]
  · rw [List.drop_set_of_lt (by omega), hd]
set_option maxHeartbeats 4000000 in
set_option maxRecDepth 100000 in
theorem del131 (l : List S35) (A : Option Addr) (c : Nat) (w0 w : World) (hr : Kd.C k35 w0 A l.length l) (hc : l.length ≤ c) (bx g cap : Nat) (xs : List S35) (ho : k35.R 35 w w0.heap.size (fun k => k ≠ bx) (.slice (some ⟨g, 0, none⟩) xs.length cap) xs)
    (hk : w.heap[bx]? = some (.cells #[.slice A l.length c] 32 (0, 0))) (hb : Below w0.heap.size w0 w) :
    Calls Try.prog 131 #[.slice (some ⟨g, 0, none⟩) xs.length cap, .func (.func 133) #[] #[.pointer (some ⟨bx, 0, none⟩)]] w fun e w' => ∃ v, e = .returned v ∧ k35.R 35 w' w0.heap.size (fun _ => True) v (keepL l xs) ∧ Below w0.heap.size w0 w' := by
  have HR := Aside0.mk hr
  have HC := Aside0.mk hc
  have HO := Aside0.mk ho
  have HK := Aside0.mk hk
  have HB := Aside0.mk hb
  have hcap := (Kd.R_reads' ho).2.1
  have HL := Aside0.mk (Kd.R_reads' ho).2.2.2.1
  have hgb := Kd.R_base ho g rfl
  have hgx : g ≠ bx := ho.1 g rfl
  have HCall := Aside0.mk fun (W : World) (x : S35) (hW : Below w0.heap.size w0 W) (hk : W.heap[bx]? = some (.cells #[.slice A l.length c] 32 (0, 0))) => chg133 l A c x bx W (Kd.C_below hr hW) hc hk
  have HI := Aside0.mk (idx171 (fun (_ : Unit) W => Below w.heap.size w W) (fun _ x => (delB l x, ())) 133 #[.pointer (some ⟨bx, 0, none⟩)] (enters_fn Try.func133 (by decide +kernel) (by kernel_rfl)) xs (some ⟨g, 0, none⟩) cap
    (fun _ W hW => Kd.C_below (Kd.R_reads' ho).2.2 hW) (fun _ W n hW => pw_below_drewN hW n)
    (fun _ W x _ hW => (HCall.out W x (below_then hb hb.size hW) (blk_below hk hW)).mono fun e w' ⟨he, hb'⟩ => ⟨he, below_then hW hW.size hb'⟩) () w (Below.refl _ _) HL.out)
  have hsc := scan_del l xs 0 (by omega)
  clear hr hc ho hk hb
  generalize (scanI (fun (_ : Unit) (x : S35) => (delB l x, ())) 0 () xs).1 = sc at HI hsc
  rcases hsc with ⟨rfl, hkeep⟩ | ⟨m, hm, hmn, hkeep⟩
  · have HE := Aside0.mk hkeep
    clear hkeep
    go_enter Try.func131, Try.ntmps131
    go_wp2_with fail
    refine HI.out.mono ?_
    rintro e w2 ⟨rfl, hb2⟩
    have HB2 := Aside0.mk hb2
    clear hb2
    go_wp2
    go_ret
    rw [HE.out]
    exact ⟨_, rfl, Kd.R_mono (Kd.R_below HO.out HB2.out) (fun _ _ => trivial), below_then HB.out HB.out.size HB2.out⟩
  · rw [Int.zero_add] at hm
    subst hm
    have HE := Aside0.mk hkeep
    clear hkeep
    have hm1 : decide ((m : Int) = -1) = false := by simp
    go_enter Try.func131, Try.ntmps131
    go_wp2_with fail
    refine HI.out.mono ?_
    rintro e w2 ⟨rfl, hb2⟩
    have HO2 := Aside0.mk (Kd.R_below HO.out hb2)
    have HK2 := Aside0.mk (blk_below HK.out hb2)
    have HB2 := Aside0.mk (below_then HB.out HB.out.size hb2)
    clear hb2 HO HK HB HI
    go_wp2
    go_loopg [5, 6, 7] xs.length (fun gg v5 v6 _ wr => ∃ (ii jj : Nat) (ys : List S35), v5 = .int .i64 ii ∧ v6 = .int .i64 jj ∧ ii < jj ∧ jj ≤ xs.length ∧ xs.length - jj ≤ gg ∧ Aside0 (ys.length = xs.length) ∧ Aside0 (ys.take ii = keepL l (xs.take jj)) ∧ Aside0 (ys.drop jj = xs.drop jj) ∧
      Aside0 (k35.R 35 wr w0.heap.size (fun k => k ≠ bx) (.slice (some ⟨g, 0, none⟩) xs.length cap) ys) ∧ Aside0 (wr.heap[bx]? = some (.cells #[.slice A l.length c] 32 (0, 0))) ∧ Aside0 (Below w0.heap.size w0 wr))
    case atStart => exact ⟨m, m + 1, xs, rfl, (by rw [wq31 (by omega) (by have := HL.out; omega)]; rfl), by omega, by omega, by omega, ⟨rfl⟩, HE, ⟨rfl⟩, HO2, HK2, HB2⟩
    case round =>
      clear HO2 HK2 HB2 HE
      obtain ⟨ii, jj, ys, rfl, rfl, hij, hjn, hgg, HY, HT, HD, HO, HK, HB⟩ := hrel
      by_cases hlt : jj < xs.length
      · have hltz : (jj : Int) < (xs.length : Int) := by omega
        obtain ⟨hrd, hdel, hkp⟩ := keep_step HY.out hij hlt HT.out HD.out
        have hw : wrap64 ((jj : Int) + 1) = ((jj + 1 : Nat) : Int) := (wq31 (by omega) (by have := HL.out; omega)).trans (by omega)
        have hwi : wrap64 ((ii : Int) + 1) = ((ii + 1 : Nat) : Int) := (wq31 (by omega) (by have := HL.out; omega)).trans (by omega)
        obtain ⟨ad, he, q0, q1, q2, q3, q4⟩ := at_T35 (Kd.R_reads' HO.out).2.2 (jj : Int) (by omega) (by rw [HY.out]; omega)
        cases he
        rw [hrd] at q0 q1 q2 q3 q4
        have HDel := Aside0.mk hdel
        have HKp := Aside0.mk hkp
        clear hrd hdel hkp
        simp only [Int.toNat_natCast, add_at, Nat.zero_add] at q0 q1 q2 q3 q4
        generalize rd_T35 xs (jj : Int) = x at q0 q1 q2 q3 q4 HDel HKp
        have hlw := HB.out.size
        cases hx : delB l x with
        | true =>
          have HX := Aside0.mk hx
          have HD2 := Aside0.mk (HDel.out hx)
          clear hx HDel HKp HT HD
          go_wp2_with fail
          refine (HCall.out _ x (below_alloc HB.out _) (blk_below HK.out (below_alloc (Below.refl _ _) _))).mono ?_
          rw [HX.out]
          rintro e w3 ⟨rfl, hb3⟩
          have HB3 := Aside0.mk (below_then (below_alloc HB.out _) (below_alloc HB.out _).size hb3)
          have HW := Aside0.mk (below_then (below_alloc (Below.refl wr.heap.size wr) (.cells #[.int .i64 x.f0, .int .i64 x.f1.f0, .int .i64 x.f1.f1, .int .i64 x.f1.f2, .int .i64 x.f1.f3] 35)) (by simp) hb3)
          have HO3 := Aside0.mk (Kd.R_below HO.out HW.out)
          have HK3 := Aside0.mk (blk_below HK.out HW.out)
          clear hb3 HW HO HK HB HX q0 q1 q2 q3 q4
          go_wp2
          go_roundg (xs.length - (jj + 1))
          case measure => exact Nat.lt_of_lt_of_le (Nat.sub_lt_sub_left hlt (Nat.lt_succ_self jj)) hgg
          case rel => exact ⟨ii, jj + 1, ys, rfl, by rw [hw], Nat.lt_succ_of_lt hij, hlt, Nat.le_refl _, HY, ⟨HD2.out.1⟩, ⟨HD2.out.2⟩, HO3, HK3, HB3⟩
        | false =>
          have HX := Aside0.mk hx
          have HD2 := Aside0.mk (HKp.out hx)
          clear hx HDel HKp HT HD
          go_wp2_with fail
          refine (HCall.out _ x (below_alloc HB.out _) (blk_below HK.out (below_alloc (Below.refl _ _) _))).mono ?_
          rw [HX.out]
          rintro e w3 ⟨rfl, hb3⟩
          have HB3 := Aside0.mk (below_then (below_alloc HB.out _) (below_alloc HB.out _).size hb3)
          have HW := Aside0.mk (below_then (below_alloc (Below.refl wr.heap.size wr) (.cells #[.int .i64 x.f0, .int .i64 x.f1.f0, .int .i64 x.f1.f1, .int .i64 x.f1.f2, .int .i64 x.f1.f3] 35)) (by simp) hb3)
          have HO3 := Aside0.mk (Kd.R_below HO.out HW.out)
          have HK3 := Aside0.mk (blk_below HK.out HW.out)
          have HP := Aside0.mk (blk_below (heap_alloc_new wr _) hb3)
          have p0 : w3.cell? ⟨wr.heap.size, 0, none⟩ = some (.int .i64 x.f0) := (blk_cell HP.out 0).trans rfl
          have p1 : w3.cell? ⟨wr.heap.size, 1, none⟩ = some (.int .i64 x.f1.f0) := (blk_cell HP.out 1).trans rfl
          have p2 : w3.cell? ⟨wr.heap.size, 2, none⟩ = some (.int .i64 x.f1.f1) := (blk_cell HP.out 2).trans rfl
          have p3 : w3.cell? ⟨wr.heap.size, 3, none⟩ = some (.int .i64 x.f1.f2) := (blk_cell HP.out 3).trans rfl
          have p4 : w3.cell? ⟨wr.heap.size, 4, none⟩ = some (.int .i64 x.f1.f3) := (blk_cell HP.out 4).trans rfl
          have hiiz : (ii : Int) < (xs.length : Int) := Int.ofNat_lt.2 (Nat.lt_trans hij hlt)
          obtain ⟨c5, hc5, _, hcc5, _⟩ := Kd.R_elem HO3.out z35 (ii : Int) (Int.natCast_nonneg _) hiiz
          have HC5 := Aside0.mk hcc5
          have HL5 := Aside0.mk hc5
          have HD5 : Aside0 (c5.drop 5 = []) := ⟨List.drop_eq_nil_of_le (Nat.le_of_eq hc5)⟩
          clear hb3 HW HO HK HB HX q0 q1 q2 q3 q4 hcc5 hc5
          go_wp2_with ((with_reducible refine gate_ (.store 35 (.tmp 33) (.tmp 32)) rfl ?_); go_loud (refine Kd.R_store k35 (w0 := w0) w0.heap.size rfl rfl 35 (.tmp 33) (.tmp 32) rfl 35 (g := g) (n := xs.length) (cap := cap) (o' := ii * 5) (ii : Int) 0 ys x (.agg #[.int .i64 x.f0, .int .i64 x.f1.f0, .int .i64 x.f1.f1, .int .i64 x.f1.f2, .int .i64 x.f1.f3]) [.int .i64 x.f0, .int .i64 x.f1.f0, .int .i64 x.f1.f1, .int .i64 x.f1.f2, .int .i64 x.f1.f3] c5 (fun k => k ≠ bx) (fun _ => False) ?sA ?sO ?sX rfl ?sT ?s1 HO3.out (Int.natCast_nonneg _) hiiz HL5.out ?sC (by show 0 + 5 ≤ 5; omega) ?sM (fun _ h => h.elim) HB3.out ?_); (case sA => rfl); (case sO => (show ii * 5 = ii * 5 + 0; rfl)); (case sX => rfl); (case sT => rfl); (case s1 => (simp [Value.oneCell'])); (case sC => exact HC5.out); (case sM => (show Kd.M k35 _ _ _ x ([] ++ [.int .i64 x.f0, .int .i64 x.f1.f0, .int .i64 x.f1.f1, .int .i64 x.f1.f2, .int .i64 x.f1.f3] ++ c5.drop 5); rw [HD5.out]; exact k35_mkM _ _ _ x)); intro w4 h4 hb4 hg4; have HO4 := Aside0.mk h4; have HB4 := Aside0.mk hb4; have HG4 := Aside0.mk hg4; clear h4 hb4 hg4)
          have HK4 := Aside0.mk ((HG4.out.block bx (Array.getElem?_eq_some_iff.1 HK3.out).1 (fun he => hgx (Option.some.inj he).symm)).trans HK3.out)
          clear HG4 HO3 HK3 HB3 HP HC5 HL5 HD5 p0 p1 p2 p3 p4
          go_wp2
          go_roundg (xs.length - (jj + 1))
          case measure => exact Nat.lt_of_lt_of_le (Nat.sub_lt_sub_left hlt (Nat.lt_succ_self jj)) hgg
          case rel => exact ⟨ii + 1, jj + 1, ys.set ii x, by rw [hwi], by rw [hw], Nat.succ_lt_succ hij, hlt, Nat.le_refl _, ⟨by rw [List.length_set]; exact HY.out⟩, ⟨HD2.out.1⟩, ⟨HD2.out.2⟩, HO4, HK4, HB4⟩
      · have hltz : ¬ (jj : Int) < (xs.length : Int) := by omega
        have hin : ii < xs.length := by omega
        obtain ⟨w5, hcl, hR5, hB5⟩ := clear35 HO.out hin HB.out (cap - ii)
        have hfin : ys.take ii = keepL l xs := by rw [HT.out, List.take_of_length_le (by omega)]
        have HF := Aside0.mk hfin
        have HR5 := Aside0.mk hR5
        have HB5 := Aside0.mk hB5
        have hiz : (ii : Int) < (xs.length : Int) := by omega
        have hiz2 : (ii : Int) ≤ (xs.length : Int) := by omega
        have hiz3 : (ii : Int) ≤ (cap : Int) := by omega
        clear HT HD HO HK HB hR5 hB5 hfin HY
        go_wp2
        go_ret
        refine ⟨_, rfl, ?_, HB5.out⟩
        rw [← HF.out]
        exact Kd.R_mono HR5.out (fun _ _ => trivial)
end Go.Proofs.Ytfdmfgaiblfbhaa.P
