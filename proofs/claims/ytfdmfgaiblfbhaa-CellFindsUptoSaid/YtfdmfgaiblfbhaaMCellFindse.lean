/- CellFinds: part 5 of 6 of this claim's texts, one behind the other. The words of the kit's printer stand in it cut down, by a program, to those that are used. -/
import Derived.Test.YtfdmfgaiblfbhaaMCellFindsc
import Derived.Test.YtfdmfgaiblfbhaaMCellFindsd
/- The contract of sashref05.At: the cell at a path. -/
namespace Go.Proofs.Ytfdmfgaiblfbhaa.P
open Go.RowKit Go.Proofs.YtfdmfgaiblfbhaaW.PrintWords Go.Proofs.YtfdmfgaiblfbhaaW.PrintLast Go.Proofs.YtfdmfgaiblfbhaaW.PrintMore
set_option linter.unusedVariables false
set_option linter.unusedSimpArgs false
def atC (c : S26) : List Int → Option S26
  | [] => some c
  | i :: is => if i < 0 ∨ i ≥ (c.f3.length : Int) then none else atC (rd_T26 c.f3 i) is
def AtP (w : World) (P : Nat → Prop) (r : Option S26) (e : Ending) (w' : World) : Prop := ∃ v : Value, e = .returned (.tuple #[.agg #[.int .u8 (r.getD z26).f0, .int .i64 (r.getD z26).f1.f0, .int .i64 (r.getD z26).f1.f1, .int .i64 (r.getD z26).f1.f2, .int .i64 (r.getD z26).f1.f3, .int .i64 (r.getD z26).f2, v], .bool r.isSome]) ∧ Kd.V k26 26 w' w.heap.size (fun k => P k ∨ w.heap.size ≤ k) v (r.getD z26).f3 ∧ Below w.heap.size w w'
def ref_at.T5 : Bool × List (List Nat × List Nat) := (true, [([], []), ([0], [0]), ([], []), ([2], [2]), ([3], [3]), ([1, 4], [1, 4]), ([5], [5]), ([], []), ([7], [7]), ([6, 8], [6, 8]), ([9], [9]), ([9], [9]), ([10, 9, 0, 1, 2, 3, 4, 5, 6, 7, 8, 9, 10, 11], [10]), ([11, 12, 0, 1, 2, 3, 4, 5, 6, 7, 8, 9, 10, 11, 12], [11])])
def ref_at.B5 : List Nat := [0, 1, 0, 4, 12, 31, 63, 0, 128, 511, 1023, 1023, 4095, 8191]
theorem ref_at.tab5 : rtab .any (opsOf Try.f92 5) = ref_at.T5 := by kernel_rfl
theorem ref_at.bits5 : waitsOk ref_at.T5.2 ref_at.B5 = true := by kernel_rfl
set_option maxHeartbeats 4000000 in
set_option maxRecDepth 100000 in
theorem at92 : ∀ (is : List Int) (c : S26) (P : Nat → Prop) (A : Option Addr) (cc : Nat) (B : Option Addr) (cb : Nat) (w : World), Kd.V k26 26 w w.heap.size P (.slice A c.f3.length cc) c.f3 → Kd.C (Kd.int .i64) w B is.length is → is.length ≤ cb →
    Calls Try.prog 92 #[.agg #[.int .u8 c.f0, .int .i64 c.f1.f0, .int .i64 c.f1.f1, .int .i64 c.f1.f2, .int .i64 c.f1.f3, .int .i64 c.f2, .slice A c.f3.length cc], .slice B is.length cb] w (AtP w P (atC c is)) := by
  intro is
  induction is with
  | nil =>
    intro c P A cc B cb w hv hi hb
    have HV := Aside0.mk hv
    have HB := Aside0.mk (Below.refl w.heap.size w)
    clear hv hi hb
    show Calls Try.prog 92 #[.agg #[.int .u8 c.f0, .int .i64 c.f1.f0, .int .i64 c.f1.f1, .int .i64 c.f1.f2, .int .i64 c.f1.f3, .int .i64 c.f2, .slice A c.f3.length cc], .slice B 0 cb] w (AtP w P (some c))
    obtain ⟨ck, ⟨cx, cy, cw, ch⟩, cid, l⟩ := c
    simp only [] at HV ⊢
    go_enter Try.func92, Try.ntmps92
    go_wp2_with (first
      | ((with_reducible refine gate_dst (N := 2) rfl ?_); refine box_event ?hg (N := 2) ?hd (cs := #[.int .u8 ck, .int .i64 cx, .int .i64 cy, .int .i64 cw, .int .i64 ch, .int .i64 cid, .slice A l.length cc]) (t := 26) ?hr ?_; (case hd => rfl); (case hg => rfl); (case hr => first | (go_simp; done) | (go_simp; rfl)); intro b2 hg wb2 hbox hb; have Kb2 := Aside0.mk hbox; have Gb2 := Aside0.mk (show w.heap.size ≤ b2 by rw [hg]; exact HB.out.size); have q_HB := Aside0.mk (below_step HB.out hb); have q_HV := Aside0.mk (Kd.V_below (Kd.V_elderB HV.out b2 (by rw [hg]; exact Nat.le_refl _)) hb); clear HB HV; have HB := q_HB; have HV := q_HV; clear q_HB q_HV; clear hb hbox hg)
      | ((with_reducible refine gate_dst (N := 4) rfl ?_); refine box_event ?hg (N := 4) ?hd (cs := #[.int .u8 0, .int .i64 0, .int .i64 0, .int .i64 0, .int .i64 0, .int .i64 0, .slice none 0 0]) (t := 26) ?hr ?_; (case hd => rfl); (case hg => rfl); (case hr => first | (go_simp; done) | (go_simp; rfl)); intro b4 hg wb4 hbox hb; have Kb4 := Aside0.mk hbox; have Gb4 := Aside0.mk (show w.heap.size ≤ b4 by rw [hg]; exact HB.out.size); have NE := Aside0.mk (show b2 ≠ b4 by rw [hg]; exact Nat.ne_of_lt (blk_lt Kb2.out)); have q_HB := Aside0.mk (below_step HB.out hb); have q_HV := Aside0.mk (Kd.V_below (Kd.V_elderB HV.out b4 (by rw [hg]; exact Nat.le_refl _)) hb); have q_Kb2 := Aside0.mk (blk_below Kb2.out hb); clear HB HV Kb2; have HB := q_HB; have HV := q_HV; have Kb2 := q_Kb2; clear q_HB q_HV q_Kb2; clear hb hbox hg; have c0 := (blk_cell Kb2.out 0).trans rfl; have c1 := (blk_cell Kb2.out 1).trans rfl; have c2 := (blk_cell Kb2.out 2).trans rfl; have c3 := (blk_cell Kb2.out 3).trans rfl; have c4 := (blk_cell Kb2.out 4).trans rfl; have c5 := (blk_cell Kb2.out 5).trans rfl; have c6 := (blk_cell Kb2.out 6).trans rfl)
      | ((with_reducible refine gate_ (.store 26 (.tmp 4) (.tmp 9)) rfl ?_); go_loud (refine box_store (w0 := w) rfl rfl 26 (.tmp 4) (.tmp 9) rfl (g := b4) (j := 0) (base := w.heap.size) #[.int .u8 ck, .int .i64 cx, .int .i64 cy, .int .i64 cw, .int .i64 ch, .int .i64 cid, .slice A l.length cc] (u := .agg #[.int .u8 ck, .int .i64 cx, .int .i64 cy, .int .i64 cw, .int .i64 ch, .int .i64 cid, .slice A l.length cc]) (seg := [.int .u8 ck, .int .i64 cx, .int .i64 cy, .int .i64 cw, .int .i64 ch, .int .i64 cid, .slice A l.length cc]) ?sA ?sX rfl ?sT ?s1 Kb4.out ?sJ rfl HB.out HB.out.size Gb4.out ?_; (case sA => rfl); (case sX => rfl); (case sT => rfl); (case s1 => (simp [Value.oneCell'])); (case sJ => (first | decide | simp)); intro ws hbk hbb hgg; have q_ := Aside0.mk (Kd.V_grown HV.out hgg (fun k_ hk e_ => hk.2 (Option.some.inj e_))); clear Kb4 HB HV; have Kb4 := Aside0.mk hbk; have HB := Aside0.mk hbb; have HV := q_; clear hbk hbb hgg q_))
      | fail)
    refine bodyPost_ret (results_ct rfl _ _ b4 26 #[.int .u8 ck, .int .i64 cx, .int .i64 cy, .int .i64 cw, .int .i64 ch, .int .i64 cid, .slice A l.length cc] (0, 0) _ rfl Kb4.out Try.underlying26 rfl (by kernel_rfl)) rfl ?_
    exact ⟨_, rfl, Kd.V_mono HV.out (fun k hk => .inl hk.1.1), HB.out⟩
  | cons i is ih =>
    intro c P A cc B cb w hv hi hb
    have IH := Aside0.mk ih
    have HV := Aside0.mk hv
    have HI := Aside0.mk hi
    have LI := Aside0.mk hb
    have HB := Aside0.mk (Below.refl w.heap.size w)
    obtain ⟨adi, rfl, xi⟩ := Kd.at_int hi 0 (by omega) (by simp)
    rw [show ((0 : Int)).toNat = 0 from rfl, Addr.add_zero'] at xi
    have xi : w.cell? adi = some (.int .i64 i) := xi
    have hlen0 : (0 : Int) < ((is.length : Int) + 1) := by omega
    have hl0 : ((is.length + 1 : Nat) : Int) = (is.length : Int) + 1 := by omega
    clear ih hv hi hb
    simp only [atC]
    obtain ⟨ck, ⟨cx, cy, cw, ch⟩, cid, l⟩ := c
    simp only [] at HV ⊢
    simp only [List.length_cons] at HI LI ⊢
    by_cases h0 : i < 0
    · rw [if_pos (.inl h0)]
      have XI := Aside0.mk xi
      clear xi
      have h0b : decide (i < 0) = true := decide_eq_true h0
      go_enter Try.func92, Try.ntmps92
      go_wp2_with (first
        | ((with_reducible refine gate_dst (N := 2) rfl ?_); refine box_event ?hg (N := 2) ?hd (cs := #[.int .u8 ck, .int .i64 cx, .int .i64 cy, .int .i64 cw, .int .i64 ch, .int .i64 cid, .slice A l.length cc]) (t := 26) ?hr ?_; (case hd => rfl); (case hg => rfl); (case hr => first | (go_simp; done) | (go_simp; rfl)); intro b2 hg wb2 hbox hb; have Kb2 := Aside0.mk hbox; have Gb2 := Aside0.mk (show w.heap.size ≤ b2 by rw [hg]; exact HB.out.size); have q_HB := Aside0.mk (below_step HB.out hb); have q_HV := Aside0.mk (Kd.V_below (Kd.V_elderB HV.out b2 (by rw [hg]; exact Nat.le_refl _)) hb); clear HB HV; have HB := q_HB; have HV := q_HV; clear q_HB q_HV; clear hb hbox hg)
        | ((with_reducible refine gate_dst (N := 4) rfl ?_); refine box_event ?hg (N := 4) ?hd (cs := #[.int .u8 0, .int .i64 0, .int .i64 0, .int .i64 0, .int .i64 0, .int .i64 0, .slice none 0 0]) (t := 26) ?hr ?_; (case hd => rfl); (case hg => rfl); (case hr => first | (go_simp; done) | (go_simp; rfl)); intro b4 hg wb4 hbox hb; have Kb4 := Aside0.mk hbox; have Gb4 := Aside0.mk (show w.heap.size ≤ b4 by rw [hg]; exact HB.out.size); have NE := Aside0.mk (show b2 ≠ b4 by rw [hg]; exact Nat.ne_of_lt (blk_lt Kb2.out)); have q_HB := Aside0.mk (below_step HB.out hb); have q_HV := Aside0.mk (Kd.V_below (Kd.V_elderB HV.out b4 (by rw [hg]; exact Nat.le_refl _)) hb); have q_Kb2 := Aside0.mk (blk_below Kb2.out hb); clear HB HV Kb2; have HB := q_HB; have HV := q_HV; have Kb2 := q_Kb2; clear q_HB q_HV q_Kb2; clear hb hbox hg; have xi2 := (HB.out.cell (World.block_lt_of_cell? w _ XI.out)).trans XI.out; have c6 := (blk_cell Kb2.out 6).trans rfl)
        | fail)
      go_quiet (fail)
      have hb : Below wb4.heap.size wb4 (wb4.drewN nq) := pw_below_drewN (Below.refl _ _) nq
      have q_HB := Aside0.mk (below_step HB.out hb); have q_HV := Aside0.mk (Kd.V_below HV.out hb); have q_Kb2 := Aside0.mk (blk_below Kb2.out hb); have q_Kb4 := Aside0.mk (blk_below Kb4.out hb); clear HB HV Kb2 Kb4; have HB := q_HB; have HV := q_HV; have Kb2 := q_Kb2; have Kb4 := q_Kb4; clear q_HB q_HV q_Kb2 q_Kb4
      clear hb xi2 c6
      generalize wb4.drewN nq = wq at HB HV Kb2 Kb4 ⊢
      try go_wp2_with (first
        | ((with_reducible refine gate_ (.store 26 (.tmp 4) (.tmp 23)) rfl ?_); go_loud (refine box_store (w0 := w) rfl rfl 26 (.tmp 4) (.tmp 23) rfl (g := b4) (j := 0) (base := w.heap.size) #[.int .u8 0, .int .i64 0, .int .i64 0, .int .i64 0, .int .i64 0, .int .i64 0, .slice none 0 0] (u := .agg #[.int .u8 0, .int .i64 0, .int .i64 0, .int .i64 0, .int .i64 0, .int .i64 0, .slice none 0 0]) (seg := [.int .u8 0, .int .i64 0, .int .i64 0, .int .i64 0, .int .i64 0, .int .i64 0, .slice none 0 0]) ?sA ?sX rfl ?sT ?s1 Kb4.out ?sJ rfl HB.out HB.out.size Gb4.out ?_; (case sA => rfl); (case sX => rfl); (case sT => rfl); (case s1 => (simp [Value.oneCell'])); (case sJ => (first | decide | simp)); intro ws hbk hbb hgg; have q_ := Aside0.mk (Kd.V_grown HV.out hgg (fun k_ hk e_ => hk.2 (Option.some.inj e_))); clear Kb4 HB HV; have Kb4 := Aside0.mk hbk; have HB := Aside0.mk hbb; have HV := q_; clear hbk hbb hgg q_))
        | fail)
      refine bodyPost_ret (results_ct rfl _ _ b4 26 #[.int .u8 0, .int .i64 0, .int .i64 0, .int .i64 0, .int .i64 0, .int .i64 0, .slice none 0 0] (0, 0) _ rfl Kb4.out Try.underlying26 rfl (by kernel_rfl)) rfl ?_
      exact ⟨_, rfl, Kd.V_nil _ _ _ _ _, HB.out⟩
    · by_cases h1 : i ≥ (l.length : Int)
      · rw [if_pos (.inr h1)]
        have XI := Aside0.mk xi
        clear xi
        have h0b : decide (i < 0) = false := decide_eq_false h0
        have h1b : decide (i ≥ (l.length : Int)) = true := decide_eq_true h1
        have h1c : decide ((l.length : Int) ≤ i) = true := decide_eq_true h1
        go_enter Try.func92, Try.ntmps92
        go_wp2_with (first
          | ((with_reducible refine gate_dst (N := 2) rfl ?_); refine box_event ?hg (N := 2) ?hd (cs := #[.int .u8 ck, .int .i64 cx, .int .i64 cy, .int .i64 cw, .int .i64 ch, .int .i64 cid, .slice A l.length cc]) (t := 26) ?hr ?_; (case hd => rfl); (case hg => rfl); (case hr => first | (go_simp; done) | (go_simp; rfl)); intro b2 hg wb2 hbox hb; have Kb2 := Aside0.mk hbox; have Gb2 := Aside0.mk (show w.heap.size ≤ b2 by rw [hg]; exact HB.out.size); have q_HB := Aside0.mk (below_step HB.out hb); have q_HV := Aside0.mk (Kd.V_below (Kd.V_elderB HV.out b2 (by rw [hg]; exact Nat.le_refl _)) hb); clear HB HV; have HB := q_HB; have HV := q_HV; clear q_HB q_HV; clear hb hbox hg)
          | ((with_reducible refine gate_dst (N := 4) rfl ?_); refine box_event ?hg (N := 4) ?hd (cs := #[.int .u8 0, .int .i64 0, .int .i64 0, .int .i64 0, .int .i64 0, .int .i64 0, .slice none 0 0]) (t := 26) ?hr ?_; (case hd => rfl); (case hg => rfl); (case hr => first | (go_simp; done) | (go_simp; rfl)); intro b4 hg wb4 hbox hb; have Kb4 := Aside0.mk hbox; have Gb4 := Aside0.mk (show w.heap.size ≤ b4 by rw [hg]; exact HB.out.size); have NE := Aside0.mk (show b2 ≠ b4 by rw [hg]; exact Nat.ne_of_lt (blk_lt Kb2.out)); have q_HB := Aside0.mk (below_step HB.out hb); have q_HV := Aside0.mk (Kd.V_below (Kd.V_elderB HV.out b4 (by rw [hg]; exact Nat.le_refl _)) hb); have q_Kb2 := Aside0.mk (blk_below Kb2.out hb); clear HB HV Kb2; have HB := q_HB; have HV := q_HV; have Kb2 := q_Kb2; clear q_HB q_HV q_Kb2; clear hb hbox hg; have xi2 := (HB.out.cell (World.block_lt_of_cell? w _ XI.out)).trans XI.out; have c6 := (blk_cell Kb2.out 6).trans rfl)
          | fail)
        go_quiet (fail)
        have hb : Below wb4.heap.size wb4 (wb4.drewN nq) := pw_below_drewN (Below.refl _ _) nq
        have q_HB := Aside0.mk (below_step HB.out hb); have q_HV := Aside0.mk (Kd.V_below HV.out hb); have q_Kb2 := Aside0.mk (blk_below Kb2.out hb); have q_Kb4 := Aside0.mk (blk_below Kb4.out hb); clear HB HV Kb2 Kb4; have HB := q_HB; have HV := q_HV; have Kb2 := q_Kb2; have Kb4 := q_Kb4; clear q_HB q_HV q_Kb2 q_Kb4
        clear hb xi2 c6
        generalize wb4.drewN nq = wq at HB HV Kb2 Kb4 ⊢
        try go_wp2_with (first
          | ((with_reducible refine gate_ (.store 26 (.tmp 4) (.tmp 23)) rfl ?_); go_loud (refine box_store (w0 := w) rfl rfl 26 (.tmp 4) (.tmp 23) rfl (g := b4) (j := 0) (base := w.heap.size) #[.int .u8 0, .int .i64 0, .int .i64 0, .int .i64 0, .int .i64 0, .int .i64 0, .slice none 0 0] (u := .agg #[.int .u8 0, .int .i64 0, .int .i64 0, .int .i64 0, .int .i64 0, .int .i64 0, .slice none 0 0]) (seg := [.int .u8 0, .int .i64 0, .int .i64 0, .int .i64 0, .int .i64 0, .int .i64 0, .slice none 0 0]) ?sA ?sX rfl ?sT ?s1 Kb4.out ?sJ rfl HB.out HB.out.size Gb4.out ?_; (case sA => rfl); (case sX => rfl); (case sT => rfl); (case s1 => (simp [Value.oneCell'])); (case sJ => (first | decide | simp)); intro ws hbk hbb hgg; have q_ := Aside0.mk (Kd.V_grown HV.out hgg (fun k_ hk e_ => hk.2 (Option.some.inj e_))); clear Kb4 HB HV; have Kb4 := Aside0.mk hbk; have HB := Aside0.mk hbb; have HV := q_; clear hbk hbb hgg q_))
          | fail)
        refine bodyPost_ret (results_ct rfl _ _ b4 26 #[.int .u8 0, .int .i64 0, .int .i64 0, .int .i64 0, .int .i64 0, .int .i64 0, .slice none 0 0] (0, 0) _ rfl Kb4.out Try.underlying26 rfl (by kernel_rfl)) rfl ?_
        exact ⟨_, rfl, Kd.V_nil _ _ _ _ _, HB.out⟩
      · rw [if_neg (fun h => h.elim h0 h1)]
        have h0b : decide (i < 0) = false := decide_eq_false h0
        have h1b : decide (i ≥ (l.length : Int)) = false := decide_eq_false h1
        have h1c : decide ((l.length : Int) ≤ i) = false := decide_eq_false h1
        have XI := Aside0.mk xi
        clear xi
        have h0z : 0 ≤ i := by omega
        have h1z : i < (l.length : Int) := by omega
        obtain ⟨adk, ua, uc, ek, y0, y1, y2, y3, y4, y5, y6, hlu, hgu⟩ := at_T26 (Kd.V_reads' HV.out).2.2 i h0z h1z
        subst ek
        have hF := Kd.F_get (Kd.V_F HV.out) z26 i h0z h1z
        obtain ⟨adk2, ce, e2, hcl, hFK, hcc, _⟩ := hF
        injection e2 with e2
        subst e2
        obtain ⟨ub, ud, rfl, lub, fub⟩ := k26_openF hFK
        have e6 := hcc 6 _ rfl
        rw [show k26.sz = 7 from rfl, add_field _ _ 6 (by omega)] at e6
        have e7 := Option.some.inj (e6.symm.trans y6)
        injection e7 with ea en ec
        subst ea
        subst ec
        clear e6 en hcc hcl hFK
        have HU := Aside0.mk (show Kd.F k26 w _ ub (rd_T26 l i).f3.length (rd_T26 l i).f3 from fub)
        have LU := Aside0.mk (show (rd_T26 l i).f3.length ≤ ud from lub)
        clear fub lub hlu hgu
        generalize rd_T26 l i = k at y0 y1 y2 y3 y4 y5 y6 HU LU ⊢
        obtain ⟨i0, hi0, _, hsz, _⟩ := info_parts info3
        have hcut := cut_from (P := Try.prog) 41 3 .i64 Try.underlying41 hi0 1 hsz (some adi) (is.length + 1) cb 1 (by omega) (by omega)
        have hdrop := Kd.C_drop HI.out (m := 1) (by rw [List.length_cons]; omega) LI.out
        obtain ⟨A2, hA2⟩ : ∃ A2, A2 = (if cb = (1 : Int).toNat then (some adi) else ((some adi) : Option Addr).map (·.add ((1 : Int).toNat * 1))) := ⟨_, rfl⟩
        obtain ⟨c2, hc2⟩ : ∃ c2, c2 = cb - (1 : Int).toNat := ⟨_, rfl⟩
        rw [← hA2, ← hc2, show is.length + 1 - (1 : Int).toNat = is.length by simp] at hcut
        have HI2 := Aside0.mk (show Kd.C (Kd.int .i64) w A2 is.length is by rw [hA2]; exact hdrop)
        have LI2 := Aside0.mk (show is.length ≤ c2 by have h3 := LI.out; rw [hc2]; simp; omega)
        have HCUT := Aside0.mk hcut
        clear hdrop hA2 hc2 hi0 hsz hcut h0 h1
        have H0Z := Aside0.mk h0z
        have H1Z := Aside0.mk h1z
        clear h0z h1z
        have Y0 := Aside0.mk y0
        have Y1 := Aside0.mk y1
        have Y2 := Aside0.mk y2
        have Y3 := Aside0.mk y3
        have Y4 := Aside0.mk y4
        have Y5 := Aside0.mk y5
        have Y6 := Aside0.mk y6
        clear y0 y1 y2 y3 y4 y5 y6
        go_enter Try.func92, Try.ntmps92
        go_wp2_with (first
          | ((with_reducible refine gate_dst (N := 2) rfl ?_); refine box_event ?hg (N := 2) ?hd (cs := #[.int .u8 ck, .int .i64 cx, .int .i64 cy, .int .i64 cw, .int .i64 ch, .int .i64 cid, .slice (some adk) l.length cc]) (t := 26) ?hr ?_; (case hd => rfl); (case hg => rfl); (case hr => first | (go_simp; done) | (go_simp; rfl)); intro b2 hg wb2 hbox hb; have Kb2 := Aside0.mk hbox; have Gb2 := Aside0.mk (show w.heap.size ≤ b2 by rw [hg]; exact HB.out.size); have q_HB := Aside0.mk (below_step HB.out hb); have q_HV := Aside0.mk (Kd.V_below (Kd.V_elderB HV.out b2 (by rw [hg]; exact Nat.le_refl _)) hb); clear HB HV; have HB := q_HB; have HV := q_HV; clear q_HB q_HV; clear hb hbox hg)
          | ((with_reducible refine gate_dst (N := 4) rfl ?_); refine box_event ?hg (N := 4) ?hd (cs := #[.int .u8 0, .int .i64 0, .int .i64 0, .int .i64 0, .int .i64 0, .int .i64 0, .slice none 0 0]) (t := 26) ?hr ?_; (case hd => rfl); (case hg => rfl); (case hr => first | (go_simp; done) | (go_simp; rfl)); intro b4 hg wb4 hbox hb; have Kb4 := Aside0.mk hbox; have Gb4 := Aside0.mk (show w.heap.size ≤ b4 by rw [hg]; exact HB.out.size); have NE := Aside0.mk (show b2 ≠ b4 by rw [hg]; exact Nat.ne_of_lt (blk_lt Kb2.out)); have q_HB := Aside0.mk (below_step HB.out hb); have q_HV := Aside0.mk (Kd.V_below (Kd.V_elderB HV.out b4 (by rw [hg]; exact Nat.le_refl _)) hb); have q_Kb2 := Aside0.mk (blk_below Kb2.out hb); clear HB HV Kb2; have HB := q_HB; have HV := q_HV; have Kb2 := q_Kb2; clear q_HB q_HV q_Kb2; clear hb hbox hg; have xi2 := (HB.out.cell (World.block_lt_of_cell? w _ XI.out)).trans XI.out; have c6 := (blk_cell Kb2.out 6).trans rfl)
          | fail)
        go_quiet (fail)
        have hb : Below wb4.heap.size wb4 (wb4.drewN nq) := pw_below_drewN (Below.refl _ _) nq
        have q_HB := Aside0.mk (below_step HB.out hb); have q_HV := Aside0.mk (Kd.V_below HV.out hb); have q_Kb2 := Aside0.mk (blk_below Kb2.out hb); have q_Kb4 := Aside0.mk (blk_below Kb4.out hb); clear HB HV Kb2 Kb4; have HB := q_HB; have HV := q_HV; have Kb2 := q_Kb2; have Kb4 := q_Kb4; clear q_HB q_HV q_Kb2 q_Kb4
        clear hb xi2 c6
        generalize wb4.drewN nq = wq at HB HV Kb2 Kb4 ⊢
        try go_wp2
        have hb : Below wq.heap.size wq wq.drew := below_drew (Below.refl _ _)
        have q_HB := Aside0.mk (below_step HB.out hb); have q_HV := Aside0.mk (Kd.V_below HV.out hb); have q_Kb2 := Aside0.mk (blk_below Kb2.out hb); have q_Kb4 := Aside0.mk (blk_below Kb4.out hb); clear HB HV Kb2 Kb4; have HB := q_HB; have HV := q_HV; have Kb2 := q_Kb2; have Kb4 := q_Kb4; clear q_HB q_HV q_Kb2 q_Kb4
        clear hb
        have hcut := HCUT.out
        have h0z := H0Z.out
        have h1z := H1Z.out
        refine start_ (n := 14) (S := fun w' => Below w.heap.size w w' ∧ w'.heap[b2]? = some (.cells #[.int .u8 ck, .int .i64 cx, .int .i64 cy, .int .i64 cw, .int .i64 ch, .int .i64 cid, .slice (some adk) l.length cc] 26 (0, 0))) (ds := [12]) #[false, false, false, false, false, false, false, false, false, false, false, false, false, false] (by kernel_rfl) rfl rfl ⟨HB.out, Kb2.out⟩ (fun hHeld => ?_); refine with_tabW ref_at.tab5 ref_at.bits5 (fun HT_ HW_ => ?_)
        generalize wq.drew = wd at HB HV Kb2 Kb4 hHeld ⊢
        refine pure_ (i := 0) (N := some 24) (v := ?_) (a' := ?_) #[true, false, false, false, false, false, false, false, false, false, false, false, false, false] rfl rfl (any_of HT_.out (by kernel_rfl)) (fun _ _ _ h => h) (Or.inl ⟨by rfl, ?_⟩) ?_ ?_
        rotate_left
        · intro w'; go_simp; with_reducible rfl
        rotate_left
        · simp only [Act.put, List.setIfInBounds_toArray, List.set_cons_zero, List.set_cons_succ, i64_w, i32_w]
          rfl
        refine take_ (i := 1) (N := some 25) (v := ?_) (a' := ?_) #[true, true, false, false, false, false, false, false, false, false, false, false, false, false] rfl rfl (take_ofW HT_.out HW_.out (by kernel_rfl)) (fun _ _ _ h => h) (Or.inl ⟨by rfl, ?_⟩) hHeld ?_ ?_
        rotate_left
        · intro w' hs_
          have c := (blk_cell hs_.2 6).trans rfl
          go_simp; with_reducible rfl
        rotate_left
        · simp only [Act.put, List.setIfInBounds_toArray, List.set_cons_zero, List.set_cons_succ, i64_w, i32_w]
          rfl
        refine pure_ (i := 2) (N := some 26) (v := ?_) (a' := ?_) #[true, true, true, false, false, false, false, false, false, false, false, false, false, false] rfl rfl (any_of HT_.out (by kernel_rfl)) (fun _ _ _ h => h) (Or.inl ⟨by rfl, ?_⟩) ?_ ?_
        rotate_left
        · intro w'; go_simp; with_reducible rfl
        rotate_left
        · simp only [Act.put, List.setIfInBounds_toArray, List.set_cons_zero, List.set_cons_succ, i64_w, i32_w]
          rfl
        refine pure_ (i := 3) (N := some 27) (v := ?_) (a' := ?_) #[true, true, true, true, false, false, false, false, false, false, false, false, false, false] rfl rfl (any_of HT_.out (by kernel_rfl)) (fun _ _ _ h => h) (Or.inl ⟨by rfl, ?_⟩) ?_ ?_
        rotate_left
        · intro w'; go_simp; with_reducible rfl
        rotate_left
        · simp only [Act.put, List.setIfInBounds_toArray, List.set_cons_zero, List.set_cons_succ, i64_w, i32_w]
          rfl
        refine take_ (i := 4) (N := some 28) (v := ?_) (a' := ?_) #[true, true, true, true, true, false, false, false, false, false, false, false, false, false] rfl rfl (take_ofW HT_.out HW_.out (by kernel_rfl)) (fun _ _ _ h => h) (Or.inl ⟨by rfl, ?_⟩) hHeld ?_ ?_
        rotate_left
        · intro w' hs_
          have c := (hs_.1.cell (World.block_lt_of_cell? w _ XI.out)).trans XI.out
          go_simp; with_reducible rfl
        rotate_left
        · simp only [Act.put, List.setIfInBounds_toArray, List.set_cons_zero, List.set_cons_succ, i64_w, i32_w]
          rfl
        refine pure_ (i := 5) (N := some 29) (v := ?_) (a' := ?_) #[true, true, true, true, true, true, false, false, false, false, false, false, false, false] rfl rfl (any_of HT_.out (by kernel_rfl)) (fun _ _ _ h => h) (Or.inl ⟨by rfl, ?_⟩) ?_ ?_
        rotate_left
        · intro w'; go_simp; with_reducible rfl
        rotate_left
        · simp only [Act.put, List.setIfInBounds_toArray, List.set_cons_zero, List.set_cons_succ, i64_w, i32_w]
          rfl
        refine take_ (i := 6) (N := some 30) (v := ?_) (a' := ?_) #[true, true, true, true, true, true, true, false, false, false, false, false, false, false] rfl rfl (take_ofW HT_.out HW_.out (by kernel_rfl)) (fun _ _ _ h => h) (Or.inl ⟨by rfl, ?_⟩) hHeld ?_ ?_
        rotate_left
        · intro w' hs_
          have y0 := (hs_.1.cell (World.block_lt_of_cell? w _ Y0.out)).trans Y0.out
          have y1 := (hs_.1.cell (World.block_lt_of_cell? w _ Y1.out)).trans Y1.out
          have y2 := (hs_.1.cell (World.block_lt_of_cell? w _ Y2.out)).trans Y2.out
          have y3 := (hs_.1.cell (World.block_lt_of_cell? w _ Y3.out)).trans Y3.out
          have y4 := (hs_.1.cell (World.block_lt_of_cell? w _ Y4.out)).trans Y4.out
          have y5 := (hs_.1.cell (World.block_lt_of_cell? w _ Y5.out)).trans Y5.out
          have y6 := (hs_.1.cell (World.block_lt_of_cell? w _ Y6.out)).trans Y6.out
          go_simp; with_reducible rfl
        rotate_left
        · simp only [Act.put, List.setIfInBounds_toArray, List.set_cons_zero, List.set_cons_succ, i64_w, i32_w]
          rfl
        refine pure_ (i := 7) (N := some 31) (v := ?_) (a' := ?_) #[true, true, true, true, true, true, true, true, false, false, false, false, false, false] rfl rfl (any_of HT_.out (by kernel_rfl)) (fun _ _ _ h => h) (Or.inl ⟨by rfl, ?_⟩) ?_ ?_
        rotate_left
        · intro w'; go_simp; with_reducible rfl
        rotate_left
        · simp only [Act.put, List.setIfInBounds_toArray, List.set_cons_zero, List.set_cons_succ, i64_w, i32_w]
          rfl
        refine pure_ (i := 8) (N := some 32) (v := ?_) (a' := ?_) #[true, true, true, true, true, true, true, true, true, false, false, false, false, false] rfl rfl (any_of HT_.out (by kernel_rfl)) (fun _ _ _ h => h) (Or.inl ⟨by rfl, ?_⟩) ?_ ?_
        rotate_left
        · intro w'; go_simp; with_reducible rfl
        rotate_left
        · simp only [Act.put, List.setIfInBounds_toArray, List.set_cons_zero, List.set_cons_succ, i64_w, i32_w]
          rfl
        refine one_ (i := 9) (N := some 33) #[true, true, true, true, true, true, true, true, true, true, false, false, false, false] rfl rfl (one_of HT_.out (by kernel_rfl)) (by decide) (fun K hK => ?_)
        refine goes_ Try.func92 (by kernel_rfl) rfl #[.agg #[.int .u8 k.f0, .int .i64 k.f1.f0, .int .i64 k.f1.f1, .int .i64 k.f1.f2, .int .i64 k.f1.f3, .int .i64 k.f2, .slice ub k.f3.length ud], .slice A2 is.length c2] (by rfl) rfl rfl (by (try simp only [List.map_toArray, List.map_cons, List.map_nil]); first | done | rfl) ?_
        refine (IH.out k _ ub ud A2 c2 wd (Kd.V_mk LU.out (Kd.F_below (Kd.F_bound HU.out) HB.out)) (Kd.C_below HI2.out HB.out) LI2.out).mono ?_
        rintro e wk ⟨v, rfl, ho, hb⟩
        refine ⟨_, rfl, ?_⟩
        have NV := Aside0.mk (Kd.V_mono ho (fun q hq => (hq.elim (fun h => ⟨.inl h.1, Nat.ne_of_lt (Nat.lt_of_lt_of_le h.2 Gb4.out)⟩) (fun h => ⟨.inr (Nat.le_trans HB.out.size h), Nat.ne_of_gt (Nat.lt_of_lt_of_le (blk_lt Kb4.out) h)⟩) : (P q ∨ w.heap.size ≤ q) ∧ q ≠ b4)))
        obtain ⟨Av, cv, ev⟩ := Kd.V_slice NV.out
        subst ev
        have q_HB := Aside0.mk (below_step HB.out hb); have q_Kb2 := Aside0.mk (blk_below Kb2.out hb); have q_Kb4 := Aside0.mk (blk_below Kb4.out hb); clear HB Kb2 Kb4; have HB := q_HB; have Kb2 := q_Kb2; have Kb4 := q_Kb4; clear q_HB q_Kb2 q_Kb4
        clear ho hb
        refine hK.out _ _ ⟨HB.out, Kb2.out⟩ (fun hHeld => ?_)
        clear hK K
        refine norm_ (a' := ?_) ?_ ?_
        rotate_left
        · show Act.put _ (some 33) _ = _
          simp only [Act.put, List.setIfInBounds_toArray, List.set_cons_zero, List.set_cons_succ, i64_w, i32_w]
          rfl
        refine pure_ (i := 10) (N := some 34) (v := ?_) (a' := ?_) #[true, true, true, true, true, true, true, true, true, true, true, false, false, false] rfl rfl (any_of HT_.out (by kernel_rfl)) (fun _ _ _ h => h) (Or.inl ⟨by rfl, ?_⟩) ?_ ?_
        rotate_left
        · intro w'; go_simp; with_reducible rfl
        rotate_left
        · simp only [Act.put, List.setIfInBounds_toArray, List.set_cons_zero, List.set_cons_succ, i64_w, i32_w]
          rfl
        refine pure_ (i := 11) (N := some 35) (v := ?_) (a' := ?_) #[true, true, true, true, true, true, true, true, true, true, true, true, false, false] rfl rfl (any_of HT_.out (by kernel_rfl)) (fun _ _ _ h => h) (Or.inl ⟨by rfl, ?_⟩) ?_ ?_
        rotate_left
        · intro w'; go_simp; with_reducible rfl
        rotate_left
        · simp only [Act.put, List.setIfInBounds_toArray, List.set_cons_zero, List.set_cons_succ, i64_w, i32_w]
          rfl
        refine last_ (i := 12) (N := none) #[true, true, true, true, true, true, true, true, true, true, true, true, true, false] rfl rfl (one_of HT_.out (by kernel_rfl)) (by decide) (fun K hK => ?_)
        obtain ⟨w9, hw9⟩ : ∃ w9, w9 = wk.setCells b4 0 [.int .u8 ((atC k is).getD z26).f0, .int .i64 ((atC k is).getD z26).f1.f0, .int .i64 ((atC k is).getD z26).f1.f1, .int .i64 ((atC k is).getD z26).f1.f2, .int .i64 ((atC k is).getD z26).f1.f3, .int .i64 ((atC k is).getD z26).f2, .slice Av ((atC k is).getD z26).f3.length cv] := ⟨_, rfl⟩
        have hst := box_cells (j := 0) (cs' := #[.int .u8 ((atC k is).getD z26).f0, .int .i64 ((atC k is).getD z26).f1.f0, .int .i64 ((atC k is).getD z26).f1.f1, .int .i64 ((atC k is).getD z26).f1.f2, .int .i64 ((atC k is).getD z26).f1.f3, .int .i64 ((atC k is).getD z26).f2, .slice Av ((atC k is).getD z26).f3.length cv]) (seg := [.int .u8 ((atC k is).getD z26).f0, .int .i64 ((atC k is).getD z26).f1.f0, .int .i64 ((atC k is).getD z26).f1.f1, .int .i64 ((atC k is).getD z26).f1.f2, .int .i64 ((atC k is).getD z26).f1.f3, .int .i64 ((atC k is).getD z26).f2, .slice Av ((atC k is).getD z26).f3.length cv]) Kb4.out (by first | decide | simp) rfl
        rw [← hw9] at hst
        refine skip_ (w1 := w9) (by rfl) rfl ?_ ?_
        · rw [hw9]; exact store_exec 26 (.tmp 4) (.tmp 34) rfl (cs := #[.int .u8 0, .int .i64 0, .int .i64 0, .int .i64 0, .int .i64 0, .int .i64 0, .slice none 0 0]) (t0 := 26) (seg := [.int .u8 ((atC k is).getD z26).f0, .int .i64 ((atC k is).getD z26).f1.f0, .int .i64 ((atC k is).getD z26).f1.f1, .int .i64 ((atC k is).getD z26).f1.f2, .int .i64 ((atC k is).getD z26).f1.f3, .int .i64 ((atC k is).getD z26).f2, .slice Av ((atC k is).getD z26).f3.length cv]) rfl rfl rfl (by kernel_rfl) (by simp [Value.oneCell']) Kb4.out (by first | decide | simp)
        have HB9 := Aside0.mk (grown_below HB.out hst.2 Gb4.out HB.out.size)
        have NV9 := Aside0.mk (Kd.V_grown NV.out hst.2 (fun q hq e_ => hq.2 (Option.some.inj e_)))
        have K49 := Aside0.mk hst.1
        clear hst
        refine hK.out _ _ ?_
        clear hK K hw9
        refine pure_ (i := 13) (N := some 5) (v := ?_) (a' := ?_) #[true, true, true, true, true, true, true, true, true, true, true, true, true, true] rfl rfl (any_of HT_.out (by kernel_rfl)) (fun _ _ _ h => h) (Or.inl ⟨by rfl, ?_⟩) ?_ ?_
        rotate_left
        · intro w'; go_simp; with_reducible rfl
        rotate_left
        · simp only [Act.put, List.setIfInBounds_toArray, List.set_cons_zero, List.set_cons_succ, i64_w, i32_w]
          rfl
        refine done_ (done_of HT_.out (by kernel_rfl)) ?_
        go_wp2
        refine bodyPost_ret (results_ct rfl _ _ b4 26 #[.int .u8 ((atC k is).getD z26).f0, .int .i64 ((atC k is).getD z26).f1.f0, .int .i64 ((atC k is).getD z26).f1.f1, .int .i64 ((atC k is).getD z26).f1.f2, .int .i64 ((atC k is).getD z26).f1.f3, .int .i64 ((atC k is).getD z26).f2, .slice Av ((atC k is).getD z26).f3.length cv] (0, 0) _ rfl K49.out Try.underlying26 rfl (by kernel_rfl)) rfl ?_
        exact ⟨_, rfl, Kd.V_mono NV9.out (fun q hq => hq.1), HB9.out⟩
def atT (r : Option S26) : Int × Int × Int × Int × Int × Int × List S26 × Bool := ((r.getD z26).f0, (r.getD z26).f1.f0, (r.getD z26).f1.f1, (r.getD z26).f1.f2, (r.getD z26).f1.f3, (r.getD z26).f2, (r.getD z26).f3, r.isSome)
def sashref05_At.f (a0 a1 a2 a3 a4 a5 : Int) (l : List S26) (l1 : List Int) : Option (Int × Int × Int × Int × Int × Int × (List (S26)) × Bool) := some (atT (atC ⟨a0, ⟨a1, a2, a3, a4⟩, a5, l⟩ l1))
theorem sashref05_At.calls (a0_0 a0_1 a0_2 a0_3 a0_4 a0_5 : Int) (P0_6_ : Nat → Prop) (A0_6 : Option Addr) (c0_6 : Nat) (l0_6 : List S26) (A1 : Option Addr) (c1 : Nat) (l1 : List Int) (r1 r2 r3 r4 r5 r6 : Int) (r7 : List S26) (r8 : Bool) (w : World) (hs0_6 : Kd.V k26 26 w w.heap.size (fun k_ => P0_6_ k_) (.slice A0_6 l0_6.length c0_6) l0_6) (hr1 : Kd.C (Kd.int .i64) w A1 l1.length l1) (hc1 : l1.length ≤ c1) (h : sashref05_At.f a0_0 a0_1 a0_2 a0_3 a0_4 a0_5 l0_6 l1 = some (r1, r2, r3, r4, r5, r6, r7, r8)) :
    Calls Try.prog 92 #[.agg #[.int .u8 a0_0, .int .i64 a0_1, .int .i64 a0_2, .int .i64 a0_3, .int .i64 a0_4, .int .i64 a0_5, .slice A0_6 l0_6.length c0_6], .slice A1 l1.length c1] w fun e w' => ∃ v6_ : Value, e = .returned (.tuple #[.agg #[.int .u8 r1, .int .i64 r2, .int .i64 r3, .int .i64 r4, .int .i64 r5, .int .i64 r6, v6_], .bool r8]) ∧ Kd.V k26 26 w' w.heap.size (fun k_ => (P0_6_ k_ ∨ w.heap.size ≤ k_)) v6_ r7 ∧ Below w.heap.size w w' := by
  unfold sashref05_At.f atT at h
  simp only [Option.some.injEq, Prod.mk.injEq] at h
  obtain ⟨rfl, rfl, rfl, rfl, rfl, rfl, rfl, rfl⟩ := h
  exact at92 l1 ⟨a0_0, ⟨a0_1, a0_2, a0_3, a0_4⟩, a0_5, l0_6⟩ P0_6_ A0_6 c0_6 A1 c1 w hs0_6 hr1 hc1
end Go.Proofs.Ytfdmfgaiblfbhaa.P
namespace Go.Proofs.Ytfdmfgaiblfbhaa.P
open Go.RowKit Go.Proofs.YtfdmfgaiblfbhaaW.PrintWords Go.Proofs.YtfdmfgaiblfbhaaW.PrintLast Go.Proofs.YtfdmfgaiblfbhaaW.PrintMore
attribute [local go_sem] max2_int min2_int max_two min_two max_three min_three max_four min_four   -- for this text's walks alone
set_option linter.unusedVariables false
set_option linter.unusedSimpArgs false

/-! ### sashlaw05_CellFinds: function 20 -/
mutual
def sashlaw05_CellFinds.j0 : Nat → Int → List Int → Bool → Int → Int → Int → Int → Int → Int → List (S26) → Option (Bool)
  | 0, _, _, _, _, _, _, _, _, _, _ => none
  | k + 1, x1, x2, x23, x1016000, x1016001, x1016002, x1016003, x1016004, x1016005, x1016006 => if x23 = true then ((sashlaw05_awake.f).bind fun t1017 => (some t1017)) else ((cell_Find.f x1016000 x1016001 x1016002 x1016003 x1016004 x1016005 x1016006 x1).bind fun bt1018 => ((sashref05_Find.f k x1016000 x1016001 x1016002 x1016003 x1016004 x1016005 x1016006 x1).bind fun bt1022 => ((cell_At.f k x1016000 x1016001 x1016002 x1016003 x1016004 x1016005 x1016006 x2).bind fun bt1026 => ((sashref05_At.f x1016000 x1016001 x1016002 x1016003 x1016004 x1016005 x1016006 x2).bind fun bt1037 => (if (bt1018.2 != bt1022.2) = true then (sashlaw05_CellFinds.j1 k x1 bt1018.1 bt1018.2 true x1016000 x1016001 x1016002 x1016003 x1016004 x1016005 x1016006) else ((sashref05_Ints.f k bt1018.1 bt1022.1).bind fun t1048 => (if t1048 = true then (if (bt1026.2.2.2.2.2.2.2 != bt1037.2.2.2.2.2.2.2) = true then (sashlaw05_CellFinds.j1 k x1 bt1018.1 bt1018.2 true x1016000 x1016001 x1016002 x1016003 x1016004 x1016005 x1016006) else ((sashref05_Same.f k bt1026.1 bt1026.2.1 bt1026.2.2.1 bt1026.2.2.2.1 bt1026.2.2.2.2.1 bt1026.2.2.2.2.2.1 bt1026.2.2.2.2.2.2.1 bt1037.1 bt1037.2.1 bt1037.2.2.1 bt1037.2.2.2.1 bt1037.2.2.2.2.1 bt1037.2.2.2.2.2.1 bt1037.2.2.2.2.2.2.1).bind fun t1049 => (sashlaw05_CellFinds.j1 k x1 bt1018.1 bt1018.2 (!t1049) x1016000 x1016001 x1016002 x1016003 x1016004 x1016005 x1016006))) else (sashlaw05_CellFinds.j1 k x1 bt1018.1 bt1018.2 true x1016000 x1016001 x1016002 x1016003 x1016004 x1016005 x1016006))))))))
def sashlaw05_CellFinds.j1 : Nat → Int → List Int → Bool → Bool → Int → Int → Int → Int → Int → Int → List (S26) → Option (Bool)
  | 0, _, _, _, _, _, _, _, _, _, _, _ => none
  | k + 1, x1, x7, x8, x68, x1016000, x1016001, x1016002, x1016003, x1016004, x1016005, x1016006 => if x68 = true then (some false) else ((cell_At.f k x1016000 x1016001 x1016002 x1016003 x1016004 x1016005 x1016006 x7).bind fun bt1050 => (if x8 = true then (if bt1050.2.2.2.2.2.2.2 = true then (if bt1050.1 = 1 then (if bt1050.2.2.2.2.2.1 = x1 then ((sashlaw05_awake.f).bind fun t1061 => (some t1061)) else (some false)) else (some false)) else (some false)) else ((sashlaw05_awake.f).bind fun t1062 => (some t1062))))
end
def sashlaw05_CellFinds.f (k : Nat) (a0_0 : Int) (a0_1 : Int) (a0_2 : Int) (a0_3 : Int) (a0_4 : Int) (a0_5 : Int) (l0_6 : List (S26)) (a1 : Int) (l2 : List Int) : Option (Bool) := (sashref05_Great.f k a0_0 a0_1 a0_2 a0_3 a0_4 a0_5 l0_6).bind fun t1016 => (if t1016 = true then (sashlaw05_CellFinds.j0 k a1 l2 true a0_0 a0_1 a0_2 a0_3 a0_4 a0_5 l0_6) else (sashlaw05_CellFinds.j0 k a1 l2 (decide ((l2.length : Int) > 50)) a0_0 a0_1 a0_2 a0_3 a0_4 a0_5 l0_6))
theorem sashlaw05_CellFinds.mono_l : ∀ k, (∀ y0 y1 y2 y3 y4 y5 y6 y7 y8 y9, LeO (sashlaw05_CellFinds.j0 k y0 y1 y2 y3 y4 y5 y6 y7 y8 y9) (sashlaw05_CellFinds.j0 (k + 1) y0 y1 y2 y3 y4 y5 y6 y7 y8 y9)) ∧ (∀ y0 y1 y2 y3 y4 y5 y6 y7 y8 y9 y10, LeO (sashlaw05_CellFinds.j1 k y0 y1 y2 y3 y4 y5 y6 y7 y8 y9 y10) (sashlaw05_CellFinds.j1 (k + 1) y0 y1 y2 y3 y4 y5 y6 y7 y8 y9 y10))
  | 0 => ⟨fun _ _ _ _ _ _ _ _ _ _ r h => by simp [sashlaw05_CellFinds.j0] at h, fun _ _ _ _ _ _ _ _ _ _ _ r h => by simp [sashlaw05_CellFinds.j1] at h⟩
  | k + 1 => by
    obtain ⟨ih0, ih1⟩ := sashlaw05_CellFinds.mono_l k
    refine ⟨?_, ?_⟩
    · intro y0 y1 y2 y3 y4 y5 y6 y7 y8 y9
      unfold sashlaw05_CellFinds.j0
      repeat' first
      | (with_reducible exact ih0 _ _ _ _ _ _ _ _ _ _)
      | (with_reducible exact ih1 _ _ _ _ _ _ _ _ _ _ _)
      | (with_reducible exact cell_At.mono _ _ _ _ _ _ _ _ _)
      | (with_reducible exact sashref05_Find.mono _ _ _ _ _ _ _ _ _)
      | (with_reducible exact sashref05_Great.mono _ _ _ _ _ _ _ _)
      | (with_reducible exact sashref05_Ints.mono _ _ _)
      | (with_reducible exact sashref05_Same.mono _ _ _ _ _ _ _ _ _ _ _ _ _ _ _)
      | (with_reducible exact LeO.refl _)
      | (with_reducible exact LeO.none _)
      | (with_reducible refine LeO.ite ?_ ?_)
      | (with_reducible refine LeO.bind ?_ (fun _ => ?_))
      | exact ih0 _ _ _ _ _ _ _ _ _ _
      | exact ih1 _ _ _ _ _ _ _ _ _ _ _
      | exact cell_At.mono _ _ _ _ _ _ _ _ _
      | exact sashref05_Find.mono _ _ _ _ _ _ _ _ _
      | exact sashref05_Great.mono _ _ _ _ _ _ _ _
      | exact sashref05_Ints.mono _ _ _
      | exact sashref05_Same.mono _ _ _ _ _ _ _ _ _ _ _ _ _ _ _
      | exact LeO.none _
      | refine LeO.ite ?_ ?_
      | refine LeO.bind ?_ (fun _ => ?_)
    · intro y0 y1 y2 y3 y4 y5 y6 y7 y8 y9 y10
      unfold sashlaw05_CellFinds.j1
      repeat' first
      | (with_reducible exact ih0 _ _ _ _ _ _ _ _ _ _)
      | (with_reducible exact ih1 _ _ _ _ _ _ _ _ _ _ _)
      | (with_reducible exact cell_At.mono _ _ _ _ _ _ _ _ _)
      | (with_reducible exact sashref05_Find.mono _ _ _ _ _ _ _ _ _)
      | (with_reducible exact sashref05_Great.mono _ _ _ _ _ _ _ _)
      | (with_reducible exact sashref05_Ints.mono _ _ _)
      | (with_reducible exact sashref05_Same.mono _ _ _ _ _ _ _ _ _ _ _ _ _ _ _)
      | (with_reducible exact LeO.refl _)
      | (with_reducible exact LeO.none _)
      | (with_reducible refine LeO.ite ?_ ?_)
      | (with_reducible refine LeO.bind ?_ (fun _ => ?_))
      | exact ih0 _ _ _ _ _ _ _ _ _ _
      | exact ih1 _ _ _ _ _ _ _ _ _ _ _
      | exact cell_At.mono _ _ _ _ _ _ _ _ _
      | exact sashref05_Find.mono _ _ _ _ _ _ _ _ _
      | exact sashref05_Great.mono _ _ _ _ _ _ _ _
      | exact sashref05_Ints.mono _ _ _
      | exact sashref05_Same.mono _ _ _ _ _ _ _ _ _ _ _ _ _ _ _
      | exact LeO.none _
      | refine LeO.ite ?_ ?_
      | refine LeO.bind ?_ (fun _ => ?_)
theorem sashlaw05_CellFinds.mono : ∀ a0 a1 a2 a3 a4 a5 a6 a7 a8 k, LeO (sashlaw05_CellFinds.f k a0 a1 a2 a3 a4 a5 a6 a7 a8) (sashlaw05_CellFinds.f (k + 1) a0 a1 a2 a3 a4 a5 a6 a7 a8) := by
  intro a0 a1 a2 a3 a4 a5 a6 a7 a8 k
  obtain ⟨ih0, ih1⟩ := sashlaw05_CellFinds.mono_l k
  unfold sashlaw05_CellFinds.f
  repeat' first
      | (with_reducible exact ih0 _ _ _ _ _ _ _ _ _ _)
      | (with_reducible exact ih1 _ _ _ _ _ _ _ _ _ _ _)
      | (with_reducible exact cell_At.mono _ _ _ _ _ _ _ _ _)
      | (with_reducible exact sashref05_Find.mono _ _ _ _ _ _ _ _ _)
      | (with_reducible exact sashref05_Great.mono _ _ _ _ _ _ _ _)
      | (with_reducible exact sashref05_Ints.mono _ _ _)
      | (with_reducible exact sashref05_Same.mono _ _ _ _ _ _ _ _ _ _ _ _ _ _ _)
      | (with_reducible exact LeO.refl _)
      | (with_reducible exact LeO.none _)
      | (with_reducible refine LeO.ite ?_ ?_)
      | (with_reducible refine LeO.bind ?_ (fun _ => ?_))
      | exact ih0 _ _ _ _ _ _ _ _ _ _
      | exact ih1 _ _ _ _ _ _ _ _ _ _ _
      | exact cell_At.mono _ _ _ _ _ _ _ _ _
      | exact sashref05_Find.mono _ _ _ _ _ _ _ _ _
      | exact sashref05_Great.mono _ _ _ _ _ _ _ _
      | exact sashref05_Ints.mono _ _ _
      | exact sashref05_Same.mono _ _ _ _ _ _ _ _ _ _ _ _ _ _ _
      | exact LeO.none _
      | refine LeO.ite ?_ ?_
      | refine LeO.bind ?_ (fun _ => ?_)
set_option maxHeartbeats 8000000 in
set_option maxRecDepth 100000 in
theorem sashlaw05_CellFinds.calls (k : Nat) (a0_0 : Int) (a0_1 : Int) (a0_2 : Int) (a0_3 : Int) (a0_4 : Int) (a0_5 : Int) (A0_6 : Option Addr) (c0_6 : Nat) (l0_6 : List (S26)) (a1 : Int) (A2 : Option Addr) (c2 : Nat) (l2 : List Int) (r : Bool) (w : World) (hr0_6 : Kd.C k26 w A0_6 l0_6.length l0_6) (hc0_6 : l0_6.length ≤ c0_6) (hr2 : Kd.C (Kd.int .i64) w A2 l2.length l2) (hc2 : l2.length ≤ c2) (h : sashlaw05_CellFinds.f k a0_0 a0_1 a0_2 a0_3 a0_4 a0_5 l0_6 a1 l2 = some r) :
    Calls Try.prog 20 #[.agg #[.int .u8 a0_0, .int .i64 a0_1, .int .i64 a0_2, .int .i64 a0_3, .int .i64 a0_4, .int .i64 a0_5, .slice A0_6 l0_6.length c0_6], .int .i64 a1, .slice A2 l2.length c2] w fun e w' => e = .returned (.bool r) ∧ Below w.heap.size w w' := by
  have hu26 := Try.underlying26
  have HR0_6 := Aside0.mk hr0_6
  have HC0_6 := Aside0.mk hc0_6
  clear hr0_6 hc0_6
  have HR2 := Aside0.mk hr2
  have HC2 := Aside0.mk hc2
  clear hr2 hc2
  have HB := Aside0.mk (Below.refl w.heap.size w)
  have H : ((sashref05_Great.f k a0_0 a0_1 a0_2 a0_3 a0_4 a0_5 l0_6).bind fun t1016 => (if t1016 = true then (sashlaw05_CellFinds.j0 k a1 l2 true a0_0 a0_1 a0_2 a0_3 a0_4 a0_5 l0_6) else (sashlaw05_CellFinds.j0 k a1 l2 (decide ((l2.length : Int) > 50)) a0_0 a0_1 a0_2 a0_3 a0_4 a0_5 l0_6))) = some r := h
  clear h
  have HC4 := Aside0.mk H
  clear H
  go_enter Try.func20, Try.ntmps20
  go_upto_region 1 with (first | ((with_reducible refine gate_dst (N := 3) rfl ?_); (try (refine gate_guard (by rfl) ?_; dsimp only)); refine box_event ?hg (N := 3) ?hd (cs := #[.int .u8 a0_0, .int .i64 a0_1, .int .i64 a0_2, .int .i64 a0_3, .int .i64 a0_4, .int .i64 a0_5, .slice A0_6 l0_6.length c0_6]) (t := 26) ?hr ?_; (case hd => rfl); (case hg => rfl); (case hr => first | (go_simp; done) | (go_simp; rfl)); intro gb1015 hg w5 hbox hb; have n0_ := Aside0.mk (below_step (by repeat (first | (with_reducible first | exact HB.out | apply below_alloc | apply pw_below_drewN | apply below_drew1) | exact HB.out)) hb); have n1_ := Aside0.mk (hbox); have n2_ := Aside0.mk ((by rw [hg]; exact (below_size (by repeat (first | (with_reducible first | exact HB.out | apply below_alloc | apply pw_below_drewN | apply below_drew1) | exact HB.out))) : w.heap.size ≤ gb1015)); have n3_ := Aside0.mk ((by rw [hg]; exact (below_size (by repeat (first | (with_reducible first | exact HB.out | apply below_alloc | apply pw_below_drewN | apply below_drew1) | exact HB.out))) : w.heap.size ≤ gb1015)); clear HB; have HB := n0_; have BK1015 := n1_; have GW1015 := n2_; have GE1015 := n3_; clear n0_ n1_ n2_ n3_; clear hb hbox hg))
  (try simp only [Act.put, List.setIfInBounds_toArray, List.set_cons_zero, List.set_cons_succ])
  go_cut [23] (fun v23 wc => ∃ (kq : Nat) (x23_3 : Bool), v23 = .bool x23_3 ∧ Aside0 (sashlaw05_CellFinds.j0 kq a1 l2 x23_3 a0_0 a0_1 a0_2 a0_3 a0_4 a0_5 l0_6 = some r) ∧ Aside0 (kq ≤ k) ∧ Aside0 (wc.heap[gb1015]? = some (.cells #[.int .u8 a0_0, .int .i64 a0_1, .int .i64 a0_2, .int .i64 a0_3, .int .i64 a0_4, .int .i64 a0_5, (.slice A0_6 l0_6.length c0_6)] 26 (0, 0))) ∧ Aside0 (Below w.heap.size w wc))
  case first =>
    have H := HC4.out
    clear HC4
    replace H := Option.bind_eq_some_iff.mp H
    obtain ⟨t1016, A60, H⟩ := H
    replace H : (if t1016 = true then (sashlaw05_CellFinds.j0 k a1 l2 true a0_0 a0_1 a0_2 a0_3 a0_4 a0_5 l0_6) else (sashlaw05_CellFinds.j0 k a1 l2 (decide ((l2.length : Int) > 50)) a0_0 a0_1 a0_2 a0_3 a0_4 a0_5 l0_6)) = some r := H
    have A6 := Aside0.mk A60
    clear A60
    by_cases c7 : t1016 = true
    · subst c7
      have H1 : (sashlaw05_CellFinds.j0 k a1 l2 true a0_0 a0_1 a0_2 a0_3 a0_4 a0_5 l0_6) = some r := by rw [if_pos rfl] at H; exact H
      clear H
      have H := H1
      clear H1
      have H' := Aside0.mk H
      clear H
      have hcz8_0 : w5.cell? ⟨gb1015, 0, none⟩ = some (.int .u8 a0_0) := (blk_cell BK1015.out 0).trans rfl
      have hcz8_1 : w5.cell? ⟨gb1015, 1, none⟩ = some (.int .i64 a0_1) := (blk_cell BK1015.out 1).trans rfl
      have hcz8_2 : w5.cell? ⟨gb1015, 2, none⟩ = some (.int .i64 a0_2) := (blk_cell BK1015.out 2).trans rfl
      have hcz8_3 : w5.cell? ⟨gb1015, 3, none⟩ = some (.int .i64 a0_3) := (blk_cell BK1015.out 3).trans rfl
      have hcz8_4 : w5.cell? ⟨gb1015, 4, none⟩ = some (.int .i64 a0_4) := (blk_cell BK1015.out 4).trans rfl
      have hcz8_5 : w5.cell? ⟨gb1015, 5, none⟩ = some (.int .i64 a0_5) := (blk_cell BK1015.out 5).trans rfl
      have hcz8_6 : w5.cell? ⟨gb1015, 6, none⟩ = some (.slice A0_6 l0_6.length c0_6) := (blk_cell BK1015.out 6).trans rfl
      have hfz8_0 := blk_frozen BK1015.out 0
      have hfz8_1 := blk_frozen BK1015.out 1
      have hfz8_2 := blk_frozen BK1015.out 2
      have hfz8_3 := blk_frozen BK1015.out 3
      have hfz8_4 := blk_frozen BK1015.out 4
      have hfz8_5 := blk_frozen BK1015.out 5
      have hfz8_6 := blk_frozen BK1015.out 6
      go_wp2_with (first | ((with_reducible refine gate_callee (f := 34) rfl ?_); refine goesL_ (some 18) rfl rfl Try.func34 (by kernel_rfl) rfl #[.agg #[.int .u8 a0_0, .int .i64 a0_1, .int .i64 a0_2, .int .i64 a0_3, .int .i64 a0_4, .int .i64 a0_5, .slice A0_6 l0_6.length c0_6]] rfl (by (try simp only [List.map_toArray, List.map_cons, List.map_nil]); first | done | rfl | (simp only [List.length_drop, List.length_take]; rfl)) ?_; (with_reducible refine (sashref05_Great.calls k a0_0 a0_1 a0_2 a0_3 a0_4 a0_5 _ _ l0_6 true _ ?side1 ?side2 A6.out).mono ?_); (case side1 => repeat (first | exact (Kd.C_below HR0_6.out HB.out) | (with_reducible refine Kd.C_alloc ?_ _) | (with_reducible refine Kd.C_drewN ?_ _) | (with_reducible refine Kd.C_drew ?_))); (case side2 => exact HC0_6.out); rintro e w9 ⟨rfl, hb⟩; refine ⟨_, rfl, ?_⟩; have n0_ := Aside0.mk (blk_below (g := gb1015) (o := .cells #[.int .u8 a0_0, .int .i64 a0_1, .int .i64 a0_2, .int .i64 a0_3, .int .i64 a0_4, .int .i64 a0_5, .slice A0_6 l0_6.length c0_6] 26 (0, 0)) (by (with_reducible repeat (first | refine blk_drewN ?_ _ | refine blk_drew ?_ | refine blk_alloc ?_ _)); exact BK1015.out) hb); have n1_ := Aside0.mk (below_step (by repeat (first | (with_reducible first | exact HB.out | apply below_alloc | apply pw_below_drewN | apply below_drew1 | refine below_set ?_ GE1015.out) | exact HB.out)) hb); clear BK1015; clear HB; have BK1015 := n0_; have HB := n1_; clear n0_ n1_; (try clear hb); (try clear hb2); (try clear hk); (try clear hi)))
      go_meet
      case rel => exact ⟨_, (true), (by first | rfl | (simp; done) | (simp [*]; done)), H', ⟨by first | omega | exact Nat.le_refl _⟩, ⟨by (with_reducible repeat (first | refine blk_drewN ?_ _ | refine blk_drew ?_ | refine blk_alloc ?_ _)); exact BK1015.out⟩, ⟨by repeat (first | (with_reducible first | exact HB.out | apply below_alloc | apply pw_below_drewN | apply below_drew1 | refine below_set ?_ GE1015.out) | exact HB.out)⟩⟩
    · replace c7 := Bool.eq_false_iff.mpr c7
      subst c7
      have H1 : (sashlaw05_CellFinds.j0 k a1 l2 (decide ((l2.length : Int) > 50)) a0_0 a0_1 a0_2 a0_3 a0_4 a0_5 l0_6) = some r := by rw [if_neg (show ¬ (false = true) by decide)] at H; exact H
      clear H
      have H := H1
      clear H1
      have H' := Aside0.mk H
      clear H
      have hcz10_0 : w5.cell? ⟨gb1015, 0, none⟩ = some (.int .u8 a0_0) := (blk_cell BK1015.out 0).trans rfl
      have hcz10_1 : w5.cell? ⟨gb1015, 1, none⟩ = some (.int .i64 a0_1) := (blk_cell BK1015.out 1).trans rfl
      have hcz10_2 : w5.cell? ⟨gb1015, 2, none⟩ = some (.int .i64 a0_2) := (blk_cell BK1015.out 2).trans rfl
      have hcz10_3 : w5.cell? ⟨gb1015, 3, none⟩ = some (.int .i64 a0_3) := (blk_cell BK1015.out 3).trans rfl
      have hcz10_4 : w5.cell? ⟨gb1015, 4, none⟩ = some (.int .i64 a0_4) := (blk_cell BK1015.out 4).trans rfl
      have hcz10_5 : w5.cell? ⟨gb1015, 5, none⟩ = some (.int .i64 a0_5) := (blk_cell BK1015.out 5).trans rfl
      have hcz10_6 : w5.cell? ⟨gb1015, 6, none⟩ = some (.slice A0_6 l0_6.length c0_6) := (blk_cell BK1015.out 6).trans rfl
      have hfz10_0 := blk_frozen BK1015.out 0
      have hfz10_1 := blk_frozen BK1015.out 1
      have hfz10_2 := blk_frozen BK1015.out 2
      have hfz10_3 := blk_frozen BK1015.out 3
      have hfz10_4 := blk_frozen BK1015.out 4
      have hfz10_5 := blk_frozen BK1015.out 5
      have hfz10_6 := blk_frozen BK1015.out 6
      go_wp2_with (first | ((with_reducible refine gate_callee (f := 34) rfl ?_); refine goesL_ (some 18) rfl rfl Try.func34 (by kernel_rfl) rfl #[.agg #[.int .u8 a0_0, .int .i64 a0_1, .int .i64 a0_2, .int .i64 a0_3, .int .i64 a0_4, .int .i64 a0_5, .slice A0_6 l0_6.length c0_6]] rfl (by (try simp only [List.map_toArray, List.map_cons, List.map_nil]); first | done | rfl | (simp only [List.length_drop, List.length_take]; rfl)) ?_; (with_reducible refine (sashref05_Great.calls k a0_0 a0_1 a0_2 a0_3 a0_4 a0_5 _ _ l0_6 false _ ?side1 ?side2 A6.out).mono ?_); (case side1 => repeat (first | exact (Kd.C_below HR0_6.out HB.out) | (with_reducible refine Kd.C_alloc ?_ _) | (with_reducible refine Kd.C_drewN ?_ _) | (with_reducible refine Kd.C_drew ?_))); (case side2 => exact HC0_6.out); rintro e w11 ⟨rfl, hb⟩; refine ⟨_, rfl, ?_⟩; have n0_ := Aside0.mk (blk_below (g := gb1015) (o := .cells #[.int .u8 a0_0, .int .i64 a0_1, .int .i64 a0_2, .int .i64 a0_3, .int .i64 a0_4, .int .i64 a0_5, .slice A0_6 l0_6.length c0_6] 26 (0, 0)) (by (with_reducible repeat (first | refine blk_drewN ?_ _ | refine blk_drew ?_ | refine blk_alloc ?_ _)); exact BK1015.out) hb); have n1_ := Aside0.mk (below_step (by repeat (first | (with_reducible first | exact HB.out | apply below_alloc | apply pw_below_drewN | apply below_drew1 | refine below_set ?_ GE1015.out) | exact HB.out)) hb); clear BK1015; clear HB; have BK1015 := n0_; have HB := n1_; clear n0_ n1_; (try clear hb); (try clear hb2); (try clear hk); (try clear hi)))
      go_meet
      case rel => exact ⟨_, (decide ((l2.length : Int) > 50)), (by first | rfl | (simp; done) | (simp [*]; done)), H', ⟨by first | omega | exact Nat.le_refl _⟩, ⟨by (with_reducible repeat (first | refine blk_drewN ?_ _ | refine blk_drew ?_ | refine blk_alloc ?_ _)); exact BK1015.out⟩, ⟨by repeat (first | (with_reducible first | exact HB.out | apply below_alloc | apply pw_below_drewN | apply below_drew1 | refine below_set ?_ GE1015.out) | exact HB.out)⟩⟩
  case rest =>
    clear HC4
    try clear c2
    try clear p2
    try clear c3
    try clear c7
    try clear hcz10_0
    try clear hcz10_1
    try clear hcz10_2
    try clear hcz10_3
    try clear hcz10_4
    try clear hcz10_5
    try clear hcz10_6
    try clear hcz8_0
    try clear hcz8_1
    try clear hcz8_2
    try clear hcz8_3
    try clear hcz8_4
    try clear hcz8_5
    try clear hcz8_6
    try clear hfz10_0
    try clear hfz10_1
    try clear hfz10_2
    try clear hfz10_3
    try clear hfz10_4
    try clear hfz10_5
    try clear hfz10_6
    try clear hfz8_0
    try clear hfz8_1
    try clear hfz8_2
    try clear hfz8_3
    try clear hfz8_4
    try clear hfz8_5
    try clear hfz8_6
    obtain ⟨kq, x23_3, rfl, HA, HJ3, BK1015, HB⟩ := hcut
    cases kq with
    | zero => exact absurd HA.out (by simp [sashlaw05_CellFinds.j0])
    | succ kj3 =>
      have H := HA.out
      clear HA
      simp only [sashlaw05_CellFinds.j0] at H
      by_cases c12 : x23_3 = true
      · subst c12
        have H1 : ((sashlaw05_awake.f).bind fun t1017 => (some t1017)) = some r := by rw [if_pos rfl] at H; exact H
        clear H
        have H := H1
        clear H1
        replace H := Option.bind_eq_some_iff.mp H
        obtain ⟨t1017, A130, H⟩ := H
        replace H : (some t1017) = some r := H
        have A13 := Aside0.mk A130
        clear A130
        obtain rfl := Option.some.inj H
        go_wp2_with (first | ((with_reducible refine gate_callee (f := 75) rfl ?_); refine goesL_ (some 24) rfl rfl Try.func75 (by kernel_rfl) rfl #[] rfl (by (try simp only [List.map_toArray, List.map_cons, List.map_nil]); first | done | rfl | (simp only [List.length_drop, List.length_take]; rfl)) ?_; (with_reducible refine (sashlaw05_awake.calls  t1017 _ A13.out).mono ?_); rintro e w14 ⟨rfl, hb⟩; refine ⟨_, rfl, ?_⟩; have n0_ := Aside0.mk (blk_below (g := gb1015) (o := .cells #[.int .u8 a0_0, .int .i64 a0_1, .int .i64 a0_2, .int .i64 a0_3, .int .i64 a0_4, .int .i64 a0_5, .slice A0_6 l0_6.length c0_6] 26 (0, 0)) (by (with_reducible repeat (first | refine blk_drewN ?_ _ | refine blk_drew ?_ | refine blk_alloc ?_ _)); exact BK1015.out) hb); have n1_ := Aside0.mk (below_step (by repeat (first | (with_reducible first | exact HB.out | apply below_alloc | apply pw_below_drewN | apply below_drew1 | refine below_set ?_ GE1015.out) | exact HB.out)) hb); clear BK1015; clear HB; have BK1015 := n0_; have HB := n1_; clear n0_ n1_; (try clear hb); (try clear hb2); (try clear hk); (try clear hi)))
        go_ret
        exact ⟨by first | rfl | (simp [errW_none, errW_some] <;> rfl) | (simp [*, errW_none, errW_some] <;> rfl), by repeat (first | (with_reducible first | exact HB.out | apply below_alloc | apply pw_below_drewN | apply below_drew1 | refine below_set ?_ GE1015.out) | exact HB.out)⟩
      · replace c12 := Bool.eq_false_iff.mpr c12
        subst c12
        have H1 : ((cell_Find.f a0_0 a0_1 a0_2 a0_3 a0_4 a0_5 l0_6 a1).bind fun bt1018 => ((sashref05_Find.f kj3 a0_0 a0_1 a0_2 a0_3 a0_4 a0_5 l0_6 a1).bind fun bt1022 => ((cell_At.f kj3 a0_0 a0_1 a0_2 a0_3 a0_4 a0_5 l0_6 l2).bind fun bt1026 => ((sashref05_At.f a0_0 a0_1 a0_2 a0_3 a0_4 a0_5 l0_6 l2).bind fun bt1037 => (if (bt1018.2 != bt1022.2) = true then (sashlaw05_CellFinds.j1 kj3 a1 bt1018.1 bt1018.2 true a0_0 a0_1 a0_2 a0_3 a0_4 a0_5 l0_6) else ((sashref05_Ints.f kj3 bt1018.1 bt1022.1).bind fun t1048 => (if t1048 = true then (if (bt1026.2.2.2.2.2.2.2 != bt1037.2.2.2.2.2.2.2) = true then (sashlaw05_CellFinds.j1 kj3 a1 bt1018.1 bt1018.2 true a0_0 a0_1 a0_2 a0_3 a0_4 a0_5 l0_6) else ((sashref05_Same.f kj3 bt1026.1 bt1026.2.1 bt1026.2.2.1 bt1026.2.2.2.1 bt1026.2.2.2.2.1 bt1026.2.2.2.2.2.1 bt1026.2.2.2.2.2.2.1 bt1037.1 bt1037.2.1 bt1037.2.2.1 bt1037.2.2.2.1 bt1037.2.2.2.2.1 bt1037.2.2.2.2.2.1 bt1037.2.2.2.2.2.2.1).bind fun t1049 => (sashlaw05_CellFinds.j1 kj3 a1 bt1018.1 bt1018.2 (!t1049) a0_0 a0_1 a0_2 a0_3 a0_4 a0_5 l0_6))) else (sashlaw05_CellFinds.j1 kj3 a1 bt1018.1 bt1018.2 true a0_0 a0_1 a0_2 a0_3 a0_4 a0_5 l0_6)))))))) = some r := by rw [if_neg (show ¬ (false = true) by decide)] at H; exact H
        clear H
        have H := H1
        clear H1
        replace H := Option.bind_eq_some_iff.mp H
        obtain ⟨⟨t1018, t1021⟩, A150, H⟩ := H
        replace H : ((sashref05_Find.f kj3 a0_0 a0_1 a0_2 a0_3 a0_4 a0_5 l0_6 a1).bind fun bt1022 => ((cell_At.f kj3 a0_0 a0_1 a0_2 a0_3 a0_4 a0_5 l0_6 l2).bind fun bt1026 => ((sashref05_At.f a0_0 a0_1 a0_2 a0_3 a0_4 a0_5 l0_6 l2).bind fun bt1037 => (if (t1021 != bt1022.2) = true then (sashlaw05_CellFinds.j1 kj3 a1 t1018 t1021 true a0_0 a0_1 a0_2 a0_3 a0_4 a0_5 l0_6) else ((sashref05_Ints.f kj3 t1018 bt1022.1).bind fun t1048 => (if t1048 = true then (if (bt1026.2.2.2.2.2.2.2 != bt1037.2.2.2.2.2.2.2) = true then (sashlaw05_CellFinds.j1 kj3 a1 t1018 t1021 true a0_0 a0_1 a0_2 a0_3 a0_4 a0_5 l0_6) else ((sashref05_Same.f kj3 bt1026.1 bt1026.2.1 bt1026.2.2.1 bt1026.2.2.2.1 bt1026.2.2.2.2.1 bt1026.2.2.2.2.2.1 bt1026.2.2.2.2.2.2.1 bt1037.1 bt1037.2.1 bt1037.2.2.1 bt1037.2.2.2.1 bt1037.2.2.2.2.1 bt1037.2.2.2.2.2.1 bt1037.2.2.2.2.2.2.1).bind fun t1049 => (sashlaw05_CellFinds.j1 kj3 a1 t1018 t1021 (!t1049) a0_0 a0_1 a0_2 a0_3 a0_4 a0_5 l0_6))) else (sashlaw05_CellFinds.j1 kj3 a1 t1018 t1021 true a0_0 a0_1 a0_2 a0_3 a0_4 a0_5 l0_6))))))) = some r := H
        have A15 := Aside0.mk A150
        clear A150
        replace H := Option.bind_eq_some_iff.mp H
        obtain ⟨⟨t1022, t1025⟩, A160, H⟩ := H
        replace H : ((cell_At.f kj3 a0_0 a0_1 a0_2 a0_3 a0_4 a0_5 l0_6 l2).bind fun bt1026 => ((sashref05_At.f a0_0 a0_1 a0_2 a0_3 a0_4 a0_5 l0_6 l2).bind fun bt1037 => (if (t1021 != t1025) = true then (sashlaw05_CellFinds.j1 kj3 a1 t1018 t1021 true a0_0 a0_1 a0_2 a0_3 a0_4 a0_5 l0_6) else ((sashref05_Ints.f kj3 t1018 t1022).bind fun t1048 => (if t1048 = true then (if (bt1026.2.2.2.2.2.2.2 != bt1037.2.2.2.2.2.2.2) = true then (sashlaw05_CellFinds.j1 kj3 a1 t1018 t1021 true a0_0 a0_1 a0_2 a0_3 a0_4 a0_5 l0_6) else ((sashref05_Same.f kj3 bt1026.1 bt1026.2.1 bt1026.2.2.1 bt1026.2.2.2.1 bt1026.2.2.2.2.1 bt1026.2.2.2.2.2.1 bt1026.2.2.2.2.2.2.1 bt1037.1 bt1037.2.1 bt1037.2.2.1 bt1037.2.2.2.1 bt1037.2.2.2.2.1 bt1037.2.2.2.2.2.1 bt1037.2.2.2.2.2.2.1).bind fun t1049 => (sashlaw05_CellFinds.j1 kj3 a1 t1018 t1021 (!t1049) a0_0 a0_1 a0_2 a0_3 a0_4 a0_5 l0_6))) else (sashlaw05_CellFinds.j1 kj3 a1 t1018 t1021 true a0_0 a0_1 a0_2 a0_3 a0_4 a0_5 l0_6)))))) = some r := H
        have A16 := Aside0.mk A160
        clear A160
        replace H := Option.bind_eq_some_iff.mp H
        obtain ⟨⟨t1026, t1027, t1028, t1029, t1030, t1031, t1032, t1035⟩, A170, H⟩ := H
        replace H : ((sashref05_At.f a0_0 a0_1 a0_2 a0_3 a0_4 a0_5 l0_6 l2).bind fun bt1037 => (if (t1021 != t1025) = true then (sashlaw05_CellFinds.j1 kj3 a1 t1018 t1021 true a0_0 a0_1 a0_2 a0_3 a0_4 a0_5 l0_6) else ((sashref05_Ints.f kj3 t1018 t1022).bind fun t1048 => (if t1048 = true then (if (t1035 != bt1037.2.2.2.2.2.2.2) = true then (sashlaw05_CellFinds.j1 kj3 a1 t1018 t1021 true a0_0 a0_1 a0_2 a0_3 a0_4 a0_5 l0_6) else ((sashref05_Same.f kj3 t1026 t1027 t1028 t1029 t1030 t1031 t1032 bt1037.1 bt1037.2.1 bt1037.2.2.1 bt1037.2.2.2.1 bt1037.2.2.2.2.1 bt1037.2.2.2.2.2.1 bt1037.2.2.2.2.2.2.1).bind fun t1049 => (sashlaw05_CellFinds.j1 kj3 a1 t1018 t1021 (!t1049) a0_0 a0_1 a0_2 a0_3 a0_4 a0_5 l0_6))) else (sashlaw05_CellFinds.j1 kj3 a1 t1018 t1021 true a0_0 a0_1 a0_2 a0_3 a0_4 a0_5 l0_6))))) = some r := H
        have A17 := Aside0.mk A170
        clear A170
        replace H := Option.bind_eq_some_iff.mp H
        obtain ⟨⟨t1037, t1038, t1039, t1040, t1041, t1042, t1043, t1046⟩, A180, H⟩ := H
        replace H : (if (t1021 != t1025) = true then (sashlaw05_CellFinds.j1 kj3 a1 t1018 t1021 true a0_0 a0_1 a0_2 a0_3 a0_4 a0_5 l0_6) else ((sashref05_Ints.f kj3 t1018 t1022).bind fun t1048 => (if t1048 = true then (if (t1035 != t1046) = true then (sashlaw05_CellFinds.j1 kj3 a1 t1018 t1021 true a0_0 a0_1 a0_2 a0_3 a0_4 a0_5 l0_6) else ((sashref05_Same.f kj3 t1026 t1027 t1028 t1029 t1030 t1031 t1032 t1037 t1038 t1039 t1040 t1041 t1042 t1043).bind fun t1049 => (sashlaw05_CellFinds.j1 kj3 a1 t1018 t1021 (!t1049) a0_0 a0_1 a0_2 a0_3 a0_4 a0_5 l0_6))) else (sashlaw05_CellFinds.j1 kj3 a1 t1018 t1021 true a0_0 a0_1 a0_2 a0_3 a0_4 a0_5 l0_6)))) = some r := H
        have A18 := Aside0.mk A180
        clear A180
        have HC19 := Aside0.mk H
        clear H
        have hcz20_0 : wc.cell? ⟨gb1015, 0, none⟩ = some (.int .u8 a0_0) := (blk_cell BK1015.out 0).trans rfl
        have hcz20_1 : wc.cell? ⟨gb1015, 1, none⟩ = some (.int .i64 a0_1) := (blk_cell BK1015.out 1).trans rfl
        have hcz20_2 : wc.cell? ⟨gb1015, 2, none⟩ = some (.int .i64 a0_2) := (blk_cell BK1015.out 2).trans rfl
        have hcz20_3 : wc.cell? ⟨gb1015, 3, none⟩ = some (.int .i64 a0_3) := (blk_cell BK1015.out 3).trans rfl
        have hcz20_4 : wc.cell? ⟨gb1015, 4, none⟩ = some (.int .i64 a0_4) := (blk_cell BK1015.out 4).trans rfl
        have hcz20_5 : wc.cell? ⟨gb1015, 5, none⟩ = some (.int .i64 a0_5) := (blk_cell BK1015.out 5).trans rfl
        have hcz20_6 : wc.cell? ⟨gb1015, 6, none⟩ = some (.slice A0_6 l0_6.length c0_6) := (blk_cell BK1015.out 6).trans rfl
        have hfz20_0 := blk_frozen BK1015.out 0
        have hfz20_1 := blk_frozen BK1015.out 1
        have hfz20_2 := blk_frozen BK1015.out 2
        have hfz20_3 := blk_frozen BK1015.out 3
        have hfz20_4 := blk_frozen BK1015.out 4
        have hfz20_5 := blk_frozen BK1015.out 5
        have hfz20_6 := blk_frozen BK1015.out 6
        go_upto_region 7 with (first | ((with_reducible refine gate_callee (f := 89) rfl ?_); refine goesL_ (some 28) rfl rfl Try.func89 (by kernel_rfl) rfl #[.agg #[.int .u8 a0_0, .int .i64 a0_1, .int .i64 a0_2, .int .i64 a0_3, .int .i64 a0_4, .int .i64 a0_5, .slice A0_6 l0_6.length c0_6], .int .i64 a1] rfl (by (try simp only [List.map_toArray, List.map_cons, List.map_nil]); first | done | rfl | (simp only [List.length_drop, List.length_take]; rfl)) ?_; (with_reducible refine (cell_Find.calls a0_0 a0_1 a0_2 a0_3 a0_4 a0_5 _ _ l0_6 a1 t1018 t1021 _ ?side1 ?side2 A15.out).mono ?_); (case side1 => repeat (first | exact (Kd.C_below HR0_6.out HB.out) | (with_reducible refine Kd.C_alloc ?_ _) | (with_reducible refine Kd.C_drewN ?_ _) | (with_reducible refine Kd.C_drew ?_))); (case side2 => exact HC0_6.out); rintro e w21 ⟨v1019, rfl, ho0, hb⟩; refine ⟨_, rfl, ?_⟩; have n0_ := Aside0.mk (Kd.R_lower ho0 (below_size (by repeat (first | (with_reducible first | exact HB.out | apply below_alloc | apply pw_below_drewN | apply below_drew1 | refine below_set ?_ GE1015.out) | exact HB.out)))); have n1_ := Aside0.mk (blk_below (g := gb1015) (o := .cells #[.int .u8 a0_0, .int .i64 a0_1, .int .i64 a0_2, .int .i64 a0_3, .int .i64 a0_4, .int .i64 a0_5, .slice A0_6 l0_6.length c0_6] 26 (0, 0)) (by (with_reducible repeat (first | refine blk_drewN ?_ _ | refine blk_drew ?_ | refine blk_alloc ?_ _)); exact BK1015.out) hb); have n2_ := Aside0.mk (below_step (by repeat (first | (with_reducible first | exact HB.out | apply below_alloc | apply pw_below_drewN | apply below_drew1 | refine below_set ?_ GE1015.out) | exact HB.out)) hb); clear BK1015; clear HB; have HO1020 := n0_; have BK1015 := n1_; have HB := n2_; clear n0_ n1_ n2_; (try clear hb); (try clear hb2); (try clear hk); (try clear hi); (try clear ho0); have hcz22_0 : w21.cell? ⟨gb1015, 0, none⟩ = some (.int .u8 a0_0) := (blk_cell BK1015.out 0).trans rfl; have hcz22_1 : w21.cell? ⟨gb1015, 1, none⟩ = some (.int .i64 a0_1) := (blk_cell BK1015.out 1).trans rfl; have hcz22_2 : w21.cell? ⟨gb1015, 2, none⟩ = some (.int .i64 a0_2) := (blk_cell BK1015.out 2).trans rfl; have hcz22_3 : w21.cell? ⟨gb1015, 3, none⟩ = some (.int .i64 a0_3) := (blk_cell BK1015.out 3).trans rfl; have hcz22_4 : w21.cell? ⟨gb1015, 4, none⟩ = some (.int .i64 a0_4) := (blk_cell BK1015.out 4).trans rfl; have hcz22_5 : w21.cell? ⟨gb1015, 5, none⟩ = some (.int .i64 a0_5) := (blk_cell BK1015.out 5).trans rfl; have hcz22_6 : w21.cell? ⟨gb1015, 6, none⟩ = some (.slice A0_6 l0_6.length c0_6) := (blk_cell BK1015.out 6).trans rfl; have hfz22_0 := blk_frozen BK1015.out 0; have hfz22_1 := blk_frozen BK1015.out 1; have hfz22_2 := blk_frozen BK1015.out 2; have hfz22_3 := blk_frozen BK1015.out 3; have hfz22_4 := blk_frozen BK1015.out 4; have hfz22_5 := blk_frozen BK1015.out 5; have hfz22_6 := blk_frozen BK1015.out 6) | ((with_reducible refine gate_callee (f := 90) rfl ?_); refine goesL_ (some 34) rfl rfl Try.func90 (by kernel_rfl) rfl #[.agg #[.int .u8 a0_0, .int .i64 a0_1, .int .i64 a0_2, .int .i64 a0_3, .int .i64 a0_4, .int .i64 a0_5, .slice A0_6 l0_6.length c0_6], .int .i64 a1] rfl (by (try simp only [List.map_toArray, List.map_cons, List.map_nil]); first | done | rfl | (simp only [List.length_drop, List.length_take]; rfl)) ?_; (with_reducible refine (sashref05_Find.calls kj3 a0_0 a0_1 a0_2 a0_3 a0_4 a0_5 _ _ l0_6 a1 t1022 t1025 _ ?side1 ?side2 A16.out).mono ?_); (case side1 => repeat (first | exact (Kd.C_below HR0_6.out HB.out) | (with_reducible refine Kd.C_alloc ?_ _) | (with_reducible refine Kd.C_drewN ?_ _) | (with_reducible refine Kd.C_drew ?_))); (case side2 => exact HC0_6.out); rintro e w23 ⟨v1023, rfl, ho0, hb⟩; refine ⟨_, rfl, ?_⟩; have n0_ := Aside0.mk (Kd.R_elder' (by (with_reducible repeat (first | apply Kd.R_alloc | apply Kd.R_drewN | apply Kd.R_drew)); exact HO1020.out) (Kd.R_base ho0) hb); have n1_ := Aside0.mk (Kd.R_lower (Kd.R_new' ho0 (Kd.R_lt (by (with_reducible repeat (first | apply Kd.R_alloc | apply Kd.R_drewN | apply Kd.R_drew)); exact HO1020.out))) (below_size (by repeat (first | (with_reducible first | exact HB.out | apply below_alloc | apply pw_below_drewN | apply below_drew1 | refine below_set ?_ GE1015.out) | exact HB.out)))); have n2_ := Aside0.mk (blk_below (g := gb1015) (o := .cells #[.int .u8 a0_0, .int .i64 a0_1, .int .i64 a0_2, .int .i64 a0_3, .int .i64 a0_4, .int .i64 a0_5, .slice A0_6 l0_6.length c0_6] 26 (0, 0)) (by (with_reducible repeat (first | refine blk_drewN ?_ _ | refine blk_drew ?_ | refine blk_alloc ?_ _)); exact BK1015.out) hb); have n3_ := Aside0.mk (below_step (by repeat (first | (with_reducible first | exact HB.out | apply below_alloc | apply pw_below_drewN | apply below_drew1 | refine below_set ?_ GE1015.out) | exact HB.out)) hb); clear HO1020; clear BK1015; clear HB; have HO1020 := n0_; have HO1024 := n1_; have BK1015 := n2_; have HB := n3_; clear n0_ n1_ n2_ n3_; (try clear hb); (try clear hb2); (try clear hk); (try clear hi); (try clear ho0); have hcz24_0 : w23.cell? ⟨gb1015, 0, none⟩ = some (.int .u8 a0_0) := (blk_cell BK1015.out 0).trans rfl; have hcz24_1 : w23.cell? ⟨gb1015, 1, none⟩ = some (.int .i64 a0_1) := (blk_cell BK1015.out 1).trans rfl; have hcz24_2 : w23.cell? ⟨gb1015, 2, none⟩ = some (.int .i64 a0_2) := (blk_cell BK1015.out 2).trans rfl; have hcz24_3 : w23.cell? ⟨gb1015, 3, none⟩ = some (.int .i64 a0_3) := (blk_cell BK1015.out 3).trans rfl; have hcz24_4 : w23.cell? ⟨gb1015, 4, none⟩ = some (.int .i64 a0_4) := (blk_cell BK1015.out 4).trans rfl; have hcz24_5 : w23.cell? ⟨gb1015, 5, none⟩ = some (.int .i64 a0_5) := (blk_cell BK1015.out 5).trans rfl; have hcz24_6 : w23.cell? ⟨gb1015, 6, none⟩ = some (.slice A0_6 l0_6.length c0_6) := (blk_cell BK1015.out 6).trans rfl; have hfz24_0 := blk_frozen BK1015.out 0; have hfz24_1 := blk_frozen BK1015.out 1; have hfz24_2 := blk_frozen BK1015.out 2; have hfz24_3 := blk_frozen BK1015.out 3; have hfz24_4 := blk_frozen BK1015.out 4; have hfz24_5 := blk_frozen BK1015.out 5; have hfz24_6 := blk_frozen BK1015.out 6) | ((with_reducible refine gate_callee (f := 91) rfl ?_); refine goesL_ (some 40) rfl rfl Try.func91 (by kernel_rfl) rfl #[.agg #[.int .u8 a0_0, .int .i64 a0_1, .int .i64 a0_2, .int .i64 a0_3, .int .i64 a0_4, .int .i64 a0_5, .slice A0_6 l0_6.length c0_6], .slice A2 l2.length c2] rfl (by (try simp only [List.map_toArray, List.map_cons, List.map_nil]); first | done | rfl | (simp only [List.length_drop, List.length_take]; rfl)) ?_; (with_reducible refine (cell_At.calls kj3 a0_0 a0_1 a0_2 a0_3 a0_4 a0_5 (fun k_ => k_ < w.heap.size) _ _ l0_6 _ _ l2 t1026 t1027 t1028 t1029 t1030 t1031 t1032 t1035 _ ?side1 ?side2 ?side3 A17.out).mono ?_); (case side1 => exact Kd.V_mk HC0_6.out (Kd.F_below (Kd.C_F k26_heap HR0_6.out) (by repeat (first | (with_reducible first | exact HB.out | apply below_alloc | apply pw_below_drewN | apply below_drew1 | refine below_set ?_ GE1015.out) | exact HB.out)))); (case side2 => repeat (first | exact (Kd.C_below HR2.out HB.out) | (with_reducible refine Kd.C_alloc ?_ _) | (with_reducible refine Kd.C_drewN ?_ _) | (with_reducible refine Kd.C_drew ?_))); (case side3 => exact HC2.out); rintro e w25 ⟨v1033, rfl, ho0, hb⟩; refine ⟨_, rfl, ?_⟩; have n0_ := Aside0.mk (Kd.R_below (by (with_reducible repeat (first | apply Kd.R_alloc | apply Kd.R_drewN | apply Kd.R_drew)); exact HO1020.out) hb); have n1_ := Aside0.mk (Kd.R_below (by (with_reducible repeat (first | apply Kd.R_alloc | apply Kd.R_drewN | apply Kd.R_drew)); exact HO1024.out) hb); have n2_ := Aside0.mk (Kd.N_lower (Kd.N_mono (ok' := fun k_ => some k_ ≠ (v1019 : Value).ownBlock ∧ some k_ ≠ (v1023 : Value).ownBlock ∧ k_ ≠ gb1015) ho0 (fun k_ hk_ => ⟨Or.elim hk_ (fun hs_ => fun e_ => Nat.not_le.2 hs_ (Kd.R_base HO1020.out k_ e_.symm)) (fun hn_ => (Kd.fresh' (Kd.R_lt (by (with_reducible repeat (first | apply Kd.R_alloc | apply Kd.R_drewN | apply Kd.R_drew)); exact HO1020.out)) k_ hn_)), Or.elim hk_ (fun hs_ => fun e_ => Nat.not_le.2 hs_ (Kd.R_base HO1024.out k_ e_.symm)) (fun hn_ => (Kd.fresh' (Kd.R_lt (by (with_reducible repeat (first | apply Kd.R_alloc | apply Kd.R_drewN | apply Kd.R_drew)); exact HO1024.out)) k_ hn_)), Or.elim hk_ (fun hs_ => fun e_ => Nat.not_le.2 hs_ (by rw [e_]; exact GW1015.out)) (fun hn_ => (Kd.freshB (g := gb1015) (o := .cells #[.int .u8 a0_0, .int .i64 a0_1, .int .i64 a0_2, .int .i64 a0_3, .int .i64 a0_4, .int .i64 a0_5, .slice A0_6 l0_6.length c0_6] 26 (0, 0)) (by (with_reducible repeat (first | refine blk_drewN ?_ _ | refine blk_drew ?_ | refine blk_alloc ?_ _)); exact BK1015.out) k_ hn_))⟩)) (below_size (by repeat (first | (with_reducible first | exact HB.out | apply below_alloc | apply pw_below_drewN | apply below_drew1 | refine below_set ?_ GE1015.out) | exact HB.out)))); have n3_ := Aside0.mk (blk_below (g := gb1015) (o := .cells #[.int .u8 a0_0, .int .i64 a0_1, .int .i64 a0_2, .int .i64 a0_3, .int .i64 a0_4, .int .i64 a0_5, .slice A0_6 l0_6.length c0_6] 26 (0, 0)) (by (with_reducible repeat (first | refine blk_drewN ?_ _ | refine blk_drew ?_ | refine blk_alloc ?_ _)); exact BK1015.out) hb); have n4_ := Aside0.mk (below_step (by repeat (first | (with_reducible first | exact HB.out | apply below_alloc | apply pw_below_drewN | apply below_drew1 | refine below_set ?_ GE1015.out) | exact HB.out)) hb); clear HO1020; clear HO1024; clear BK1015; clear HB; have HO1020 := n0_; have HO1024 := n1_; have HO1034 := n2_; have BK1015 := n3_; have HB := n4_; clear n0_ n1_ n2_ n3_ n4_; (try clear hb); (try clear hb2); (try clear hk); (try clear hi); (try clear ho0)) | ((with_reducible refine gate_dst (N := 11) rfl ?_); (try (refine gate_guard (by rfl) ?_; dsimp only)); refine box_event ?hg (N := 11) ?hd (cs := #[.int .u8 0, .int .i64 0, .int .i64 0, .int .i64 0, .int .i64 0, .int .i64 0, .slice none 0 0]) (t := 26) ?hr ?_; (case hd => rfl); (case hg => rfl); (case hr => first | (go_simp; done) | (go_simp; rfl)); intro gb1036 hg w26 hbox hb; have n0_ := Aside0.mk (Kd.R_below (by (with_reducible repeat (first | apply Kd.R_alloc | apply Kd.R_drewN | apply Kd.R_drew)); exact HO1020.out) hb); have n1_ := Aside0.mk (Kd.R_below (by (with_reducible repeat (first | apply Kd.R_alloc | apply Kd.R_drewN | apply Kd.R_drew)); exact HO1024.out) hb); have n2_ := Aside0.mk (Kd.N_below (Kd.N_elderB (by (with_reducible repeat (first | apply Kd.N_alloc | apply Kd.N_drewN | apply Kd.N_drew)); exact HO1034.out) gb1036 (Nat.le_of_eq hg.symm)) hb); have n3_ := Aside0.mk (blk_below (g := gb1015) (o := .cells #[.int .u8 a0_0, .int .i64 a0_1, .int .i64 a0_2, .int .i64 a0_3, .int .i64 a0_4, .int .i64 a0_5, .slice A0_6 l0_6.length c0_6] 26 (0, 0)) (by (with_reducible repeat (first | refine blk_drewN ?_ _ | refine blk_drew ?_ | refine blk_alloc ?_ _)); exact BK1015.out) hb); have n4_ := Aside0.mk (below_step (by repeat (first | (with_reducible first | exact HB.out | apply below_alloc | apply pw_below_drewN | apply below_drew1 | refine below_set ?_ GE1015.out) | exact HB.out)) hb); have n5_ := Aside0.mk (hbox); have n6_ := Aside0.mk ((by rw [hg]; exact (below_size (by repeat (first | (with_reducible first | exact HB.out | apply below_alloc | apply pw_below_drewN | apply below_drew1 | refine below_set ?_ GE1015.out) | exact HB.out))) : w.heap.size ≤ gb1036)); have n7_ := Aside0.mk ((by rw [hg]; exact (below_size (by repeat (first | (with_reducible first | exact HB.out | apply below_alloc | apply pw_below_drewN | apply below_drew1 | refine below_set ?_ GE1015.out) | exact HB.out))) : w.heap.size ≤ gb1036)); have n8_ := Aside0.mk ((by rw [hg]; exact Nat.ne_of_lt (blk_lt (g := gb1015) (o := .cells #[.int .u8 a0_0, .int .i64 a0_1, .int .i64 a0_2, .int .i64 a0_3, .int .i64 a0_4, .int .i64 a0_5, .slice A0_6 l0_6.length c0_6] 26 (0, 0)) (by (with_reducible repeat (first | refine blk_drewN ?_ _ | refine blk_drew ?_ | refine blk_alloc ?_ _)); exact BK1015.out)) : gb1015 ≠ gb1036)); have n9_ := Aside0.mk ((by rw [hg]; exact Nat.ne_of_gt (blk_lt (g := gb1015) (o := .cells #[.int .u8 a0_0, .int .i64 a0_1, .int .i64 a0_2, .int .i64 a0_3, .int .i64 a0_4, .int .i64 a0_5, .slice A0_6 l0_6.length c0_6] 26 (0, 0)) (by (with_reducible repeat (first | refine blk_drewN ?_ _ | refine blk_drew ?_ | refine blk_alloc ?_ _)); exact BK1015.out)) : gb1036 ≠ gb1015)); clear HO1020; clear HO1024; clear HO1034; clear BK1015; clear HB; have HO1020 := n0_; have HO1024 := n1_; have HO1034 := n2_; have BK1015 := n3_; have HB := n4_; have BK1036 := n5_; have GW1036 := n6_; have GE1036 := n7_; have NB1015_1036 := n8_; have NB1036_1015 := n9_; clear n0_ n1_ n2_ n3_ n4_ n5_ n6_ n7_ n8_ n9_; clear hb hbox hg; have hnb27 := NB1036_1015.out; have hnc27 := NB1015_1036.out; have hcz28_0 : w26.cell? ⟨gb1036, 0, none⟩ = some (.int .u8 0) := (blk_cell BK1036.out 0).trans rfl; have hcz28_1 : w26.cell? ⟨gb1036, 1, none⟩ = some (.int .i64 0) := (blk_cell BK1036.out 1).trans rfl; have hcz28_2 : w26.cell? ⟨gb1036, 2, none⟩ = some (.int .i64 0) := (blk_cell BK1036.out 2).trans rfl; have hcz28_3 : w26.cell? ⟨gb1036, 3, none⟩ = some (.int .i64 0) := (blk_cell BK1036.out 3).trans rfl; have hcz28_4 : w26.cell? ⟨gb1036, 4, none⟩ = some (.int .i64 0) := (blk_cell BK1036.out 4).trans rfl; have hcz28_5 : w26.cell? ⟨gb1036, 5, none⟩ = some (.int .i64 0) := (blk_cell BK1036.out 5).trans rfl; have hcz28_6 : w26.cell? ⟨gb1036, 6, none⟩ = some (.slice none 0 0) := (blk_cell BK1036.out 6).trans rfl; have hfz28_0 := blk_frozen BK1036.out 0; have hfz28_1 := blk_frozen BK1036.out 1; have hfz28_2 := blk_frozen BK1036.out 2; have hfz28_3 := blk_frozen BK1036.out 3; have hfz28_4 := blk_frozen BK1036.out 4; have hfz28_5 := blk_frozen BK1036.out 5; have hfz28_6 := blk_frozen BK1036.out 6; obtain ⟨Ao29, co29, eo29⟩ := Kd.N_slice HO1034.out; subst eo29) | ((with_reducible refine gate_store (t := 26) (p := 11) rfl ?_); refine store_event (t := 26) (p := 11) (v := ?vo_w30) (w1 := (((((((w26.setCell ⟨gb1036, 0, none⟩ (.int .u8 t1026)).setCell ⟨gb1036, 1, none⟩ (.int .i64 t1027)).setCell ⟨gb1036, 2, none⟩ (.int .i64 t1028)).setCell ⟨gb1036, 3, none⟩ (.int .i64 t1029)).setCell ⟨gb1036, 4, none⟩ (.int .i64 t1030)).setCell ⟨gb1036, 5, none⟩ (.int .i64 t1031)).setCell ⟨gb1036, 6, none⟩ (.slice Ao29 t1032.length co29))) ?hg ?ho ?hn ?hr ?_; (case ho => rfl); (case hg => rfl); (case hn => rfl); (case hr => first | (go_simp; done) | (go_simp; rfl)); intro w30 hw; have n0_ : Aside0 (Kd.R (Kd.int .i64) 3 w30 w.heap.size (fun k_ => some k_ ≠ (v1023 : Value).ownBlock) v1019 t1018) := ⟨(by rw [hw]; exact (by (with_reducible repeat (first | apply Kd.R_alloc | apply Kd.R_drewN | apply Kd.R_drew)); exact Kd.R_mono (Kd.R_far (p := ⟨gb1036, 6, none⟩) (Kd.R_far (p := ⟨gb1036, 5, none⟩) (Kd.R_far (p := ⟨gb1036, 4, none⟩) (Kd.R_far (p := ⟨gb1036, 3, none⟩) (Kd.R_far (p := ⟨gb1036, 2, none⟩) (Kd.R_far (p := ⟨gb1036, 1, none⟩) (Kd.R_far (p := ⟨gb1036, 0, none⟩) (Kd.R_types HO1020.out BK1036.out (by decide)) (fun _ hk => hk.2) (.int .u8 t1026)) (fun _ hk => hk.2) (.int .i64 t1027)) (fun _ hk => hk.2) (.int .i64 t1028)) (fun _ hk => hk.2) (.int .i64 t1029)) (fun _ hk => hk.2) (.int .i64 t1030)) (fun _ hk => hk.2) (.int .i64 t1031)) (fun _ hk => hk.2) (.slice Ao29 t1032.length co29)) (fun _ hk => hk.1.2)))⟩; have n1_ : Aside0 (Kd.R (Kd.int .i64) 3 w30 w.heap.size (fun k_ => some k_ ≠ (v1019 : Value).ownBlock) v1023 t1022) := ⟨(by rw [hw]; exact (by (with_reducible repeat (first | apply Kd.R_alloc | apply Kd.R_drewN | apply Kd.R_drew)); exact Kd.R_mono (Kd.R_far (p := ⟨gb1036, 6, none⟩) (Kd.R_far (p := ⟨gb1036, 5, none⟩) (Kd.R_far (p := ⟨gb1036, 4, none⟩) (Kd.R_far (p := ⟨gb1036, 3, none⟩) (Kd.R_far (p := ⟨gb1036, 2, none⟩) (Kd.R_far (p := ⟨gb1036, 1, none⟩) (Kd.R_far (p := ⟨gb1036, 0, none⟩) (Kd.R_types HO1024.out BK1036.out (by decide)) (fun _ hk => hk.2) (.int .u8 t1026)) (fun _ hk => hk.2) (.int .i64 t1027)) (fun _ hk => hk.2) (.int .i64 t1028)) (fun _ hk => hk.2) (.int .i64 t1029)) (fun _ hk => hk.2) (.int .i64 t1030)) (fun _ hk => hk.2) (.int .i64 t1031)) (fun _ hk => hk.2) (.slice Ao29 t1032.length co29)) (fun _ hk => hk.1.2)))⟩; have n2_ : Aside0 (Kd.N k26 26 w30 w.heap.size (fun k_ => some k_ ≠ (v1019 : Value).ownBlock ∧ some k_ ≠ (v1023 : Value).ownBlock ∧ k_ ≠ gb1015 ∧ k_ ≠ gb1036) (.slice Ao29 t1032.length co29) t1032) := ⟨(by rw [hw]; exact (by (with_reducible repeat (first | apply Kd.N_alloc | apply Kd.N_drewN | apply Kd.N_drew)); exact Kd.N_mono (Kd.N_far (p := ⟨gb1036, 6, none⟩) (Kd.N_far (p := ⟨gb1036, 5, none⟩) (Kd.N_far (p := ⟨gb1036, 4, none⟩) (Kd.N_far (p := ⟨gb1036, 3, none⟩) (Kd.N_far (p := ⟨gb1036, 2, none⟩) (Kd.N_far (p := ⟨gb1036, 1, none⟩) (Kd.N_far (p := ⟨gb1036, 0, none⟩) (Kd.N_mono HO1034.out (fun k_ hk => (⟨hk, hk.2⟩ : _ ∧ k_ ≠ gb1036))) (fun _ hk => hk.2) (.int .u8 t1026)) (fun _ hk => hk.2) (.int .i64 t1027)) (fun _ hk => hk.2) (.int .i64 t1028)) (fun _ hk => hk.2) (.int .i64 t1029)) (fun _ hk => hk.2) (.int .i64 t1030)) (fun _ hk => hk.2) (.int .i64 t1031)) (fun _ hk => hk.2) (.slice Ao29 t1032.length co29)) (fun _ hk => ⟨hk.1.1.1, ⟨hk.1.1.2.1, ⟨hk.1.1.2.2, hk.1.2⟩⟩⟩)))⟩; have n3_ : Aside0 (w30.heap[gb1015]? = some (.cells #[.int .u8 a0_0, .int .i64 a0_1, .int .i64 a0_2, .int .i64 a0_3, .int .i64 a0_4, .int .i64 a0_5, .slice A0_6 l0_6.length c0_6] 26 (0, 0))) := ⟨(by rw [hw]; exact (by (with_reducible repeat (first | refine blk_drewN ?_ _ | refine blk_drew ?_ | refine blk_alloc ?_ _)); refine blk_far ?_ NB1015_1036.out _; (with_reducible repeat (first | refine blk_drewN ?_ _ | refine blk_drew ?_ | refine blk_alloc ?_ _)); refine blk_far ?_ NB1015_1036.out _; (with_reducible repeat (first | refine blk_drewN ?_ _ | refine blk_drew ?_ | refine blk_alloc ?_ _)); refine blk_far ?_ NB1015_1036.out _; (with_reducible repeat (first | refine blk_drewN ?_ _ | refine blk_drew ?_ | refine blk_alloc ?_ _)); refine blk_far ?_ NB1015_1036.out _; (with_reducible repeat (first | refine blk_drewN ?_ _ | refine blk_drew ?_ | refine blk_alloc ?_ _)); refine blk_far ?_ NB1015_1036.out _; (with_reducible repeat (first | refine blk_drewN ?_ _ | refine blk_drew ?_ | refine blk_alloc ?_ _)); refine blk_far ?_ NB1015_1036.out _; (with_reducible repeat (first | refine blk_drewN ?_ _ | refine blk_drew ?_ | refine blk_alloc ?_ _)); refine blk_far ?_ NB1015_1036.out _; (with_reducible repeat (first | refine blk_drewN ?_ _ | refine blk_drew ?_ | refine blk_alloc ?_ _)); exact BK1015.out))⟩; have n4_ : Aside0 (w30.heap[gb1036]? = some (.cells #[.int .u8 t1026, .int .i64 t1027, .int .i64 t1028, .int .i64 t1029, .int .i64 t1030, .int .i64 t1031, .slice Ao29 t1032.length co29] 26 (0, 0))) := ⟨(by rw [hw]; exact (by (with_reducible repeat (first | refine blk_drewN ?_ _ | refine blk_drew ?_ | refine blk_alloc ?_ _)); refine blk_put (cs := #[.int .u8 t1026, .int .i64 t1027, .int .i64 t1028, .int .i64 t1029, .int .i64 t1030, .int .i64 t1031, .slice none 0 0]) ?_ 6 _ rfl; (with_reducible repeat (first | refine blk_drewN ?_ _ | refine blk_drew ?_ | refine blk_alloc ?_ _)); refine blk_put (cs := #[.int .u8 t1026, .int .i64 t1027, .int .i64 t1028, .int .i64 t1029, .int .i64 t1030, .int .i64 0, .slice none 0 0]) ?_ 5 _ rfl; (with_reducible repeat (first | refine blk_drewN ?_ _ | refine blk_drew ?_ | refine blk_alloc ?_ _)); refine blk_put (cs := #[.int .u8 t1026, .int .i64 t1027, .int .i64 t1028, .int .i64 t1029, .int .i64 0, .int .i64 0, .slice none 0 0]) ?_ 4 _ rfl; (with_reducible repeat (first | refine blk_drewN ?_ _ | refine blk_drew ?_ | refine blk_alloc ?_ _)); refine blk_put (cs := #[.int .u8 t1026, .int .i64 t1027, .int .i64 t1028, .int .i64 0, .int .i64 0, .int .i64 0, .slice none 0 0]) ?_ 3 _ rfl; (with_reducible repeat (first | refine blk_drewN ?_ _ | refine blk_drew ?_ | refine blk_alloc ?_ _)); refine blk_put (cs := #[.int .u8 t1026, .int .i64 t1027, .int .i64 0, .int .i64 0, .int .i64 0, .int .i64 0, .slice none 0 0]) ?_ 2 _ rfl; (with_reducible repeat (first | refine blk_drewN ?_ _ | refine blk_drew ?_ | refine blk_alloc ?_ _)); refine blk_put (cs := #[.int .u8 t1026, .int .i64 0, .int .i64 0, .int .i64 0, .int .i64 0, .int .i64 0, .slice none 0 0]) ?_ 1 _ rfl; (with_reducible repeat (first | refine blk_drewN ?_ _ | refine blk_drew ?_ | refine blk_alloc ?_ _)); refine blk_put (cs := #[.int .u8 0, .int .i64 0, .int .i64 0, .int .i64 0, .int .i64 0, .int .i64 0, .slice none 0 0]) ?_ 0 _ rfl; (with_reducible repeat (first | refine blk_drewN ?_ _ | refine blk_drew ?_ | refine blk_alloc ?_ _)); exact BK1036.out))⟩; have n5_ : Aside0 (Below w.heap.size w w30) := ⟨(by rw [hw]; exact (by repeat (first | (with_reducible first | exact HB.out | apply below_alloc | apply pw_below_drewN | apply below_drew1 | refine below_set ?_ GE1015.out | refine below_set ?_ GE1036.out) | exact HB.out)))⟩; clear hw; clear HO1020; clear HO1024; clear HO1034; clear BK1015; clear BK1036; clear HB; have HO1020 := n0_; have HO1024 := n1_; have HO1034 := n2_; have BK1015 := n3_; have BK1036 := n4_; have HB := n5_; clear n0_ n1_ n2_ n3_ n4_ n5_; have hcz31_0 : w30.cell? ⟨gb1015, 0, none⟩ = some (.int .u8 a0_0) := (blk_cell BK1015.out 0).trans rfl; have hcz31_1 : w30.cell? ⟨gb1015, 1, none⟩ = some (.int .i64 a0_1) := (blk_cell BK1015.out 1).trans rfl; have hcz31_2 : w30.cell? ⟨gb1015, 2, none⟩ = some (.int .i64 a0_2) := (blk_cell BK1015.out 2).trans rfl; have hcz31_3 : w30.cell? ⟨gb1015, 3, none⟩ = some (.int .i64 a0_3) := (blk_cell BK1015.out 3).trans rfl; have hcz31_4 : w30.cell? ⟨gb1015, 4, none⟩ = some (.int .i64 a0_4) := (blk_cell BK1015.out 4).trans rfl; have hcz31_5 : w30.cell? ⟨gb1015, 5, none⟩ = some (.int .i64 a0_5) := (blk_cell BK1015.out 5).trans rfl; have hcz31_6 : w30.cell? ⟨gb1015, 6, none⟩ = some (.slice A0_6 l0_6.length c0_6) := (blk_cell BK1015.out 6).trans rfl; have hfz31_0 := blk_frozen BK1015.out 0; have hfz31_1 := blk_frozen BK1015.out 1; have hfz31_2 := blk_frozen BK1015.out 2; have hfz31_3 := blk_frozen BK1015.out 3; have hfz31_4 := blk_frozen BK1015.out 4; have hfz31_5 := blk_frozen BK1015.out 5; have hfz31_6 := blk_frozen BK1015.out 6) | ((with_reducible refine gate_callee (f := 92) rfl ?_); refine goesL_ (some 46) rfl rfl Try.func92 (by kernel_rfl) rfl #[.agg #[.int .u8 a0_0, .int .i64 a0_1, .int .i64 a0_2, .int .i64 a0_3, .int .i64 a0_4, .int .i64 a0_5, .slice A0_6 l0_6.length c0_6], .slice A2 l2.length c2] rfl (by (try simp only [List.map_toArray, List.map_cons, List.map_nil]); first | done | rfl | (simp only [List.length_drop, List.length_take]; rfl)) ?_; (with_reducible refine (sashref05_At.calls a0_0 a0_1 a0_2 a0_3 a0_4 a0_5 (fun k_ => k_ < w.heap.size) _ _ l0_6 _ _ l2 t1037 t1038 t1039 t1040 t1041 t1042 t1043 t1046 _ ?side1 ?side2 ?side3 A18.out).mono ?_); (case side1 => exact Kd.V_mk HC0_6.out (Kd.F_below (Kd.C_F k26_heap HR0_6.out) (by repeat (first | (with_reducible first | exact HB.out | apply below_alloc | apply pw_below_drewN | apply below_drew1 | refine below_set ?_ GE1015.out | refine below_set ?_ GE1036.out) | exact HB.out)))); (case side2 => repeat (first | exact (Kd.C_below HR2.out HB.out) | (with_reducible refine Kd.C_alloc ?_ _) | (with_reducible refine Kd.C_drewN ?_ _) | (with_reducible refine Kd.C_drew ?_))); (case side3 => exact HC2.out); rintro e w32 ⟨v1044, rfl, ho0, hb⟩; refine ⟨_, rfl, ?_⟩; have n0_ := Aside0.mk (Kd.R_below (by (with_reducible repeat (first | apply Kd.R_alloc | apply Kd.R_drewN | apply Kd.R_drew)); exact HO1020.out) hb); have n1_ := Aside0.mk (Kd.R_below (by (with_reducible repeat (first | apply Kd.R_alloc | apply Kd.R_drewN | apply Kd.R_drew)); exact HO1024.out) hb); have n2_ := Aside0.mk (Kd.N_below (by (with_reducible repeat (first | apply Kd.N_alloc | apply Kd.N_drewN | apply Kd.N_drew)); exact HO1034.out) hb); have n3_ := Aside0.mk (Kd.V_lower (Kd.V_mono (ok' := fun k_ => some k_ ≠ (v1019 : Value).ownBlock ∧ some k_ ≠ (v1023 : Value).ownBlock ∧ some k_ ≠ (.slice Ao29 t1032.length co29 : Value).ownBlock ∧ k_ ≠ gb1015 ∧ k_ ≠ gb1036) ho0 (fun k_ hk_ => ⟨Or.elim hk_ (fun hs_ => fun e_ => Nat.not_le.2 hs_ (Kd.R_base HO1020.out k_ e_.symm)) (fun hn_ => (Kd.fresh' (Kd.R_lt (by (with_reducible repeat (first | apply Kd.R_alloc | apply Kd.R_drewN | apply Kd.R_drew)); exact HO1020.out)) k_ hn_)), Or.elim hk_ (fun hs_ => fun e_ => Nat.not_le.2 hs_ (Kd.R_base HO1024.out k_ e_.symm)) (fun hn_ => (Kd.fresh' (Kd.R_lt (by (with_reducible repeat (first | apply Kd.R_alloc | apply Kd.R_drewN | apply Kd.R_drew)); exact HO1024.out)) k_ hn_)), Or.elim hk_ (fun hs_ => fun e_ => Nat.not_le.2 hs_ (Kd.N_base HO1034.out k_ e_.symm)) (fun hn_ => (Kd.fresh' (Kd.N_lt (by (with_reducible repeat (first | apply Kd.N_alloc | apply Kd.N_drewN | apply Kd.N_drew)); exact HO1034.out)) k_ hn_)), Or.elim hk_ (fun hs_ => fun e_ => Nat.not_le.2 hs_ (by rw [e_]; exact GW1015.out)) (fun hn_ => (Kd.freshB (g := gb1015) (o := .cells #[.int .u8 a0_0, .int .i64 a0_1, .int .i64 a0_2, .int .i64 a0_3, .int .i64 a0_4, .int .i64 a0_5, .slice A0_6 l0_6.length c0_6] 26 (0, 0)) (by (with_reducible repeat (first | refine blk_drewN ?_ _ | refine blk_drew ?_ | refine blk_alloc ?_ _)); exact BK1015.out) k_ hn_)), Or.elim hk_ (fun hs_ => fun e_ => Nat.not_le.2 hs_ (by rw [e_]; exact GW1036.out)) (fun hn_ => (Kd.freshB (g := gb1036) (o := .cells #[.int .u8 t1026, .int .i64 t1027, .int .i64 t1028, .int .i64 t1029, .int .i64 t1030, .int .i64 t1031, .slice Ao29 t1032.length co29] 26 (0, 0)) (by (with_reducible repeat (first | refine blk_drewN ?_ _ | refine blk_drew ?_ | refine blk_alloc ?_ _)); exact BK1036.out) k_ hn_))⟩)) (below_size (by repeat (first | (with_reducible first | exact HB.out | apply below_alloc | apply pw_below_drewN | apply below_drew1 | refine below_set ?_ GE1015.out | refine below_set ?_ GE1036.out) | exact HB.out)))); have n4_ := Aside0.mk (blk_below (g := gb1015) (o := .cells #[.int .u8 a0_0, .int .i64 a0_1, .int .i64 a0_2, .int .i64 a0_3, .int .i64 a0_4, .int .i64 a0_5, .slice A0_6 l0_6.length c0_6] 26 (0, 0)) (by (with_reducible repeat (first | refine blk_drewN ?_ _ | refine blk_drew ?_ | refine blk_alloc ?_ _)); exact BK1015.out) hb); have n5_ := Aside0.mk (blk_below (g := gb1036) (o := .cells #[.int .u8 t1026, .int .i64 t1027, .int .i64 t1028, .int .i64 t1029, .int .i64 t1030, .int .i64 t1031, .slice Ao29 t1032.length co29] 26 (0, 0)) (by (with_reducible repeat (first | refine blk_drewN ?_ _ | refine blk_drew ?_ | refine blk_alloc ?_ _)); exact BK1036.out) hb); have n6_ := Aside0.mk (below_step (by repeat (first | (with_reducible first | exact HB.out | apply below_alloc | apply pw_below_drewN | apply below_drew1 | refine below_set ?_ GE1015.out | refine below_set ?_ GE1036.out) | exact HB.out)) hb); clear HO1020; clear HO1024; clear HO1034; clear BK1015; clear BK1036; clear HB; have HO1020 := n0_; have HO1024 := n1_; have HO1034 := n2_; have HO1045 := n3_; have BK1015 := n4_; have BK1036 := n5_; have HB := n6_; clear n0_ n1_ n2_ n3_ n4_ n5_ n6_; (try clear hb); (try clear hb2); (try clear hk); (try clear hi); (try clear ho0)) | ((with_reducible refine gate_dst (N := 13) rfl ?_); (try (refine gate_guard (by rfl) ?_; dsimp only)); refine box_event ?hg (N := 13) ?hd (cs := #[.int .u8 0, .int .i64 0, .int .i64 0, .int .i64 0, .int .i64 0, .int .i64 0, .slice none 0 0]) (t := 26) ?hr ?_; (case hd => rfl); (case hg => rfl); (case hr => first | (go_simp; done) | (go_simp; rfl)); intro gb1047 hg w33 hbox hb; have n0_ := Aside0.mk (Kd.R_below (by (with_reducible repeat (first | apply Kd.R_alloc | apply Kd.R_drewN | apply Kd.R_drew)); exact HO1020.out) hb); have n1_ := Aside0.mk (Kd.R_below (by (with_reducible repeat (first | apply Kd.R_alloc | apply Kd.R_drewN | apply Kd.R_drew)); exact HO1024.out) hb); have n2_ := Aside0.mk (Kd.N_below (Kd.N_elderB (by (with_reducible repeat (first | apply Kd.N_alloc | apply Kd.N_drewN | apply Kd.N_drew)); exact HO1034.out) gb1047 (Nat.le_of_eq hg.symm)) hb); have n3_ := Aside0.mk (Kd.V_below (Kd.V_elderB (by (with_reducible repeat (first | apply Kd.V_alloc | apply Kd.V_drewN | apply Kd.V_drew)); exact HO1045.out) gb1047 (Nat.le_of_eq hg.symm)) hb); have n4_ := Aside0.mk (blk_below (g := gb1015) (o := .cells #[.int .u8 a0_0, .int .i64 a0_1, .int .i64 a0_2, .int .i64 a0_3, .int .i64 a0_4, .int .i64 a0_5, .slice A0_6 l0_6.length c0_6] 26 (0, 0)) (by (with_reducible repeat (first | refine blk_drewN ?_ _ | refine blk_drew ?_ | refine blk_alloc ?_ _)); exact BK1015.out) hb); have n5_ := Aside0.mk (blk_below (g := gb1036) (o := .cells #[.int .u8 t1026, .int .i64 t1027, .int .i64 t1028, .int .i64 t1029, .int .i64 t1030, .int .i64 t1031, .slice Ao29 t1032.length co29] 26 (0, 0)) (by (with_reducible repeat (first | refine blk_drewN ?_ _ | refine blk_drew ?_ | refine blk_alloc ?_ _)); exact BK1036.out) hb); have n6_ := Aside0.mk (below_step (by repeat (first | (with_reducible first | exact HB.out | apply below_alloc | apply pw_below_drewN | apply below_drew1 | refine below_set ?_ GE1015.out | refine below_set ?_ GE1036.out) | exact HB.out)) hb); have n7_ := Aside0.mk (hbox); have n8_ := Aside0.mk ((by rw [hg]; exact (below_size (by repeat (first | (with_reducible first | exact HB.out | apply below_alloc | apply pw_below_drewN | apply below_drew1 | refine below_set ?_ GE1015.out | refine below_set ?_ GE1036.out) | exact HB.out))) : w.heap.size ≤ gb1047)); have n9_ := Aside0.mk ((by rw [hg]; exact (below_size (by repeat (first | (with_reducible first | exact HB.out | apply below_alloc | apply pw_below_drewN | apply below_drew1 | refine below_set ?_ GE1015.out | refine below_set ?_ GE1036.out) | exact HB.out))) : w.heap.size ≤ gb1047)); have n10_ := Aside0.mk ((by rw [hg]; exact Nat.ne_of_lt (blk_lt (g := gb1015) (o := .cells #[.int .u8 a0_0, .int .i64 a0_1, .int .i64 a0_2, .int .i64 a0_3, .int .i64 a0_4, .int .i64 a0_5, .slice A0_6 l0_6.length c0_6] 26 (0, 0)) (by (with_reducible repeat (first | refine blk_drewN ?_ _ | refine blk_drew ?_ | refine blk_alloc ?_ _)); exact BK1015.out)) : gb1015 ≠ gb1047)); have n11_ := Aside0.mk ((by rw [hg]; exact Nat.ne_of_gt (blk_lt (g := gb1015) (o := .cells #[.int .u8 a0_0, .int .i64 a0_1, .int .i64 a0_2, .int .i64 a0_3, .int .i64 a0_4, .int .i64 a0_5, .slice A0_6 l0_6.length c0_6] 26 (0, 0)) (by (with_reducible repeat (first | refine blk_drewN ?_ _ | refine blk_drew ?_ | refine blk_alloc ?_ _)); exact BK1015.out)) : gb1047 ≠ gb1015)); have n12_ := Aside0.mk ((by rw [hg]; exact Nat.ne_of_lt (blk_lt (g := gb1036) (o := .cells #[.int .u8 t1026, .int .i64 t1027, .int .i64 t1028, .int .i64 t1029, .int .i64 t1030, .int .i64 t1031, .slice Ao29 t1032.length co29] 26 (0, 0)) (by (with_reducible repeat (first | refine blk_drewN ?_ _ | refine blk_drew ?_ | refine blk_alloc ?_ _)); exact BK1036.out)) : gb1036 ≠ gb1047)); have n13_ := Aside0.mk ((by rw [hg]; exact Nat.ne_of_gt (blk_lt (g := gb1036) (o := .cells #[.int .u8 t1026, .int .i64 t1027, .int .i64 t1028, .int .i64 t1029, .int .i64 t1030, .int .i64 t1031, .slice Ao29 t1032.length co29] 26 (0, 0)) (by (with_reducible repeat (first | refine blk_drewN ?_ _ | refine blk_drew ?_ | refine blk_alloc ?_ _)); exact BK1036.out)) : gb1047 ≠ gb1036)); clear HO1020; clear HO1024; clear HO1034; clear HO1045; clear BK1015; clear BK1036; clear HB; have HO1020 := n0_; have HO1024 := n1_; have HO1034 := n2_; have HO1045 := n3_; have BK1015 := n4_; have BK1036 := n5_; have HB := n6_; have BK1047 := n7_; have GW1047 := n8_; have GE1047 := n9_; have NB1015_1047 := n10_; have NB1047_1015 := n11_; have NB1036_1047 := n12_; have NB1047_1036 := n13_; clear n0_ n1_ n2_ n3_ n4_ n5_ n6_ n7_ n8_ n9_ n10_ n11_ n12_ n13_; clear hb hbox hg; have hnb34 := NB1047_1015.out; have hnc34 := NB1015_1047.out; have hnb35 := NB1047_1036.out; have hnc35 := NB1036_1047.out; have hcz36_0 : w33.cell? ⟨gb1047, 0, none⟩ = some (.int .u8 0) := (blk_cell BK1047.out 0).trans rfl; have hcz36_1 : w33.cell? ⟨gb1047, 1, none⟩ = some (.int .i64 0) := (blk_cell BK1047.out 1).trans rfl; have hcz36_2 : w33.cell? ⟨gb1047, 2, none⟩ = some (.int .i64 0) := (blk_cell BK1047.out 2).trans rfl; have hcz36_3 : w33.cell? ⟨gb1047, 3, none⟩ = some (.int .i64 0) := (blk_cell BK1047.out 3).trans rfl; have hcz36_4 : w33.cell? ⟨gb1047, 4, none⟩ = some (.int .i64 0) := (blk_cell BK1047.out 4).trans rfl; have hcz36_5 : w33.cell? ⟨gb1047, 5, none⟩ = some (.int .i64 0) := (blk_cell BK1047.out 5).trans rfl; have hcz36_6 : w33.cell? ⟨gb1047, 6, none⟩ = some (.slice none 0 0) := (blk_cell BK1047.out 6).trans rfl; have hfz36_0 := blk_frozen BK1047.out 0; have hfz36_1 := blk_frozen BK1047.out 1; have hfz36_2 := blk_frozen BK1047.out 2; have hfz36_3 := blk_frozen BK1047.out 3; have hfz36_4 := blk_frozen BK1047.out 4; have hfz36_5 := blk_frozen BK1047.out 5; have hfz36_6 := blk_frozen BK1047.out 6; obtain ⟨Ao37, co37, eo37⟩ := Kd.V_slice HO1045.out; subst eo37))
        (try simp only [Act.put, List.setIfInBounds_toArray, List.set_cons_zero, List.set_cons_succ])
        go_cut [68] (fun v68 wc => ∃ (kq : Nat) (x68_18 : Bool), v68 = .bool x68_18 ∧ Aside0 (sashlaw05_CellFinds.j1 kq a1 t1018 t1021 x68_18 a0_0 a0_1 a0_2 a0_3 a0_4 a0_5 l0_6 = some r) ∧ Aside0 (kq ≤ kj3) ∧ Aside0 (Kd.R (Kd.int .i64) 3 wc w.heap.size (fun _ => True) v1019 t1018) ∧ Aside0 (Kd.N k26 26 wc w.heap.size (fun k_ => some k_ ≠ (v1019 : Value).ownBlock ∧ k_ ≠ gb1015 ∧ k_ ≠ gb1036 ∧ k_ ≠ gb1047) (.slice Ao29 t1032.length co29) t1032) ∧ Aside0 (Kd.V k26 26 wc w.heap.size (fun k_ => some k_ ≠ (v1019 : Value).ownBlock ∧ some k_ ≠ ((.slice Ao29 t1032.length co29) : Value).ownBlock ∧ k_ ≠ gb1015 ∧ k_ ≠ gb1036 ∧ k_ ≠ gb1047) (.slice Ao37 t1043.length co37) t1043) ∧ Aside0 (wc.heap[gb1015]? = some (.cells #[.int .u8 a0_0, .int .i64 a0_1, .int .i64 a0_2, .int .i64 a0_3, .int .i64 a0_4, .int .i64 a0_5, (.slice A0_6 l0_6.length c0_6)] 26 (0, 0))) ∧ Aside0 (wc.heap[gb1036]? = some (.cells #[.int .u8 t1026, .int .i64 t1027, .int .i64 t1028, .int .i64 t1029, .int .i64 t1030, .int .i64 t1031, (.slice Ao29 t1032.length co29)] 26 (0, 0))) ∧ Aside0 (wc.heap[gb1047]? = some (.cells #[.int .u8 t1037, .int .i64 t1038, .int .i64 t1039, .int .i64 t1040, .int .i64 t1041, .int .i64 t1042, (.slice Ao37 t1043.length co37)] 26 (0, 0))) ∧ Aside0 (Below w.heap.size w wc))
        case first =>
          have H := HC19.out
          clear HC19
          by_cases c38 : (t1021 != t1025) = true
          · rw [if_pos c38] at H
            have c38b0 : (t1021 != t1025) = true := c38
            (try (have c38b1 : decide (t1021 = t1025) = false := by simpa using c38))
            (try (have c38b2 : (t1021 == t1025) = false := by simpa using c38))
            (try (have c38b3 : ¬ (t1021 = t1025) := by simpa using c38))
            clear c38
            (first | rw [c38b0] | (simp only [i64_w, i32_w]; rw [c38b0]) | skip)
            have H' := Aside0.mk H
            clear H
            go_wp2
            go_meet
            case rel => exact ⟨_, (true), (by first | rfl | (simp; done) | (simp [*]; done)), H', ⟨by have := HJ3.out; first | omega | exact Nat.le_refl _⟩, ⟨by (with_reducible repeat (first | apply Kd.R_alloc | apply Kd.R_drewN | apply Kd.R_drew)); exact Kd.R_mono (Kd.R_far (p := ⟨gb1047, 6, none⟩) (Kd.R_far (p := ⟨gb1047, 5, none⟩) (Kd.R_far (p := ⟨gb1047, 4, none⟩) (Kd.R_far (p := ⟨gb1047, 3, none⟩) (Kd.R_far (p := ⟨gb1047, 2, none⟩) (Kd.R_far (p := ⟨gb1047, 1, none⟩) (Kd.R_far (p := ⟨gb1047, 0, none⟩) (Kd.R_types HO1020.out BK1047.out (by decide)) (fun _ hk => hk.2) (.int .u8 t1037)) (fun _ hk => hk.2) (.int .i64 t1038)) (fun _ hk => hk.2) (.int .i64 t1039)) (fun _ hk => hk.2) (.int .i64 t1040)) (fun _ hk => hk.2) (.int .i64 t1041)) (fun _ hk => hk.2) (.int .i64 t1042)) (fun _ hk => hk.2) (.slice Ao37 t1043.length co37)) (fun _ hk => trivial)⟩, ⟨by (with_reducible repeat (first | apply Kd.N_alloc | apply Kd.N_drewN | apply Kd.N_drew)); exact Kd.N_mono (Kd.N_far (p := ⟨gb1047, 6, none⟩) (Kd.N_far (p := ⟨gb1047, 5, none⟩) (Kd.N_far (p := ⟨gb1047, 4, none⟩) (Kd.N_far (p := ⟨gb1047, 3, none⟩) (Kd.N_far (p := ⟨gb1047, 2, none⟩) (Kd.N_far (p := ⟨gb1047, 1, none⟩) (Kd.N_far (p := ⟨gb1047, 0, none⟩) (Kd.N_mono HO1034.out (fun k_ hk => (⟨hk, hk.2⟩ : _ ∧ k_ ≠ gb1047))) (fun _ hk => hk.2) (.int .u8 t1037)) (fun _ hk => hk.2) (.int .i64 t1038)) (fun _ hk => hk.2) (.int .i64 t1039)) (fun _ hk => hk.2) (.int .i64 t1040)) (fun _ hk => hk.2) (.int .i64 t1041)) (fun _ hk => hk.2) (.int .i64 t1042)) (fun _ hk => hk.2) (.slice Ao37 t1043.length co37)) (fun _ hk => ⟨hk.1.1.1, ⟨hk.1.1.2.2.1, ⟨hk.1.1.2.2.2, hk.1.2⟩⟩⟩)⟩, ⟨by (with_reducible repeat (first | apply Kd.V_alloc | apply Kd.V_drewN | apply Kd.V_drew)); exact Kd.V_mono (Kd.V_far (p := ⟨gb1047, 6, none⟩) (Kd.V_far (p := ⟨gb1047, 5, none⟩) (Kd.V_far (p := ⟨gb1047, 4, none⟩) (Kd.V_far (p := ⟨gb1047, 3, none⟩) (Kd.V_far (p := ⟨gb1047, 2, none⟩) (Kd.V_far (p := ⟨gb1047, 1, none⟩) (Kd.V_far (p := ⟨gb1047, 0, none⟩) (Kd.V_mono HO1045.out (fun k_ hk => (⟨hk, hk.2⟩ : _ ∧ k_ ≠ gb1047))) (fun _ hk => hk.2) (.int .u8 t1037)) (fun _ hk => hk.2) (.int .i64 t1038)) (fun _ hk => hk.2) (.int .i64 t1039)) (fun _ hk => hk.2) (.int .i64 t1040)) (fun _ hk => hk.2) (.int .i64 t1041)) (fun _ hk => hk.2) (.int .i64 t1042)) (fun _ hk => hk.2) (.slice Ao37 t1043.length co37)) (fun _ hk => ⟨hk.1.1.1, ⟨hk.1.1.2.2.1, ⟨hk.1.1.2.2.2.1, ⟨hk.1.1.2.2.2.2, hk.1.2⟩⟩⟩⟩)⟩, ⟨by (with_reducible repeat (first | refine blk_drewN ?_ _ | refine blk_drew ?_ | refine blk_alloc ?_ _)); refine blk_far ?_ NB1015_1047.out _; (with_reducible repeat (first | refine blk_drewN ?_ _ | refine blk_drew ?_ | refine blk_alloc ?_ _)); refine blk_far ?_ NB1015_1047.out _; (with_reducible repeat (first | refine blk_drewN ?_ _ | refine blk_drew ?_ | refine blk_alloc ?_ _)); refine blk_far ?_ NB1015_1047.out _; (with_reducible repeat (first | refine blk_drewN ?_ _ | refine blk_drew ?_ | refine blk_alloc ?_ _)); refine blk_far ?_ NB1015_1047.out _; (with_reducible repeat (first | refine blk_drewN ?_ _ | refine blk_drew ?_ | refine blk_alloc ?_ _)); refine blk_far ?_ NB1015_1047.out _; (with_reducible repeat (first | refine blk_drewN ?_ _ | refine blk_drew ?_ | refine blk_alloc ?_ _)); refine blk_far ?_ NB1015_1047.out _; (with_reducible repeat (first | refine blk_drewN ?_ _ | refine blk_drew ?_ | refine blk_alloc ?_ _)); refine blk_far ?_ NB1015_1047.out _; (with_reducible repeat (first | refine blk_drewN ?_ _ | refine blk_drew ?_ | refine blk_alloc ?_ _)); exact BK1015.out⟩, ⟨by (with_reducible repeat (first | refine blk_drewN ?_ _ | refine blk_drew ?_ | refine blk_alloc ?_ _)); refine blk_far ?_ NB1036_1047.out _; (with_reducible repeat (first | refine blk_drewN ?_ _ | refine blk_drew ?_ | refine blk_alloc ?_ _)); refine blk_far ?_ NB1036_1047.out _; (with_reducible repeat (first | refine blk_drewN ?_ _ | refine blk_drew ?_ | refine blk_alloc ?_ _)); refine blk_far ?_ NB1036_1047.out _; (with_reducible repeat (first | refine blk_drewN ?_ _ | refine blk_drew ?_ | refine blk_alloc ?_ _)); refine blk_far ?_ NB1036_1047.out _; (with_reducible repeat (first | refine blk_drewN ?_ _ | refine blk_drew ?_ | refine blk_alloc ?_ _)); refine blk_far ?_ NB1036_1047.out _; (with_reducible repeat (first | refine blk_drewN ?_ _ | refine blk_drew ?_ | refine blk_alloc ?_ _)); refine blk_far ?_ NB1036_1047.out _; (with_reducible repeat (first | refine blk_drewN ?_ _ | refine blk_drew ?_ | refine blk_alloc ?_ _)); refine blk_far ?_ NB1036_1047.out _; (with_reducible repeat (first | refine blk_drewN ?_ _ | refine blk_drew ?_ | refine blk_alloc ?_ _)); exact BK1036.out⟩, ⟨by (with_reducible repeat (first | refine blk_drewN ?_ _ | refine blk_drew ?_ | refine blk_alloc ?_ _)); refine blk_put (cs := #[.int .u8 t1037, .int .i64 t1038, .int .i64 t1039, .int .i64 t1040, .int .i64 t1041, .int .i64 t1042, .slice none 0 0]) ?_ 6 _ rfl; (with_reducible repeat (first | refine blk_drewN ?_ _ | refine blk_drew ?_ | refine blk_alloc ?_ _)); refine blk_put (cs := #[.int .u8 t1037, .int .i64 t1038, .int .i64 t1039, .int .i64 t1040, .int .i64 t1041, .int .i64 0, .slice none 0 0]) ?_ 5 _ rfl; (with_reducible repeat (first | refine blk_drewN ?_ _ | refine blk_drew ?_ | refine blk_alloc ?_ _)); refine blk_put (cs := #[.int .u8 t1037, .int .i64 t1038, .int .i64 t1039, .int .i64 t1040, .int .i64 0, .int .i64 0, .slice none 0 0]) ?_ 4 _ rfl; (with_reducible repeat (first | refine blk_drewN ?_ _ | refine blk_drew ?_ | refine blk_alloc ?_ _)); refine blk_put (cs := #[.int .u8 t1037, .int .i64 t1038, .int .i64 t1039, .int .i64 0, .int .i64 0, .int .i64 0, .slice none 0 0]) ?_ 3 _ rfl; (with_reducible repeat (first | refine blk_drewN ?_ _ | refine blk_drew ?_ | refine blk_alloc ?_ _)); refine blk_put (cs := #[.int .u8 t1037, .int .i64 t1038, .int .i64 0, .int .i64 0, .int .i64 0, .int .i64 0, .slice none 0 0]) ?_ 2 _ rfl; (with_reducible repeat (first | refine blk_drewN ?_ _ | refine blk_drew ?_ | refine blk_alloc ?_ _)); refine blk_put (cs := #[.int .u8 t1037, .int .i64 0, .int .i64 0, .int .i64 0, .int .i64 0, .int .i64 0, .slice none 0 0]) ?_ 1 _ rfl; (with_reducible repeat (first | refine blk_drewN ?_ _ | refine blk_drew ?_ | refine blk_alloc ?_ _)); refine blk_put (cs := #[.int .u8 0, .int .i64 0, .int .i64 0, .int .i64 0, .int .i64 0, .int .i64 0, .slice none 0 0]) ?_ 0 _ rfl; (with_reducible repeat (first | refine blk_drewN ?_ _ | refine blk_drew ?_ | refine blk_alloc ?_ _)); exact BK1047.out⟩, ⟨by repeat (first | (with_reducible first | exact HB.out | apply below_alloc | apply pw_below_drewN | apply below_drew1 | refine below_set ?_ GE1015.out | refine below_set ?_ GE1036.out | refine below_set ?_ GE1047.out) | exact HB.out)⟩⟩
          · rw [if_neg c38] at H
            have c38b0 : (t1021 != t1025) = false := by simpa using c38
            (try (have c38b1 : decide (t1021 = t1025) = true := by simpa using c38))
            (try (have c38b2 : (t1021 == t1025) = true := by simpa using c38))
            clear c38
            (first | rw [c38b0] | (simp only [i64_w, i32_w]; rw [c38b0]) | skip)
            replace H := Option.bind_eq_some_iff.mp H
            obtain ⟨t1048, A390, H⟩ := H
            replace H : (if t1048 = true then (if (t1035 != t1046) = true then (sashlaw05_CellFinds.j1 kj3 a1 t1018 t1021 true a0_0 a0_1 a0_2 a0_3 a0_4 a0_5 l0_6) else ((sashref05_Same.f kj3 t1026 t1027 t1028 t1029 t1030 t1031 t1032 t1037 t1038 t1039 t1040 t1041 t1042 t1043).bind fun t1049 => (sashlaw05_CellFinds.j1 kj3 a1 t1018 t1021 (!t1049) a0_0 a0_1 a0_2 a0_3 a0_4 a0_5 l0_6))) else (sashlaw05_CellFinds.j1 kj3 a1 t1018 t1021 true a0_0 a0_1 a0_2 a0_3 a0_4 a0_5 l0_6)) = some r := H
            have A39 := Aside0.mk A390
            clear A390
            by_cases c40 : t1048 = true
            · subst c40
              have H1 : (if (t1035 != t1046) = true then (sashlaw05_CellFinds.j1 kj3 a1 t1018 t1021 true a0_0 a0_1 a0_2 a0_3 a0_4 a0_5 l0_6) else ((sashref05_Same.f kj3 t1026 t1027 t1028 t1029 t1030 t1031 t1032 t1037 t1038 t1039 t1040 t1041 t1042 t1043).bind fun t1049 => (sashlaw05_CellFinds.j1 kj3 a1 t1018 t1021 (!t1049) a0_0 a0_1 a0_2 a0_3 a0_4 a0_5 l0_6))) = some r := by rw [if_pos rfl] at H; exact H
              clear H
              have H := H1
              clear H1
              by_cases c41 : (t1035 != t1046) = true
              · rw [if_pos c41] at H
                have c41b0 : (t1035 != t1046) = true := c41
                (try (have c41b1 : decide (t1035 = t1046) = false := by simpa using c41))
                (try (have c41b2 : (t1035 == t1046) = false := by simpa using c41))
                (try (have c41b3 : ¬ (t1035 = t1046) := by simpa using c41))
                clear c41
                have H' := Aside0.mk H
                clear H
                obtain ⟨Ao42, co42, eo42⟩ := Kd.R_slice HO1020.out
                subst eo42
                obtain ⟨Ao43, co43, eo43⟩ := Kd.R_slice HO1024.out
                subst eo43
                go_wp2_with (first | (go_at_call 51; (with_reducible refine (sashref05_Ints.calls kj3 _ _ t1018 _ _ t1022 true _ ?side1 ?side2 ?side3 ?side4 A39.out).mono ?_); (case side1 => refine (Kd.R_reads' (e := 3) (base := w.heap.size) (ok := fun k_ => some k_ ≠ (.slice Ao43 t1022.length co43 : Value).ownBlock) (n := t1018.length) (c := co42) ?_).2.2; exact (by (with_reducible repeat (first | apply Kd.R_alloc | apply Kd.R_drewN | apply Kd.R_drew)); exact (Kd.R_mono (Kd.R_far (p := ⟨gb1047, 6, none⟩) (Kd.R_far (p := ⟨gb1047, 5, none⟩) (Kd.R_far (p := ⟨gb1047, 4, none⟩) (Kd.R_far (p := ⟨gb1047, 3, none⟩) (Kd.R_far (p := ⟨gb1047, 2, none⟩) (Kd.R_far (p := ⟨gb1047, 1, none⟩) (Kd.R_far (p := ⟨gb1047, 0, none⟩) (Kd.R_types HO1020.out BK1047.out (by decide)) (fun _ hk => hk.2) (.int .u8 t1037)) (fun _ hk => hk.2) (.int .i64 t1038)) (fun _ hk => hk.2) (.int .i64 t1039)) (fun _ hk => hk.2) (.int .i64 t1040)) (fun _ hk => hk.2) (.int .i64 t1041)) (fun _ hk => hk.2) (.int .i64 t1042)) (fun _ hk => hk.2) (.slice Ao37 t1043.length co37)) (fun _ h_ => h_.1)))); (case side2 => exact (Kd.R_reads' HO1020.out).2.1); (case side3 => refine (Kd.R_reads' (e := 3) (base := w.heap.size) (ok := fun k_ => some k_ ≠ (.slice Ao42 t1018.length co42 : Value).ownBlock) (n := t1022.length) (c := co43) ?_).2.2; exact (by (with_reducible repeat (first | apply Kd.R_alloc | apply Kd.R_drewN | apply Kd.R_drew)); exact (Kd.R_mono (Kd.R_far (p := ⟨gb1047, 6, none⟩) (Kd.R_far (p := ⟨gb1047, 5, none⟩) (Kd.R_far (p := ⟨gb1047, 4, none⟩) (Kd.R_far (p := ⟨gb1047, 3, none⟩) (Kd.R_far (p := ⟨gb1047, 2, none⟩) (Kd.R_far (p := ⟨gb1047, 1, none⟩) (Kd.R_far (p := ⟨gb1047, 0, none⟩) (Kd.R_types HO1024.out BK1047.out (by decide)) (fun _ hk => hk.2) (.int .u8 t1037)) (fun _ hk => hk.2) (.int .i64 t1038)) (fun _ hk => hk.2) (.int .i64 t1039)) (fun _ hk => hk.2) (.int .i64 t1040)) (fun _ hk => hk.2) (.int .i64 t1041)) (fun _ hk => hk.2) (.int .i64 t1042)) (fun _ hk => hk.2) (.slice Ao37 t1043.length co37)) (fun _ h_ => h_.1)))); (case side4 => exact (Kd.R_reads' HO1024.out).2.1); rintro e w' ⟨rfl, ⟨nd, rfl⟩⟩))
                go_meet
                case rel => exact ⟨_, (true), (by first | rfl | (simp; done) | (simp [*]; done)), H', ⟨by have := HJ3.out; first | omega | exact Nat.le_refl _⟩, ⟨by (with_reducible repeat (first | apply Kd.R_alloc | apply Kd.R_drewN | apply Kd.R_drew)); exact Kd.R_mono (Kd.R_far (p := ⟨gb1047, 6, none⟩) (Kd.R_far (p := ⟨gb1047, 5, none⟩) (Kd.R_far (p := ⟨gb1047, 4, none⟩) (Kd.R_far (p := ⟨gb1047, 3, none⟩) (Kd.R_far (p := ⟨gb1047, 2, none⟩) (Kd.R_far (p := ⟨gb1047, 1, none⟩) (Kd.R_far (p := ⟨gb1047, 0, none⟩) (Kd.R_types HO1020.out BK1047.out (by decide)) (fun _ hk => hk.2) (.int .u8 t1037)) (fun _ hk => hk.2) (.int .i64 t1038)) (fun _ hk => hk.2) (.int .i64 t1039)) (fun _ hk => hk.2) (.int .i64 t1040)) (fun _ hk => hk.2) (.int .i64 t1041)) (fun _ hk => hk.2) (.int .i64 t1042)) (fun _ hk => hk.2) (.slice Ao37 t1043.length co37)) (fun _ hk => trivial)⟩, ⟨by (with_reducible repeat (first | apply Kd.N_alloc | apply Kd.N_drewN | apply Kd.N_drew)); exact Kd.N_mono (Kd.N_far (p := ⟨gb1047, 6, none⟩) (Kd.N_far (p := ⟨gb1047, 5, none⟩) (Kd.N_far (p := ⟨gb1047, 4, none⟩) (Kd.N_far (p := ⟨gb1047, 3, none⟩) (Kd.N_far (p := ⟨gb1047, 2, none⟩) (Kd.N_far (p := ⟨gb1047, 1, none⟩) (Kd.N_far (p := ⟨gb1047, 0, none⟩) (Kd.N_mono HO1034.out (fun k_ hk => (⟨hk, hk.2⟩ : _ ∧ k_ ≠ gb1047))) (fun _ hk => hk.2) (.int .u8 t1037)) (fun _ hk => hk.2) (.int .i64 t1038)) (fun _ hk => hk.2) (.int .i64 t1039)) (fun _ hk => hk.2) (.int .i64 t1040)) (fun _ hk => hk.2) (.int .i64 t1041)) (fun _ hk => hk.2) (.int .i64 t1042)) (fun _ hk => hk.2) (.slice Ao37 t1043.length co37)) (fun _ hk => ⟨hk.1.1.1, ⟨hk.1.1.2.2.1, ⟨hk.1.1.2.2.2, hk.1.2⟩⟩⟩)⟩, ⟨by (with_reducible repeat (first | apply Kd.V_alloc | apply Kd.V_drewN | apply Kd.V_drew)); exact Kd.V_mono (Kd.V_far (p := ⟨gb1047, 6, none⟩) (Kd.V_far (p := ⟨gb1047, 5, none⟩) (Kd.V_far (p := ⟨gb1047, 4, none⟩) (Kd.V_far (p := ⟨gb1047, 3, none⟩) (Kd.V_far (p := ⟨gb1047, 2, none⟩) (Kd.V_far (p := ⟨gb1047, 1, none⟩) (Kd.V_far (p := ⟨gb1047, 0, none⟩) (Kd.V_mono HO1045.out (fun k_ hk => (⟨hk, hk.2⟩ : _ ∧ k_ ≠ gb1047))) (fun _ hk => hk.2) (.int .u8 t1037)) (fun _ hk => hk.2) (.int .i64 t1038)) (fun _ hk => hk.2) (.int .i64 t1039)) (fun _ hk => hk.2) (.int .i64 t1040)) (fun _ hk => hk.2) (.int .i64 t1041)) (fun _ hk => hk.2) (.int .i64 t1042)) (fun _ hk => hk.2) (.slice Ao37 t1043.length co37)) (fun _ hk => ⟨hk.1.1.1, ⟨hk.1.1.2.2.1, ⟨hk.1.1.2.2.2.1, ⟨hk.1.1.2.2.2.2, hk.1.2⟩⟩⟩⟩)⟩, ⟨by (with_reducible repeat (first | refine blk_drewN ?_ _ | refine blk_drew ?_ | refine blk_alloc ?_ _)); refine blk_far ?_ NB1015_1047.out _; (with_reducible repeat (first | refine blk_drewN ?_ _ | refine blk_drew ?_ | refine blk_alloc ?_ _)); refine blk_far ?_ NB1015_1047.out _; (with_reducible repeat (first | refine blk_drewN ?_ _ | refine blk_drew ?_ | refine blk_alloc ?_ _)); refine blk_far ?_ NB1015_1047.out _; (with_reducible repeat (first | refine blk_drewN ?_ _ | refine blk_drew ?_ | refine blk_alloc ?_ _)); refine blk_far ?_ NB1015_1047.out _; (with_reducible repeat (first | refine blk_drewN ?_ _ | refine blk_drew ?_ | refine blk_alloc ?_ _)); refine blk_far ?_ NB1015_1047.out _; (with_reducible repeat (first | refine blk_drewN ?_ _ | refine blk_drew ?_ | refine blk_alloc ?_ _)); refine blk_far ?_ NB1015_1047.out _; (with_reducible repeat (first | refine blk_drewN ?_ _ | refine blk_drew ?_ | refine blk_alloc ?_ _)); refine blk_far ?_ NB1015_1047.out _; (with_reducible repeat (first | refine blk_drewN ?_ _ | refine blk_drew ?_ | refine blk_alloc ?_ _)); exact BK1015.out⟩, ⟨by (with_reducible repeat (first | refine blk_drewN ?_ _ | refine blk_drew ?_ | refine blk_alloc ?_ _)); refine blk_far ?_ NB1036_1047.out _; (with_reducible repeat (first | refine blk_drewN ?_ _ | refine blk_drew ?_ | refine blk_alloc ?_ _)); refine blk_far ?_ NB1036_1047.out _; (with_reducible repeat (first | refine blk_drewN ?_ _ | refine blk_drew ?_ | refine blk_alloc ?_ _)); refine blk_far ?_ NB1036_1047.out _; (with_reducible repeat (first | refine blk_drewN ?_ _ | refine blk_drew ?_ | refine blk_alloc ?_ _)); refine blk_far ?_ NB1036_1047.out _; (with_reducible repeat (first | refine blk_drewN ?_ _ | refine blk_drew ?_ | refine blk_alloc ?_ _)); refine blk_far ?_ NB1036_1047.out _; (with_reducible repeat (first | refine blk_drewN ?_ _ | refine blk_drew ?_ | refine blk_alloc ?_ _)); refine blk_far ?_ NB1036_1047.out _; (with_reducible repeat (first | refine blk_drewN ?_ _ | refine blk_drew ?_ | refine blk_alloc ?_ _)); refine blk_far ?_ NB1036_1047.out _; (with_reducible repeat (first | refine blk_drewN ?_ _ | refine blk_drew ?_ | refine blk_alloc ?_ _)); exact BK1036.out⟩, ⟨by (with_reducible repeat (first | refine blk_drewN ?_ _ | refine blk_drew ?_ | refine blk_alloc ?_ _)); refine blk_put (cs := #[.int .u8 t1037, .int .i64 t1038, .int .i64 t1039, .int .i64 t1040, .int .i64 t1041, .int .i64 t1042, .slice none 0 0]) ?_ 6 _ rfl; (with_reducible repeat (first | refine blk_drewN ?_ _ | refine blk_drew ?_ | refine blk_alloc ?_ _)); refine blk_put (cs := #[.int .u8 t1037, .int .i64 t1038, .int .i64 t1039, .int .i64 t1040, .int .i64 t1041, .int .i64 0, .slice none 0 0]) ?_ 5 _ rfl; (with_reducible repeat (first | refine blk_drewN ?_ _ | refine blk_drew ?_ | refine blk_alloc ?_ _)); refine blk_put (cs := #[.int .u8 t1037, .int .i64 t1038, .int .i64 t1039, .int .i64 t1040, .int .i64 0, .int .i64 0, .slice none 0 0]) ?_ 4 _ rfl; (with_reducible repeat (first | refine blk_drewN ?_ _ | refine blk_drew ?_ | refine blk_alloc ?_ _)); refine blk_put (cs := #[.int .u8 t1037, .int .i64 t1038, .int .i64 t1039, .int .i64 0, .int .i64 0, .int .i64 0, .slice none 0 0]) ?_ 3 _ rfl; (with_reducible repeat (first | refine blk_drewN ?_ _ | refine blk_drew ?_ | refine blk_alloc ?_ _)); refine blk_put (cs := #[.int .u8 t1037, .int .i64 t1038, .int .i64 0, .int .i64 0, .int .i64 0, .int .i64 0, .slice none 0 0]) ?_ 2 _ rfl; (with_reducible repeat (first | refine blk_drewN ?_ _ | refine blk_drew ?_ | refine blk_alloc ?_ _)); refine blk_put (cs := #[.int .u8 t1037, .int .i64 0, .int .i64 0, .int .i64 0, .int .i64 0, .int .i64 0, .slice none 0 0]) ?_ 1 _ rfl; (with_reducible repeat (first | refine blk_drewN ?_ _ | refine blk_drew ?_ | refine blk_alloc ?_ _)); refine blk_put (cs := #[.int .u8 0, .int .i64 0, .int .i64 0, .int .i64 0, .int .i64 0, .int .i64 0, .slice none 0 0]) ?_ 0 _ rfl; (with_reducible repeat (first | refine blk_drewN ?_ _ | refine blk_drew ?_ | refine blk_alloc ?_ _)); exact BK1047.out⟩, ⟨by repeat (first | (with_reducible first | exact HB.out | apply below_alloc | apply pw_below_drewN | apply below_drew1 | refine below_set ?_ GE1015.out | refine below_set ?_ GE1036.out | refine below_set ?_ GE1047.out) | exact HB.out)⟩⟩
              · rw [if_neg c41] at H
                have c41b0 : (t1035 != t1046) = false := by simpa using c41
                (try (have c41b1 : decide (t1035 = t1046) = true := by simpa using c41))
                (try (have c41b2 : (t1035 == t1046) = true := by simpa using c41))
                clear c41
                replace H := Option.bind_eq_some_iff.mp H
                obtain ⟨t1049, A440, H⟩ := H
                replace H : (sashlaw05_CellFinds.j1 kj3 a1 t1018 t1021 (!t1049) a0_0 a0_1 a0_2 a0_3 a0_4 a0_5 l0_6) = some r := H
                have A44 := Aside0.mk A440
                clear A440
                have H' := Aside0.mk H
                clear H
                obtain ⟨Ao45, co45, eo45⟩ := Kd.R_slice HO1020.out
                subst eo45
                obtain ⟨Ao46, co46, eo46⟩ := Kd.R_slice HO1024.out
                subst eo46
                go_wp2_with (first | (go_at_call 51; (with_reducible refine (sashref05_Ints.calls kj3 _ _ t1018 _ _ t1022 true _ ?side1 ?side2 ?side3 ?side4 A39.out).mono ?_); (case side1 => refine (Kd.R_reads' (e := 3) (base := w.heap.size) (ok := fun k_ => some k_ ≠ (.slice Ao46 t1022.length co46 : Value).ownBlock) (n := t1018.length) (c := co45) ?_).2.2; exact (by (with_reducible repeat (first | apply Kd.R_alloc | apply Kd.R_drewN | apply Kd.R_drew)); exact (Kd.R_mono (Kd.R_far (p := ⟨gb1047, 6, none⟩) (Kd.R_far (p := ⟨gb1047, 5, none⟩) (Kd.R_far (p := ⟨gb1047, 4, none⟩) (Kd.R_far (p := ⟨gb1047, 3, none⟩) (Kd.R_far (p := ⟨gb1047, 2, none⟩) (Kd.R_far (p := ⟨gb1047, 1, none⟩) (Kd.R_far (p := ⟨gb1047, 0, none⟩) (Kd.R_types HO1020.out BK1047.out (by decide)) (fun _ hk => hk.2) (.int .u8 t1037)) (fun _ hk => hk.2) (.int .i64 t1038)) (fun _ hk => hk.2) (.int .i64 t1039)) (fun _ hk => hk.2) (.int .i64 t1040)) (fun _ hk => hk.2) (.int .i64 t1041)) (fun _ hk => hk.2) (.int .i64 t1042)) (fun _ hk => hk.2) (.slice Ao37 t1043.length co37)) (fun _ h_ => h_.1)))); (case side2 => exact (Kd.R_reads' HO1020.out).2.1); (case side3 => refine (Kd.R_reads' (e := 3) (base := w.heap.size) (ok := fun k_ => some k_ ≠ (.slice Ao45 t1018.length co45 : Value).ownBlock) (n := t1022.length) (c := co46) ?_).2.2; exact (by (with_reducible repeat (first | apply Kd.R_alloc | apply Kd.R_drewN | apply Kd.R_drew)); exact (Kd.R_mono (Kd.R_far (p := ⟨gb1047, 6, none⟩) (Kd.R_far (p := ⟨gb1047, 5, none⟩) (Kd.R_far (p := ⟨gb1047, 4, none⟩) (Kd.R_far (p := ⟨gb1047, 3, none⟩) (Kd.R_far (p := ⟨gb1047, 2, none⟩) (Kd.R_far (p := ⟨gb1047, 1, none⟩) (Kd.R_far (p := ⟨gb1047, 0, none⟩) (Kd.R_types HO1024.out BK1047.out (by decide)) (fun _ hk => hk.2) (.int .u8 t1037)) (fun _ hk => hk.2) (.int .i64 t1038)) (fun _ hk => hk.2) (.int .i64 t1039)) (fun _ hk => hk.2) (.int .i64 t1040)) (fun _ hk => hk.2) (.int .i64 t1041)) (fun _ hk => hk.2) (.int .i64 t1042)) (fun _ hk => hk.2) (.slice Ao37 t1043.length co37)) (fun _ h_ => h_.1)))); (case side4 => exact (Kd.R_reads' HO1024.out).2.1); rintro e w' ⟨rfl, ⟨nd, rfl⟩⟩; have hnb47 := NB1036_1015.out; have hnc47 := NB1015_1036.out; have hnb48 := NB1036_1047.out; have hnc48 := NB1047_1036.out; have hcz49_0 : w33.cell? ⟨gb1036, 0, none⟩ = some (.int .u8 t1026) := (blk_cell BK1036.out 0).trans rfl; have hcz49_1 : w33.cell? ⟨gb1036, 1, none⟩ = some (.int .i64 t1027) := (blk_cell BK1036.out 1).trans rfl; have hcz49_2 : w33.cell? ⟨gb1036, 2, none⟩ = some (.int .i64 t1028) := (blk_cell BK1036.out 2).trans rfl; have hcz49_3 : w33.cell? ⟨gb1036, 3, none⟩ = some (.int .i64 t1029) := (blk_cell BK1036.out 3).trans rfl; have hcz49_4 : w33.cell? ⟨gb1036, 4, none⟩ = some (.int .i64 t1030) := (blk_cell BK1036.out 4).trans rfl; have hcz49_5 : w33.cell? ⟨gb1036, 5, none⟩ = some (.int .i64 t1031) := (blk_cell BK1036.out 5).trans rfl; have hcz49_6 : w33.cell? ⟨gb1036, 6, none⟩ = some (.slice Ao29 t1032.length co29) := (blk_cell BK1036.out 6).trans rfl; have hfz49_0 := blk_frozen BK1036.out 0; have hfz49_1 := blk_frozen BK1036.out 1; have hfz49_2 := blk_frozen BK1036.out 2; have hfz49_3 := blk_frozen BK1036.out 3; have hfz49_4 := blk_frozen BK1036.out 4; have hfz49_5 := blk_frozen BK1036.out 5; have hfz49_6 := blk_frozen BK1036.out 6; have hnb50 := NB1047_1015.out; have hnc50 := NB1015_1047.out; have hcz51_0 : w33.cell? ⟨gb1047, 0, none⟩ = some (.int .u8 0) := (blk_cell BK1047.out 0).trans rfl; have hcz51_1 : w33.cell? ⟨gb1047, 1, none⟩ = some (.int .i64 0) := (blk_cell BK1047.out 1).trans rfl; have hcz51_2 : w33.cell? ⟨gb1047, 2, none⟩ = some (.int .i64 0) := (blk_cell BK1047.out 2).trans rfl; have hcz51_3 : w33.cell? ⟨gb1047, 3, none⟩ = some (.int .i64 0) := (blk_cell BK1047.out 3).trans rfl; have hcz51_4 : w33.cell? ⟨gb1047, 4, none⟩ = some (.int .i64 0) := (blk_cell BK1047.out 4).trans rfl; have hcz51_5 : w33.cell? ⟨gb1047, 5, none⟩ = some (.int .i64 0) := (blk_cell BK1047.out 5).trans rfl; have hcz51_6 : w33.cell? ⟨gb1047, 6, none⟩ = some (.slice none 0 0) := (blk_cell BK1047.out 6).trans rfl; have hfz51_0 := blk_frozen BK1047.out 0; have hfz51_1 := blk_frozen BK1047.out 1; have hfz51_2 := blk_frozen BK1047.out 2; have hfz51_3 := blk_frozen BK1047.out 3; have hfz51_4 := blk_frozen BK1047.out 4; have hfz51_5 := blk_frozen BK1047.out 5; have hfz51_6 := blk_frozen BK1047.out 6) | (go_at_call 64; (with_reducible refine (sashref05_Same.calls kj3 t1026 t1027 t1028 t1029 t1030 t1031 _ _ t1032 t1037 t1038 t1039 t1040 t1041 t1042 _ _ t1043 t1049 _ ?side1 ?side2 ?side3 ?side4 A44.out).mono ?_); (case side1 => refine (Kd.N_reads' (e := 26) (base := w.heap.size) (ok := fun k_ => ((some k_ ≠ (.slice Ao45 t1018.length co45 : Value).ownBlock ∧ (some k_ ≠ (.slice Ao46 t1022.length co46 : Value).ownBlock ∧ (k_ ≠ gb1015 ∧ k_ ≠ gb1036))) ∧ k_ ≠ gb1047)) (n := t1032.length) (c := co29) ?_).2.2; exact (by (with_reducible repeat (first | apply Kd.N_alloc | apply Kd.N_drewN | apply Kd.N_drew)); exact (Kd.N_mono (Kd.N_far (p := ⟨gb1047, 6, none⟩) (Kd.N_far (p := ⟨gb1047, 5, none⟩) (Kd.N_far (p := ⟨gb1047, 4, none⟩) (Kd.N_far (p := ⟨gb1047, 3, none⟩) (Kd.N_far (p := ⟨gb1047, 2, none⟩) (Kd.N_far (p := ⟨gb1047, 1, none⟩) (Kd.N_far (p := ⟨gb1047, 0, none⟩) (Kd.N_mono HO1034.out (fun k_ hk => (⟨hk, hk.2⟩ : _ ∧ k_ ≠ gb1047))) (fun _ hk => hk.2) (.int .u8 t1037)) (fun _ hk => hk.2) (.int .i64 t1038)) (fun _ hk => hk.2) (.int .i64 t1039)) (fun _ hk => hk.2) (.int .i64 t1040)) (fun _ hk => hk.2) (.int .i64 t1041)) (fun _ hk => hk.2) (.int .i64 t1042)) (fun _ hk => hk.2) (.slice Ao37 t1043.length co37)) (fun _ h_ => h_.1)))); (case side2 => exact (Kd.N_reads' HO1034.out).2.1); (case side3 => refine (Kd.V_reads' (e := 26) (base := w.heap.size) (ok := fun k_ => ((some k_ ≠ (.slice Ao45 t1018.length co45 : Value).ownBlock ∧ (some k_ ≠ (.slice Ao46 t1022.length co46 : Value).ownBlock ∧ (some k_ ≠ (.slice Ao29 t1032.length co29 : Value).ownBlock ∧ (k_ ≠ gb1015 ∧ k_ ≠ gb1036)))) ∧ k_ ≠ gb1047)) (n := t1043.length) (c := co37) ?_).2.2; exact (by (with_reducible repeat (first | apply Kd.V_alloc | apply Kd.V_drewN | apply Kd.V_drew)); exact (Kd.V_mono (Kd.V_far (p := ⟨gb1047, 6, none⟩) (Kd.V_far (p := ⟨gb1047, 5, none⟩) (Kd.V_far (p := ⟨gb1047, 4, none⟩) (Kd.V_far (p := ⟨gb1047, 3, none⟩) (Kd.V_far (p := ⟨gb1047, 2, none⟩) (Kd.V_far (p := ⟨gb1047, 1, none⟩) (Kd.V_far (p := ⟨gb1047, 0, none⟩) (Kd.V_mono HO1045.out (fun k_ hk => (⟨hk, hk.2⟩ : _ ∧ k_ ≠ gb1047))) (fun _ hk => hk.2) (.int .u8 t1037)) (fun _ hk => hk.2) (.int .i64 t1038)) (fun _ hk => hk.2) (.int .i64 t1039)) (fun _ hk => hk.2) (.int .i64 t1040)) (fun _ hk => hk.2) (.int .i64 t1041)) (fun _ hk => hk.2) (.int .i64 t1042)) (fun _ hk => hk.2) (.slice Ao37 t1043.length co37)) (fun _ h_ => h_.1)))); (case side4 => exact (Kd.V_reads' HO1045.out).2.1); rintro e w52 ⟨rfl, hb⟩; have n0_ := Aside0.mk (Kd.R_below (by (with_reducible repeat (first | apply Kd.R_alloc | apply Kd.R_drewN | apply Kd.R_drew)); exact (Kd.R_mono (Kd.R_far (p := ⟨gb1047, 6, none⟩) (Kd.R_far (p := ⟨gb1047, 5, none⟩) (Kd.R_far (p := ⟨gb1047, 4, none⟩) (Kd.R_far (p := ⟨gb1047, 3, none⟩) (Kd.R_far (p := ⟨gb1047, 2, none⟩) (Kd.R_far (p := ⟨gb1047, 1, none⟩) (Kd.R_far (p := ⟨gb1047, 0, none⟩) (Kd.R_types HO1020.out BK1047.out (by decide)) (fun _ hk => hk.2) (.int .u8 t1037)) (fun _ hk => hk.2) (.int .i64 t1038)) (fun _ hk => hk.2) (.int .i64 t1039)) (fun _ hk => hk.2) (.int .i64 t1040)) (fun _ hk => hk.2) (.int .i64 t1041)) (fun _ hk => hk.2) (.int .i64 t1042)) (fun _ hk => hk.2) (.slice Ao37 t1043.length co37)) (fun _ h_ => h_.1))) hb); have n1_ := Aside0.mk (Kd.R_below (by (with_reducible repeat (first | apply Kd.R_alloc | apply Kd.R_drewN | apply Kd.R_drew)); exact (Kd.R_mono (Kd.R_far (p := ⟨gb1047, 6, none⟩) (Kd.R_far (p := ⟨gb1047, 5, none⟩) (Kd.R_far (p := ⟨gb1047, 4, none⟩) (Kd.R_far (p := ⟨gb1047, 3, none⟩) (Kd.R_far (p := ⟨gb1047, 2, none⟩) (Kd.R_far (p := ⟨gb1047, 1, none⟩) (Kd.R_far (p := ⟨gb1047, 0, none⟩) (Kd.R_types HO1024.out BK1047.out (by decide)) (fun _ hk => hk.2) (.int .u8 t1037)) (fun _ hk => hk.2) (.int .i64 t1038)) (fun _ hk => hk.2) (.int .i64 t1039)) (fun _ hk => hk.2) (.int .i64 t1040)) (fun _ hk => hk.2) (.int .i64 t1041)) (fun _ hk => hk.2) (.int .i64 t1042)) (fun _ hk => hk.2) (.slice Ao37 t1043.length co37)) (fun _ h_ => h_.1))) hb); have n2_ := Aside0.mk (Kd.N_below (by (with_reducible repeat (first | apply Kd.N_alloc | apply Kd.N_drewN | apply Kd.N_drew)); exact (Kd.N_mono (Kd.N_far (p := ⟨gb1047, 6, none⟩) (Kd.N_far (p := ⟨gb1047, 5, none⟩) (Kd.N_far (p := ⟨gb1047, 4, none⟩) (Kd.N_far (p := ⟨gb1047, 3, none⟩) (Kd.N_far (p := ⟨gb1047, 2, none⟩) (Kd.N_far (p := ⟨gb1047, 1, none⟩) (Kd.N_far (p := ⟨gb1047, 0, none⟩) (Kd.N_mono HO1034.out (fun k_ hk => (⟨hk, hk.2⟩ : _ ∧ k_ ≠ gb1047))) (fun _ hk => hk.2) (.int .u8 t1037)) (fun _ hk => hk.2) (.int .i64 t1038)) (fun _ hk => hk.2) (.int .i64 t1039)) (fun _ hk => hk.2) (.int .i64 t1040)) (fun _ hk => hk.2) (.int .i64 t1041)) (fun _ hk => hk.2) (.int .i64 t1042)) (fun _ hk => hk.2) (.slice Ao37 t1043.length co37)) (fun _ h_ => h_.1))) hb); have n3_ := Aside0.mk (Kd.V_below (by (with_reducible repeat (first | apply Kd.V_alloc | apply Kd.V_drewN | apply Kd.V_drew)); exact (Kd.V_mono (Kd.V_far (p := ⟨gb1047, 6, none⟩) (Kd.V_far (p := ⟨gb1047, 5, none⟩) (Kd.V_far (p := ⟨gb1047, 4, none⟩) (Kd.V_far (p := ⟨gb1047, 3, none⟩) (Kd.V_far (p := ⟨gb1047, 2, none⟩) (Kd.V_far (p := ⟨gb1047, 1, none⟩) (Kd.V_far (p := ⟨gb1047, 0, none⟩) (Kd.V_mono HO1045.out (fun k_ hk => (⟨hk, hk.2⟩ : _ ∧ k_ ≠ gb1047))) (fun _ hk => hk.2) (.int .u8 t1037)) (fun _ hk => hk.2) (.int .i64 t1038)) (fun _ hk => hk.2) (.int .i64 t1039)) (fun _ hk => hk.2) (.int .i64 t1040)) (fun _ hk => hk.2) (.int .i64 t1041)) (fun _ hk => hk.2) (.int .i64 t1042)) (fun _ hk => hk.2) (.slice Ao37 t1043.length co37)) (fun _ h_ => h_.1))) hb); have n4_ := Aside0.mk (blk_below (g := gb1015) (o := .cells #[.int .u8 a0_0, .int .i64 a0_1, .int .i64 a0_2, .int .i64 a0_3, .int .i64 a0_4, .int .i64 a0_5, .slice A0_6 l0_6.length c0_6] 26 (0, 0)) (by (with_reducible repeat (first | refine blk_drewN ?_ _ | refine blk_drew ?_ | refine blk_alloc ?_ _)); refine blk_far ?_ NB1015_1047.out _; (with_reducible repeat (first | refine blk_drewN ?_ _ | refine blk_drew ?_ | refine blk_alloc ?_ _)); refine blk_far ?_ NB1015_1047.out _; (with_reducible repeat (first | refine blk_drewN ?_ _ | refine blk_drew ?_ | refine blk_alloc ?_ _)); refine blk_far ?_ NB1015_1047.out _; (with_reducible repeat (first | refine blk_drewN ?_ _ | refine blk_drew ?_ | refine blk_alloc ?_ _)); refine blk_far ?_ NB1015_1047.out _; (with_reducible repeat (first | refine blk_drewN ?_ _ | refine blk_drew ?_ | refine blk_alloc ?_ _)); refine blk_far ?_ NB1015_1047.out _; (with_reducible repeat (first | refine blk_drewN ?_ _ | refine blk_drew ?_ | refine blk_alloc ?_ _)); refine blk_far ?_ NB1015_1047.out _; (with_reducible repeat (first | refine blk_drewN ?_ _ | refine blk_drew ?_ | refine blk_alloc ?_ _)); refine blk_far ?_ NB1015_1047.out _; (with_reducible repeat (first | refine blk_drewN ?_ _ | refine blk_drew ?_ | refine blk_alloc ?_ _)); exact BK1015.out) hb); have n5_ := Aside0.mk (blk_below (g := gb1036) (o := .cells #[.int .u8 t1026, .int .i64 t1027, .int .i64 t1028, .int .i64 t1029, .int .i64 t1030, .int .i64 t1031, .slice Ao29 t1032.length co29] 26 (0, 0)) (by (with_reducible repeat (first | refine blk_drewN ?_ _ | refine blk_drew ?_ | refine blk_alloc ?_ _)); refine blk_far ?_ NB1036_1047.out _; (with_reducible repeat (first | refine blk_drewN ?_ _ | refine blk_drew ?_ | refine blk_alloc ?_ _)); refine blk_far ?_ NB1036_1047.out _; (with_reducible repeat (first | refine blk_drewN ?_ _ | refine blk_drew ?_ | refine blk_alloc ?_ _)); refine blk_far ?_ NB1036_1047.out _; (with_reducible repeat (first | refine blk_drewN ?_ _ | refine blk_drew ?_ | refine blk_alloc ?_ _)); refine blk_far ?_ NB1036_1047.out _; (with_reducible repeat (first | refine blk_drewN ?_ _ | refine blk_drew ?_ | refine blk_alloc ?_ _)); refine blk_far ?_ NB1036_1047.out _; (with_reducible repeat (first | refine blk_drewN ?_ _ | refine blk_drew ?_ | refine blk_alloc ?_ _)); refine blk_far ?_ NB1036_1047.out _; (with_reducible repeat (first | refine blk_drewN ?_ _ | refine blk_drew ?_ | refine blk_alloc ?_ _)); refine blk_far ?_ NB1036_1047.out _; (with_reducible repeat (first | refine blk_drewN ?_ _ | refine blk_drew ?_ | refine blk_alloc ?_ _)); exact BK1036.out) hb); have n6_ := Aside0.mk (blk_below (g := gb1047) (o := .cells #[.int .u8 t1037, .int .i64 t1038, .int .i64 t1039, .int .i64 t1040, .int .i64 t1041, .int .i64 t1042, .slice Ao37 t1043.length co37] 26 (0, 0)) (by (with_reducible repeat (first | refine blk_drewN ?_ _ | refine blk_drew ?_ | refine blk_alloc ?_ _)); refine blk_put (cs := #[.int .u8 t1037, .int .i64 t1038, .int .i64 t1039, .int .i64 t1040, .int .i64 t1041, .int .i64 t1042, .slice none 0 0]) ?_ 6 _ rfl; (with_reducible repeat (first | refine blk_drewN ?_ _ | refine blk_drew ?_ | refine blk_alloc ?_ _)); refine blk_put (cs := #[.int .u8 t1037, .int .i64 t1038, .int .i64 t1039, .int .i64 t1040, .int .i64 t1041, .int .i64 0, .slice none 0 0]) ?_ 5 _ rfl; (with_reducible repeat (first | refine blk_drewN ?_ _ | refine blk_drew ?_ | refine blk_alloc ?_ _)); refine blk_put (cs := #[.int .u8 t1037, .int .i64 t1038, .int .i64 t1039, .int .i64 t1040, .int .i64 0, .int .i64 0, .slice none 0 0]) ?_ 4 _ rfl; (with_reducible repeat (first | refine blk_drewN ?_ _ | refine blk_drew ?_ | refine blk_alloc ?_ _)); refine blk_put (cs := #[.int .u8 t1037, .int .i64 t1038, .int .i64 t1039, .int .i64 0, .int .i64 0, .int .i64 0, .slice none 0 0]) ?_ 3 _ rfl; (with_reducible repeat (first | refine blk_drewN ?_ _ | refine blk_drew ?_ | refine blk_alloc ?_ _)); refine blk_put (cs := #[.int .u8 t1037, .int .i64 t1038, .int .i64 0, .int .i64 0, .int .i64 0, .int .i64 0, .slice none 0 0]) ?_ 2 _ rfl; (with_reducible repeat (first | refine blk_drewN ?_ _ | refine blk_drew ?_ | refine blk_alloc ?_ _)); refine blk_put (cs := #[.int .u8 t1037, .int .i64 0, .int .i64 0, .int .i64 0, .int .i64 0, .int .i64 0, .slice none 0 0]) ?_ 1 _ rfl; (with_reducible repeat (first | refine blk_drewN ?_ _ | refine blk_drew ?_ | refine blk_alloc ?_ _)); refine blk_put (cs := #[.int .u8 0, .int .i64 0, .int .i64 0, .int .i64 0, .int .i64 0, .int .i64 0, .slice none 0 0]) ?_ 0 _ rfl; (with_reducible repeat (first | refine blk_drewN ?_ _ | refine blk_drew ?_ | refine blk_alloc ?_ _)); exact BK1047.out) hb); have n7_ := Aside0.mk (below_step (by repeat (first | (with_reducible first | exact HB.out | apply below_alloc | apply pw_below_drewN | apply below_drew1 | refine below_set ?_ GE1015.out | refine below_set ?_ GE1036.out | refine below_set ?_ GE1047.out) | exact HB.out)) hb); clear HO1020; clear HO1024; clear HO1034; clear HO1045; clear BK1015; clear BK1036; clear BK1047; clear HB; have HO1020 := n0_; have HO1024 := n1_; have HO1034 := n2_; have HO1045 := n3_; have BK1015 := n4_; have BK1036 := n5_; have BK1047 := n6_; have HB := n7_; clear n0_ n1_ n2_ n3_ n4_ n5_ n6_ n7_; (try clear hb); (try clear hb2); (try clear hk); (try clear hi)))
                go_meet
                case rel => exact ⟨_, (!t1049), (by first | rfl | (simp; done) | (simp [*]; done)), H', ⟨by have := HJ3.out; first | omega | exact Nat.le_refl _⟩, ⟨by (with_reducible repeat (first | apply Kd.R_alloc | apply Kd.R_drewN | apply Kd.R_drew)); exact Kd.R_mono HO1020.out (fun _ hk => trivial)⟩, ⟨by (with_reducible repeat (first | apply Kd.N_alloc | apply Kd.N_drewN | apply Kd.N_drew)); exact Kd.N_mono HO1034.out (fun _ hk => ⟨hk.1.1, ⟨hk.1.2.2.1, ⟨hk.1.2.2.2, hk.2⟩⟩⟩)⟩, ⟨by (with_reducible repeat (first | apply Kd.V_alloc | apply Kd.V_drewN | apply Kd.V_drew)); exact Kd.V_mono HO1045.out (fun _ hk => ⟨hk.1.1, ⟨hk.1.2.2.1, ⟨hk.1.2.2.2.1, ⟨hk.1.2.2.2.2, hk.2⟩⟩⟩⟩)⟩, ⟨by (with_reducible repeat (first | refine blk_drewN ?_ _ | refine blk_drew ?_ | refine blk_alloc ?_ _)); exact BK1015.out⟩, ⟨by (with_reducible repeat (first | refine blk_drewN ?_ _ | refine blk_drew ?_ | refine blk_alloc ?_ _)); exact BK1036.out⟩, ⟨by (with_reducible repeat (first | refine blk_drewN ?_ _ | refine blk_drew ?_ | refine blk_alloc ?_ _)); exact BK1047.out⟩, ⟨by repeat (first | (with_reducible first | exact HB.out | apply below_alloc | apply pw_below_drewN | apply below_drew1 | refine below_set ?_ GE1015.out | refine below_set ?_ GE1036.out | refine below_set ?_ GE1047.out) | exact HB.out)⟩⟩
            · replace c40 := Bool.eq_false_iff.mpr c40
              subst c40
              have H1 : (sashlaw05_CellFinds.j1 kj3 a1 t1018 t1021 true a0_0 a0_1 a0_2 a0_3 a0_4 a0_5 l0_6) = some r := by rw [if_neg (show ¬ (false = true) by decide)] at H; exact H
              clear H
              have H := H1
              clear H1
              have H' := Aside0.mk H
              clear H
              obtain ⟨Ao53, co53, eo53⟩ := Kd.R_slice HO1020.out
              subst eo53
              obtain ⟨Ao54, co54, eo54⟩ := Kd.R_slice HO1024.out
              subst eo54
              go_wp2_with (first | (go_at_call 51; (with_reducible refine (sashref05_Ints.calls kj3 _ _ t1018 _ _ t1022 false _ ?side1 ?side2 ?side3 ?side4 A39.out).mono ?_); (case side1 => refine (Kd.R_reads' (e := 3) (base := w.heap.size) (ok := fun k_ => some k_ ≠ (.slice Ao54 t1022.length co54 : Value).ownBlock) (n := t1018.length) (c := co53) ?_).2.2; exact (by (with_reducible repeat (first | apply Kd.R_alloc | apply Kd.R_drewN | apply Kd.R_drew)); exact (Kd.R_mono (Kd.R_far (p := ⟨gb1047, 6, none⟩) (Kd.R_far (p := ⟨gb1047, 5, none⟩) (Kd.R_far (p := ⟨gb1047, 4, none⟩) (Kd.R_far (p := ⟨gb1047, 3, none⟩) (Kd.R_far (p := ⟨gb1047, 2, none⟩) (Kd.R_far (p := ⟨gb1047, 1, none⟩) (Kd.R_far (p := ⟨gb1047, 0, none⟩) (Kd.R_types HO1020.out BK1047.out (by decide)) (fun _ hk => hk.2) (.int .u8 t1037)) (fun _ hk => hk.2) (.int .i64 t1038)) (fun _ hk => hk.2) (.int .i64 t1039)) (fun _ hk => hk.2) (.int .i64 t1040)) (fun _ hk => hk.2) (.int .i64 t1041)) (fun _ hk => hk.2) (.int .i64 t1042)) (fun _ hk => hk.2) (.slice Ao37 t1043.length co37)) (fun _ h_ => h_.1)))); (case side2 => exact (Kd.R_reads' HO1020.out).2.1); (case side3 => refine (Kd.R_reads' (e := 3) (base := w.heap.size) (ok := fun k_ => some k_ ≠ (.slice Ao53 t1018.length co53 : Value).ownBlock) (n := t1022.length) (c := co54) ?_).2.2; exact (by (with_reducible repeat (first | apply Kd.R_alloc | apply Kd.R_drewN | apply Kd.R_drew)); exact (Kd.R_mono (Kd.R_far (p := ⟨gb1047, 6, none⟩) (Kd.R_far (p := ⟨gb1047, 5, none⟩) (Kd.R_far (p := ⟨gb1047, 4, none⟩) (Kd.R_far (p := ⟨gb1047, 3, none⟩) (Kd.R_far (p := ⟨gb1047, 2, none⟩) (Kd.R_far (p := ⟨gb1047, 1, none⟩) (Kd.R_far (p := ⟨gb1047, 0, none⟩) (Kd.R_types HO1024.out BK1047.out (by decide)) (fun _ hk => hk.2) (.int .u8 t1037)) (fun _ hk => hk.2) (.int .i64 t1038)) (fun _ hk => hk.2) (.int .i64 t1039)) (fun _ hk => hk.2) (.int .i64 t1040)) (fun _ hk => hk.2) (.int .i64 t1041)) (fun _ hk => hk.2) (.int .i64 t1042)) (fun _ hk => hk.2) (.slice Ao37 t1043.length co37)) (fun _ h_ => h_.1)))); (case side4 => exact (Kd.R_reads' HO1024.out).2.1); rintro e w' ⟨rfl, ⟨nd, rfl⟩⟩))
              go_meet
              case rel => exact ⟨_, (true), (by first | rfl | (simp; done) | (simp [*]; done)), H', ⟨by have := HJ3.out; first | omega | exact Nat.le_refl _⟩, ⟨by (with_reducible repeat (first | apply Kd.R_alloc | apply Kd.R_drewN | apply Kd.R_drew)); exact Kd.R_mono (Kd.R_far (p := ⟨gb1047, 6, none⟩) (Kd.R_far (p := ⟨gb1047, 5, none⟩) (Kd.R_far (p := ⟨gb1047, 4, none⟩) (Kd.R_far (p := ⟨gb1047, 3, none⟩) (Kd.R_far (p := ⟨gb1047, 2, none⟩) (Kd.R_far (p := ⟨gb1047, 1, none⟩) (Kd.R_far (p := ⟨gb1047, 0, none⟩) (Kd.R_types HO1020.out BK1047.out (by decide)) (fun _ hk => hk.2) (.int .u8 t1037)) (fun _ hk => hk.2) (.int .i64 t1038)) (fun _ hk => hk.2) (.int .i64 t1039)) (fun _ hk => hk.2) (.int .i64 t1040)) (fun _ hk => hk.2) (.int .i64 t1041)) (fun _ hk => hk.2) (.int .i64 t1042)) (fun _ hk => hk.2) (.slice Ao37 t1043.length co37)) (fun _ hk => trivial)⟩, ⟨by (with_reducible repeat (first | apply Kd.N_alloc | apply Kd.N_drewN | apply Kd.N_drew)); exact Kd.N_mono (Kd.N_far (p := ⟨gb1047, 6, none⟩) (Kd.N_far (p := ⟨gb1047, 5, none⟩) (Kd.N_far (p := ⟨gb1047, 4, none⟩) (Kd.N_far (p := ⟨gb1047, 3, none⟩) (Kd.N_far (p := ⟨gb1047, 2, none⟩) (Kd.N_far (p := ⟨gb1047, 1, none⟩) (Kd.N_far (p := ⟨gb1047, 0, none⟩) (Kd.N_mono HO1034.out (fun k_ hk => (⟨hk, hk.2⟩ : _ ∧ k_ ≠ gb1047))) (fun _ hk => hk.2) (.int .u8 t1037)) (fun _ hk => hk.2) (.int .i64 t1038)) (fun _ hk => hk.2) (.int .i64 t1039)) (fun _ hk => hk.2) (.int .i64 t1040)) (fun _ hk => hk.2) (.int .i64 t1041)) (fun _ hk => hk.2) (.int .i64 t1042)) (fun _ hk => hk.2) (.slice Ao37 t1043.length co37)) (fun _ hk => ⟨hk.1.1.1, ⟨hk.1.1.2.2.1, ⟨hk.1.1.2.2.2, hk.1.2⟩⟩⟩)⟩, ⟨by (with_reducible repeat (first | apply Kd.V_alloc | apply Kd.V_drewN | apply Kd.V_drew)); exact Kd.V_mono (Kd.V_far (p := ⟨gb1047, 6, none⟩) (Kd.V_far (p := ⟨gb1047, 5, none⟩) (Kd.V_far (p := ⟨gb1047, 4, none⟩) (Kd.V_far (p := ⟨gb1047, 3, none⟩) (Kd.V_far (p := ⟨gb1047, 2, none⟩) (Kd.V_far (p := ⟨gb1047, 1, none⟩) (Kd.V_far (p := ⟨gb1047, 0, none⟩) (Kd.V_mono HO1045.out (fun k_ hk => (⟨hk, hk.2⟩ : _ ∧ k_ ≠ gb1047))) (fun _ hk => hk.2) (.int .u8 t1037)) (fun _ hk => hk.2) (.int .i64 t1038)) (fun _ hk => hk.2) (.int .i64 t1039)) (fun _ hk => hk.2) (.int .i64 t1040)) (fun _ hk => hk.2) (.int .i64 t1041)) (fun _ hk => hk.2) (.int .i64 t1042)) (fun _ hk => hk.2) (.slice Ao37 t1043.length co37)) (fun _ hk => ⟨hk.1.1.1, ⟨hk.1.1.2.2.1, ⟨hk.1.1.2.2.2.1, ⟨hk.1.1.2.2.2.2, hk.1.2⟩⟩⟩⟩)⟩, ⟨by (with_reducible repeat (first | refine blk_drewN ?_ _ | refine blk_drew ?_ | refine blk_alloc ?_ _)); refine blk_far ?_ NB1015_1047.out _; (with_reducible repeat (first | refine blk_drewN ?_ _ | refine blk_drew ?_ | refine blk_alloc ?_ _)); refine blk_far ?_ NB1015_1047.out _; (with_reducible repeat (first | refine blk_drewN ?_ _ | refine blk_drew ?_ | refine blk_alloc ?_ _)); refine blk_far ?_ NB1015_1047.out _; (with_reducible repeat (first | refine blk_drewN ?_ _ | refine blk_drew ?_ | refine blk_alloc ?_ _)); refine blk_far ?_ NB1015_1047.out _; (with_reducible repeat (first | refine blk_drewN ?_ _ | refine blk_drew ?_ | refine blk_alloc ?_ _)); refine blk_far ?_ NB1015_1047.out _; (with_reducible repeat (first | refine blk_drewN ?_ _ | refine blk_drew ?_ | refine blk_alloc ?_ _)); refine blk_far ?_ NB1015_1047.out _; (with_reducible repeat (first | refine blk_drewN ?_ _ | refine blk_drew ?_ | refine blk_alloc ?_ _)); refine blk_far ?_ NB1015_1047.out _; (with_reducible repeat (first | refine blk_drewN ?_ _ | refine blk_drew ?_ | refine blk_alloc ?_ _)); exact BK1015.out⟩, ⟨by (with_reducible repeat (first | refine blk_drewN ?_ _ | refine blk_drew ?_ | refine blk_alloc ?_ _)); refine blk_far ?_ NB1036_1047.out _; (with_reducible repeat (first | refine blk_drewN ?_ _ | refine blk_drew ?_ | refine blk_alloc ?_ _)); refine blk_far ?_ NB1036_1047.out _; (with_reducible repeat (first | refine blk_drewN ?_ _ | refine blk_drew ?_ | refine blk_alloc ?_ _)); refine blk_far ?_ NB1036_1047.out _; (with_reducible repeat (first | refine blk_drewN ?_ _ | refine blk_drew ?_ | refine blk_alloc ?_ _)); refine blk_far ?_ NB1036_1047.out _; (with_reducible repeat (first | refine blk_drewN ?_ _ | refine blk_drew ?_ | refine blk_alloc ?_ _)); refine blk_far ?_ NB1036_1047.out _; (with_reducible repeat (first | refine blk_drewN ?_ _ | refine blk_drew ?_ | refine blk_alloc ?_ _)); refine blk_far ?_ NB1036_1047.out _; (with_reducible repeat (first | refine blk_drewN ?_ _ | refine blk_drew ?_ | refine blk_alloc ?_ _)); refine blk_far ?_ NB1036_1047.out _; (with_reducible repeat (first | refine blk_drewN ?_ _ | refine blk_drew ?_ | refine blk_alloc ?_ _)); exact BK1036.out⟩, ⟨by (with_reducible repeat (first | refine blk_drewN ?_ _ | refine blk_drew ?_ | refine blk_alloc ?_ _)); refine blk_put (cs := #[.int .u8 t1037, .int .i64 t1038, .int .i64 t1039, .int .i64 t1040, .int .i64 t1041, .int .i64 t1042, .slice none 0 0]) ?_ 6 _ rfl; (with_reducible repeat (first | refine blk_drewN ?_ _ | refine blk_drew ?_ | refine blk_alloc ?_ _)); refine blk_put (cs := #[.int .u8 t1037, .int .i64 t1038, .int .i64 t1039, .int .i64 t1040, .int .i64 t1041, .int .i64 0, .slice none 0 0]) ?_ 5 _ rfl; (with_reducible repeat (first | refine blk_drewN ?_ _ | refine blk_drew ?_ | refine blk_alloc ?_ _)); refine blk_put (cs := #[.int .u8 t1037, .int .i64 t1038, .int .i64 t1039, .int .i64 t1040, .int .i64 0, .int .i64 0, .slice none 0 0]) ?_ 4 _ rfl; (with_reducible repeat (first | refine blk_drewN ?_ _ | refine blk_drew ?_ | refine blk_alloc ?_ _)); refine blk_put (cs := #[.int .u8 t1037, .int .i64 t1038, .int .i64 t1039, .int .i64 0, .int .i64 0, .int .i64 0, .slice none 0 0]) ?_ 3 _ rfl; (with_reducible repeat (first | refine blk_drewN ?_ _ | refine blk_drew ?_ | refine blk_alloc ?_ _)); refine blk_put (cs := #[.int .u8 t1037, .int .i64 t1038, .int .i64 0, .int .i64 0, .int .i64 0, .int .i64 0, .slice none 0 0]) ?_ 2 _ rfl; (with_reducible repeat (first | refine blk_drewN ?_ _ | refine blk_drew ?_ | refine blk_alloc ?_ _)); refine blk_put (cs := #[.int .u8 t1037, .int .i64 0, .int .i64 0, .int .i64 0, .int .i64 0, .int .i64 0, .slice none 0 0]) ?_ 1 _ rfl; (with_reducible repeat (first | refine blk_drewN ?_ _ | refine blk_drew ?_ | refine blk_alloc ?_ _)); refine blk_put (cs := #[.int .u8 0, .int .i64 0, .int .i64 0, .int .i64 0, .int .i64 0, .int .i64 0, .slice none 0 0]) ?_ 0 _ rfl; (with_reducible repeat (first | refine blk_drewN ?_ _ | refine blk_drew ?_ | refine blk_alloc ?_ _)); exact BK1047.out⟩, ⟨by repeat (first | (with_reducible first | exact HB.out | apply below_alloc | apply pw_below_drewN | apply below_drew1 | refine below_set ?_ GE1015.out | refine below_set ?_ GE1036.out | refine below_set ?_ GE1047.out) | exact HB.out)⟩⟩
        case rest =>
          clear HC19
          try clear c1
          try clear c2
          try clear p2
          try clear c3
          try clear c4
          try clear c5
          try clear c7
          try clear c8
          try clear c9
          try clear c12
          try clear c20
          try clear c27
          try clear c34
          try clear c35
          try clear c38
          try clear c38b0
          try clear c38b1
          try clear c38b2
          try clear c40
          try clear c41
          try clear c41b0
          try clear c41b1
          try clear c41b2
          try clear c47
          try clear c48
          try clear c50
          try clear hcz10_0
          try clear hcz10_1
          try clear hcz10_2
          try clear hcz10_3
          try clear hcz10_4
          try clear hcz10_5
          try clear hcz10_6
          try clear hcz20_0
          try clear hcz20_1
          try clear hcz20_2
          try clear hcz20_3
          try clear hcz20_4
          try clear hcz20_5
          try clear hcz20_6
          try clear hcz22_0
          try clear hcz22_1
          try clear hcz22_2
          try clear hcz22_3
          try clear hcz22_4
          try clear hcz22_5
          try clear hcz22_6
          try clear hcz24_0
          try clear hcz24_1
          try clear hcz24_2
          try clear hcz24_3
          try clear hcz24_4
          try clear hcz24_5
          try clear hcz24_6
          try clear hcz28_0
          try clear hcz28_1
          try clear hcz28_2
          try clear hcz28_3
          try clear hcz28_4
          try clear hcz28_5
          try clear hcz28_6
          try clear hcz31_0
          try clear hcz31_1
          try clear hcz31_2
          try clear hcz31_3
          try clear hcz31_4
          try clear hcz31_5
          try clear hcz31_6
          try clear hcz36_0
          try clear hcz36_1
          try clear hcz36_2
          try clear hcz36_3
          try clear hcz36_4
          try clear hcz36_5
          try clear hcz36_6
          try clear hcz49_0
          try clear hcz49_1
          try clear hcz49_2
          try clear hcz49_3
          try clear hcz49_4
          try clear hcz49_5
          try clear hcz49_6
          try clear hcz51_0
          try clear hcz51_1
          try clear hcz51_2
          try clear hcz51_3
          try clear hcz51_4
          try clear hcz51_5
          try clear hcz51_6
          try clear hcz8_0
          try clear hcz8_1
          try clear hcz8_2
          try clear hcz8_3
          try clear hcz8_4
          try clear hcz8_5
          try clear hcz8_6
          try clear hfz10_0
          try clear hfz10_1
          try clear hfz10_2
          try clear hfz10_3
          try clear hfz10_4
          try clear hfz10_5
          try clear hfz10_6
          try clear hfz20_0
          try clear hfz20_1
          try clear hfz20_2
          try clear hfz20_3
          try clear hfz20_4
          try clear hfz20_5
          try clear hfz20_6
          try clear hfz22_0
          try clear hfz22_1
          try clear hfz22_2
          try clear hfz22_3
          try clear hfz22_4
          try clear hfz22_5
          try clear hfz22_6
          try clear hfz24_0
          try clear hfz24_1
          try clear hfz24_2
          try clear hfz24_3
          try clear hfz24_4
          try clear hfz24_5
          try clear hfz24_6
          try clear hfz28_0
          try clear hfz28_1
          try clear hfz28_2
          try clear hfz28_3
          try clear hfz28_4
          try clear hfz28_5
          try clear hfz28_6
          try clear hfz31_0
          try clear hfz31_1
          try clear hfz31_2
          try clear hfz31_3
          try clear hfz31_4
          try clear hfz31_5
          try clear hfz31_6
          try clear hfz36_0
          try clear hfz36_1
          try clear hfz36_2
          try clear hfz36_3
          try clear hfz36_4
          try clear hfz36_5
          try clear hfz36_6
          try clear hfz49_0
          try clear hfz49_1
          try clear hfz49_2
          try clear hfz49_3
          try clear hfz49_4
          try clear hfz49_5
          try clear hfz49_6
          try clear hfz51_0
          try clear hfz51_1
          try clear hfz51_2
          try clear hfz51_3
          try clear hfz51_4
          try clear hfz51_5
          try clear hfz51_6
          try clear hfz8_0
          try clear hfz8_1
          try clear hfz8_2
          try clear hfz8_3
          try clear hfz8_4
          try clear hfz8_5
          try clear hfz8_6
          try clear p2
          obtain ⟨kq, x68_18, rfl, HA, HJ18, HO_7, HO_1037006, HO_1048006, BK1015, BK1036, BK1047, HB⟩ := hcut
          cases kq with
          | zero => exact absurd HA.out (by simp [sashlaw05_CellFinds.j1])
          | succ kj18 =>
            have H := HA.out
            clear HA
            simp only [sashlaw05_CellFinds.j1] at H
            by_cases c55 : x68_18 = true
            · subst c55
              have H1 : (some false) = some r := by rw [if_pos rfl] at H; exact H
              clear H
              have H := H1
              clear H1
              obtain rfl := Option.some.inj H
              go_wp2
              go_ret
              exact ⟨by first | rfl | (simp [errW_none, errW_some] <;> rfl) | (simp [*, errW_none, errW_some] <;> rfl), by repeat (first | (with_reducible first | exact HB.out | apply below_alloc | apply pw_below_drewN | apply below_drew1 | refine below_set ?_ GE1015.out | refine below_set ?_ GE1036.out | refine below_set ?_ GE1047.out) | exact HB.out)⟩
            · replace c55 := Bool.eq_false_iff.mpr c55
              subst c55
              have H1 : ((cell_At.f kj18 a0_0 a0_1 a0_2 a0_3 a0_4 a0_5 l0_6 t1018).bind fun bt1050 => (if t1021 = true then (if bt1050.2.2.2.2.2.2.2 = true then (if bt1050.1 = 1 then (if bt1050.2.2.2.2.2.1 = a1 then ((sashlaw05_awake.f).bind fun t1061 => (some t1061)) else (some false)) else (some false)) else (some false)) else ((sashlaw05_awake.f).bind fun t1062 => (some t1062)))) = some r := by rw [if_neg (show ¬ (false = true) by decide)] at H; exact H
              clear H
              have H := H1
              clear H1
              replace H := Option.bind_eq_some_iff.mp H
              obtain ⟨⟨t1050, t1051, t1052, t1053, t1054, t1055, t1056, t1059⟩, A560, H⟩ := H
              replace H : (if t1021 = true then (if t1059 = true then (if t1050 = 1 then (if t1055 = a1 then ((sashlaw05_awake.f).bind fun t1061 => (some t1061)) else (some false)) else (some false)) else (some false)) else ((sashlaw05_awake.f).bind fun t1062 => (some t1062))) = some r := H
              have A56 := Aside0.mk A560
              clear A560
              by_cases c57 : t1021 = true
              · subst c57
                have H1 : (if t1059 = true then (if t1050 = 1 then (if t1055 = a1 then ((sashlaw05_awake.f).bind fun t1061 => (some t1061)) else (some false)) else (some false)) else (some false)) = some r := by rw [if_pos rfl] at H; exact H
                clear H
                have H := H1
                clear H1
                by_cases c58 : t1059 = true
                · subst c58
                  have H1 : (if t1050 = 1 then (if t1055 = a1 then ((sashlaw05_awake.f).bind fun t1061 => (some t1061)) else (some false)) else (some false)) = some r := by rw [if_pos rfl] at H; exact H
                  clear H
                  have H := H1
                  clear H1
                  by_cases c59 : t1050 = 1
                  · rw [if_pos c59] at H
                    have c59b0 : (t1050 == 1) = true := beq_iff_eq.mpr c59
                    have c59b1 : (t1050 != 1) = false := bne_eq_false_iff_eq.mpr c59
                    clear c59
                    by_cases c60 : t1055 = a1
                    · rw [if_pos c60] at H
                      have c60b0 : (t1055 == a1) = true := beq_iff_eq.mpr c60
                      have c60b1 : (t1055 != a1) = false := bne_eq_false_iff_eq.mpr c60
                      clear c60
                      replace H := Option.bind_eq_some_iff.mp H
                      obtain ⟨t1061, A610, H⟩ := H
                      replace H : (some t1061) = some r := H
                      have A61 := Aside0.mk A610
                      clear A610
                      obtain rfl := Option.some.inj H
                      have hnb62 := NB1015_1036.out
                      have hnc62 := NB1036_1015.out
                      have hnb63 := NB1015_1047.out
                      have hnc63 := NB1047_1015.out
                      have hcz64_0 : wc.cell? ⟨gb1015, 0, none⟩ = some (.int .u8 a0_0) := (blk_cell BK1015.out 0).trans rfl
                      have hcz64_1 : wc.cell? ⟨gb1015, 1, none⟩ = some (.int .i64 a0_1) := (blk_cell BK1015.out 1).trans rfl
                      have hcz64_2 : wc.cell? ⟨gb1015, 2, none⟩ = some (.int .i64 a0_2) := (blk_cell BK1015.out 2).trans rfl
                      have hcz64_3 : wc.cell? ⟨gb1015, 3, none⟩ = some (.int .i64 a0_3) := (blk_cell BK1015.out 3).trans rfl
                      have hcz64_4 : wc.cell? ⟨gb1015, 4, none⟩ = some (.int .i64 a0_4) := (blk_cell BK1015.out 4).trans rfl
                      have hcz64_5 : wc.cell? ⟨gb1015, 5, none⟩ = some (.int .i64 a0_5) := (blk_cell BK1015.out 5).trans rfl
                      have hcz64_6 : wc.cell? ⟨gb1015, 6, none⟩ = some (.slice A0_6 l0_6.length c0_6) := (blk_cell BK1015.out 6).trans rfl
                      have hfz64_0 := blk_frozen BK1015.out 0
                      have hfz64_1 := blk_frozen BK1015.out 1
                      have hfz64_2 := blk_frozen BK1015.out 2
                      have hfz64_3 := blk_frozen BK1015.out 3
                      have hfz64_4 := blk_frozen BK1015.out 4
                      have hfz64_5 := blk_frozen BK1015.out 5
                      have hfz64_6 := blk_frozen BK1015.out 6
                      obtain ⟨Ao65, co65, eo65⟩ := Kd.R_slice HO_7.out
                      subst eo65
                      go_wp2_with (first | ((with_reducible refine gate_callee (f := 91) rfl ?_); refine goesL_ (some 72) rfl rfl Try.func91 (by kernel_rfl) rfl #[.agg #[.int .u8 a0_0, .int .i64 a0_1, .int .i64 a0_2, .int .i64 a0_3, .int .i64 a0_4, .int .i64 a0_5, .slice A0_6 l0_6.length c0_6], .slice Ao65 t1018.length co65] rfl (by (try simp only [List.map_toArray, List.map_cons, List.map_nil]); first | done | rfl | (simp only [List.length_drop, List.length_take]; rfl)) ?_; (with_reducible refine (cell_At.calls kj18 a0_0 a0_1 a0_2 a0_3 a0_4 a0_5 (fun k_ => k_ < w.heap.size) _ _ l0_6 _ _ t1018 t1050 t1051 t1052 t1053 t1054 t1055 t1056 true _ ?side1 ?side2 ?side3 A56.out).mono ?_); (case side1 => exact Kd.V_mk HC0_6.out (Kd.F_below (Kd.C_F k26_heap HR0_6.out) (by repeat (first | (with_reducible first | exact HB.out | apply below_alloc | apply pw_below_drewN | apply below_drew1 | refine below_set ?_ GE1015.out | refine below_set ?_ GE1036.out | refine below_set ?_ GE1047.out) | exact HB.out)))); (case side2 => repeat (first | exact (Kd.R_reads' HO_7.out).2.2 | (with_reducible refine Kd.C_alloc ?_ _) | (with_reducible refine Kd.C_drewN ?_ _) | (with_reducible refine Kd.C_drew ?_))); (case side3 => exact (Kd.R_reads' HO_7.out).2.1); rintro e w66 ⟨v1057, rfl, ho0, hb⟩; refine ⟨_, rfl, ?_⟩; have n0_ := Aside0.mk (Kd.R_below (by (with_reducible repeat (first | apply Kd.R_alloc | apply Kd.R_drewN | apply Kd.R_drew)); exact HO_7.out) hb); have n1_ := Aside0.mk (Kd.N_elder' (by (with_reducible repeat (first | apply Kd.N_alloc | apply Kd.N_drewN | apply Kd.N_drew)); exact HO_1037006.out) (Kd.N_base ho0) hb); have n2_ := Aside0.mk (Kd.V_elder' (by (with_reducible repeat (first | apply Kd.V_alloc | apply Kd.V_drewN | apply Kd.V_drew)); exact HO_1048006.out) (Kd.N_base ho0) hb); have n3_ := Aside0.mk (Kd.N_lower (Kd.N_mono (ok' := fun k_ => some k_ ≠ (.slice Ao65 t1018.length co65 : Value).ownBlock ∧ some k_ ≠ (.slice Ao29 t1032.length co29 : Value).ownBlock ∧ k_ ≠ gb1015 ∧ k_ ≠ gb1036 ∧ k_ ≠ gb1047) ho0 (fun k_ hk_ => ⟨Or.elim hk_ (fun hs_ => fun e_ => Nat.not_le.2 hs_ (Kd.R_base HO_7.out k_ e_.symm)) (fun hn_ => (Kd.fresh' (Kd.R_lt (by (with_reducible repeat (first | apply Kd.R_alloc | apply Kd.R_drewN | apply Kd.R_drew)); exact HO_7.out)) k_ hn_)), Or.elim hk_ (fun hs_ => fun e_ => Nat.not_le.2 hs_ (Kd.N_base HO_1037006.out k_ e_.symm)) (fun hn_ => (Kd.fresh' (Kd.N_lt (by (with_reducible repeat (first | apply Kd.N_alloc | apply Kd.N_drewN | apply Kd.N_drew)); exact HO_1037006.out)) k_ hn_)), Or.elim hk_ (fun hs_ => fun e_ => Nat.not_le.2 hs_ (by rw [e_]; exact GW1015.out)) (fun hn_ => (Kd.freshB (g := gb1015) (o := .cells #[.int .u8 a0_0, .int .i64 a0_1, .int .i64 a0_2, .int .i64 a0_3, .int .i64 a0_4, .int .i64 a0_5, .slice A0_6 l0_6.length c0_6] 26 (0, 0)) (by (with_reducible repeat (first | refine blk_drewN ?_ _ | refine blk_drew ?_ | refine blk_alloc ?_ _)); exact BK1015.out) k_ hn_)), Or.elim hk_ (fun hs_ => fun e_ => Nat.not_le.2 hs_ (by rw [e_]; exact GW1036.out)) (fun hn_ => (Kd.freshB (g := gb1036) (o := .cells #[.int .u8 t1026, .int .i64 t1027, .int .i64 t1028, .int .i64 t1029, .int .i64 t1030, .int .i64 t1031, .slice Ao29 t1032.length co29] 26 (0, 0)) (by (with_reducible repeat (first | refine blk_drewN ?_ _ | refine blk_drew ?_ | refine blk_alloc ?_ _)); exact BK1036.out) k_ hn_)), Or.elim hk_ (fun hs_ => fun e_ => Nat.not_le.2 hs_ (by rw [e_]; exact GW1047.out)) (fun hn_ => (Kd.freshB (g := gb1047) (o := .cells #[.int .u8 t1037, .int .i64 t1038, .int .i64 t1039, .int .i64 t1040, .int .i64 t1041, .int .i64 t1042, .slice Ao37 t1043.length co37] 26 (0, 0)) (by (with_reducible repeat (first | refine blk_drewN ?_ _ | refine blk_drew ?_ | refine blk_alloc ?_ _)); exact BK1047.out) k_ hn_))⟩)) (below_size (by repeat (first | (with_reducible first | exact HB.out | apply below_alloc | apply pw_below_drewN | apply below_drew1 | refine below_set ?_ GE1015.out | refine below_set ?_ GE1036.out | refine below_set ?_ GE1047.out) | exact HB.out)))); have n4_ := Aside0.mk (blk_below (g := gb1015) (o := .cells #[.int .u8 a0_0, .int .i64 a0_1, .int .i64 a0_2, .int .i64 a0_3, .int .i64 a0_4, .int .i64 a0_5, .slice A0_6 l0_6.length c0_6] 26 (0, 0)) (by (with_reducible repeat (first | refine blk_drewN ?_ _ | refine blk_drew ?_ | refine blk_alloc ?_ _)); exact BK1015.out) hb); have n5_ := Aside0.mk (blk_below (g := gb1036) (o := .cells #[.int .u8 t1026, .int .i64 t1027, .int .i64 t1028, .int .i64 t1029, .int .i64 t1030, .int .i64 t1031, .slice Ao29 t1032.length co29] 26 (0, 0)) (by (with_reducible repeat (first | refine blk_drewN ?_ _ | refine blk_drew ?_ | refine blk_alloc ?_ _)); exact BK1036.out) hb); have n6_ := Aside0.mk (blk_below (g := gb1047) (o := .cells #[.int .u8 t1037, .int .i64 t1038, .int .i64 t1039, .int .i64 t1040, .int .i64 t1041, .int .i64 t1042, .slice Ao37 t1043.length co37] 26 (0, 0)) (by (with_reducible repeat (first | refine blk_drewN ?_ _ | refine blk_drew ?_ | refine blk_alloc ?_ _)); exact BK1047.out) hb); have n7_ := Aside0.mk (below_step (by repeat (first | (with_reducible first | exact HB.out | apply below_alloc | apply pw_below_drewN | apply below_drew1 | refine below_set ?_ GE1015.out | refine below_set ?_ GE1036.out | refine below_set ?_ GE1047.out) | exact HB.out)) hb); clear HO_7; clear HO_1037006; clear HO_1048006; clear BK1015; clear BK1036; clear BK1047; clear HB; have HO_7 := n0_; have HO_1037006 := n1_; have HO_1048006 := n2_; have HO1058 := n3_; have BK1015 := n4_; have BK1036 := n5_; have BK1047 := n6_; have HB := n7_; clear n0_ n1_ n2_ n3_ n4_ n5_ n6_ n7_; (try clear hb); (try clear hb2); (try clear hk); (try clear hi); (try clear ho0)) | ((with_reducible refine gate_dst (N := 15) rfl ?_); (try (refine gate_guard (by rfl) ?_; dsimp only)); refine box_event ?hg (N := 15) ?hd (cs := #[.int .u8 0, .int .i64 0, .int .i64 0, .int .i64 0, .int .i64 0, .int .i64 0, .slice none 0 0]) (t := 26) ?hr ?_; (case hd => rfl); (case hg => rfl); (case hr => first | (go_simp; done) | (go_simp; rfl)); intro gb1060 hg w67 hbox hb; have n0_ := Aside0.mk (Kd.R_below (by (with_reducible repeat (first | apply Kd.R_alloc | apply Kd.R_drewN | apply Kd.R_drew)); exact HO_7.out) hb); have n1_ := Aside0.mk (Kd.N_below (Kd.N_elderB (by (with_reducible repeat (first | apply Kd.N_alloc | apply Kd.N_drewN | apply Kd.N_drew)); exact HO_1037006.out) gb1060 (Nat.le_of_eq hg.symm)) hb); have n2_ := Aside0.mk (Kd.V_below (Kd.V_elderB (by (with_reducible repeat (first | apply Kd.V_alloc | apply Kd.V_drewN | apply Kd.V_drew)); exact HO_1048006.out) gb1060 (Nat.le_of_eq hg.symm)) hb); have n3_ := Aside0.mk (Kd.N_below (Kd.N_elderB (by (with_reducible repeat (first | apply Kd.N_alloc | apply Kd.N_drewN | apply Kd.N_drew)); exact HO1058.out) gb1060 (Nat.le_of_eq hg.symm)) hb); have n4_ := Aside0.mk (blk_below (g := gb1015) (o := .cells #[.int .u8 a0_0, .int .i64 a0_1, .int .i64 a0_2, .int .i64 a0_3, .int .i64 a0_4, .int .i64 a0_5, .slice A0_6 l0_6.length c0_6] 26 (0, 0)) (by (with_reducible repeat (first | refine blk_drewN ?_ _ | refine blk_drew ?_ | refine blk_alloc ?_ _)); exact BK1015.out) hb); have n5_ := Aside0.mk (blk_below (g := gb1036) (o := .cells #[.int .u8 t1026, .int .i64 t1027, .int .i64 t1028, .int .i64 t1029, .int .i64 t1030, .int .i64 t1031, .slice Ao29 t1032.length co29] 26 (0, 0)) (by (with_reducible repeat (first | refine blk_drewN ?_ _ | refine blk_drew ?_ | refine blk_alloc ?_ _)); exact BK1036.out) hb); have n6_ := Aside0.mk (blk_below (g := gb1047) (o := .cells #[.int .u8 t1037, .int .i64 t1038, .int .i64 t1039, .int .i64 t1040, .int .i64 t1041, .int .i64 t1042, .slice Ao37 t1043.length co37] 26 (0, 0)) (by (with_reducible repeat (first | refine blk_drewN ?_ _ | refine blk_drew ?_ | refine blk_alloc ?_ _)); exact BK1047.out) hb); have n7_ := Aside0.mk (below_step (by repeat (first | (with_reducible first | exact HB.out | apply below_alloc | apply pw_below_drewN | apply below_drew1 | refine below_set ?_ GE1015.out | refine below_set ?_ GE1036.out | refine below_set ?_ GE1047.out) | exact HB.out)) hb); have n8_ := Aside0.mk (hbox); have n9_ := Aside0.mk ((by rw [hg]; exact (below_size (by repeat (first | (with_reducible first | exact HB.out | apply below_alloc | apply pw_below_drewN | apply below_drew1 | refine below_set ?_ GE1015.out | refine below_set ?_ GE1036.out | refine below_set ?_ GE1047.out) | exact HB.out))) : w.heap.size ≤ gb1060)); have n10_ := Aside0.mk ((by rw [hg]; exact (below_size (by repeat (first | (with_reducible first | exact HB.out | apply below_alloc | apply pw_below_drewN | apply below_drew1 | refine below_set ?_ GE1015.out | refine below_set ?_ GE1036.out | refine below_set ?_ GE1047.out) | exact HB.out))) : w.heap.size ≤ gb1060)); have n11_ := Aside0.mk ((by rw [hg]; exact Nat.ne_of_lt (blk_lt (g := gb1015) (o := .cells #[.int .u8 a0_0, .int .i64 a0_1, .int .i64 a0_2, .int .i64 a0_3, .int .i64 a0_4, .int .i64 a0_5, .slice A0_6 l0_6.length c0_6] 26 (0, 0)) (by (with_reducible repeat (first | refine blk_drewN ?_ _ | refine blk_drew ?_ | refine blk_alloc ?_ _)); exact BK1015.out)) : gb1015 ≠ gb1060)); have n12_ := Aside0.mk ((by rw [hg]; exact Nat.ne_of_gt (blk_lt (g := gb1015) (o := .cells #[.int .u8 a0_0, .int .i64 a0_1, .int .i64 a0_2, .int .i64 a0_3, .int .i64 a0_4, .int .i64 a0_5, .slice A0_6 l0_6.length c0_6] 26 (0, 0)) (by (with_reducible repeat (first | refine blk_drewN ?_ _ | refine blk_drew ?_ | refine blk_alloc ?_ _)); exact BK1015.out)) : gb1060 ≠ gb1015)); have n13_ := Aside0.mk ((by rw [hg]; exact Nat.ne_of_lt (blk_lt (g := gb1036) (o := .cells #[.int .u8 t1026, .int .i64 t1027, .int .i64 t1028, .int .i64 t1029, .int .i64 t1030, .int .i64 t1031, .slice Ao29 t1032.length co29] 26 (0, 0)) (by (with_reducible repeat (first | refine blk_drewN ?_ _ | refine blk_drew ?_ | refine blk_alloc ?_ _)); exact BK1036.out)) : gb1036 ≠ gb1060)); have n14_ := Aside0.mk ((by rw [hg]; exact Nat.ne_of_gt (blk_lt (g := gb1036) (o := .cells #[.int .u8 t1026, .int .i64 t1027, .int .i64 t1028, .int .i64 t1029, .int .i64 t1030, .int .i64 t1031, .slice Ao29 t1032.length co29] 26 (0, 0)) (by (with_reducible repeat (first | refine blk_drewN ?_ _ | refine blk_drew ?_ | refine blk_alloc ?_ _)); exact BK1036.out)) : gb1060 ≠ gb1036)); have n15_ := Aside0.mk ((by rw [hg]; exact Nat.ne_of_lt (blk_lt (g := gb1047) (o := .cells #[.int .u8 t1037, .int .i64 t1038, .int .i64 t1039, .int .i64 t1040, .int .i64 t1041, .int .i64 t1042, .slice Ao37 t1043.length co37] 26 (0, 0)) (by (with_reducible repeat (first | refine blk_drewN ?_ _ | refine blk_drew ?_ | refine blk_alloc ?_ _)); exact BK1047.out)) : gb1047 ≠ gb1060)); have n16_ := Aside0.mk ((by rw [hg]; exact Nat.ne_of_gt (blk_lt (g := gb1047) (o := .cells #[.int .u8 t1037, .int .i64 t1038, .int .i64 t1039, .int .i64 t1040, .int .i64 t1041, .int .i64 t1042, .slice Ao37 t1043.length co37] 26 (0, 0)) (by (with_reducible repeat (first | refine blk_drewN ?_ _ | refine blk_drew ?_ | refine blk_alloc ?_ _)); exact BK1047.out)) : gb1060 ≠ gb1047)); clear HO_7; clear HO_1037006; clear HO_1048006; clear HO1058; clear BK1015; clear BK1036; clear BK1047; clear HB; have HO_7 := n0_; have HO_1037006 := n1_; have HO_1048006 := n2_; have HO1058 := n3_; have BK1015 := n4_; have BK1036 := n5_; have BK1047 := n6_; have HB := n7_; have BK1060 := n8_; have GW1060 := n9_; have GE1060 := n10_; have NB1015_1060 := n11_; have NB1060_1015 := n12_; have NB1036_1060 := n13_; have NB1060_1036 := n14_; have NB1047_1060 := n15_; have NB1060_1047 := n16_; clear n0_ n1_ n2_ n3_ n4_ n5_ n6_ n7_ n8_ n9_ n10_ n11_ n12_ n13_ n14_ n15_ n16_; clear hb hbox hg; have hnb68 := NB1060_1015.out; have hnc68 := NB1015_1060.out; have hnb69 := NB1060_1036.out; have hnc69 := NB1036_1060.out; have hnb70 := NB1060_1047.out; have hnc70 := NB1047_1060.out; have hcz71_0 : w67.cell? ⟨gb1060, 0, none⟩ = some (.int .u8 0) := (blk_cell BK1060.out 0).trans rfl; have hcz71_1 : w67.cell? ⟨gb1060, 1, none⟩ = some (.int .i64 0) := (blk_cell BK1060.out 1).trans rfl; have hcz71_2 : w67.cell? ⟨gb1060, 2, none⟩ = some (.int .i64 0) := (blk_cell BK1060.out 2).trans rfl; have hcz71_3 : w67.cell? ⟨gb1060, 3, none⟩ = some (.int .i64 0) := (blk_cell BK1060.out 3).trans rfl; have hcz71_4 : w67.cell? ⟨gb1060, 4, none⟩ = some (.int .i64 0) := (blk_cell BK1060.out 4).trans rfl; have hcz71_5 : w67.cell? ⟨gb1060, 5, none⟩ = some (.int .i64 0) := (blk_cell BK1060.out 5).trans rfl; have hcz71_6 : w67.cell? ⟨gb1060, 6, none⟩ = some (.slice none 0 0) := (blk_cell BK1060.out 6).trans rfl; have hfz71_0 := blk_frozen BK1060.out 0; have hfz71_1 := blk_frozen BK1060.out 1; have hfz71_2 := blk_frozen BK1060.out 2; have hfz71_3 := blk_frozen BK1060.out 3; have hfz71_4 := blk_frozen BK1060.out 4; have hfz71_5 := blk_frozen BK1060.out 5; have hfz71_6 := blk_frozen BK1060.out 6; obtain ⟨Ao72, co72, eo72⟩ := Kd.N_slice HO1058.out; subst eo72) | (go_at_call 75; (with_reducible refine (sashlaw05_awake.calls  t1061 _ A61.out).mono ?_); rintro e w73 ⟨rfl, hb⟩; have n0_ := Aside0.mk (Kd.R_below (by (with_reducible repeat (first | apply Kd.R_alloc | apply Kd.R_drewN | apply Kd.R_drew)); exact (Kd.R_mono (Kd.R_far (p := ⟨gb1060, 6, none⟩) (Kd.R_far (p := ⟨gb1060, 5, none⟩) (Kd.R_far (p := ⟨gb1060, 4, none⟩) (Kd.R_far (p := ⟨gb1060, 3, none⟩) (Kd.R_far (p := ⟨gb1060, 2, none⟩) (Kd.R_far (p := ⟨gb1060, 1, none⟩) (Kd.R_far (p := ⟨gb1060, 0, none⟩) (Kd.R_types HO_7.out BK1060.out (by decide)) (fun _ hk => hk.2) (.int .u8 t1050)) (fun _ hk => hk.2) (.int .i64 t1051)) (fun _ hk => hk.2) (.int .i64 t1052)) (fun _ hk => hk.2) (.int .i64 t1053)) (fun _ hk => hk.2) (.int .i64 t1054)) (fun _ hk => hk.2) (.int .i64 t1055)) (fun _ hk => hk.2) (.slice Ao72 t1056.length co72)) (fun _ h_ => h_.1))) hb); have n1_ := Aside0.mk (Kd.N_below (by (with_reducible repeat (first | apply Kd.N_alloc | apply Kd.N_drewN | apply Kd.N_drew)); exact (Kd.N_mono (Kd.N_far (p := ⟨gb1060, 6, none⟩) (Kd.N_far (p := ⟨gb1060, 5, none⟩) (Kd.N_far (p := ⟨gb1060, 4, none⟩) (Kd.N_far (p := ⟨gb1060, 3, none⟩) (Kd.N_far (p := ⟨gb1060, 2, none⟩) (Kd.N_far (p := ⟨gb1060, 1, none⟩) (Kd.N_far (p := ⟨gb1060, 0, none⟩) (Kd.N_mono HO_1037006.out (fun k_ hk => (⟨hk, hk.2⟩ : _ ∧ k_ ≠ gb1060))) (fun _ hk => hk.2) (.int .u8 t1050)) (fun _ hk => hk.2) (.int .i64 t1051)) (fun _ hk => hk.2) (.int .i64 t1052)) (fun _ hk => hk.2) (.int .i64 t1053)) (fun _ hk => hk.2) (.int .i64 t1054)) (fun _ hk => hk.2) (.int .i64 t1055)) (fun _ hk => hk.2) (.slice Ao72 t1056.length co72)) (fun _ h_ => h_.1))) hb); have n2_ := Aside0.mk (Kd.V_below (by (with_reducible repeat (first | apply Kd.V_alloc | apply Kd.V_drewN | apply Kd.V_drew)); exact (Kd.V_mono (Kd.V_far (p := ⟨gb1060, 6, none⟩) (Kd.V_far (p := ⟨gb1060, 5, none⟩) (Kd.V_far (p := ⟨gb1060, 4, none⟩) (Kd.V_far (p := ⟨gb1060, 3, none⟩) (Kd.V_far (p := ⟨gb1060, 2, none⟩) (Kd.V_far (p := ⟨gb1060, 1, none⟩) (Kd.V_far (p := ⟨gb1060, 0, none⟩) (Kd.V_mono HO_1048006.out (fun k_ hk => (⟨hk, hk.2⟩ : _ ∧ k_ ≠ gb1060))) (fun _ hk => hk.2) (.int .u8 t1050)) (fun _ hk => hk.2) (.int .i64 t1051)) (fun _ hk => hk.2) (.int .i64 t1052)) (fun _ hk => hk.2) (.int .i64 t1053)) (fun _ hk => hk.2) (.int .i64 t1054)) (fun _ hk => hk.2) (.int .i64 t1055)) (fun _ hk => hk.2) (.slice Ao72 t1056.length co72)) (fun _ h_ => h_.1))) hb); have n3_ := Aside0.mk (Kd.N_below (by (with_reducible repeat (first | apply Kd.N_alloc | apply Kd.N_drewN | apply Kd.N_drew)); exact (Kd.N_mono (Kd.N_far (p := ⟨gb1060, 6, none⟩) (Kd.N_far (p := ⟨gb1060, 5, none⟩) (Kd.N_far (p := ⟨gb1060, 4, none⟩) (Kd.N_far (p := ⟨gb1060, 3, none⟩) (Kd.N_far (p := ⟨gb1060, 2, none⟩) (Kd.N_far (p := ⟨gb1060, 1, none⟩) (Kd.N_far (p := ⟨gb1060, 0, none⟩) (Kd.N_mono HO1058.out (fun k_ hk => (⟨hk, hk.2⟩ : _ ∧ k_ ≠ gb1060))) (fun _ hk => hk.2) (.int .u8 t1050)) (fun _ hk => hk.2) (.int .i64 t1051)) (fun _ hk => hk.2) (.int .i64 t1052)) (fun _ hk => hk.2) (.int .i64 t1053)) (fun _ hk => hk.2) (.int .i64 t1054)) (fun _ hk => hk.2) (.int .i64 t1055)) (fun _ hk => hk.2) (.slice Ao72 t1056.length co72)) (fun _ h_ => h_.1))) hb); have n4_ := Aside0.mk (blk_below (g := gb1015) (o := .cells #[.int .u8 a0_0, .int .i64 a0_1, .int .i64 a0_2, .int .i64 a0_3, .int .i64 a0_4, .int .i64 a0_5, .slice A0_6 l0_6.length c0_6] 26 (0, 0)) (by (with_reducible repeat (first | refine blk_drewN ?_ _ | refine blk_drew ?_ | refine blk_alloc ?_ _)); refine blk_far ?_ NB1015_1060.out _; (with_reducible repeat (first | refine blk_drewN ?_ _ | refine blk_drew ?_ | refine blk_alloc ?_ _)); refine blk_far ?_ NB1015_1060.out _; (with_reducible repeat (first | refine blk_drewN ?_ _ | refine blk_drew ?_ | refine blk_alloc ?_ _)); refine blk_far ?_ NB1015_1060.out _; (with_reducible repeat (first | refine blk_drewN ?_ _ | refine blk_drew ?_ | refine blk_alloc ?_ _)); refine blk_far ?_ NB1015_1060.out _; (with_reducible repeat (first | refine blk_drewN ?_ _ | refine blk_drew ?_ | refine blk_alloc ?_ _)); refine blk_far ?_ NB1015_1060.out _; (with_reducible repeat (first | refine blk_drewN ?_ _ | refine blk_drew ?_ | refine blk_alloc ?_ _)); refine blk_far ?_ NB1015_1060.out _; (with_reducible repeat (first | refine blk_drewN ?_ _ | refine blk_drew ?_ | refine blk_alloc ?_ _)); refine blk_far ?_ NB1015_1060.out _; (with_reducible repeat (first | refine blk_drewN ?_ _ | refine blk_drew ?_ | refine blk_alloc ?_ _)); exact BK1015.out) hb); have n5_ := Aside0.mk (blk_below (g := gb1036) (o := .cells #[.int .u8 t1026, .int .i64 t1027, .int .i64 t1028, .int .i64 t1029, .int .i64 t1030, .int .i64 t1031, .slice Ao29 t1032.length co29] 26 (0, 0)) (by (with_reducible repeat (first | refine blk_drewN ?_ _ | refine blk_drew ?_ | refine blk_alloc ?_ _)); refine blk_far ?_ NB1036_1060.out _; (with_reducible repeat (first | refine blk_drewN ?_ _ | refine blk_drew ?_ | refine blk_alloc ?_ _)); refine blk_far ?_ NB1036_1060.out _; (with_reducible repeat (first | refine blk_drewN ?_ _ | refine blk_drew ?_ | refine blk_alloc ?_ _)); refine blk_far ?_ NB1036_1060.out _; (with_reducible repeat (first | refine blk_drewN ?_ _ | refine blk_drew ?_ | refine blk_alloc ?_ _)); refine blk_far ?_ NB1036_1060.out _; (with_reducible repeat (first | refine blk_drewN ?_ _ | refine blk_drew ?_ | refine blk_alloc ?_ _)); refine blk_far ?_ NB1036_1060.out _; (with_reducible repeat (first | refine blk_drewN ?_ _ | refine blk_drew ?_ | refine blk_alloc ?_ _)); refine blk_far ?_ NB1036_1060.out _; (with_reducible repeat (first | refine blk_drewN ?_ _ | refine blk_drew ?_ | refine blk_alloc ?_ _)); refine blk_far ?_ NB1036_1060.out _; (with_reducible repeat (first | refine blk_drewN ?_ _ | refine blk_drew ?_ | refine blk_alloc ?_ _)); exact BK1036.out) hb); have n6_ := Aside0.mk (blk_below (g := gb1047) (o := .cells #[.int .u8 t1037, .int .i64 t1038, .int .i64 t1039, .int .i64 t1040, .int .i64 t1041, .int .i64 t1042, .slice Ao37 t1043.length co37] 26 (0, 0)) (by (with_reducible repeat (first | refine blk_drewN ?_ _ | refine blk_drew ?_ | refine blk_alloc ?_ _)); refine blk_far ?_ NB1047_1060.out _; (with_reducible repeat (first | refine blk_drewN ?_ _ | refine blk_drew ?_ | refine blk_alloc ?_ _)); refine blk_far ?_ NB1047_1060.out _; (with_reducible repeat (first | refine blk_drewN ?_ _ | refine blk_drew ?_ | refine blk_alloc ?_ _)); refine blk_far ?_ NB1047_1060.out _; (with_reducible repeat (first | refine blk_drewN ?_ _ | refine blk_drew ?_ | refine blk_alloc ?_ _)); refine blk_far ?_ NB1047_1060.out _; (with_reducible repeat (first | refine blk_drewN ?_ _ | refine blk_drew ?_ | refine blk_alloc ?_ _)); refine blk_far ?_ NB1047_1060.out _; (with_reducible repeat (first | refine blk_drewN ?_ _ | refine blk_drew ?_ | refine blk_alloc ?_ _)); refine blk_far ?_ NB1047_1060.out _; (with_reducible repeat (first | refine blk_drewN ?_ _ | refine blk_drew ?_ | refine blk_alloc ?_ _)); refine blk_far ?_ NB1047_1060.out _; (with_reducible repeat (first | refine blk_drewN ?_ _ | refine blk_drew ?_ | refine blk_alloc ?_ _)); exact BK1047.out) hb); have n7_ := Aside0.mk (blk_below (g := gb1060) (o := .cells #[.int .u8 t1050, .int .i64 t1051, .int .i64 t1052, .int .i64 t1053, .int .i64 t1054, .int .i64 t1055, .slice Ao72 t1056.length co72] 26 (0, 0)) (by (with_reducible repeat (first | refine blk_drewN ?_ _ | refine blk_drew ?_ | refine blk_alloc ?_ _)); refine blk_put (cs := #[.int .u8 t1050, .int .i64 t1051, .int .i64 t1052, .int .i64 t1053, .int .i64 t1054, .int .i64 t1055, .slice none 0 0]) ?_ 6 _ rfl; (with_reducible repeat (first | refine blk_drewN ?_ _ | refine blk_drew ?_ | refine blk_alloc ?_ _)); refine blk_put (cs := #[.int .u8 t1050, .int .i64 t1051, .int .i64 t1052, .int .i64 t1053, .int .i64 t1054, .int .i64 0, .slice none 0 0]) ?_ 5 _ rfl; (with_reducible repeat (first | refine blk_drewN ?_ _ | refine blk_drew ?_ | refine blk_alloc ?_ _)); refine blk_put (cs := #[.int .u8 t1050, .int .i64 t1051, .int .i64 t1052, .int .i64 t1053, .int .i64 0, .int .i64 0, .slice none 0 0]) ?_ 4 _ rfl; (with_reducible repeat (first | refine blk_drewN ?_ _ | refine blk_drew ?_ | refine blk_alloc ?_ _)); refine blk_put (cs := #[.int .u8 t1050, .int .i64 t1051, .int .i64 t1052, .int .i64 0, .int .i64 0, .int .i64 0, .slice none 0 0]) ?_ 3 _ rfl; (with_reducible repeat (first | refine blk_drewN ?_ _ | refine blk_drew ?_ | refine blk_alloc ?_ _)); refine blk_put (cs := #[.int .u8 t1050, .int .i64 t1051, .int .i64 0, .int .i64 0, .int .i64 0, .int .i64 0, .slice none 0 0]) ?_ 2 _ rfl; (with_reducible repeat (first | refine blk_drewN ?_ _ | refine blk_drew ?_ | refine blk_alloc ?_ _)); refine blk_put (cs := #[.int .u8 t1050, .int .i64 0, .int .i64 0, .int .i64 0, .int .i64 0, .int .i64 0, .slice none 0 0]) ?_ 1 _ rfl; (with_reducible repeat (first | refine blk_drewN ?_ _ | refine blk_drew ?_ | refine blk_alloc ?_ _)); refine blk_put (cs := #[.int .u8 0, .int .i64 0, .int .i64 0, .int .i64 0, .int .i64 0, .int .i64 0, .slice none 0 0]) ?_ 0 _ rfl; (with_reducible repeat (first | refine blk_drewN ?_ _ | refine blk_drew ?_ | refine blk_alloc ?_ _)); exact BK1060.out) hb); have n8_ := Aside0.mk (below_step (by repeat (first | (with_reducible first | exact HB.out | apply below_alloc | apply pw_below_drewN | apply below_drew1 | refine below_set ?_ GE1015.out | refine below_set ?_ GE1036.out | refine below_set ?_ GE1047.out | refine below_set ?_ GE1060.out) | exact HB.out)) hb); clear HO_7; clear HO_1037006; clear HO_1048006; clear HO1058; clear BK1015; clear BK1036; clear BK1047; clear BK1060; clear HB; have HO_7 := n0_; have HO_1037006 := n1_; have HO_1048006 := n2_; have HO1058 := n3_; have BK1015 := n4_; have BK1036 := n5_; have BK1047 := n6_; have BK1060 := n7_; have HB := n8_; clear n0_ n1_ n2_ n3_ n4_ n5_ n6_ n7_ n8_; (try clear hb); (try clear hb2); (try clear hk); (try clear hi)))
                      go_ret
                      exact ⟨by first | rfl | (simp [errW_none, errW_some] <;> rfl) | (simp [*, errW_none, errW_some] <;> rfl), by repeat (first | (with_reducible first | exact HB.out | apply below_alloc | apply pw_below_drewN | apply below_drew1 | refine below_set ?_ GE1015.out | refine below_set ?_ GE1036.out | refine below_set ?_ GE1047.out | refine below_set ?_ GE1060.out) | exact HB.out)⟩
                    · rw [if_neg c60] at H
                      have c60b0 : (t1055 == a1) = false := beq_eq_false_iff_ne.mpr c60
                      have c60b1 : (t1055 != a1) = true := bne_iff_ne.mpr c60
                      obtain rfl := Option.some.inj H
                      have hnb74 := NB1015_1036.out
                      have hnc74 := NB1036_1015.out
                      have hnb75 := NB1015_1047.out
                      have hnc75 := NB1047_1015.out
                      have hcz76_0 : wc.cell? ⟨gb1015, 0, none⟩ = some (.int .u8 a0_0) := (blk_cell BK1015.out 0).trans rfl
                      have hcz76_1 : wc.cell? ⟨gb1015, 1, none⟩ = some (.int .i64 a0_1) := (blk_cell BK1015.out 1).trans rfl
                      have hcz76_2 : wc.cell? ⟨gb1015, 2, none⟩ = some (.int .i64 a0_2) := (blk_cell BK1015.out 2).trans rfl
                      have hcz76_3 : wc.cell? ⟨gb1015, 3, none⟩ = some (.int .i64 a0_3) := (blk_cell BK1015.out 3).trans rfl
                      have hcz76_4 : wc.cell? ⟨gb1015, 4, none⟩ = some (.int .i64 a0_4) := (blk_cell BK1015.out 4).trans rfl
                      have hcz76_5 : wc.cell? ⟨gb1015, 5, none⟩ = some (.int .i64 a0_5) := (blk_cell BK1015.out 5).trans rfl
                      have hcz76_6 : wc.cell? ⟨gb1015, 6, none⟩ = some (.slice A0_6 l0_6.length c0_6) := (blk_cell BK1015.out 6).trans rfl
                      have hfz76_0 := blk_frozen BK1015.out 0
                      have hfz76_1 := blk_frozen BK1015.out 1
                      have hfz76_2 := blk_frozen BK1015.out 2
                      have hfz76_3 := blk_frozen BK1015.out 3
                      have hfz76_4 := blk_frozen BK1015.out 4
                      have hfz76_5 := blk_frozen BK1015.out 5
                      have hfz76_6 := blk_frozen BK1015.out 6
                      obtain ⟨Ao77, co77, eo77⟩ := Kd.R_slice HO_7.out
                      subst eo77
                      go_wp2_with (first | ((with_reducible refine gate_callee (f := 91) rfl ?_); refine goesL_ (some 72) rfl rfl Try.func91 (by kernel_rfl) rfl #[.agg #[.int .u8 a0_0, .int .i64 a0_1, .int .i64 a0_2, .int .i64 a0_3, .int .i64 a0_4, .int .i64 a0_5, .slice A0_6 l0_6.length c0_6], .slice Ao77 t1018.length co77] rfl (by (try simp only [List.map_toArray, List.map_cons, List.map_nil]); first | done | rfl | (simp only [List.length_drop, List.length_take]; rfl)) ?_; (with_reducible refine (cell_At.calls kj18 a0_0 a0_1 a0_2 a0_3 a0_4 a0_5 (fun k_ => k_ < w.heap.size) _ _ l0_6 _ _ t1018 t1050 t1051 t1052 t1053 t1054 t1055 t1056 true _ ?side1 ?side2 ?side3 A56.out).mono ?_); (case side1 => exact Kd.V_mk HC0_6.out (Kd.F_below (Kd.C_F k26_heap HR0_6.out) (by repeat (first | (with_reducible first | exact HB.out | apply below_alloc | apply pw_below_drewN | apply below_drew1 | refine below_set ?_ GE1015.out | refine below_set ?_ GE1036.out | refine below_set ?_ GE1047.out) | exact HB.out)))); (case side2 => repeat (first | exact (Kd.R_reads' HO_7.out).2.2 | (with_reducible refine Kd.C_alloc ?_ _) | (with_reducible refine Kd.C_drewN ?_ _) | (with_reducible refine Kd.C_drew ?_))); (case side3 => exact (Kd.R_reads' HO_7.out).2.1); rintro e w78 ⟨v1057, rfl, ho0, hb⟩; refine ⟨_, rfl, ?_⟩; have n0_ := Aside0.mk (Kd.R_below (by (with_reducible repeat (first | apply Kd.R_alloc | apply Kd.R_drewN | apply Kd.R_drew)); exact HO_7.out) hb); have n1_ := Aside0.mk (Kd.N_elder' (by (with_reducible repeat (first | apply Kd.N_alloc | apply Kd.N_drewN | apply Kd.N_drew)); exact HO_1037006.out) (Kd.N_base ho0) hb); have n2_ := Aside0.mk (Kd.V_elder' (by (with_reducible repeat (first | apply Kd.V_alloc | apply Kd.V_drewN | apply Kd.V_drew)); exact HO_1048006.out) (Kd.N_base ho0) hb); have n3_ := Aside0.mk (Kd.N_lower (Kd.N_mono (ok' := fun k_ => some k_ ≠ (.slice Ao77 t1018.length co77 : Value).ownBlock ∧ some k_ ≠ (.slice Ao29 t1032.length co29 : Value).ownBlock ∧ k_ ≠ gb1015 ∧ k_ ≠ gb1036 ∧ k_ ≠ gb1047) ho0 (fun k_ hk_ => ⟨Or.elim hk_ (fun hs_ => fun e_ => Nat.not_le.2 hs_ (Kd.R_base HO_7.out k_ e_.symm)) (fun hn_ => (Kd.fresh' (Kd.R_lt (by (with_reducible repeat (first | apply Kd.R_alloc | apply Kd.R_drewN | apply Kd.R_drew)); exact HO_7.out)) k_ hn_)), Or.elim hk_ (fun hs_ => fun e_ => Nat.not_le.2 hs_ (Kd.N_base HO_1037006.out k_ e_.symm)) (fun hn_ => (Kd.fresh' (Kd.N_lt (by (with_reducible repeat (first | apply Kd.N_alloc | apply Kd.N_drewN | apply Kd.N_drew)); exact HO_1037006.out)) k_ hn_)), Or.elim hk_ (fun hs_ => fun e_ => Nat.not_le.2 hs_ (by rw [e_]; exact GW1015.out)) (fun hn_ => (Kd.freshB (g := gb1015) (o := .cells #[.int .u8 a0_0, .int .i64 a0_1, .int .i64 a0_2, .int .i64 a0_3, .int .i64 a0_4, .int .i64 a0_5, .slice A0_6 l0_6.length c0_6] 26 (0, 0)) (by (with_reducible repeat (first | refine blk_drewN ?_ _ | refine blk_drew ?_ | refine blk_alloc ?_ _)); exact BK1015.out) k_ hn_)), Or.elim hk_ (fun hs_ => fun e_ => Nat.not_le.2 hs_ (by rw [e_]; exact GW1036.out)) (fun hn_ => (Kd.freshB (g := gb1036) (o := .cells #[.int .u8 t1026, .int .i64 t1027, .int .i64 t1028, .int .i64 t1029, .int .i64 t1030, .int .i64 t1031, .slice Ao29 t1032.length co29] 26 (0, 0)) (by (with_reducible repeat (first | refine blk_drewN ?_ _ | refine blk_drew ?_ | refine blk_alloc ?_ _)); exact BK1036.out) k_ hn_)), Or.elim hk_ (fun hs_ => fun e_ => Nat.not_le.2 hs_ (by rw [e_]; exact GW1047.out)) (fun hn_ => (Kd.freshB (g := gb1047) (o := .cells #[.int .u8 t1037, .int .i64 t1038, .int .i64 t1039, .int .i64 t1040, .int .i64 t1041, .int .i64 t1042, .slice Ao37 t1043.length co37] 26 (0, 0)) (by (with_reducible repeat (first | refine blk_drewN ?_ _ | refine blk_drew ?_ | refine blk_alloc ?_ _)); exact BK1047.out) k_ hn_))⟩)) (below_size (by repeat (first | (with_reducible first | exact HB.out | apply below_alloc | apply pw_below_drewN | apply below_drew1 | refine below_set ?_ GE1015.out | refine below_set ?_ GE1036.out | refine below_set ?_ GE1047.out) | exact HB.out)))); have n4_ := Aside0.mk (blk_below (g := gb1015) (o := .cells #[.int .u8 a0_0, .int .i64 a0_1, .int .i64 a0_2, .int .i64 a0_3, .int .i64 a0_4, .int .i64 a0_5, .slice A0_6 l0_6.length c0_6] 26 (0, 0)) (by (with_reducible repeat (first | refine blk_drewN ?_ _ | refine blk_drew ?_ | refine blk_alloc ?_ _)); exact BK1015.out) hb); have n5_ := Aside0.mk (blk_below (g := gb1036) (o := .cells #[.int .u8 t1026, .int .i64 t1027, .int .i64 t1028, .int .i64 t1029, .int .i64 t1030, .int .i64 t1031, .slice Ao29 t1032.length co29] 26 (0, 0)) (by (with_reducible repeat (first | refine blk_drewN ?_ _ | refine blk_drew ?_ | refine blk_alloc ?_ _)); exact BK1036.out) hb); have n6_ := Aside0.mk (blk_below (g := gb1047) (o := .cells #[.int .u8 t1037, .int .i64 t1038, .int .i64 t1039, .int .i64 t1040, .int .i64 t1041, .int .i64 t1042, .slice Ao37 t1043.length co37] 26 (0, 0)) (by (with_reducible repeat (first | refine blk_drewN ?_ _ | refine blk_drew ?_ | refine blk_alloc ?_ _)); exact BK1047.out) hb); have n7_ := Aside0.mk (below_step (by repeat (first | (with_reducible first | exact HB.out | apply below_alloc | apply pw_below_drewN | apply below_drew1 | refine below_set ?_ GE1015.out | refine below_set ?_ GE1036.out | refine below_set ?_ GE1047.out) | exact HB.out)) hb); clear HO_7; clear HO_1037006; clear HO_1048006; clear BK1015; clear BK1036; clear BK1047; clear HB; have HO_7 := n0_; have HO_1037006 := n1_; have HO_1048006 := n2_; have HO1058 := n3_; have BK1015 := n4_; have BK1036 := n5_; have BK1047 := n6_; have HB := n7_; clear n0_ n1_ n2_ n3_ n4_ n5_ n6_ n7_; (try clear hb); (try clear hb2); (try clear hk); (try clear hi); (try clear ho0)) | ((with_reducible refine gate_dst (N := 15) rfl ?_); (try (refine gate_guard (by rfl) ?_; dsimp only)); refine box_event ?hg (N := 15) ?hd (cs := #[.int .u8 0, .int .i64 0, .int .i64 0, .int .i64 0, .int .i64 0, .int .i64 0, .slice none 0 0]) (t := 26) ?hr ?_; (case hd => rfl); (case hg => rfl); (case hr => first | (go_simp; done) | (go_simp; rfl)); intro gb1060 hg w79 hbox hb; have n0_ := Aside0.mk (Kd.R_below (by (with_reducible repeat (first | apply Kd.R_alloc | apply Kd.R_drewN | apply Kd.R_drew)); exact HO_7.out) hb); have n1_ := Aside0.mk (Kd.N_below (Kd.N_elderB (by (with_reducible repeat (first | apply Kd.N_alloc | apply Kd.N_drewN | apply Kd.N_drew)); exact HO_1037006.out) gb1060 (Nat.le_of_eq hg.symm)) hb); have n2_ := Aside0.mk (Kd.V_below (Kd.V_elderB (by (with_reducible repeat (first | apply Kd.V_alloc | apply Kd.V_drewN | apply Kd.V_drew)); exact HO_1048006.out) gb1060 (Nat.le_of_eq hg.symm)) hb); have n3_ := Aside0.mk (Kd.N_below (Kd.N_elderB (by (with_reducible repeat (first | apply Kd.N_alloc | apply Kd.N_drewN | apply Kd.N_drew)); exact HO1058.out) gb1060 (Nat.le_of_eq hg.symm)) hb); have n4_ := Aside0.mk (blk_below (g := gb1015) (o := .cells #[.int .u8 a0_0, .int .i64 a0_1, .int .i64 a0_2, .int .i64 a0_3, .int .i64 a0_4, .int .i64 a0_5, .slice A0_6 l0_6.length c0_6] 26 (0, 0)) (by (with_reducible repeat (first | refine blk_drewN ?_ _ | refine blk_drew ?_ | refine blk_alloc ?_ _)); exact BK1015.out) hb); have n5_ := Aside0.mk (blk_below (g := gb1036) (o := .cells #[.int .u8 t1026, .int .i64 t1027, .int .i64 t1028, .int .i64 t1029, .int .i64 t1030, .int .i64 t1031, .slice Ao29 t1032.length co29] 26 (0, 0)) (by (with_reducible repeat (first | refine blk_drewN ?_ _ | refine blk_drew ?_ | refine blk_alloc ?_ _)); exact BK1036.out) hb); have n6_ := Aside0.mk (blk_below (g := gb1047) (o := .cells #[.int .u8 t1037, .int .i64 t1038, .int .i64 t1039, .int .i64 t1040, .int .i64 t1041, .int .i64 t1042, .slice Ao37 t1043.length co37] 26 (0, 0)) (by (with_reducible repeat (first | refine blk_drewN ?_ _ | refine blk_drew ?_ | refine blk_alloc ?_ _)); exact BK1047.out) hb); have n7_ := Aside0.mk (below_step (by repeat (first | (with_reducible first | exact HB.out | apply below_alloc | apply pw_below_drewN | apply below_drew1 | refine below_set ?_ GE1015.out | refine below_set ?_ GE1036.out | refine below_set ?_ GE1047.out) | exact HB.out)) hb); have n8_ := Aside0.mk (hbox); have n9_ := Aside0.mk ((by rw [hg]; exact (below_size (by repeat (first | (with_reducible first | exact HB.out | apply below_alloc | apply pw_below_drewN | apply below_drew1 | refine below_set ?_ GE1015.out | refine below_set ?_ GE1036.out | refine below_set ?_ GE1047.out) | exact HB.out))) : w.heap.size ≤ gb1060)); have n10_ := Aside0.mk ((by rw [hg]; exact (below_size (by repeat (first | (with_reducible first | exact HB.out | apply below_alloc | apply pw_below_drewN | apply below_drew1 | refine below_set ?_ GE1015.out | refine below_set ?_ GE1036.out | refine below_set ?_ GE1047.out) | exact HB.out))) : w.heap.size ≤ gb1060)); have n11_ := Aside0.mk ((by rw [hg]; exact Nat.ne_of_lt (blk_lt (g := gb1015) (o := .cells #[.int .u8 a0_0, .int .i64 a0_1, .int .i64 a0_2, .int .i64 a0_3, .int .i64 a0_4, .int .i64 a0_5, .slice A0_6 l0_6.length c0_6] 26 (0, 0)) (by (with_reducible repeat (first | refine blk_drewN ?_ _ | refine blk_drew ?_ | refine blk_alloc ?_ _)); exact BK1015.out)) : gb1015 ≠ gb1060)); have n12_ := Aside0.mk ((by rw [hg]; exact Nat.ne_of_gt (blk_lt (g := gb1015) (o := .cells #[.int .u8 a0_0, .int .i64 a0_1, .int .i64 a0_2, .int .i64 a0_3, .int .i64 a0_4, .int .i64 a0_5, .slice A0_6 l0_6.length c0_6] 26 (0, 0)) (by (with_reducible repeat (first | refine blk_drewN ?_ _ | refine blk_drew ?_ | refine blk_alloc ?_ _)); exact BK1015.out)) : gb1060 ≠ gb1015)); have n13_ := Aside0.mk ((by rw [hg]; exact Nat.ne_of_lt (blk_lt (g := gb1036) (o := .cells #[.int .u8 t1026, .int .i64 t1027, .int .i64 t1028, .int .i64 t1029, .int .i64 t1030, .int .i64 t1031, .slice Ao29 t1032.length co29] 26 (0, 0)) (by (with_reducible repeat (first | refine blk_drewN ?_ _ | refine blk_drew ?_ | refine blk_alloc ?_ _)); exact BK1036.out)) : gb1036 ≠ gb1060)); have n14_ := Aside0.mk ((by rw [hg]; exact Nat.ne_of_gt (blk_lt (g := gb1036) (o := .cells #[.int .u8 t1026, .int .i64 t1027, .int .i64 t1028, .int .i64 t1029, .int .i64 t1030, .int .i64 t1031, .slice Ao29 t1032.length co29] 26 (0, 0)) (by (with_reducible repeat (first | refine blk_drewN ?_ _ | refine blk_drew ?_ | refine blk_alloc ?_ _)); exact BK1036.out)) : gb1060 ≠ gb1036)); have n15_ := Aside0.mk ((by rw [hg]; exact Nat.ne_of_lt (blk_lt (g := gb1047) (o := .cells #[.int .u8 t1037, .int .i64 t1038, .int .i64 t1039, .int .i64 t1040, .int .i64 t1041, .int .i64 t1042, .slice Ao37 t1043.length co37] 26 (0, 0)) (by (with_reducible repeat (first | refine blk_drewN ?_ _ | refine blk_drew ?_ | refine blk_alloc ?_ _)); exact BK1047.out)) : gb1047 ≠ gb1060)); have n16_ := Aside0.mk ((by rw [hg]; exact Nat.ne_of_gt (blk_lt (g := gb1047) (o := .cells #[.int .u8 t1037, .int .i64 t1038, .int .i64 t1039, .int .i64 t1040, .int .i64 t1041, .int .i64 t1042, .slice Ao37 t1043.length co37] 26 (0, 0)) (by (with_reducible repeat (first | refine blk_drewN ?_ _ | refine blk_drew ?_ | refine blk_alloc ?_ _)); exact BK1047.out)) : gb1060 ≠ gb1047)); clear HO_7; clear HO_1037006; clear HO_1048006; clear HO1058; clear BK1015; clear BK1036; clear BK1047; clear HB; have HO_7 := n0_; have HO_1037006 := n1_; have HO_1048006 := n2_; have HO1058 := n3_; have BK1015 := n4_; have BK1036 := n5_; have BK1047 := n6_; have HB := n7_; have BK1060 := n8_; have GW1060 := n9_; have GE1060 := n10_; have NB1015_1060 := n11_; have NB1060_1015 := n12_; have NB1036_1060 := n13_; have NB1060_1036 := n14_; have NB1047_1060 := n15_; have NB1060_1047 := n16_; clear n0_ n1_ n2_ n3_ n4_ n5_ n6_ n7_ n8_ n9_ n10_ n11_ n12_ n13_ n14_ n15_ n16_; clear hb hbox hg; have hnb80 := NB1060_1015.out; have hnc80 := NB1015_1060.out; have hnb81 := NB1060_1036.out; have hnc81 := NB1036_1060.out; have hnb82 := NB1060_1047.out; have hnc82 := NB1047_1060.out; have hcz83_0 : w79.cell? ⟨gb1060, 0, none⟩ = some (.int .u8 0) := (blk_cell BK1060.out 0).trans rfl; have hcz83_1 : w79.cell? ⟨gb1060, 1, none⟩ = some (.int .i64 0) := (blk_cell BK1060.out 1).trans rfl; have hcz83_2 : w79.cell? ⟨gb1060, 2, none⟩ = some (.int .i64 0) := (blk_cell BK1060.out 2).trans rfl; have hcz83_3 : w79.cell? ⟨gb1060, 3, none⟩ = some (.int .i64 0) := (blk_cell BK1060.out 3).trans rfl; have hcz83_4 : w79.cell? ⟨gb1060, 4, none⟩ = some (.int .i64 0) := (blk_cell BK1060.out 4).trans rfl; have hcz83_5 : w79.cell? ⟨gb1060, 5, none⟩ = some (.int .i64 0) := (blk_cell BK1060.out 5).trans rfl; have hcz83_6 : w79.cell? ⟨gb1060, 6, none⟩ = some (.slice none 0 0) := (blk_cell BK1060.out 6).trans rfl; have hfz83_0 := blk_frozen BK1060.out 0; have hfz83_1 := blk_frozen BK1060.out 1; have hfz83_2 := blk_frozen BK1060.out 2; have hfz83_3 := blk_frozen BK1060.out 3; have hfz83_4 := blk_frozen BK1060.out 4; have hfz83_5 := blk_frozen BK1060.out 5; have hfz83_6 := blk_frozen BK1060.out 6; obtain ⟨Ao84, co84, eo84⟩ := Kd.N_slice HO1058.out; subst eo84))
                      go_ret
                      exact ⟨by first | rfl | (simp [errW_none, errW_some] <;> rfl) | (simp [*, errW_none, errW_some] <;> rfl), by repeat (first | (with_reducible first | exact HB.out | apply below_alloc | apply pw_below_drewN | apply below_drew1 | refine below_set ?_ GE1015.out | refine below_set ?_ GE1036.out | refine below_set ?_ GE1047.out | refine below_set ?_ GE1060.out) | exact HB.out)⟩
                  · rw [if_neg c59] at H
                    have c59b0 : (t1050 == 1) = false := beq_eq_false_iff_ne.mpr c59
                    have c59b1 : (t1050 != 1) = true := bne_iff_ne.mpr c59
                    obtain rfl := Option.some.inj H
                    have hnb85 := NB1015_1036.out
                    have hnc85 := NB1036_1015.out
                    have hnb86 := NB1015_1047.out
                    have hnc86 := NB1047_1015.out
                    have hcz87_0 : wc.cell? ⟨gb1015, 0, none⟩ = some (.int .u8 a0_0) := (blk_cell BK1015.out 0).trans rfl
                    have hcz87_1 : wc.cell? ⟨gb1015, 1, none⟩ = some (.int .i64 a0_1) := (blk_cell BK1015.out 1).trans rfl
                    have hcz87_2 : wc.cell? ⟨gb1015, 2, none⟩ = some (.int .i64 a0_2) := (blk_cell BK1015.out 2).trans rfl
                    have hcz87_3 : wc.cell? ⟨gb1015, 3, none⟩ = some (.int .i64 a0_3) := (blk_cell BK1015.out 3).trans rfl
                    have hcz87_4 : wc.cell? ⟨gb1015, 4, none⟩ = some (.int .i64 a0_4) := (blk_cell BK1015.out 4).trans rfl
                    have hcz87_5 : wc.cell? ⟨gb1015, 5, none⟩ = some (.int .i64 a0_5) := (blk_cell BK1015.out 5).trans rfl
                    have hcz87_6 : wc.cell? ⟨gb1015, 6, none⟩ = some (.slice A0_6 l0_6.length c0_6) := (blk_cell BK1015.out 6).trans rfl
                    have hfz87_0 := blk_frozen BK1015.out 0
                    have hfz87_1 := blk_frozen BK1015.out 1
                    have hfz87_2 := blk_frozen BK1015.out 2
                    have hfz87_3 := blk_frozen BK1015.out 3
                    have hfz87_4 := blk_frozen BK1015.out 4
                    have hfz87_5 := blk_frozen BK1015.out 5
                    have hfz87_6 := blk_frozen BK1015.out 6
                    obtain ⟨Ao88, co88, eo88⟩ := Kd.R_slice HO_7.out
                    subst eo88
                    go_wp2_with (first | ((with_reducible refine gate_callee (f := 91) rfl ?_); refine goesL_ (some 72) rfl rfl Try.func91 (by kernel_rfl) rfl #[.agg #[.int .u8 a0_0, .int .i64 a0_1, .int .i64 a0_2, .int .i64 a0_3, .int .i64 a0_4, .int .i64 a0_5, .slice A0_6 l0_6.length c0_6], .slice Ao88 t1018.length co88] rfl (by (try simp only [List.map_toArray, List.map_cons, List.map_nil]); first | done | rfl | (simp only [List.length_drop, List.length_take]; rfl)) ?_; (with_reducible refine (cell_At.calls kj18 a0_0 a0_1 a0_2 a0_3 a0_4 a0_5 (fun k_ => k_ < w.heap.size) _ _ l0_6 _ _ t1018 t1050 t1051 t1052 t1053 t1054 t1055 t1056 true _ ?side1 ?side2 ?side3 A56.out).mono ?_); (case side1 => exact Kd.V_mk HC0_6.out (Kd.F_below (Kd.C_F k26_heap HR0_6.out) (by repeat (first | (with_reducible first | exact HB.out | apply below_alloc | apply pw_below_drewN | apply below_drew1 | refine below_set ?_ GE1015.out | refine below_set ?_ GE1036.out | refine below_set ?_ GE1047.out) | exact HB.out)))); (case side2 => repeat (first | exact (Kd.R_reads' HO_7.out).2.2 | (with_reducible refine Kd.C_alloc ?_ _) | (with_reducible refine Kd.C_drewN ?_ _) | (with_reducible refine Kd.C_drew ?_))); (case side3 => exact (Kd.R_reads' HO_7.out).2.1); rintro e w89 ⟨v1057, rfl, ho0, hb⟩; refine ⟨_, rfl, ?_⟩; have n0_ := Aside0.mk (Kd.R_below (by (with_reducible repeat (first | apply Kd.R_alloc | apply Kd.R_drewN | apply Kd.R_drew)); exact HO_7.out) hb); have n1_ := Aside0.mk (Kd.N_elder' (by (with_reducible repeat (first | apply Kd.N_alloc | apply Kd.N_drewN | apply Kd.N_drew)); exact HO_1037006.out) (Kd.N_base ho0) hb); have n2_ := Aside0.mk (Kd.V_elder' (by (with_reducible repeat (first | apply Kd.V_alloc | apply Kd.V_drewN | apply Kd.V_drew)); exact HO_1048006.out) (Kd.N_base ho0) hb); have n3_ := Aside0.mk (Kd.N_lower (Kd.N_mono (ok' := fun k_ => some k_ ≠ (.slice Ao88 t1018.length co88 : Value).ownBlock ∧ some k_ ≠ (.slice Ao29 t1032.length co29 : Value).ownBlock ∧ k_ ≠ gb1015 ∧ k_ ≠ gb1036 ∧ k_ ≠ gb1047) ho0 (fun k_ hk_ => ⟨Or.elim hk_ (fun hs_ => fun e_ => Nat.not_le.2 hs_ (Kd.R_base HO_7.out k_ e_.symm)) (fun hn_ => (Kd.fresh' (Kd.R_lt (by (with_reducible repeat (first | apply Kd.R_alloc | apply Kd.R_drewN | apply Kd.R_drew)); exact HO_7.out)) k_ hn_)), Or.elim hk_ (fun hs_ => fun e_ => Nat.not_le.2 hs_ (Kd.N_base HO_1037006.out k_ e_.symm)) (fun hn_ => (Kd.fresh' (Kd.N_lt (by (with_reducible repeat (first | apply Kd.N_alloc | apply Kd.N_drewN | apply Kd.N_drew)); exact HO_1037006.out)) k_ hn_)), Or.elim hk_ (fun hs_ => fun e_ => Nat.not_le.2 hs_ (by rw [e_]; exact GW1015.out)) (fun hn_ => (Kd.freshB (g := gb1015) (o := .cells #[.int .u8 a0_0, .int .i64 a0_1, .int .i64 a0_2, .int .i64 a0_3, .int .i64 a0_4, .int .i64 a0_5, .slice A0_6 l0_6.length c0_6] 26 (0, 0)) (by (with_reducible repeat (first | refine blk_drewN ?_ _ | refine blk_drew ?_ | refine blk_alloc ?_ _)); exact BK1015.out) k_ hn_)), Or.elim hk_ (fun hs_ => fun e_ => Nat.not_le.2 hs_ (by rw [e_]; exact GW1036.out)) (fun hn_ => (Kd.freshB (g := gb1036) (o := .cells #[.int .u8 t1026, .int .i64 t1027, .int .i64 t1028, .int .i64 t1029, .int .i64 t1030, .int .i64 t1031, .slice Ao29 t1032.length co29] 26 (0, 0)) (by (with_reducible repeat (first | refine blk_drewN ?_ _ | refine blk_drew ?_ | refine blk_alloc ?_ _)); exact BK1036.out) k_ hn_)), Or.elim hk_ (fun hs_ => fun e_ => Nat.not_le.2 hs_ (by rw [e_]; exact GW1047.out)) (fun hn_ => (Kd.freshB (g := gb1047) (o := .cells #[.int .u8 t1037, .int .i64 t1038, .int .i64 t1039, .int .i64 t1040, .int .i64 t1041, .int .i64 t1042, .slice Ao37 t1043.length co37] 26 (0, 0)) (by (with_reducible repeat (first | refine blk_drewN ?_ _ | refine blk_drew ?_ | refine blk_alloc ?_ _)); exact BK1047.out) k_ hn_))⟩)) (below_size (by repeat (first | (with_reducible first | exact HB.out | apply below_alloc | apply pw_below_drewN | apply below_drew1 | refine below_set ?_ GE1015.out | refine below_set ?_ GE1036.out | refine below_set ?_ GE1047.out) | exact HB.out)))); have n4_ := Aside0.mk (blk_below (g := gb1015) (o := .cells #[.int .u8 a0_0, .int .i64 a0_1, .int .i64 a0_2, .int .i64 a0_3, .int .i64 a0_4, .int .i64 a0_5, .slice A0_6 l0_6.length c0_6] 26 (0, 0)) (by (with_reducible repeat (first | refine blk_drewN ?_ _ | refine blk_drew ?_ | refine blk_alloc ?_ _)); exact BK1015.out) hb); have n5_ := Aside0.mk (blk_below (g := gb1036) (o := .cells #[.int .u8 t1026, .int .i64 t1027, .int .i64 t1028, .int .i64 t1029, .int .i64 t1030, .int .i64 t1031, .slice Ao29 t1032.length co29] 26 (0, 0)) (by (with_reducible repeat (first | refine blk_drewN ?_ _ | refine blk_drew ?_ | refine blk_alloc ?_ _)); exact BK1036.out) hb); have n6_ := Aside0.mk (blk_below (g := gb1047) (o := .cells #[.int .u8 t1037, .int .i64 t1038, .int .i64 t1039, .int .i64 t1040, .int .i64 t1041, .int .i64 t1042, .slice Ao37 t1043.length co37] 26 (0, 0)) (by (with_reducible repeat (first | refine blk_drewN ?_ _ | refine blk_drew ?_ | refine blk_alloc ?_ _)); exact BK1047.out) hb); have n7_ := Aside0.mk (below_step (by repeat (first | (with_reducible first | exact HB.out | apply below_alloc | apply pw_below_drewN | apply below_drew1 | refine below_set ?_ GE1015.out | refine below_set ?_ GE1036.out | refine below_set ?_ GE1047.out) | exact HB.out)) hb); clear HO_7; clear HO_1037006; clear HO_1048006; clear BK1015; clear BK1036; clear BK1047; clear HB; have HO_7 := n0_; have HO_1037006 := n1_; have HO_1048006 := n2_; have HO1058 := n3_; have BK1015 := n4_; have BK1036 := n5_; have BK1047 := n6_; have HB := n7_; clear n0_ n1_ n2_ n3_ n4_ n5_ n6_ n7_; (try clear hb); (try clear hb2); (try clear hk); (try clear hi); (try clear ho0)) | ((with_reducible refine gate_dst (N := 15) rfl ?_); (try (refine gate_guard (by rfl) ?_; dsimp only)); refine box_event ?hg (N := 15) ?hd (cs := #[.int .u8 0, .int .i64 0, .int .i64 0, .int .i64 0, .int .i64 0, .int .i64 0, .slice none 0 0]) (t := 26) ?hr ?_; (case hd => rfl); (case hg => rfl); (case hr => first | (go_simp; done) | (go_simp; rfl)); intro gb1060 hg w90 hbox hb; have n0_ := Aside0.mk (Kd.R_below (by (with_reducible repeat (first | apply Kd.R_alloc | apply Kd.R_drewN | apply Kd.R_drew)); exact HO_7.out) hb); have n1_ := Aside0.mk (Kd.N_below (Kd.N_elderB (by (with_reducible repeat (first | apply Kd.N_alloc | apply Kd.N_drewN | apply Kd.N_drew)); exact HO_1037006.out) gb1060 (Nat.le_of_eq hg.symm)) hb); have n2_ := Aside0.mk (Kd.V_below (Kd.V_elderB (by (with_reducible repeat (first | apply Kd.V_alloc | apply Kd.V_drewN | apply Kd.V_drew)); exact HO_1048006.out) gb1060 (Nat.le_of_eq hg.symm)) hb); have n3_ := Aside0.mk (Kd.N_below (Kd.N_elderB (by (with_reducible repeat (first | apply Kd.N_alloc | apply Kd.N_drewN | apply Kd.N_drew)); exact HO1058.out) gb1060 (Nat.le_of_eq hg.symm)) hb); have n4_ := Aside0.mk (blk_below (g := gb1015) (o := .cells #[.int .u8 a0_0, .int .i64 a0_1, .int .i64 a0_2, .int .i64 a0_3, .int .i64 a0_4, .int .i64 a0_5, .slice A0_6 l0_6.length c0_6] 26 (0, 0)) (by (with_reducible repeat (first | refine blk_drewN ?_ _ | refine blk_drew ?_ | refine blk_alloc ?_ _)); exact BK1015.out) hb); have n5_ := Aside0.mk (blk_below (g := gb1036) (o := .cells #[.int .u8 t1026, .int .i64 t1027, .int .i64 t1028, .int .i64 t1029, .int .i64 t1030, .int .i64 t1031, .slice Ao29 t1032.length co29] 26 (0, 0)) (by (with_reducible repeat (first | refine blk_drewN ?_ _ | refine blk_drew ?_ | refine blk_alloc ?_ _)); exact BK1036.out) hb); have n6_ := Aside0.mk (blk_below (g := gb1047) (o := .cells #[.int .u8 t1037, .int .i64 t1038, .int .i64 t1039, .int .i64 t1040, .int .i64 t1041, .int .i64 t1042, .slice Ao37 t1043.length co37] 26 (0, 0)) (by (with_reducible repeat (first | refine blk_drewN ?_ _ | refine blk_drew ?_ | refine blk_alloc ?_ _)); exact BK1047.out) hb); have n7_ := Aside0.mk (below_step (by repeat (first | (with_reducible first | exact HB.out | apply below_alloc | apply pw_below_drewN | apply below_drew1 | refine below_set ?_ GE1015.out | refine below_set ?_ GE1036.out | refine below_set ?_ GE1047.out) | exact HB.out)) hb); have n8_ := Aside0.mk (hbox); have n9_ := Aside0.mk ((by rw [hg]; exact (below_size (by repeat (first | (with_reducible first | exact HB.out | apply below_alloc | apply pw_below_drewN | apply below_drew1 | refine below_set ?_ GE1015.out | refine below_set ?_ GE1036.out | refine below_set ?_ GE1047.out) | exact HB.out))) : w.heap.size ≤ gb1060)); have n10_ := Aside0.mk ((by rw [hg]; exact (below_size (by repeat (first | (with_reducible first | exact HB.out | apply below_alloc | apply pw_below_drewN | apply below_drew1 | refine below_set ?_ GE1015.out | refine below_set ?_ GE1036.out | refine below_set ?_ GE1047.out) | exact HB.out))) : w.heap.size ≤ gb1060)); have n11_ := Aside0.mk ((by rw [hg]; exact Nat.ne_of_lt (blk_lt (g := gb1015) (o := .cells #[.int .u8 a0_0, .int .i64 a0_1, .int .i64 a0_2, .int .i64 a0_3, .int .i64 a0_4, .int .i64 a0_5, .slice A0_6 l0_6.length c0_6] 26 (0, 0)) (by (with_reducible repeat (first | refine blk_drewN ?_ _ | refine blk_drew ?_ | refine blk_alloc ?_ _)); exact BK1015.out)) : gb1015 ≠ gb1060)); have n12_ := Aside0.mk ((by rw [hg]; exact Nat.ne_of_gt (blk_lt (g := gb1015) (o := .cells #[.int .u8 a0_0, .int .i64 a0_1, .int .i64 a0_2, .int .i64 a0_3, .int .i64 a0_4, .int .i64 a0_5, .slice A0_6 l0_6.length c0_6] 26 (0, 0)) (by (with_reducible repeat (first | refine blk_drewN ?_ _ | refine blk_drew ?_ | refine blk_alloc ?_ _)); exact BK1015.out)) : gb1060 ≠ gb1015)); have n13_ := Aside0.mk ((by rw [hg]; exact Nat.ne_of_lt (blk_lt (g := gb1036) (o := .cells #[.int .u8 t1026, .int .i64 t1027, .int .i64 t1028, .int .i64 t1029, .int .i64 t1030, .int .i64 t1031, .slice Ao29 t1032.length co29] 26 (0, 0)) (by (with_reducible repeat (first | refine blk_drewN ?_ _ | refine blk_drew ?_ | refine blk_alloc ?_ _)); exact BK1036.out)) : gb1036 ≠ gb1060)); have n14_ := Aside0.mk ((by rw [hg]; exact Nat.ne_of_gt (blk_lt (g := gb1036) (o := .cells #[.int .u8 t1026, .int .i64 t1027, .int .i64 t1028, .int .i64 t1029, .int .i64 t1030, .int .i64 t1031, .slice Ao29 t1032.length co29] 26 (0, 0)) (by (with_reducible repeat (first | refine blk_drewN ?_ _ | refine blk_drew ?_ | refine blk_alloc ?_ _)); exact BK1036.out)) : gb1060 ≠ gb1036)); have n15_ := Aside0.mk ((by rw [hg]; exact Nat.ne_of_lt (blk_lt (g := gb1047) (o := .cells #[.int .u8 t1037, .int .i64 t1038, .int .i64 t1039, .int .i64 t1040, .int .i64 t1041, .int .i64 t1042, .slice Ao37 t1043.length co37] 26 (0, 0)) (by (with_reducible repeat (first | refine blk_drewN ?_ _ | refine blk_drew ?_ | refine blk_alloc ?_ _)); exact BK1047.out)) : gb1047 ≠ gb1060)); have n16_ := Aside0.mk ((by rw [hg]; exact Nat.ne_of_gt (blk_lt (g := gb1047) (o := .cells #[.int .u8 t1037, .int .i64 t1038, .int .i64 t1039, .int .i64 t1040, .int .i64 t1041, .int .i64 t1042, .slice Ao37 t1043.length co37] 26 (0, 0)) (by (with_reducible repeat (first | refine blk_drewN ?_ _ | refine blk_drew ?_ | refine blk_alloc ?_ _)); exact BK1047.out)) : gb1060 ≠ gb1047)); clear HO_7; clear HO_1037006; clear HO_1048006; clear HO1058; clear BK1015; clear BK1036; clear BK1047; clear HB; have HO_7 := n0_; have HO_1037006 := n1_; have HO_1048006 := n2_; have HO1058 := n3_; have BK1015 := n4_; have BK1036 := n5_; have BK1047 := n6_; have HB := n7_; have BK1060 := n8_; have GW1060 := n9_; have GE1060 := n10_; have NB1015_1060 := n11_; have NB1060_1015 := n12_; have NB1036_1060 := n13_; have NB1060_1036 := n14_; have NB1047_1060 := n15_; have NB1060_1047 := n16_; clear n0_ n1_ n2_ n3_ n4_ n5_ n6_ n7_ n8_ n9_ n10_ n11_ n12_ n13_ n14_ n15_ n16_; clear hb hbox hg; have hnb91 := NB1060_1015.out; have hnc91 := NB1015_1060.out; have hnb92 := NB1060_1036.out; have hnc92 := NB1036_1060.out; have hnb93 := NB1060_1047.out; have hnc93 := NB1047_1060.out; have hcz94_0 : w90.cell? ⟨gb1060, 0, none⟩ = some (.int .u8 0) := (blk_cell BK1060.out 0).trans rfl; have hcz94_1 : w90.cell? ⟨gb1060, 1, none⟩ = some (.int .i64 0) := (blk_cell BK1060.out 1).trans rfl; have hcz94_2 : w90.cell? ⟨gb1060, 2, none⟩ = some (.int .i64 0) := (blk_cell BK1060.out 2).trans rfl; have hcz94_3 : w90.cell? ⟨gb1060, 3, none⟩ = some (.int .i64 0) := (blk_cell BK1060.out 3).trans rfl; have hcz94_4 : w90.cell? ⟨gb1060, 4, none⟩ = some (.int .i64 0) := (blk_cell BK1060.out 4).trans rfl; have hcz94_5 : w90.cell? ⟨gb1060, 5, none⟩ = some (.int .i64 0) := (blk_cell BK1060.out 5).trans rfl; have hcz94_6 : w90.cell? ⟨gb1060, 6, none⟩ = some (.slice none 0 0) := (blk_cell BK1060.out 6).trans rfl; have hfz94_0 := blk_frozen BK1060.out 0; have hfz94_1 := blk_frozen BK1060.out 1; have hfz94_2 := blk_frozen BK1060.out 2; have hfz94_3 := blk_frozen BK1060.out 3; have hfz94_4 := blk_frozen BK1060.out 4; have hfz94_5 := blk_frozen BK1060.out 5; have hfz94_6 := blk_frozen BK1060.out 6; obtain ⟨Ao95, co95, eo95⟩ := Kd.N_slice HO1058.out; subst eo95))
                    go_ret
                    exact ⟨by first | rfl | (simp [errW_none, errW_some] <;> rfl) | (simp [*, errW_none, errW_some] <;> rfl), by repeat (first | (with_reducible first | exact HB.out | apply below_alloc | apply pw_below_drewN | apply below_drew1 | refine below_set ?_ GE1015.out | refine below_set ?_ GE1036.out | refine below_set ?_ GE1047.out | refine below_set ?_ GE1060.out) | exact HB.out)⟩
                · replace c58 := Bool.eq_false_iff.mpr c58
                  subst c58
                  have H1 : (some false) = some r := by rw [if_neg (show ¬ (false = true) by decide)] at H; exact H
                  clear H
                  have H := H1
                  clear H1
                  obtain rfl := Option.some.inj H
                  have hnb96 := NB1015_1036.out
                  have hnc96 := NB1036_1015.out
                  have hnb97 := NB1015_1047.out
                  have hnc97 := NB1047_1015.out
                  have hcz98_0 : wc.cell? ⟨gb1015, 0, none⟩ = some (.int .u8 a0_0) := (blk_cell BK1015.out 0).trans rfl
                  have hcz98_1 : wc.cell? ⟨gb1015, 1, none⟩ = some (.int .i64 a0_1) := (blk_cell BK1015.out 1).trans rfl
                  have hcz98_2 : wc.cell? ⟨gb1015, 2, none⟩ = some (.int .i64 a0_2) := (blk_cell BK1015.out 2).trans rfl
                  have hcz98_3 : wc.cell? ⟨gb1015, 3, none⟩ = some (.int .i64 a0_3) := (blk_cell BK1015.out 3).trans rfl
                  have hcz98_4 : wc.cell? ⟨gb1015, 4, none⟩ = some (.int .i64 a0_4) := (blk_cell BK1015.out 4).trans rfl
                  have hcz98_5 : wc.cell? ⟨gb1015, 5, none⟩ = some (.int .i64 a0_5) := (blk_cell BK1015.out 5).trans rfl
                  have hcz98_6 : wc.cell? ⟨gb1015, 6, none⟩ = some (.slice A0_6 l0_6.length c0_6) := (blk_cell BK1015.out 6).trans rfl
                  have hfz98_0 := blk_frozen BK1015.out 0
                  have hfz98_1 := blk_frozen BK1015.out 1
                  have hfz98_2 := blk_frozen BK1015.out 2
                  have hfz98_3 := blk_frozen BK1015.out 3
                  have hfz98_4 := blk_frozen BK1015.out 4
                  have hfz98_5 := blk_frozen BK1015.out 5
                  have hfz98_6 := blk_frozen BK1015.out 6
                  obtain ⟨Ao99, co99, eo99⟩ := Kd.R_slice HO_7.out
                  subst eo99
                  go_wp2_with (first | ((with_reducible refine gate_callee (f := 91) rfl ?_); refine goesL_ (some 72) rfl rfl Try.func91 (by kernel_rfl) rfl #[.agg #[.int .u8 a0_0, .int .i64 a0_1, .int .i64 a0_2, .int .i64 a0_3, .int .i64 a0_4, .int .i64 a0_5, .slice A0_6 l0_6.length c0_6], .slice Ao99 t1018.length co99] rfl (by (try simp only [List.map_toArray, List.map_cons, List.map_nil]); first | done | rfl | (simp only [List.length_drop, List.length_take]; rfl)) ?_; (with_reducible refine (cell_At.calls kj18 a0_0 a0_1 a0_2 a0_3 a0_4 a0_5 (fun k_ => k_ < w.heap.size) _ _ l0_6 _ _ t1018 t1050 t1051 t1052 t1053 t1054 t1055 t1056 false _ ?side1 ?side2 ?side3 A56.out).mono ?_); (case side1 => exact Kd.V_mk HC0_6.out (Kd.F_below (Kd.C_F k26_heap HR0_6.out) (by repeat (first | (with_reducible first | exact HB.out | apply below_alloc | apply pw_below_drewN | apply below_drew1 | refine below_set ?_ GE1015.out | refine below_set ?_ GE1036.out | refine below_set ?_ GE1047.out) | exact HB.out)))); (case side2 => repeat (first | exact (Kd.R_reads' HO_7.out).2.2 | (with_reducible refine Kd.C_alloc ?_ _) | (with_reducible refine Kd.C_drewN ?_ _) | (with_reducible refine Kd.C_drew ?_))); (case side3 => exact (Kd.R_reads' HO_7.out).2.1); rintro e w100 ⟨v1057, rfl, ho0, hb⟩; refine ⟨_, rfl, ?_⟩; have n0_ := Aside0.mk (Kd.R_below (by (with_reducible repeat (first | apply Kd.R_alloc | apply Kd.R_drewN | apply Kd.R_drew)); exact HO_7.out) hb); have n1_ := Aside0.mk (Kd.N_elder' (by (with_reducible repeat (first | apply Kd.N_alloc | apply Kd.N_drewN | apply Kd.N_drew)); exact HO_1037006.out) (Kd.N_base ho0) hb); have n2_ := Aside0.mk (Kd.V_elder' (by (with_reducible repeat (first | apply Kd.V_alloc | apply Kd.V_drewN | apply Kd.V_drew)); exact HO_1048006.out) (Kd.N_base ho0) hb); have n3_ := Aside0.mk (Kd.N_lower (Kd.N_mono (ok' := fun k_ => some k_ ≠ (.slice Ao99 t1018.length co99 : Value).ownBlock ∧ some k_ ≠ (.slice Ao29 t1032.length co29 : Value).ownBlock ∧ k_ ≠ gb1015 ∧ k_ ≠ gb1036 ∧ k_ ≠ gb1047) ho0 (fun k_ hk_ => ⟨Or.elim hk_ (fun hs_ => fun e_ => Nat.not_le.2 hs_ (Kd.R_base HO_7.out k_ e_.symm)) (fun hn_ => (Kd.fresh' (Kd.R_lt (by (with_reducible repeat (first | apply Kd.R_alloc | apply Kd.R_drewN | apply Kd.R_drew)); exact HO_7.out)) k_ hn_)), Or.elim hk_ (fun hs_ => fun e_ => Nat.not_le.2 hs_ (Kd.N_base HO_1037006.out k_ e_.symm)) (fun hn_ => (Kd.fresh' (Kd.N_lt (by (with_reducible repeat (first | apply Kd.N_alloc | apply Kd.N_drewN | apply Kd.N_drew)); exact HO_1037006.out)) k_ hn_)), Or.elim hk_ (fun hs_ => fun e_ => Nat.not_le.2 hs_ (by rw [e_]; exact GW1015.out)) (fun hn_ => (Kd.freshB (g := gb1015) (o := .cells #[.int .u8 a0_0, .int .i64 a0_1, .int .i64 a0_2, .int .i64 a0_3, .int .i64 a0_4, .int .i64 a0_5, .slice A0_6 l0_6.length c0_6] 26 (0, 0)) (by (with_reducible repeat (first | refine blk_drewN ?_ _ | refine blk_drew ?_ | refine blk_alloc ?_ _)); exact BK1015.out) k_ hn_)), Or.elim hk_ (fun hs_ => fun e_ => Nat.not_le.2 hs_ (by rw [e_]; exact GW1036.out)) (fun hn_ => (Kd.freshB (g := gb1036) (o := .cells #[.int .u8 t1026, .int .i64 t1027, .int .i64 t1028, .int .i64 t1029, .int .i64 t1030, .int .i64 t1031, .slice Ao29 t1032.length co29] 26 (0, 0)) (by (with_reducible repeat (first | refine blk_drewN ?_ _ | refine blk_drew ?_ | refine blk_alloc ?_ _)); exact BK1036.out) k_ hn_)), Or.elim hk_ (fun hs_ => fun e_ => Nat.not_le.2 hs_ (by rw [e_]; exact GW1047.out)) (fun hn_ => (Kd.freshB (g := gb1047) (o := .cells #[.int .u8 t1037, .int .i64 t1038, .int .i64 t1039, .int .i64 t1040, .int .i64 t1041, .int .i64 t1042, .slice Ao37 t1043.length co37] 26 (0, 0)) (by (with_reducible repeat (first | refine blk_drewN ?_ _ | refine blk_drew ?_ | refine blk_alloc ?_ _)); exact BK1047.out) k_ hn_))⟩)) (below_size (by repeat (first | (with_reducible first | exact HB.out | apply below_alloc | apply pw_below_drewN | apply below_drew1 | refine below_set ?_ GE1015.out | refine below_set ?_ GE1036.out | refine below_set ?_ GE1047.out) | exact HB.out)))); have n4_ := Aside0.mk (blk_below (g := gb1015) (o := .cells #[.int .u8 a0_0, .int .i64 a0_1, .int .i64 a0_2, .int .i64 a0_3, .int .i64 a0_4, .int .i64 a0_5, .slice A0_6 l0_6.length c0_6] 26 (0, 0)) (by (with_reducible repeat (first | refine blk_drewN ?_ _ | refine blk_drew ?_ | refine blk_alloc ?_ _)); exact BK1015.out) hb); have n5_ := Aside0.mk (blk_below (g := gb1036) (o := .cells #[.int .u8 t1026, .int .i64 t1027, .int .i64 t1028, .int .i64 t1029, .int .i64 t1030, .int .i64 t1031, .slice Ao29 t1032.length co29] 26 (0, 0)) (by (with_reducible repeat (first | refine blk_drewN ?_ _ | refine blk_drew ?_ | refine blk_alloc ?_ _)); exact BK1036.out) hb); have n6_ := Aside0.mk (blk_below (g := gb1047) (o := .cells #[.int .u8 t1037, .int .i64 t1038, .int .i64 t1039, .int .i64 t1040, .int .i64 t1041, .int .i64 t1042, .slice Ao37 t1043.length co37] 26 (0, 0)) (by (with_reducible repeat (first | refine blk_drewN ?_ _ | refine blk_drew ?_ | refine blk_alloc ?_ _)); exact BK1047.out) hb); have n7_ := Aside0.mk (below_step (by repeat (first | (with_reducible first | exact HB.out | apply below_alloc | apply pw_below_drewN | apply below_drew1 | refine below_set ?_ GE1015.out | refine below_set ?_ GE1036.out | refine below_set ?_ GE1047.out) | exact HB.out)) hb); clear HO_7; clear HO_1037006; clear HO_1048006; clear BK1015; clear BK1036; clear BK1047; clear HB; have HO_7 := n0_; have HO_1037006 := n1_; have HO_1048006 := n2_; have HO1058 := n3_; have BK1015 := n4_; have BK1036 := n5_; have BK1047 := n6_; have HB := n7_; clear n0_ n1_ n2_ n3_ n4_ n5_ n6_ n7_; (try clear hb); (try clear hb2); (try clear hk); (try clear hi); (try clear ho0)) | ((with_reducible refine gate_dst (N := 15) rfl ?_); (try (refine gate_guard (by rfl) ?_; dsimp only)); refine box_event ?hg (N := 15) ?hd (cs := #[.int .u8 0, .int .i64 0, .int .i64 0, .int .i64 0, .int .i64 0, .int .i64 0, .slice none 0 0]) (t := 26) ?hr ?_; (case hd => rfl); (case hg => rfl); (case hr => first | (go_simp; done) | (go_simp; rfl)); intro gb1060 hg w101 hbox hb; have n0_ := Aside0.mk (Kd.R_below (by (with_reducible repeat (first | apply Kd.R_alloc | apply Kd.R_drewN | apply Kd.R_drew)); exact HO_7.out) hb); have n1_ := Aside0.mk (Kd.N_below (Kd.N_elderB (by (with_reducible repeat (first | apply Kd.N_alloc | apply Kd.N_drewN | apply Kd.N_drew)); exact HO_1037006.out) gb1060 (Nat.le_of_eq hg.symm)) hb); have n2_ := Aside0.mk (Kd.V_below (Kd.V_elderB (by (with_reducible repeat (first | apply Kd.V_alloc | apply Kd.V_drewN | apply Kd.V_drew)); exact HO_1048006.out) gb1060 (Nat.le_of_eq hg.symm)) hb); have n3_ := Aside0.mk (Kd.N_below (Kd.N_elderB (by (with_reducible repeat (first | apply Kd.N_alloc | apply Kd.N_drewN | apply Kd.N_drew)); exact HO1058.out) gb1060 (Nat.le_of_eq hg.symm)) hb); have n4_ := Aside0.mk (blk_below (g := gb1015) (o := .cells #[.int .u8 a0_0, .int .i64 a0_1, .int .i64 a0_2, .int .i64 a0_3, .int .i64 a0_4, .int .i64 a0_5, .slice A0_6 l0_6.length c0_6] 26 (0, 0)) (by (with_reducible repeat (first | refine blk_drewN ?_ _ | refine blk_drew ?_ | refine blk_alloc ?_ _)); exact BK1015.out) hb); have n5_ := Aside0.mk (blk_below (g := gb1036) (o := .cells #[.int .u8 t1026, .int .i64 t1027, .int .i64 t1028, .int .i64 t1029, .int .i64 t1030, .int .i64 t1031, .slice Ao29 t1032.length co29] 26 (0, 0)) (by (with_reducible repeat (first | refine blk_drewN ?_ _ | refine blk_drew ?_ | refine blk_alloc ?_ _)); exact BK1036.out) hb); have n6_ := Aside0.mk (blk_below (g := gb1047) (o := .cells #[.int .u8 t1037, .int .i64 t1038, .int .i64 t1039, .int .i64 t1040, .int .i64 t1041, .int .i64 t1042, .slice Ao37 t1043.length co37] 26 (0, 0)) (by (with_reducible repeat (first | refine blk_drewN ?_ _ | refine blk_drew ?_ | refine blk_alloc ?_ _)); exact BK1047.out) hb); have n7_ := Aside0.mk (below_step (by repeat (first | (with_reducible first | exact HB.out | apply below_alloc | apply pw_below_drewN | apply below_drew1 | refine below_set ?_ GE1015.out | refine below_set ?_ GE1036.out | refine below_set ?_ GE1047.out) | exact HB.out)) hb); have n8_ := Aside0.mk (hbox); have n9_ := Aside0.mk ((by rw [hg]; exact (below_size (by repeat (first | (with_reducible first | exact HB.out | apply below_alloc | apply pw_below_drewN | apply below_drew1 | refine below_set ?_ GE1015.out | refine below_set ?_ GE1036.out | refine below_set ?_ GE1047.out) | exact HB.out))) : w.heap.size ≤ gb1060)); have n10_ := Aside0.mk ((by rw [hg]; exact (below_size (by repeat (first | (with_reducible first | exact HB.out | apply below_alloc | apply pw_below_drewN | apply below_drew1 | refine below_set ?_ GE1015.out | refine below_set ?_ GE1036.out | refine below_set ?_ GE1047.out) | exact HB.out))) : w.heap.size ≤ gb1060)); have n11_ := Aside0.mk ((by rw [hg]; exact Nat.ne_of_lt (blk_lt (g := gb1015) (o := .cells #[.int .u8 a0_0, .int .i64 a0_1, .int .i64 a0_2, .int .i64 a0_3, .int .i64 a0_4, .int .i64 a0_5, .slice A0_6 l0_6.length c0_6] 26 (0, 0)) (by (with_reducible repeat (first | refine blk_drewN ?_ _ | refine blk_drew ?_ | refine blk_alloc ?_ _)); exact BK1015.out)) : gb1015 ≠ gb1060)); have n12_ := Aside0.mk ((by rw [hg]; exact Nat.ne_of_gt (blk_lt (g := gb1015) (o := .cells #[.int .u8 a0_0, .int .i64 a0_1, .int .i64 a0_2, .int .i64 a0_3, .int .i64 a0_4, .int .i64 a0_5, .slice A0_6 l0_6.length c0_6] 26 (0, 0)) (by (with_reducible repeat (first | refine blk_drewN ?_ _ | refine blk_drew ?_ | refine blk_alloc ?_ _)); exact BK1015.out)) : gb1060 ≠ gb1015)); have n13_ := Aside0.mk ((by rw [hg]; exact Nat.ne_of_lt (blk_lt (g := gb1036) (o := .cells #[.int .u8 t1026, .int .i64 t1027, .int .i64 t1028, .int .i64 t1029, .int .i64 t1030, .int .i64 t1031, .slice Ao29 t1032.length co29] 26 (0, 0)) (by (with_reducible repeat (first | refine blk_drewN ?_ _ | refine blk_drew ?_ | refine blk_alloc ?_ _)); exact BK1036.out)) : gb1036 ≠ gb1060)); have n14_ := Aside0.mk ((by rw [hg]; exact Nat.ne_of_gt (blk_lt (g := gb1036) (o := .cells #[.int .u8 t1026, .int .i64 t1027, .int .i64 t1028, .int .i64 t1029, .int .i64 t1030, .int .i64 t1031, .slice Ao29 t1032.length co29] 26 (0, 0)) (by (with_reducible repeat (first | refine blk_drewN ?_ _ | refine blk_drew ?_ | refine blk_alloc ?_ _)); exact BK1036.out)) : gb1060 ≠ gb1036)); have n15_ := Aside0.mk ((by rw [hg]; exact Nat.ne_of_lt (blk_lt (g := gb1047) (o := .cells #[.int .u8 t1037, .int .i64 t1038, .int .i64 t1039, .int .i64 t1040, .int .i64 t1041, .int .i64 t1042, .slice Ao37 t1043.length co37] 26 (0, 0)) (by (with_reducible repeat (first | refine blk_drewN ?_ _ | refine blk_drew ?_ | refine blk_alloc ?_ _)); exact BK1047.out)) : gb1047 ≠ gb1060)); have n16_ := Aside0.mk ((by rw [hg]; exact Nat.ne_of_gt (blk_lt (g := gb1047) (o := .cells #[.int .u8 t1037, .int .i64 t1038, .int .i64 t1039, .int .i64 t1040, .int .i64 t1041, .int .i64 t1042, .slice Ao37 t1043.length co37] 26 (0, 0)) (by (with_reducible repeat (first | refine blk_drewN ?_ _ | refine blk_drew ?_ | refine blk_alloc ?_ _)); exact BK1047.out)) : gb1060 ≠ gb1047)); clear HO_7; clear HO_1037006; clear HO_1048006; clear HO1058; clear BK1015; clear BK1036; clear BK1047; clear HB; have HO_7 := n0_; have HO_1037006 := n1_; have HO_1048006 := n2_; have HO1058 := n3_; have BK1015 := n4_; have BK1036 := n5_; have BK1047 := n6_; have HB := n7_; have BK1060 := n8_; have GW1060 := n9_; have GE1060 := n10_; have NB1015_1060 := n11_; have NB1060_1015 := n12_; have NB1036_1060 := n13_; have NB1060_1036 := n14_; have NB1047_1060 := n15_; have NB1060_1047 := n16_; clear n0_ n1_ n2_ n3_ n4_ n5_ n6_ n7_ n8_ n9_ n10_ n11_ n12_ n13_ n14_ n15_ n16_; clear hb hbox hg; have hnb102 := NB1060_1015.out; have hnc102 := NB1015_1060.out; have hnb103 := NB1060_1036.out; have hnc103 := NB1036_1060.out; have hnb104 := NB1060_1047.out; have hnc104 := NB1047_1060.out; have hcz105_0 : w101.cell? ⟨gb1060, 0, none⟩ = some (.int .u8 0) := (blk_cell BK1060.out 0).trans rfl; have hcz105_1 : w101.cell? ⟨gb1060, 1, none⟩ = some (.int .i64 0) := (blk_cell BK1060.out 1).trans rfl; have hcz105_2 : w101.cell? ⟨gb1060, 2, none⟩ = some (.int .i64 0) := (blk_cell BK1060.out 2).trans rfl; have hcz105_3 : w101.cell? ⟨gb1060, 3, none⟩ = some (.int .i64 0) := (blk_cell BK1060.out 3).trans rfl; have hcz105_4 : w101.cell? ⟨gb1060, 4, none⟩ = some (.int .i64 0) := (blk_cell BK1060.out 4).trans rfl; have hcz105_5 : w101.cell? ⟨gb1060, 5, none⟩ = some (.int .i64 0) := (blk_cell BK1060.out 5).trans rfl; have hcz105_6 : w101.cell? ⟨gb1060, 6, none⟩ = some (.slice none 0 0) := (blk_cell BK1060.out 6).trans rfl; have hfz105_0 := blk_frozen BK1060.out 0; have hfz105_1 := blk_frozen BK1060.out 1; have hfz105_2 := blk_frozen BK1060.out 2; have hfz105_3 := blk_frozen BK1060.out 3; have hfz105_4 := blk_frozen BK1060.out 4; have hfz105_5 := blk_frozen BK1060.out 5; have hfz105_6 := blk_frozen BK1060.out 6; obtain ⟨Ao106, co106, eo106⟩ := Kd.N_slice HO1058.out; subst eo106))
                  go_ret
                  exact ⟨by first | rfl | (simp [errW_none, errW_some] <;> rfl) | (simp [*, errW_none, errW_some] <;> rfl), by repeat (first | (with_reducible first | exact HB.out | apply below_alloc | apply pw_below_drewN | apply below_drew1 | refine below_set ?_ GE1015.out | refine below_set ?_ GE1036.out | refine below_set ?_ GE1047.out | refine below_set ?_ GE1060.out) | exact HB.out)⟩
              · replace c57 := Bool.eq_false_iff.mpr c57
                subst c57
                have H1 : ((sashlaw05_awake.f).bind fun t1062 => (some t1062)) = some r := by rw [if_neg (show ¬ (false = true) by decide)] at H; exact H
                clear H
                have H := H1
                clear H1
                replace H := Option.bind_eq_some_iff.mp H
                obtain ⟨t1062, A1070, H⟩ := H
                replace H : (some t1062) = some r := H
                have A107 := Aside0.mk A1070
                clear A1070
                obtain rfl := Option.some.inj H
                have hnb108 := NB1015_1036.out
                have hnc108 := NB1036_1015.out
                have hnb109 := NB1015_1047.out
                have hnc109 := NB1047_1015.out
                have hcz110_0 : wc.cell? ⟨gb1015, 0, none⟩ = some (.int .u8 a0_0) := (blk_cell BK1015.out 0).trans rfl
                have hcz110_1 : wc.cell? ⟨gb1015, 1, none⟩ = some (.int .i64 a0_1) := (blk_cell BK1015.out 1).trans rfl
                have hcz110_2 : wc.cell? ⟨gb1015, 2, none⟩ = some (.int .i64 a0_2) := (blk_cell BK1015.out 2).trans rfl
                have hcz110_3 : wc.cell? ⟨gb1015, 3, none⟩ = some (.int .i64 a0_3) := (blk_cell BK1015.out 3).trans rfl
                have hcz110_4 : wc.cell? ⟨gb1015, 4, none⟩ = some (.int .i64 a0_4) := (blk_cell BK1015.out 4).trans rfl
                have hcz110_5 : wc.cell? ⟨gb1015, 5, none⟩ = some (.int .i64 a0_5) := (blk_cell BK1015.out 5).trans rfl
                have hcz110_6 : wc.cell? ⟨gb1015, 6, none⟩ = some (.slice A0_6 l0_6.length c0_6) := (blk_cell BK1015.out 6).trans rfl
                have hfz110_0 := blk_frozen BK1015.out 0
                have hfz110_1 := blk_frozen BK1015.out 1
                have hfz110_2 := blk_frozen BK1015.out 2
                have hfz110_3 := blk_frozen BK1015.out 3
                have hfz110_4 := blk_frozen BK1015.out 4
                have hfz110_5 := blk_frozen BK1015.out 5
                have hfz110_6 := blk_frozen BK1015.out 6
                obtain ⟨Ao111, co111, eo111⟩ := Kd.R_slice HO_7.out
                subst eo111
                go_wp2_with (first | ((with_reducible refine gate_callee (f := 91) rfl ?_); refine goesL_ (some 72) rfl rfl Try.func91 (by kernel_rfl) rfl #[.agg #[.int .u8 a0_0, .int .i64 a0_1, .int .i64 a0_2, .int .i64 a0_3, .int .i64 a0_4, .int .i64 a0_5, .slice A0_6 l0_6.length c0_6], .slice Ao111 t1018.length co111] rfl (by (try simp only [List.map_toArray, List.map_cons, List.map_nil]); first | done | rfl | (simp only [List.length_drop, List.length_take]; rfl)) ?_; (with_reducible refine (cell_At.calls kj18 a0_0 a0_1 a0_2 a0_3 a0_4 a0_5 (fun k_ => k_ < w.heap.size) _ _ l0_6 _ _ t1018 t1050 t1051 t1052 t1053 t1054 t1055 t1056 t1059 _ ?side1 ?side2 ?side3 A56.out).mono ?_); (case side1 => exact Kd.V_mk HC0_6.out (Kd.F_below (Kd.C_F k26_heap HR0_6.out) (by repeat (first | (with_reducible first | exact HB.out | apply below_alloc | apply pw_below_drewN | apply below_drew1 | refine below_set ?_ GE1015.out | refine below_set ?_ GE1036.out | refine below_set ?_ GE1047.out) | exact HB.out)))); (case side2 => repeat (first | exact (Kd.R_reads' HO_7.out).2.2 | (with_reducible refine Kd.C_alloc ?_ _) | (with_reducible refine Kd.C_drewN ?_ _) | (with_reducible refine Kd.C_drew ?_))); (case side3 => exact (Kd.R_reads' HO_7.out).2.1); rintro e w112 ⟨v1057, rfl, ho0, hb⟩; refine ⟨_, rfl, ?_⟩; have n0_ := Aside0.mk (Kd.R_below (by (with_reducible repeat (first | apply Kd.R_alloc | apply Kd.R_drewN | apply Kd.R_drew)); exact HO_7.out) hb); have n1_ := Aside0.mk (Kd.N_elder' (by (with_reducible repeat (first | apply Kd.N_alloc | apply Kd.N_drewN | apply Kd.N_drew)); exact HO_1037006.out) (Kd.N_base ho0) hb); have n2_ := Aside0.mk (Kd.V_elder' (by (with_reducible repeat (first | apply Kd.V_alloc | apply Kd.V_drewN | apply Kd.V_drew)); exact HO_1048006.out) (Kd.N_base ho0) hb); have n3_ := Aside0.mk (Kd.N_lower (Kd.N_mono (ok' := fun k_ => some k_ ≠ (.slice Ao111 t1018.length co111 : Value).ownBlock ∧ some k_ ≠ (.slice Ao29 t1032.length co29 : Value).ownBlock ∧ k_ ≠ gb1015 ∧ k_ ≠ gb1036 ∧ k_ ≠ gb1047) ho0 (fun k_ hk_ => ⟨Or.elim hk_ (fun hs_ => fun e_ => Nat.not_le.2 hs_ (Kd.R_base HO_7.out k_ e_.symm)) (fun hn_ => (Kd.fresh' (Kd.R_lt (by (with_reducible repeat (first | apply Kd.R_alloc | apply Kd.R_drewN | apply Kd.R_drew)); exact HO_7.out)) k_ hn_)), Or.elim hk_ (fun hs_ => fun e_ => Nat.not_le.2 hs_ (Kd.N_base HO_1037006.out k_ e_.symm)) (fun hn_ => (Kd.fresh' (Kd.N_lt (by (with_reducible repeat (first | apply Kd.N_alloc | apply Kd.N_drewN | apply Kd.N_drew)); exact HO_1037006.out)) k_ hn_)), Or.elim hk_ (fun hs_ => fun e_ => Nat.not_le.2 hs_ (by rw [e_]; exact GW1015.out)) (fun hn_ => (Kd.freshB (g := gb1015) (o := .cells #[.int .u8 a0_0, .int .i64 a0_1, .int .i64 a0_2, .int .i64 a0_3, .int .i64 a0_4, .int .i64 a0_5, .slice A0_6 l0_6.length c0_6] 26 (0, 0)) (by (with_reducible repeat (first | refine blk_drewN ?_ _ | refine blk_drew ?_ | refine blk_alloc ?_ _)); exact BK1015.out) k_ hn_)), Or.elim hk_ (fun hs_ => fun e_ => Nat.not_le.2 hs_ (by rw [e_]; exact GW1036.out)) (fun hn_ => (Kd.freshB (g := gb1036) (o := .cells #[.int .u8 t1026, .int .i64 t1027, .int .i64 t1028, .int .i64 t1029, .int .i64 t1030, .int .i64 t1031, .slice Ao29 t1032.length co29] 26 (0, 0)) (by (with_reducible repeat (first | refine blk_drewN ?_ _ | refine blk_drew ?_ | refine blk_alloc ?_ _)); exact BK1036.out) k_ hn_)), Or.elim hk_ (fun hs_ => fun e_ => Nat.not_le.2 hs_ (by rw [e_]; exact GW1047.out)) (fun hn_ => (Kd.freshB (g := gb1047) (o := .cells #[.int .u8 t1037, .int .i64 t1038, .int .i64 t1039, .int .i64 t1040, .int .i64 t1041, .int .i64 t1042, .slice Ao37 t1043.length co37] 26 (0, 0)) (by (with_reducible repeat (first | refine blk_drewN ?_ _ | refine blk_drew ?_ | refine blk_alloc ?_ _)); exact BK1047.out) k_ hn_))⟩)) (below_size (by repeat (first | (with_reducible first | exact HB.out | apply below_alloc | apply pw_below_drewN | apply below_drew1 | refine below_set ?_ GE1015.out | refine below_set ?_ GE1036.out | refine below_set ?_ GE1047.out) | exact HB.out)))); have n4_ := Aside0.mk (blk_below (g := gb1015) (o := .cells #[.int .u8 a0_0, .int .i64 a0_1, .int .i64 a0_2, .int .i64 a0_3, .int .i64 a0_4, .int .i64 a0_5, .slice A0_6 l0_6.length c0_6] 26 (0, 0)) (by (with_reducible repeat (first | refine blk_drewN ?_ _ | refine blk_drew ?_ | refine blk_alloc ?_ _)); exact BK1015.out) hb); have n5_ := Aside0.mk (blk_below (g := gb1036) (o := .cells #[.int .u8 t1026, .int .i64 t1027, .int .i64 t1028, .int .i64 t1029, .int .i64 t1030, .int .i64 t1031, .slice Ao29 t1032.length co29] 26 (0, 0)) (by (with_reducible repeat (first | refine blk_drewN ?_ _ | refine blk_drew ?_ | refine blk_alloc ?_ _)); exact BK1036.out) hb); have n6_ := Aside0.mk (blk_below (g := gb1047) (o := .cells #[.int .u8 t1037, .int .i64 t1038, .int .i64 t1039, .int .i64 t1040, .int .i64 t1041, .int .i64 t1042, .slice Ao37 t1043.length co37] 26 (0, 0)) (by (with_reducible repeat (first | refine blk_drewN ?_ _ | refine blk_drew ?_ | refine blk_alloc ?_ _)); exact BK1047.out) hb); have n7_ := Aside0.mk (below_step (by repeat (first | (with_reducible first | exact HB.out | apply below_alloc | apply pw_below_drewN | apply below_drew1 | refine below_set ?_ GE1015.out | refine below_set ?_ GE1036.out | refine below_set ?_ GE1047.out) | exact HB.out)) hb); clear HO_7; clear HO_1037006; clear HO_1048006; clear BK1015; clear BK1036; clear BK1047; clear HB; have HO_7 := n0_; have HO_1037006 := n1_; have HO_1048006 := n2_; have HO1058 := n3_; have BK1015 := n4_; have BK1036 := n5_; have BK1047 := n6_; have HB := n7_; clear n0_ n1_ n2_ n3_ n4_ n5_ n6_ n7_; (try clear hb); (try clear hb2); (try clear hk); (try clear hi); (try clear ho0)) | ((with_reducible refine gate_dst (N := 15) rfl ?_); (try (refine gate_guard (by rfl) ?_; dsimp only)); refine box_event ?hg (N := 15) ?hd (cs := #[.int .u8 0, .int .i64 0, .int .i64 0, .int .i64 0, .int .i64 0, .int .i64 0, .slice none 0 0]) (t := 26) ?hr ?_; (case hd => rfl); (case hg => rfl); (case hr => first | (go_simp; done) | (go_simp; rfl)); intro gb1060 hg w113 hbox hb; have n0_ := Aside0.mk (Kd.R_below (by (with_reducible repeat (first | apply Kd.R_alloc | apply Kd.R_drewN | apply Kd.R_drew)); exact HO_7.out) hb); have n1_ := Aside0.mk (Kd.N_below (Kd.N_elderB (by (with_reducible repeat (first | apply Kd.N_alloc | apply Kd.N_drewN | apply Kd.N_drew)); exact HO_1037006.out) gb1060 (Nat.le_of_eq hg.symm)) hb); have n2_ := Aside0.mk (Kd.V_below (Kd.V_elderB (by (with_reducible repeat (first | apply Kd.V_alloc | apply Kd.V_drewN | apply Kd.V_drew)); exact HO_1048006.out) gb1060 (Nat.le_of_eq hg.symm)) hb); have n3_ := Aside0.mk (Kd.N_below (Kd.N_elderB (by (with_reducible repeat (first | apply Kd.N_alloc | apply Kd.N_drewN | apply Kd.N_drew)); exact HO1058.out) gb1060 (Nat.le_of_eq hg.symm)) hb); have n4_ := Aside0.mk (blk_below (g := gb1015) (o := .cells #[.int .u8 a0_0, .int .i64 a0_1, .int .i64 a0_2, .int .i64 a0_3, .int .i64 a0_4, .int .i64 a0_5, .slice A0_6 l0_6.length c0_6] 26 (0, 0)) (by (with_reducible repeat (first | refine blk_drewN ?_ _ | refine blk_drew ?_ | refine blk_alloc ?_ _)); exact BK1015.out) hb); have n5_ := Aside0.mk (blk_below (g := gb1036) (o := .cells #[.int .u8 t1026, .int .i64 t1027, .int .i64 t1028, .int .i64 t1029, .int .i64 t1030, .int .i64 t1031, .slice Ao29 t1032.length co29] 26 (0, 0)) (by (with_reducible repeat (first | refine blk_drewN ?_ _ | refine blk_drew ?_ | refine blk_alloc ?_ _)); exact BK1036.out) hb); have n6_ := Aside0.mk (blk_below (g := gb1047) (o := .cells #[.int .u8 t1037, .int .i64 t1038, .int .i64 t1039, .int .i64 t1040, .int .i64 t1041, .int .i64 t1042, .slice Ao37 t1043.length co37] 26 (0, 0)) (by (with_reducible repeat (first | refine blk_drewN ?_ _ | refine blk_drew ?_ | refine blk_alloc ?_ _)); exact BK1047.out) hb); have n7_ := Aside0.mk (below_step (by repeat (first | (with_reducible first | exact HB.out | apply below_alloc | apply pw_below_drewN | apply below_drew1 | refine below_set ?_ GE1015.out | refine below_set ?_ GE1036.out | refine below_set ?_ GE1047.out) | exact HB.out)) hb); have n8_ := Aside0.mk (hbox); have n9_ := Aside0.mk ((by rw [hg]; exact (below_size (by repeat (first | (with_reducible first | exact HB.out | apply below_alloc | apply pw_below_drewN | apply below_drew1 | refine below_set ?_ GE1015.out | refine below_set ?_ GE1036.out | refine below_set ?_ GE1047.out) | exact HB.out))) : w.heap.size ≤ gb1060)); have n10_ := Aside0.mk ((by rw [hg]; exact (below_size (by repeat (first | (with_reducible first | exact HB.out | apply below_alloc | apply pw_below_drewN | apply below_drew1 | refine below_set ?_ GE1015.out | refine below_set ?_ GE1036.out | refine below_set ?_ GE1047.out) | exact HB.out))) : w.heap.size ≤ gb1060)); have n11_ := Aside0.mk ((by rw [hg]; exact Nat.ne_of_lt (blk_lt (g := gb1015) (o := .cells #[.int .u8 a0_0, .int .i64 a0_1, .int .i64 a0_2, .int .i64 a0_3, .int .i64 a0_4, .int .i64 a0_5, .slice A0_6 l0_6.length c0_6] 26 (0, 0)) (by (with_reducible repeat (first | refine blk_drewN ?_ _ | refine blk_drew ?_ | refine blk_alloc ?_ _)); exact BK1015.out)) : gb1015 ≠ gb1060)); have n12_ := Aside0.mk ((by rw [hg]; exact Nat.ne_of_gt (blk_lt (g := gb1015) (o := .cells #[.int .u8 a0_0, .int .i64 a0_1, .int .i64 a0_2, .int .i64 a0_3, .int .i64 a0_4, .int .i64 a0_5, .slice A0_6 l0_6.length c0_6] 26 (0, 0)) (by (with_reducible repeat (first | refine blk_drewN ?_ _ | refine blk_drew ?_ | refine blk_alloc ?_ _)); exact BK1015.out)) : gb1060 ≠ gb1015)); have n13_ := Aside0.mk ((by rw [hg]; exact Nat.ne_of_lt (blk_lt (g := gb1036) (o := .cells #[.int .u8 t1026, .int .i64 t1027, .int .i64 t1028, .int .i64 t1029, .int .i64 t1030, .int .i64 t1031, .slice Ao29 t1032.length co29] 26 (0, 0)) (by (with_reducible repeat (first | refine blk_drewN ?_ _ | refine blk_drew ?_ | refine blk_alloc ?_ _)); exact BK1036.out)) : gb1036 ≠ gb1060)); have n14_ := Aside0.mk ((by rw [hg]; exact Nat.ne_of_gt (blk_lt (g := gb1036) (o := .cells #[.int .u8 t1026, .int .i64 t1027, .int .i64 t1028, .int .i64 t1029, .int .i64 t1030, .int .i64 t1031, .slice Ao29 t1032.length co29] 26 (0, 0)) (by (with_reducible repeat (first | refine blk_drewN ?_ _ | refine blk_drew ?_ | refine blk_alloc ?_ _)); exact BK1036.out)) : gb1060 ≠ gb1036)); have n15_ := Aside0.mk ((by rw [hg]; exact Nat.ne_of_lt (blk_lt (g := gb1047) (o := .cells #[.int .u8 t1037, .int .i64 t1038, .int .i64 t1039, .int .i64 t1040, .int .i64 t1041, .int .i64 t1042, .slice Ao37 t1043.length co37] 26 (0, 0)) (by (with_reducible repeat (first | refine blk_drewN ?_ _ | refine blk_drew ?_ | refine blk_alloc ?_ _)); exact BK1047.out)) : gb1047 ≠ gb1060)); have n16_ := Aside0.mk ((by rw [hg]; exact Nat.ne_of_gt (blk_lt (g := gb1047) (o := .cells #[.int .u8 t1037, .int .i64 t1038, .int .i64 t1039, .int .i64 t1040, .int .i64 t1041, .int .i64 t1042, .slice Ao37 t1043.length co37] 26 (0, 0)) (by (with_reducible repeat (first | refine blk_drewN ?_ _ | refine blk_drew ?_ | refine blk_alloc ?_ _)); exact BK1047.out)) : gb1060 ≠ gb1047)); clear HO_7; clear HO_1037006; clear HO_1048006; clear HO1058; clear BK1015; clear BK1036; clear BK1047; clear HB; have HO_7 := n0_; have HO_1037006 := n1_; have HO_1048006 := n2_; have HO1058 := n3_; have BK1015 := n4_; have BK1036 := n5_; have BK1047 := n6_; have HB := n7_; have BK1060 := n8_; have GW1060 := n9_; have GE1060 := n10_; have NB1015_1060 := n11_; have NB1060_1015 := n12_; have NB1036_1060 := n13_; have NB1060_1036 := n14_; have NB1047_1060 := n15_; have NB1060_1047 := n16_; clear n0_ n1_ n2_ n3_ n4_ n5_ n6_ n7_ n8_ n9_ n10_ n11_ n12_ n13_ n14_ n15_ n16_; clear hb hbox hg; have hnb114 := NB1060_1015.out; have hnc114 := NB1015_1060.out; have hnb115 := NB1060_1036.out; have hnc115 := NB1036_1060.out; have hnb116 := NB1060_1047.out; have hnc116 := NB1047_1060.out; have hcz117_0 : w113.cell? ⟨gb1060, 0, none⟩ = some (.int .u8 0) := (blk_cell BK1060.out 0).trans rfl; have hcz117_1 : w113.cell? ⟨gb1060, 1, none⟩ = some (.int .i64 0) := (blk_cell BK1060.out 1).trans rfl; have hcz117_2 : w113.cell? ⟨gb1060, 2, none⟩ = some (.int .i64 0) := (blk_cell BK1060.out 2).trans rfl; have hcz117_3 : w113.cell? ⟨gb1060, 3, none⟩ = some (.int .i64 0) := (blk_cell BK1060.out 3).trans rfl; have hcz117_4 : w113.cell? ⟨gb1060, 4, none⟩ = some (.int .i64 0) := (blk_cell BK1060.out 4).trans rfl; have hcz117_5 : w113.cell? ⟨gb1060, 5, none⟩ = some (.int .i64 0) := (blk_cell BK1060.out 5).trans rfl; have hcz117_6 : w113.cell? ⟨gb1060, 6, none⟩ = some (.slice none 0 0) := (blk_cell BK1060.out 6).trans rfl; have hfz117_0 := blk_frozen BK1060.out 0; have hfz117_1 := blk_frozen BK1060.out 1; have hfz117_2 := blk_frozen BK1060.out 2; have hfz117_3 := blk_frozen BK1060.out 3; have hfz117_4 := blk_frozen BK1060.out 4; have hfz117_5 := blk_frozen BK1060.out 5; have hfz117_6 := blk_frozen BK1060.out 6; obtain ⟨Ao118, co118, eo118⟩ := Kd.N_slice HO1058.out; subst eo118) | (go_at_call 75; (with_reducible refine (sashlaw05_awake.calls  t1062 _ A107.out).mono ?_); rintro e w119 ⟨rfl, hb⟩; have n0_ := Aside0.mk (Kd.R_below (by (with_reducible repeat (first | apply Kd.R_alloc | apply Kd.R_drewN | apply Kd.R_drew)); exact (Kd.R_mono (Kd.R_far (p := ⟨gb1060, 6, none⟩) (Kd.R_far (p := ⟨gb1060, 5, none⟩) (Kd.R_far (p := ⟨gb1060, 4, none⟩) (Kd.R_far (p := ⟨gb1060, 3, none⟩) (Kd.R_far (p := ⟨gb1060, 2, none⟩) (Kd.R_far (p := ⟨gb1060, 1, none⟩) (Kd.R_far (p := ⟨gb1060, 0, none⟩) (Kd.R_types HO_7.out BK1060.out (by decide)) (fun _ hk => hk.2) (.int .u8 t1050)) (fun _ hk => hk.2) (.int .i64 t1051)) (fun _ hk => hk.2) (.int .i64 t1052)) (fun _ hk => hk.2) (.int .i64 t1053)) (fun _ hk => hk.2) (.int .i64 t1054)) (fun _ hk => hk.2) (.int .i64 t1055)) (fun _ hk => hk.2) (.slice Ao118 t1056.length co118)) (fun _ h_ => h_.1))) hb); have n1_ := Aside0.mk (Kd.N_below (by (with_reducible repeat (first | apply Kd.N_alloc | apply Kd.N_drewN | apply Kd.N_drew)); exact (Kd.N_mono (Kd.N_far (p := ⟨gb1060, 6, none⟩) (Kd.N_far (p := ⟨gb1060, 5, none⟩) (Kd.N_far (p := ⟨gb1060, 4, none⟩) (Kd.N_far (p := ⟨gb1060, 3, none⟩) (Kd.N_far (p := ⟨gb1060, 2, none⟩) (Kd.N_far (p := ⟨gb1060, 1, none⟩) (Kd.N_far (p := ⟨gb1060, 0, none⟩) (Kd.N_mono HO_1037006.out (fun k_ hk => (⟨hk, hk.2⟩ : _ ∧ k_ ≠ gb1060))) (fun _ hk => hk.2) (.int .u8 t1050)) (fun _ hk => hk.2) (.int .i64 t1051)) (fun _ hk => hk.2) (.int .i64 t1052)) (fun _ hk => hk.2) (.int .i64 t1053)) (fun _ hk => hk.2) (.int .i64 t1054)) (fun _ hk => hk.2) (.int .i64 t1055)) (fun _ hk => hk.2) (.slice Ao118 t1056.length co118)) (fun _ h_ => h_.1))) hb); have n2_ := Aside0.mk (Kd.V_below (by (with_reducible repeat (first | apply Kd.V_alloc | apply Kd.V_drewN | apply Kd.V_drew)); exact (Kd.V_mono (Kd.V_far (p := ⟨gb1060, 6, none⟩) (Kd.V_far (p := ⟨gb1060, 5, none⟩) (Kd.V_far (p := ⟨gb1060, 4, none⟩) (Kd.V_far (p := ⟨gb1060, 3, none⟩) (Kd.V_far (p := ⟨gb1060, 2, none⟩) (Kd.V_far (p := ⟨gb1060, 1, none⟩) (Kd.V_far (p := ⟨gb1060, 0, none⟩) (Kd.V_mono HO_1048006.out (fun k_ hk => (⟨hk, hk.2⟩ : _ ∧ k_ ≠ gb1060))) (fun _ hk => hk.2) (.int .u8 t1050)) (fun _ hk => hk.2) (.int .i64 t1051)) (fun _ hk => hk.2) (.int .i64 t1052)) (fun _ hk => hk.2) (.int .i64 t1053)) (fun _ hk => hk.2) (.int .i64 t1054)) (fun _ hk => hk.2) (.int .i64 t1055)) (fun _ hk => hk.2) (.slice Ao118 t1056.length co118)) (fun _ h_ => h_.1))) hb); have n3_ := Aside0.mk (Kd.N_below (by (with_reducible repeat (first | apply Kd.N_alloc | apply Kd.N_drewN | apply Kd.N_drew)); exact (Kd.N_mono (Kd.N_far (p := ⟨gb1060, 6, none⟩) (Kd.N_far (p := ⟨gb1060, 5, none⟩) (Kd.N_far (p := ⟨gb1060, 4, none⟩) (Kd.N_far (p := ⟨gb1060, 3, none⟩) (Kd.N_far (p := ⟨gb1060, 2, none⟩) (Kd.N_far (p := ⟨gb1060, 1, none⟩) (Kd.N_far (p := ⟨gb1060, 0, none⟩) (Kd.N_mono HO1058.out (fun k_ hk => (⟨hk, hk.2⟩ : _ ∧ k_ ≠ gb1060))) (fun _ hk => hk.2) (.int .u8 t1050)) (fun _ hk => hk.2) (.int .i64 t1051)) (fun _ hk => hk.2) (.int .i64 t1052)) (fun _ hk => hk.2) (.int .i64 t1053)) (fun _ hk => hk.2) (.int .i64 t1054)) (fun _ hk => hk.2) (.int .i64 t1055)) (fun _ hk => hk.2) (.slice Ao118 t1056.length co118)) (fun _ h_ => h_.1))) hb); have n4_ := Aside0.mk (blk_below (g := gb1015) (o := .cells #[.int .u8 a0_0, .int .i64 a0_1, .int .i64 a0_2, .int .i64 a0_3, .int .i64 a0_4, .int .i64 a0_5, .slice A0_6 l0_6.length c0_6] 26 (0, 0)) (by (with_reducible repeat (first | refine blk_drewN ?_ _ | refine blk_drew ?_ | refine blk_alloc ?_ _)); refine blk_far ?_ NB1015_1060.out _; (with_reducible repeat (first | refine blk_drewN ?_ _ | refine blk_drew ?_ | refine blk_alloc ?_ _)); refine blk_far ?_ NB1015_1060.out _; (with_reducible repeat (first | refine blk_drewN ?_ _ | refine blk_drew ?_ | refine blk_alloc ?_ _)); refine blk_far ?_ NB1015_1060.out _; (with_reducible repeat (first | refine blk_drewN ?_ _ | refine blk_drew ?_ | refine blk_alloc ?_ _)); refine blk_far ?_ NB1015_1060.out _; (with_reducible repeat (first | refine blk_drewN ?_ _ | refine blk_drew ?_ | refine blk_alloc ?_ _)); refine blk_far ?_ NB1015_1060.out _; (with_reducible repeat (first | refine blk_drewN ?_ _ | refine blk_drew ?_ | refine blk_alloc ?_ _)); refine blk_far ?_ NB1015_1060.out _; (with_reducible repeat (first | refine blk_drewN ?_ _ | refine blk_drew ?_ | refine blk_alloc ?_ _)); refine blk_far ?_ NB1015_1060.out _; (with_reducible repeat (first | refine blk_drewN ?_ _ | refine blk_drew ?_ | refine blk_alloc ?_ _)); exact BK1015.out) hb); have n5_ := Aside0.mk (blk_below (g := gb1036) (o := .cells #[.int .u8 t1026, .int .i64 t1027, .int .i64 t1028, .int .i64 t1029, .int .i64 t1030, .int .i64 t1031, .slice Ao29 t1032.length co29] 26 (0, 0)) (by (with_reducible repeat (first | refine blk_drewN ?_ _ | refine blk_drew ?_ | refine blk_alloc ?_ _)); refine blk_far ?_ NB1036_1060.out _; (with_reducible repeat (first | refine blk_drewN ?_ _ | refine blk_drew ?_ | refine blk_alloc ?_ _)); refine blk_far ?_ NB1036_1060.out _; (with_reducible repeat (first | refine blk_drewN ?_ _ | refine blk_drew ?_ | refine blk_alloc ?_ _)); refine blk_far ?_ NB1036_1060.out _; (with_reducible repeat (first | refine blk_drewN ?_ _ | refine blk_drew ?_ | refine blk_alloc ?_ _)); refine blk_far ?_ NB1036_1060.out _; (with_reducible repeat (first | refine blk_drewN ?_ _ | refine blk_drew ?_ | refine blk_alloc ?_ _)); refine blk_far ?_ NB1036_1060.out _; (with_reducible repeat (first | refine blk_drewN ?_ _ | refine blk_drew ?_ | refine blk_alloc ?_ _)); refine blk_far ?_ NB1036_1060.out _; (with_reducible repeat (first | refine blk_drewN ?_ _ | refine blk_drew ?_ | refine blk_alloc ?_ _)); refine blk_far ?_ NB1036_1060.out _; (with_reducible repeat (first | refine blk_drewN ?_ _ | refine blk_drew ?_ | refine blk_alloc ?_ _)); exact BK1036.out) hb); have n6_ := Aside0.mk (blk_below (g := gb1047) (o := .cells #[.int .u8 t1037, .int .i64 t1038, .int .i64 t1039, .int .i64 t1040, .int .i64 t1041, .int .i64 t1042, .slice Ao37 t1043.length co37] 26 (0, 0)) (by (with_reducible repeat (first | refine blk_drewN ?_ _ | refine blk_drew ?_ | refine blk_alloc ?_ _)); refine blk_far ?_ NB1047_1060.out _; (with_reducible repeat (first | refine blk_drewN ?_ _ | refine blk_drew ?_ | refine blk_alloc ?_ _)); refine blk_far ?_ NB1047_1060.out _; (with_reducible repeat (first | refine blk_drewN ?_ _ | refine blk_drew ?_ | refine blk_alloc ?_ _)); refine blk_far ?_ NB1047_1060.out _; (with_reducible repeat (first | refine blk_drewN ?_ _ | refine blk_drew ?_ | refine blk_alloc ?_ _)); refine blk_far ?_ NB1047_1060.out _; (with_reducible repeat (first | refine blk_drewN ?_ _ | refine blk_drew ?_ | refine blk_alloc ?_ _)); refine blk_far ?_ NB1047_1060.out _; (with_reducible repeat (first | refine blk_drewN ?_ _ | refine blk_drew ?_ | refine blk_alloc ?_ _)); refine blk_far ?_ NB1047_1060.out _; (with_reducible repeat (first | refine blk_drewN ?_ _ | refine blk_drew ?_ | refine blk_alloc ?_ _)); refine blk_far ?_ NB1047_1060.out _; (with_reducible repeat (first | refine blk_drewN ?_ _ | refine blk_drew ?_ | refine blk_alloc ?_ _)); exact BK1047.out) hb); have n7_ := Aside0.mk (blk_below (g := gb1060) (o := .cells #[.int .u8 t1050, .int .i64 t1051, .int .i64 t1052, .int .i64 t1053, .int .i64 t1054, .int .i64 t1055, .slice Ao118 t1056.length co118] 26 (0, 0)) (by (with_reducible repeat (first | refine blk_drewN ?_ _ | refine blk_drew ?_ | refine blk_alloc ?_ _)); refine blk_put (cs := #[.int .u8 t1050, .int .i64 t1051, .int .i64 t1052, .int .i64 t1053, .int .i64 t1054, .int .i64 t1055, .slice none 0 0]) ?_ 6 _ rfl; (with_reducible repeat (first | refine blk_drewN ?_ _ | refine blk_drew ?_ | refine blk_alloc ?_ _)); refine blk_put (cs := #[.int .u8 t1050, .int .i64 t1051, .int .i64 t1052, .int .i64 t1053, .int .i64 t1054, .int .i64 0, .slice none 0 0]) ?_ 5 _ rfl; (with_reducible repeat (first | refine blk_drewN ?_ _ | refine blk_drew ?_ | refine blk_alloc ?_ _)); refine blk_put (cs := #[.int .u8 t1050, .int .i64 t1051, .int .i64 t1052, .int .i64 t1053, .int .i64 0, .int .i64 0, .slice none 0 0]) ?_ 4 _ rfl; (with_reducible repeat (first | refine blk_drewN ?_ _ | refine blk_drew ?_ | refine blk_alloc ?_ _)); refine blk_put (cs := #[.int .u8 t1050, .int .i64 t1051, .int .i64 t1052, .int .i64 0, .int .i64 0, .int .i64 0, .slice none 0 0]) ?_ 3 _ rfl; (with_reducible repeat (first | refine blk_drewN ?_ _ | refine blk_drew ?_ | refine blk_alloc ?_ _)); refine blk_put (cs := #[.int .u8 t1050, .int .i64 t1051, .int .i64 0, .int .i64 0, .int .i64 0, .int .i64 0, .slice none 0 0]) ?_ 2 _ rfl; (with_reducible repeat (first | refine blk_drewN ?_ _ | refine blk_drew ?_ | refine blk_alloc ?_ _)); refine blk_put (cs := #[.int .u8 t1050, .int .i64 0, .int .i64 0, .int .i64 0, .int .i64 0, .int .i64 0, .slice none 0 0]) ?_ 1 _ rfl; (with_reducible repeat (first | refine blk_drewN ?_ _ | refine blk_drew ?_ | refine blk_alloc ?_ _)); refine blk_put (cs := #[.int .u8 0, .int .i64 0, .int .i64 0, .int .i64 0, .int .i64 0, .int .i64 0, .slice none 0 0]) ?_ 0 _ rfl; (with_reducible repeat (first | refine blk_drewN ?_ _ | refine blk_drew ?_ | refine blk_alloc ?_ _)); exact BK1060.out) hb); have n8_ := Aside0.mk (below_step (by repeat (first | (with_reducible first | exact HB.out | apply below_alloc | apply pw_below_drewN | apply below_drew1 | refine below_set ?_ GE1015.out | refine below_set ?_ GE1036.out | refine below_set ?_ GE1047.out | refine below_set ?_ GE1060.out) | exact HB.out)) hb); clear HO_7; clear HO_1037006; clear HO_1048006; clear HO1058; clear BK1015; clear BK1036; clear BK1047; clear BK1060; clear HB; have HO_7 := n0_; have HO_1037006 := n1_; have HO_1048006 := n2_; have HO1058 := n3_; have BK1015 := n4_; have BK1036 := n5_; have BK1047 := n6_; have BK1060 := n7_; have HB := n8_; clear n0_ n1_ n2_ n3_ n4_ n5_ n6_ n7_ n8_; (try clear hb); (try clear hb2); (try clear hk); (try clear hi)))
                go_ret
                exact ⟨by first | rfl | (simp [errW_none, errW_some] <;> rfl) | (simp [*, errW_none, errW_some] <;> rfl), by repeat (first | (with_reducible first | exact HB.out | apply below_alloc | apply pw_below_drewN | apply below_drew1 | refine below_set ?_ GE1015.out | refine below_set ?_ GE1036.out | refine below_set ?_ GE1047.out | refine below_set ?_ GE1060.out) | exact HB.out)⟩

end Go.Proofs.Ytfdmfgaiblfbhaa.P
/- The path to a leaf, and the cell at a path, by the code and by the reference: plain data. -/
namespace Go.Proofs.Ytfdmfgaiblfbhaa.P
open Go.RowKit Go.Proofs.YtfdmfgaiblfbhaaW.PrintWords Go.Proofs.YtfdmfgaiblfbhaaW.PrintLast Go.Proofs.YtfdmfgaiblfbhaaW.PrintMore

theorem rd_mem (l : List S26) (i : Int) (h0 : 0 ≤ i) (h1 : i < (l.length : Int)) : rd_T26 l i ∈ l := by
  unfold rd_T26
  rw [List.getD_eq_getElem?_getD, List.getElem?_eq_getElem (by omega), Option.getD_some]
  exact List.getElem_mem _
theorem sz_mem {l : List S26} {k : S26} (h : k ∈ l) : sz k ≤ szL l := by
  obtain ⟨p, q, e⟩ := List.append_of_mem h
  rw [e, szL_app, szL_cons]
  omega
theorem at_size : ∀ (is : List Int) (c x : S26), atC c is = some x → sz x ≤ sz c := by
  intro is
  induction is with
  | nil => intro c x h; injection h with h; rw [h]; exact Nat.le_refl _
  | cons i is ih =>
    intro c x h
    simp only [atC] at h
    split at h
    · cases h
    · rename_i hi
      have h1 := ih _ x h
      have h2 := sz_mem (rd_mem c.f3 i (by omega) (by omega))
      have h3 := sz_eq c
      omega
theorem rd_at_in (pre : List Int) (p : Int) (rest : List Int) : rd (pre ++ p :: rest) (pre.length : Int) = p := by
  simp [rd, List.getD_eq_getElem?_getD]
theorem cell_at_ev (path : List Int) (hp : path.length ≤ 1048576) : ∀ (rest pre : List Int), pre ++ rest = path → ∀ c : S26, sz c ≤ 1000000 → Ev (fun k => cell_At.l0 k path (path.length : Int) (pre.length : Int) c.f0 c.f1.f0 c.f1.f1 c.f1.f2 c.f1.f3 c.f2 c.f3) (atT (atC c rest)) := by
  intro rest
  induction rest with
  | nil =>
    intro pre hpp c hc
    rw [List.append_nil] at hpp
    refine Ev.step (f := fun _ => some (atT (some c))) (fun k => ?_) (Ev.now _)
    simp only [cell_At.l0]
    rw [if_neg (by rw [hpp]; omega)]
    unfold cell_clone.f
    rw [eta26, if_pos hc]
    rfl
  | cons i is ih =>
    intro pre hpp c hc
    have hlt : (pre.length : Int) < (path.length : Int) := by rw [← hpp, List.length_append, List.length_cons]; omega
    have hr : rd path (pre.length : Int) = i := by rw [← hpp]; exact rd_at_in pre i is
    have hu : wrap64 ((pre.length : Int) + 1) = ((pre ++ [i]).length : Int) := by
      have h1 : (pre ++ [i]).length = pre.length + 1 := by simp
      rw [wq (by omega) (by omega), h1]
      omega
    simp only [atC]
    by_cases h0 : i < 0
    · rw [if_pos (.inl h0)]
      refine Ev.step (f := fun _ => some (atT none)) (fun k => ?_) (Ev.now _)
      simp only [cell_At.l0]
      rw [if_pos hlt, if_pos (by omega), if_pos hlt, hr, if_pos h0]
      rfl
    · by_cases h1 : i ≥ (c.f3.length : Int)
      · rw [if_pos (.inr h1)]
        refine Ev.step (f := fun _ => some (atT none)) (fun k => ?_) (Ev.now _)
        simp only [cell_At.l0]
        rw [if_pos hlt, if_pos (by omega), if_pos hlt, hr, if_neg h0, if_pos h1]
        rfl
      · rw [if_neg (fun h => h.elim h0 h1)]
        have h2 := sz_mem (rd_mem c.f3 i (by omega) (by omega))
        have h3 := sz_eq c
        refine Ev.step (fun k => ?_) (ih (pre ++ [i]) (by rw [List.append_assoc]; exact hpp) (rd_T26 c.f3 i) (by omega))
        simp only [cell_At.l0]
        rw [if_pos hlt, if_pos (by omega), if_pos hlt, hr, if_neg h0, if_neg h1, if_pos (by omega), if_pos (by omega), hu]
theorem cell_At_ev (c : S26) (path : List Int) (hp : path.length ≤ 1048576) (hc : sz c ≤ 1000000) : Ev (fun k => cell_At.f k c.f0 c.f1.f0 c.f1.f1 c.f1.f2 c.f1.f3 c.f2 c.f3 path) (atT (atC c path)) := by
  unfold cell_At.f
  exact cell_at_ev path hp path [] rfl c hc
/-- At a leaf's path is that leaf. -/
theorem find_at (id : Int) : ∀ (N : Nat), (∀ c : S26, sz c ≤ N → ∀ p, findC id c = some p → ∃ z, atC c p = some z ∧ z.f0 = 1 ∧ z.f2 = id) ∧
    (∀ l : List S26, szL l ≤ N → ∀ (pre : List S26) (p : List Int), findL id pre.length l = some p → ∃ i is z, p = i :: is ∧ 0 ≤ i ∧ i < ((pre ++ l).length : Int) ∧ atC (rd_T26 (pre ++ l) i) is = some z ∧ z.f0 = 1 ∧ z.f2 = id) := by
  intro N
  induction N with
  | zero =>
    refine ⟨fun c h => ?_, fun l h => ?_⟩
    · rw [sz_eq] at h; omega
    · cases l with
      | nil => intro pre p hp; rw [findL_nil] at hp; cases hp
      | cons z zs => rw [szL_cons, sz_eq] at h; omega
  | succ N ih =>
    have hC : ∀ c : S26, sz c ≤ N + 1 → ∀ p, findC id c = some p → ∃ z, atC c p = some z ∧ z.f0 = 1 ∧ z.f2 = id := by
      intro c h p hp
      have hs := sz_eq c
      rw [findC_eq] at hp
      split at hp
      · rename_i hq
        injection hp with hp
        subst hp
        exact ⟨c, rfl, hq.1, hq.2⟩
      · obtain ⟨i, is, z, rfl, h0, h1, h2, h3⟩ := ih.2 c.f3 (by omega) [] p hp
        refine ⟨z, ?_, h3⟩
        rw [List.nil_append] at h1 h2
        simp only [atC]
        rw [if_neg (by omega)]
        exact h2
    refine ⟨hC, fun l => ?_⟩
    induction l with
    | nil => intro _ pre p hp; rw [findL_nil] at hp; cases hp
    | cons x xs ihl =>
      intro h pre p hp
      rw [szL_cons] at h
      rw [findL_cons] at hp
      cases hx : findC id x with
      | some q =>
        rw [hx] at hp
        injection hp with hp
        obtain ⟨z, hz, h3⟩ := hC x (by omega) q hx
        refine ⟨(pre.length : Int), q, z, hp.symm, by omega, by rw [List.length_append, List.length_cons]; omega, ?_, h3⟩
        rw [rd26_in]
        exact hz
      | none =>
        rw [hx] at hp
        have e := ihl (by omega) (pre ++ [x]) p (by rw [List.length_append]; exact hp)
        rwa [List.append_assoc] at e
theorem ref_find_ev (id : Int) : ∀ (N : Nat) (c : S26), sz c ≤ N → N ≤ 1000000 → Ev (fun k => sashref05_Find.f k c.f0 c.f1.f0 c.f1.f1 c.f1.f2 c.f1.f3 c.f2 c.f3 id) ((findC id c).getD [], (findC id c).isSome) := by
  intro N
  induction N with
  | zero => intro c h _; rw [sz_eq] at h; omega
  | succ N ih =>
    intro c hc hN
    have hs := sz_eq c
    have hlen := szL_len c.f3
    have key : ∀ (rest pre : List S26), pre ++ rest = c.f3 → Ev (fun k => sashref05_Find.l0 k id (c.f3.length : Int) (pre.length : Int) c.f0 c.f1.f0 c.f1.f1 c.f1.f2 c.f1.f3 c.f2 c.f3) ((findL id pre.length rest).getD [], (findL id pre.length rest).isSome) := by
      intro rest
      induction rest with
      | nil =>
        intro pre hp
        rw [List.append_nil] at hp
        rw [findL_nil]
        refine Ev.step (f := fun _ => some ([], false)) (fun k => ?_) (Ev.now _)
        simp only [sashref05_Find.l0]
        rw [if_neg (by rw [hp]; omega)]
      | cons x xs ihr =>
        intro pre hp
        have hlt : (pre.length : Int) < (c.f3.length : Int) := by rw [← hp, List.length_append, List.length_cons]; omega
        have hsum : szL c.f3 = szL pre + (sz x + szL xs) := by rw [← hp, szL_app, szL_cons]
        have e2 := ihr (pre ++ [x]) (by rw [List.append_assoc]; exact hp)
        have hr : rd_T26 c.f3 (pre.length : Int) = x := by rw [← hp]; exact rd26_in pre x xs
        have hu : wrap64 ((pre.length : Int) + 1) = ((pre ++ [x]).length : Int) := up_in pre x xs (by rw [hp]; omega)
        rw [findL_cons]
        refine Ev.step (f := fun k => (sashref05_Find.f k x.f0 x.f1.f0 x.f1.f1 x.f1.f2 x.f1.f3 x.f2 x.f3 id).bind fun bt => (if bt.2 = true then ((some (([(pre.length : Int)] : List Int) : List Int)).bind fun y993 => (if y993.length + bt.1.length < 17592186044416 then (some ((y993 ++ bt.1), true)) else (none))) else (sashref05_Find.l0 k id (c.f3.length : Int) ((pre ++ [x]).length : Int) c.f0 c.f1.f0 c.f1.f1 c.f1.f2 c.f1.f3 c.f2 c.f3))) (fun k => ?_) (Ev.bind (ih x (by omega) (by omega)) ?_)
        · simp only [sashref05_Find.l0]
          rw [if_pos hlt, if_pos (by omega), if_pos hlt, hr, hu]
        · cases hx : findC id x with
          | some q =>
            have hq := (find_len id (sz x)).1 x (Nat.le_refl _) q hx
            refine ev_pos rfl ?_
            exact ev_some fun k => by
              simp only [Option.bind_some, Option.getD_some]
              rw [if_pos (by simp; omega)]
              rfl
          | none =>
            refine ev_neg (by simp) ?_
            have hll : (pre ++ [x]).length = pre.length + 1 := by simp
            show Ev _ ((findL id (pre.length + 1) xs).getD [], (findL id (pre.length + 1) xs).isSome)
            rw [← hll]
            exact e2
    have k2 := key c.f3 [] rfl
    have jf : Ev (fun k => sashref05_Find.j0 k id false c.f0 c.f1.f0 c.f1.f1 c.f1.f2 c.f1.f3 c.f2 c.f3) ((findL id 0 c.f3).getD [], (findL id 0 c.f3).isSome) := by
      refine Ev.step (fun k => ?_) k2
      simp only [sashref05_Find.j0]
      rw [if_neg (by simp)]
      rfl
    rw [findC_eq]
    by_cases h1 : c.f0 = 1
    · by_cases h2 : c.f2 = id
      · rw [if_pos ⟨h1, h2⟩]
        refine Ev.step (f := fun k => sashref05_Find.j0 k id true c.f0 c.f1.f0 c.f1.f1 c.f1.f2 c.f1.f3 c.f2 c.f3) (fun k => ?_) (Ev.step (f := fun _ => some ([], true)) (fun k => ?_) (Ev.now _))
        · simp only [sashref05_Find.f]
          rw [if_pos h1, beq_iff_eq.mpr h2]
        · simp only [sashref05_Find.j0]
          rw [if_pos trivial]
      · rw [if_neg (fun h => h2 h.2)]
        refine Ev.step (fun k => ?_) jf
        simp only [sashref05_Find.f]
        rw [if_pos h1, beq_eq_false_iff_ne.mpr h2]
    · rw [if_neg (fun h => h1 h.1)]
      refine Ev.step (fun k => ?_) jf
      simp only [sashref05_Find.f]
      rw [if_neg h1]
end Go.Proofs.Ytfdmfgaiblfbhaa.P
/- The reference's sameness of trees: plain data. -/
namespace Go.Proofs.Ytfdmfgaiblfbhaa.P
open Go.RowKit Go.Proofs.YtfdmfgaiblfbhaaW.PrintWords Go.Proofs.YtfdmfgaiblfbhaaW.PrintLast Go.Proofs.YtfdmfgaiblfbhaaW.PrintMore

def rectB (a b : S23) : Bool := a.f0 == b.f0 && (a.f1 == b.f1 && (a.f2 == b.f2 && a.f3 == b.f3))
mutual
def sameC : S26 → S26 → Bool
  | ⟨a, r, d, l⟩, ⟨a', r', d', l'⟩ => a == a' && (rectB r r' && (d == d' && (l.length == l'.length && sameL l l')))
def sameL : List S26 → List S26 → Bool
  | [], _ => true
  | _ :: _, [] => true
  | c :: cs, e :: es => sameC c e && sameL cs es
end
theorem sameC_eq (a b : S26) : sameC a b = (a.f0 == b.f0 && (rectB a.f1 b.f1 && (a.f2 == b.f2 && (a.f3.length == b.f3.length && sameL a.f3 b.f3)))) := by cases a; cases b; simp [sameC]
theorem sameL_nil (b : List S26) : sameL [] b = true := by cases b <;> simp [sameL]
theorem sameL_cons (c e : S26) (cs es : List S26) : sameL (c :: cs) (e :: es) = (sameC c e && sameL cs es) := by simp [sameL]
theorem same_ev : ∀ (N : Nat) (a : S26), sz a ≤ N → N ≤ 1048576 → ∀ b : S26, Ev (fun k => sashref05_Same.f k a.f0 a.f1.f0 a.f1.f1 a.f1.f2 a.f1.f3 a.f2 a.f3 b.f0 b.f1.f0 b.f1.f1 b.f1.f2 b.f1.f3 b.f2 b.f3) (sameC a b) := by
  intro N
  induction N with
  | zero => intro a h _; rw [sz_eq] at h; omega
  | succ N ih =>
    intro a ha hN b
    have hs := sz_eq a
    have hlen := szL_len a.f3
    have jt : Ev (fun k => sashref05_Same.j0 k true a.f0 a.f1.f0 a.f1.f1 a.f1.f2 a.f1.f3 a.f2 a.f3 b.f0 b.f1.f0 b.f1.f1 b.f1.f2 b.f1.f3 b.f2 b.f3) false := by
      refine Ev.step (f := fun _ => some false) (fun k => ?_) (Ev.now _)
      simp only [sashref05_Same.j0]
      rw [if_pos trivial]
    have key : a.f3.length = b.f3.length → ∀ (rest pre rb pb : List S26), pre ++ rest = a.f3 → pb ++ rb = b.f3 → pre.length = pb.length → Ev (fun k => sashref05_Same.l0 k (a.f3.length : Int) (pre.length : Int) a.f0 a.f1.f0 a.f1.f1 a.f1.f2 a.f1.f3 a.f2 a.f3 b.f0 b.f1.f0 b.f1.f1 b.f1.f2 b.f1.f3 b.f2 b.f3) (sameL rest rb) := by
      intro hl rest
      induction rest with
      | nil =>
        intro pre rb pb hp hb he
        rw [List.append_nil] at hp
        rw [sameL_nil]
        refine Ev.step (f := fun _ => some true) (fun k => ?_) (Ev.now _)
        simp only [sashref05_Same.l0]
        rw [if_neg (by rw [hp]; omega)]
      | cons x xs ihr =>
        intro pre rb pb hp hb he
        have h1 : a.f3.length = pre.length + (xs.length + 1) := by rw [← hp, List.length_append, List.length_cons]
        cases rb with
        | nil => rw [List.append_nil] at hb; rw [← hb] at hl; omega
        | cons y ys =>
          have h2 : b.f3.length = pb.length + (ys.length + 1) := by rw [← hb, List.length_append, List.length_cons]
          have hsum : szL a.f3 = szL pre + (sz x + szL xs) := by rw [← hp, szL_app, szL_cons]
          have e2 := ihr (pre ++ [x]) ys (pb ++ [y]) (by rw [List.append_assoc]; exact hp) (by rw [List.append_assoc]; exact hb) (by rw [List.length_append, List.length_append, he]; rfl)
          have hr : rd_T26 a.f3 (pre.length : Int) = x := by rw [← hp]; exact rd26_in pre x xs
          have hr2 : rd_T26 b.f3 (pre.length : Int) = y := by rw [he, ← hb]; exact rd26_in pb y ys
          have hu : wrap64 ((pre.length : Int) + 1) = ((pre ++ [x]).length : Int) := up_in pre x xs (by rw [hp]; omega)
          rw [sameL_cons]
          refine Ev.step (f := fun k => (sashref05_Same.f k x.f0 x.f1.f0 x.f1.f1 x.f1.f2 x.f1.f3 x.f2 x.f3 y.f0 y.f1.f0 y.f1.f1 y.f1.f2 y.f1.f3 y.f2 y.f3).bind fun t => (if t = true then (sashref05_Same.l0 k (a.f3.length : Int) (wrap64 ((pre.length : Int) + 1)) a.f0 a.f1.f0 a.f1.f1 a.f1.f2 a.f1.f3 a.f2 a.f3 b.f0 b.f1.f0 b.f1.f1 b.f1.f2 b.f1.f3 b.f2 b.f3) else (some false))) (fun k => ?_) (Ev.bind (ih x (by omega) (by omega) y) ?_)
          · simp only [sashref05_Same.l0]
            rw [if_pos (by omega), if_pos (by omega), if_pos (by omega), if_pos (by omega), hr, hr2]
          · cases hxy : sameC x y with
            | false => exact ev_neg (by simp) (Ev.now _)
            | true => rw [hu, Bool.true_and]; exact ev_pos rfl e2
    have jl : Ev (fun k => sashref05_Same.j0 k ((a.f3.length : Int) != (b.f3.length : Int)) a.f0 a.f1.f0 a.f1.f1 a.f1.f2 a.f1.f3 a.f2 a.f3 b.f0 b.f1.f0 b.f1.f1 b.f1.f2 b.f1.f3 b.f2 b.f3) (a.f3.length == b.f3.length && sameL a.f3 b.f3) := by
      by_cases hl : a.f3.length = b.f3.length
      · have e1 : ((a.f3.length : Int) != (b.f3.length : Int)) = false := by simp [hl]
        have e2 : (a.f3.length == b.f3.length) = true := by simp [hl]
        rw [e1, e2, Bool.true_and]
        refine Ev.step (fun k => ?_) (key hl a.f3 [] b.f3 [] rfl rfl rfl)
        simp only [sashref05_Same.j0]
        rw [if_neg (by simp)]
        rfl
      · have e1 : ((a.f3.length : Int) != (b.f3.length : Int)) = true := by simp; omega
        have e2 : (a.f3.length == b.f3.length) = false := by simp [hl]
        rw [e1, e2, Bool.false_and]
        exact jt
    rw [sameC_eq]
    by_cases h0 : a.f0 = b.f0
    · rw [show (a.f0 == b.f0) = true from by simp [h0], Bool.true_and]
      have hr : (!(a.f1.f0 == b.f1.f0) || (!(a.f1.f1 == b.f1.f1) || (!(a.f1.f2 == b.f1.f2) || (!(a.f1.f3 == b.f1.f3))))) = !(rectB a.f1 b.f1) := by simp [rectB, Bool.not_and]
      cases h1 : rectB a.f1 b.f1 with
      | false =>
        rw [Bool.false_and]
        refine Ev.step (fun k => ?_) jt
        simp only [sashref05_Same.f]
        rw [if_pos h0, hr, h1, Bool.not_false, if_pos rfl]
      | true =>
        rw [Bool.true_and]
        by_cases h2 : a.f2 = b.f2
        · rw [show (a.f2 == b.f2) = true from by simp [h2], Bool.true_and]
          refine Ev.step (fun k => ?_) jl
          simp only [sashref05_Same.f]
          rw [if_pos h0, hr, h1, if_neg (by simp), if_pos h2]
        · rw [show (a.f2 == b.f2) = false from by simp [h2], Bool.false_and]
          refine Ev.step (fun k => ?_) jt
          simp only [sashref05_Same.f]
          rw [if_pos h0, hr, h1, if_neg (by simp), if_neg h2]
    · rw [show (a.f0 == b.f0) = false from by simp [h0], Bool.false_and]
      refine Ev.step (fun k => ?_) jt
      simp only [sashref05_Same.f]
      rw [if_neg h0]
theorem sameC_refl : ∀ (N : Nat), (∀ c : S26, sz c ≤ N → sameC c c = true) ∧ (∀ l : List S26, szL l ≤ N → sameL l l = true) := by
  intro N
  induction N with
  | zero =>
    refine ⟨fun c h => ?_, fun l h => ?_⟩
    · rw [sz_eq] at h; omega
    · cases l with
      | nil => exact sameL_nil _
      | cons x xs => rw [szL_cons, sz_eq] at h; omega
  | succ N ih =>
    have hC : ∀ c : S26, sz c ≤ N + 1 → sameC c c = true := by
      intro c h
      rw [sz_eq] at h
      rw [sameC_eq, ih.2 c.f3 (by omega)]
      simp [rectB]
    refine ⟨hC, fun l => ?_⟩
    induction l with
    | nil => intro _; exact sameL_nil _
    | cons x xs ihl =>
      intro h
      rw [szL_cons] at h
      rw [sameL_cons, hC x (by omega), ihl (by omega)]
      rfl
theorem same_self (c : S26) (h : sz c ≤ 1048576) : Ev (fun k => sashref05_Same.f k c.f0 c.f1.f0 c.f1.f1 c.f1.f2 c.f1.f3 c.f2 c.f3 c.f0 c.f1.f0 c.f1.f1 c.f1.f2 c.f1.f3 c.f2 c.f3) true := by
  have e := same_ev (sz c) c (Nat.le_refl _) h c
  rwa [(sameC_refl (sz c)).1 c (Nat.le_refl _)] at e
end Go.Proofs.Ytfdmfgaiblfbhaa.P
