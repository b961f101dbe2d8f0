/- The row of the law CellPuts, second form (what it reads is of bulk at most 1048576), out of its plain law and its walk. -/
import Derived.Test.YtfdmfgaiblfbhaaMCellPutsd
import Derived.Test.YtfdmfgaiblfbhaaMCellPutsc
import Derived.ProofKit
import Derived.Deep.Slices
import Derived.Lib.SmallJoins
import Derived.OpenShut
import Derived.Test.YtfdmfgaiblfbhaaRows
import Derived.WalkKit
import Derived.ShutString
import Derived.ChangeOld
import Derived.Below
import Derived.SizedLaws
import Derived.JoinedCond
/- The contract of sashref05.Put: the tree in which a cell is put at a path; what was handed in stays. Condition: rows of at most 1000000 cells. -/
namespace Go.Proofs.Ytfdmfgaiblfbhaa.P
open Go.RowKit Go.Proofs.YtfdmfgaiblfbhaaW.PrintWords Go.Proofs.YtfdmfgaiblfbhaaW.PrintLast Go.Proofs.YtfdmfgaiblfbhaaW.PrintMore
set_option linter.unusedVariables false
set_option linter.unusedSimpArgs false
def t103_5.T5 : Bool × List (List Nat × List Nat) := (true, [([], []), ([0], [0]), ([], []), ([2], [2]), ([3], [3]), ([1, 4], [1, 4]), ([5], [5]), ([], []), ([], []), ([8], [8]), ([6, 7, 9], [6, 7, 9]), ([10], [10]), ([11], [11]), ([11], [11]), ([], []), ([14, 12, 10, 0, 1, 2, 3, 4, 5, 6, 7, 8, 9, 10, 11, 12, 14], [12, 14]), ([13, 15, 0, 1, 2, 3, 4, 5, 6, 7, 8, 9, 10, 11, 12, 13, 14, 15], [13])])
def t103_5.B5 : List Nat := [0, 1, 0, 4, 12, 31, 63, 0, 0, 256, 1023, 2047, 4095, 4095, 0, 24575, 65535]
theorem t103_5.tab5 : rtab .any (opsOf Try.f103 5) = t103_5.T5 := by kernel_rfl
theorem t103_5.bits5 : waitsOk t103_5.T5.2 t103_5.B5 = true := by kernel_rfl
def t103_9.T9 : Bool × List (List Nat × List Nat) := (true, [([], []), ([], []), ([1], [1]), ([2], [2]), ([], []), ([0, 3, 0, 1, 2, 3, 4], [0, 3]), ([5, 4, 0, 1, 2, 3, 4], [4, 5])])
def t103_9.B9 : List Nat := [0, 0, 2, 6, 0, 31, 63]
theorem t103_9.tab9 : rtab .any (opsOf Try.f103 9) = t103_9.T9 := by kernel_rfl
theorem t103_9.bits9 : waitsOk t103_9.T9.2 t103_9.B9 = true := by kernel_rfl
abbrev RPutP (w : World) (P : Nat → Prop) : Option S26 → Ending → World → Prop
  | none, e, w' => e = .returned (.tuple #[.agg #[.int .u8 0, .int .i64 0, .int .i64 0, .int .i64 0, .int .i64 0, .int .i64 0, .slice none 0 0], .bool false]) ∧ Below w.heap.size w w'
  | some z, e, w' => ∃ A c, e = .returned (.tuple #[.agg #[.int .u8 z.f0, .int .i64 z.f1.f0, .int .i64 z.f1.f1, .int .i64 z.f1.f2, .int .i64 z.f1.f3, .int .i64 z.f2, .slice A z.f3.length c], .bool true]) ∧ Kd.V k26 26 w' w.heap.size (fun k => P k ∨ w.heap.size ≤ k) (.slice A z.f3.length c) z.f3 ∧ Below w.heap.size w w'
set_option maxHeartbeats 4000000 in
set_option maxRecDepth 100000 in
theorem put103 : ∀ (is : List Int) (c kid : S26) (P : Nat → Prop) (A : Option Addr) (cc : Nat) (Ak : Option Addr) (ck' : Nat) (B : Option Addr) (cb : Nat) (w : World), sz c ≤ 1000000 →
    Kd.V k26 26 w w.heap.size P (.slice A c.f3.length cc) c.f3 → Kd.V k26 26 w w.heap.size P (.slice Ak kid.f3.length ck') kid.f3 → Kd.C (Kd.int .i64) w B is.length is → is.length ≤ cb →
    Calls Try.prog 103 #[.agg #[.int .u8 c.f0, .int .i64 c.f1.f0, .int .i64 c.f1.f1, .int .i64 c.f1.f2, .int .i64 c.f1.f3, .int .i64 c.f2, .slice A c.f3.length cc], .agg #[.int .u8 kid.f0, .int .i64 kid.f1.f0, .int .i64 kid.f1.f1, .int .i64 kid.f1.f2, .int .i64 kid.f1.f3, .int .i64 kid.f2, .slice Ak kid.f3.length ck'], .slice B is.length cb] w (RPutP w P (putC kid is c)) := by
  intro is
  induction is with
  | nil =>
    intro c kid P A cc Ak ck' B cb w hz hv hvk hi hb
    show Calls Try.prog 103 #[.agg #[.int .u8 c.f0, .int .i64 c.f1.f0, .int .i64 c.f1.f1, .int .i64 c.f1.f2, .int .i64 c.f1.f3, .int .i64 c.f2, .slice A c.f3.length cc], .agg #[.int .u8 kid.f0, .int .i64 kid.f1.f0, .int .i64 kid.f1.f1, .int .i64 kid.f1.f2, .int .i64 kid.f1.f3, .int .i64 kid.f2, .slice Ak kid.f3.length ck'], .slice B 0 cb] w (RPutP w P (some kid))
    have S := Aside0.mk (St.start (ts := [(.slice A c.f3.length cc, c.f3), (.slice Ak kid.f3.length ck', kid.f3)]) (b0 := w.heap.size) (w := w) (P := P) (fun t ht => by
      rcases List.mem_cons.1 ht with rfl | ht
      · exact hv
      · rw [List.mem_singleton.1 ht]; exact hvk))
    clear hz hv hvk hi hb
    obtain ⟨ck, ⟨cx, cy, cw, ch⟩, cid, l⟩ := c
    obtain ⟨kk, ⟨kx, ky, kw, kh⟩, kid, m⟩ := kid
    simp only [] at S ⊢
    go_enter Try.func103, Try.ntmps103
    go_wp2_with (first
      | ((with_reducible refine gate_dst (N := 3) rfl ?_); refine box_st (N := 3) rfl rfl #[.int .u8 ck, .int .i64 cx, .int .i64 cy, .int .i64 cw, .int .i64 ch, .int .i64 cid, .slice A l.length cc] 26 S.out ?hr ?_; (case hr => first | (go_simp; done) | (go_simp; rfl)); intro b3 w1_ S1; replace S := Aside0.mk S1; clear S1)
      | ((with_reducible refine gate_dst (N := 4) rfl ?_); refine box_st (N := 4) rfl rfl #[.int .u8 kk, .int .i64 kx, .int .i64 ky, .int .i64 kw, .int .i64 kh, .int .i64 kid, .slice Ak m.length ck'] 26 S.out ?hr ?_; (case hr => first | (go_simp; done) | (go_simp; rfl)); intro b4 w2_ S1; replace S := Aside0.mk S1; clear S1)
      | ((with_reducible refine gate_dst (N := 6) rfl ?_); refine box_st (N := 6) rfl rfl #[.int .u8 0, .int .i64 0, .int .i64 0, .int .i64 0, .int .i64 0, .int .i64 0, .slice none 0 0] 26 S.out ?hr ?_; (case hr => first | (go_simp; done) | (go_simp; rfl)); intro b6 w3_ S1; replace S := Aside0.mk S1; clear S1; have cb4_0 := (S.out.at (.tail _ (.head _)) 0).trans rfl; have cb4_1 := (S.out.at (.tail _ (.head _)) 1).trans rfl; have cb4_2 := (S.out.at (.tail _ (.head _)) 2).trans rfl; have cb4_3 := (S.out.at (.tail _ (.head _)) 3).trans rfl; have cb4_4 := (S.out.at (.tail _ (.head _)) 4).trans rfl; have cb4_5 := (S.out.at (.tail _ (.head _)) 5).trans rfl; have cb4_6 := (S.out.at (.tail _ (.head _)) 6).trans rfl)
      | ((with_reducible refine gate_ (.store 26 (.tmp 6) (.tmp 14)) rfl ?_); go_loud (refine put_st 0 rfl 26 (.tmp 6) (.tmp 14) rfl #[.int .u8 kk, .int .i64 kx, .int .i64 ky, .int .i64 kw, .int .i64 kh, .int .i64 kid, .slice Ak m.length ck'] (j := 0) (u := .agg #[.int .u8 kk, .int .i64 kx, .int .i64 ky, .int .i64 kw, .int .i64 kh, .int .i64 kid, .slice Ak m.length ck']) (seg := [.int .u8 kk, .int .i64 kx, .int .i64 ky, .int .i64 kw, .int .i64 kh, .int .i64 kid, .slice Ak m.length ck']) S.out ?sA ?sX rfl ?sT ?s1 ?sJ rfl rfl rfl ?_; (case sA => rfl); (case sX => rfl); (case sT => rfl); (case s1 => simp [Value.oneCell']); (case sJ => first | decide | simp); intro w4_ S1; simp only [List.set_cons_zero, List.set_cons_succ] at S1; replace S := Aside0.mk S1; clear S1); clear cb4_0 cb4_1 cb4_2 cb4_3 cb4_4 cb4_5 cb4_6)
      | fail)
    refine bodyPost_ret (results_ct rfl _ _ b6 26 #[.int .u8 kk, .int .i64 kx, .int .i64 ky, .int .i64 kw, .int .i64 kh, .int .i64 kid, .slice Ak m.length ck'] (0, 0) _ rfl (S.out.blk _ (.head _)) Try.underlying26 rfl (by kernel_rfl)) rfl ?_
    exact ⟨_, _, rfl, S.out.outV (.tail _ (.head _)), S.out.below⟩
  | cons i is ih =>
    intro c kid P A cc Ak ck' B cb w hz hv hvk hi hb
    have IH := Aside0.mk ih
    have HI := Aside0.mk hi
    have LI := Aside0.mk hb
    have S := Aside0.mk (St.start (ts := [(.slice A c.f3.length cc, c.f3), (.slice Ak kid.f3.length ck', kid.f3)]) (b0 := w.heap.size) (w := w) (P := P) (fun t ht => by
      rcases List.mem_cons.1 ht with rfl | ht
      · exact hv
      · rw [List.mem_singleton.1 ht]; exact hvk))
    obtain ⟨adi, rfl, xi⟩ := Kd.at_int hi 0 (by omega) (by simp)
    rw [show ((0 : Int)).toNat = 0 from rfl, Addr.add_zero'] at xi
    have xi : w.cell? adi = some (.int .i64 i) := xi
    replace S := Aside0.mk (S.out.addcell xi)
    have hlen0 : (0 : Int) < ((is.length : Int) + 1) := by omega
    have hl0 : ((is.length + 1 : Nat) : Int) = (is.length : Int) + 1 := by omega
    have HZ := Aside0.mk hz
    clear ih hv hvk hi hb xi hz
    simp only [putC]
    obtain ⟨ck, ⟨cx, cy, cw, ch⟩, cid, l⟩ := c
    obtain ⟨kk, ⟨kx, ky, kw, kh⟩, kid, m⟩ := kid
    simp only [] at S ⊢
    simp only [List.length_cons] at HI LI ⊢
    by_cases h0 : i < 0
    · rw [if_pos (.inl h0)]
      have h0b : decide (i < 0) = true := decide_eq_true h0
      go_enter Try.func103, Try.ntmps103
      go_wp2_with (first
        | ((with_reducible refine gate_dst (N := 3) rfl ?_); refine box_st (N := 3) rfl rfl #[.int .u8 ck, .int .i64 cx, .int .i64 cy, .int .i64 cw, .int .i64 ch, .int .i64 cid, .slice A l.length cc] 26 S.out ?hr ?_; (case hr => first | (go_simp; done) | (go_simp; rfl)); intro b3 w1_ S1; replace S := Aside0.mk S1; clear S1)
        | ((with_reducible refine gate_dst (N := 4) rfl ?_); refine box_st (N := 4) rfl rfl #[.int .u8 kk, .int .i64 kx, .int .i64 ky, .int .i64 kw, .int .i64 kh, .int .i64 kid, .slice Ak m.length ck'] 26 S.out ?hr ?_; (case hr => first | (go_simp; done) | (go_simp; rfl)); intro b4 w2_ S1; replace S := Aside0.mk S1; clear S1)
        | ((with_reducible refine gate_dst (N := 6) rfl ?_); refine box_st (N := 6) rfl rfl #[.int .u8 0, .int .i64 0, .int .i64 0, .int .i64 0, .int .i64 0, .int .i64 0, .slice none 0 0] 26 S.out ?hr ?_; (case hr => first | (go_simp; done) | (go_simp; rfl)); intro b6 w3_ S1; replace S := Aside0.mk S1; clear S1; have y0_ := (S.out.cell _ (.head _)).1)
        | fail)
      go_quiet (fail)
      clear y0_
      replace S := Aside0.mk (S.out.call (pw_below_drewN (Below.refl _ _) nq))
      generalize w3_.drewN nq = wq4 at S ⊢
      go_wp2_with (first
        | ((with_reducible refine gate_ (.store 26 (.tmp 6) (.tmp 28)) rfl ?_); go_loud (refine put_st 0 rfl 26 (.tmp 6) (.tmp 28) rfl #[.int .u8 0, .int .i64 0, .int .i64 0, .int .i64 0, .int .i64 0, .int .i64 0, .slice none 0 0] (j := 0) (u := .agg #[.int .u8 0, .int .i64 0, .int .i64 0, .int .i64 0, .int .i64 0, .int .i64 0, .slice none 0 0]) (seg := [.int .u8 0, .int .i64 0, .int .i64 0, .int .i64 0, .int .i64 0, .int .i64 0, .slice none 0 0]) S.out ?sA ?sX rfl ?sT ?s1 ?sJ rfl rfl rfl ?_; (case sA => rfl); (case sX => rfl); (case sT => rfl); (case s1 => simp [Value.oneCell']); (case sJ => first | decide | simp); intro w5_ S1; simp only [List.set_cons_zero, List.set_cons_succ] at S1; replace S := Aside0.mk S1; clear S1))
        | fail)
      refine bodyPost_ret (results_ct rfl _ _ b6 26 #[.int .u8 0, .int .i64 0, .int .i64 0, .int .i64 0, .int .i64 0, .int .i64 0, .slice none 0 0] (0, 0) _ rfl (S.out.blk _ (.head _)) Try.underlying26 rfl (by kernel_rfl)) rfl ?_
      exact ⟨rfl, S.out.below⟩
    · by_cases h1 : i ≥ (l.length : Int)
      · rw [if_pos (.inr h1)]
        have h0b : decide (i < 0) = false := decide_eq_false h0
        have h1b : decide (i ≥ (l.length : Int)) = true := decide_eq_true h1
        have h1c : decide ((l.length : Int) ≤ i) = true := decide_eq_true h1
        go_enter Try.func103, Try.ntmps103
        go_wp2_with (first
          | ((with_reducible refine gate_dst (N := 3) rfl ?_); refine box_st (N := 3) rfl rfl #[.int .u8 ck, .int .i64 cx, .int .i64 cy, .int .i64 cw, .int .i64 ch, .int .i64 cid, .slice A l.length cc] 26 S.out ?hr ?_; (case hr => first | (go_simp; done) | (go_simp; rfl)); intro b3 w1_ S1; replace S := Aside0.mk S1; clear S1)
          | ((with_reducible refine gate_dst (N := 4) rfl ?_); refine box_st (N := 4) rfl rfl #[.int .u8 kk, .int .i64 kx, .int .i64 ky, .int .i64 kw, .int .i64 kh, .int .i64 kid, .slice Ak m.length ck'] 26 S.out ?hr ?_; (case hr => first | (go_simp; done) | (go_simp; rfl)); intro b4 w2_ S1; replace S := Aside0.mk S1; clear S1)
          | ((with_reducible refine gate_dst (N := 6) rfl ?_); refine box_st (N := 6) rfl rfl #[.int .u8 0, .int .i64 0, .int .i64 0, .int .i64 0, .int .i64 0, .int .i64 0, .slice none 0 0] 26 S.out ?hr ?_; (case hr => first | (go_simp; done) | (go_simp; rfl)); intro b6 w3_ S1; replace S := Aside0.mk S1; clear S1; have y0_ := (S.out.cell _ (.head _)).1; have cb3_6 := (S.out.at (.tail _ (.tail _ (.head _))) 6).trans rfl)
          | fail)
        go_quiet (fail)
        clear y0_ cb3_6
        replace S := Aside0.mk (S.out.call (pw_below_drewN (Below.refl _ _) nq))
        generalize w3_.drewN nq = wq4 at S ⊢
        go_wp2_with (first
          | ((with_reducible refine gate_ (.store 26 (.tmp 6) (.tmp 28)) rfl ?_); go_loud (refine put_st 0 rfl 26 (.tmp 6) (.tmp 28) rfl #[.int .u8 0, .int .i64 0, .int .i64 0, .int .i64 0, .int .i64 0, .int .i64 0, .slice none 0 0] (j := 0) (u := .agg #[.int .u8 0, .int .i64 0, .int .i64 0, .int .i64 0, .int .i64 0, .int .i64 0, .slice none 0 0]) (seg := [.int .u8 0, .int .i64 0, .int .i64 0, .int .i64 0, .int .i64 0, .int .i64 0, .slice none 0 0]) S.out ?sA ?sX rfl ?sT ?s1 ?sJ rfl rfl rfl ?_; (case sA => rfl); (case sX => rfl); (case sT => rfl); (case s1 => simp [Value.oneCell']); (case sJ => first | decide | simp); intro w5_ S1; simp only [List.set_cons_zero, List.set_cons_succ] at S1; replace S := Aside0.mk S1; clear S1))
          | fail)
        refine bodyPost_ret (results_ct rfl _ _ b6 26 #[.int .u8 0, .int .i64 0, .int .i64 0, .int .i64 0, .int .i64 0, .int .i64 0, .slice none 0 0] (0, 0) _ rfl (S.out.blk _ (.head _)) Try.underlying26 rfl (by kernel_rfl)) rfl ?_
        exact ⟨rfl, S.out.below⟩
      · rw [if_neg (fun h => h.elim h0 h1)]
        have h0b : decide (i < 0) = false := decide_eq_false h0
        have h1b : decide (i ≥ (l.length : Int)) = false := decide_eq_false h1
        have h1c : decide ((l.length : Int) ≤ i) = false := decide_eq_false h1
        have h0z : 0 ≤ i := by omega
        have h1z : i < (l.length : Int) := by omega
        obtain ⟨adk, ua, uc, ek, S1⟩ := S.out.elem (.head _) i h0z h1z
        subst ek
        replace S := Aside0.mk S1
        have HKZ := Aside0.mk (show sz (rd_T26 l i) ≤ 1000000 by have := sz_mem (rd_mem l i h0z h1z); have := HZ.out; rw [sz_eq] at this; simp only [] at this; omega)
        have HLL := Aside0.mk (show l.length ≤ 1000000 by have := HZ.out; rw [sz_eq] at this; have := szL_len l; simp only [] at *; omega)
        clear S1
        generalize rd_T26 l i = k at S HKZ ⊢
        obtain ⟨i0, hi0, _, hsz, _⟩ := info_parts info3
        have hcut := cut_from (P := Try.prog) 41 3 .i64 Try.underlying41 hi0 1 hsz (some adi) (is.length + 1) cb 1 (by omega) (by omega)
        have hdrop := Kd.C_drop HI.out (m := 1) (by rw [List.length_cons]; omega) LI.out
        obtain ⟨A2, hA2⟩ : ∃ A2, A2 = (if cb = (1 : Int).toNat then (some adi) else ((some adi) : Option Addr).map (·.add ((1 : Int).toNat * 1))) := ⟨_, rfl⟩
        obtain ⟨c2, hc2⟩ : ∃ c2, c2 = cb - (1 : Int).toNat := ⟨_, rfl⟩
        rw [← hA2, ← hc2, show is.length + 1 - (1 : Int).toNat = is.length by simp] at hcut
        have HI2 := Aside0.mk (show Kd.C (Kd.int .i64) w A2 is.length is by rw [hA2]; exact hdrop)
        have LI2 := Aside0.mk (show is.length ≤ c2 by have h3 := LI.out; rw [hc2]; simp; omega)
        have HCUT := Aside0.mk hcut
        clear hdrop hA2 hc2 hi0 hsz hcut h0 h1
        have H0Z := Aside0.mk h0z
        have H1Z := Aside0.mk h1z
        have IHk := fun Q W h1 h2 h3 => IH.out k ⟨kk, ⟨kx, ky, kw, kh⟩, kid, m⟩ Q ua uc Ak ck' A2 c2 W HKZ.out h1 h2 h3 LI2.out
        cases hp : putC ⟨kk, ⟨kx, ky, kw, kh⟩, kid, m⟩ is k with
        | none =>
          simp only [hp] at IHk ⊢
          have hcut := HCUT.out
          go_enter Try.func103, Try.ntmps103
          go_wp2_with (first
            | ((with_reducible refine gate_dst (N := 3) rfl ?_); refine box_st (N := 3) rfl rfl #[.int .u8 ck, .int .i64 cx, .int .i64 cy, .int .i64 cw, .int .i64 ch, .int .i64 cid, .slice (some adk) l.length cc] 26 S.out ?hr ?_; (case hr => first | (go_simp; done) | (go_simp; rfl)); intro b3 w1_ S1; replace S := Aside0.mk S1; clear S1)
            | ((with_reducible refine gate_dst (N := 4) rfl ?_); refine box_st (N := 4) rfl rfl #[.int .u8 kk, .int .i64 kx, .int .i64 ky, .int .i64 kw, .int .i64 kh, .int .i64 kid, .slice Ak m.length ck'] 26 S.out ?hr ?_; (case hr => first | (go_simp; done) | (go_simp; rfl)); intro b4 w2_ S1; replace S := Aside0.mk S1; clear S1)
            | ((with_reducible refine gate_dst (N := 6) rfl ?_); refine box_st (N := 6) rfl rfl #[.int .u8 0, .int .i64 0, .int .i64 0, .int .i64 0, .int .i64 0, .int .i64 0, .slice none 0 0] 26 S.out ?hr ?_; (case hr => first | (go_simp; done) | (go_simp; rfl)); intro b6 w3_ S1; replace S := Aside0.mk S1; clear S1; have y7_ := (S.out.cell _ (.tail _ (.tail _ (.tail _ (.tail _ (.tail _ (.tail _ (.tail _ (.head _))))))))).1; have cb3_6 := (S.out.at (.tail _ (.tail _ (.head _))) 6).trans rfl)
            | fail)
          go_quiet (fail)
          clear y7_ cb3_6
          replace S := Aside0.mk (S.out.call (pw_below_drewN (Below.refl _ _) nq))
          generalize w3_.drewN nq = wq4 at S ⊢
          go_wp2
          refine start_ (n := 17) (S := fun w' => St w P _ _ _ _ w') (ds := [15]) (bA 17 0) (by kernel_rfl) rfl rfl (S.out.call (below_drew (Below.refl _ _))) (fun hHeld => ?_); refine with_tabW t103_5.tab5 t103_5.bits5 (fun HT_ HW_ => ?_)
          replace S := Aside0.mk (S.out.call (below_drew (Below.refl _ _)))
          generalize wq4.drew = wd5 at S hHeld ⊢
          refine pureS 0 30 (bA 17 1) HT_ ?_
          refine takeS 1 31 (bA 17 3) HT_ HW_ hHeld ?_ (hv := by intro w' hs_; have cb3_6 := (hs_.at (.tail _ (.tail _ (.head _))) 6).trans rfl; go_simp; with_reducible rfl)
          refine pureS 2 32 (bA 17 7) HT_ ?_
          refine pureS 3 33 (bA 17 15) HT_ ?_
          refine takeS 4 34 (bA 17 31) HT_ HW_ hHeld ?_ (hv := by intro w' hs_; have y7_ := (hs_.cell _ (.tail _ (.tail _ (.tail _ (.tail _ (.tail _ (.tail _ (.tail _ (.head _))))))))).1; go_simp; with_reducible rfl)
          refine pureS 5 35 (bA 17 63) HT_ ?_
          refine takeS 6 36 (bA 17 127) HT_ HW_ hHeld ?_ (hv := by intro w' hs_; have y0_ := (hs_.cell _ (.head _)).1; have y1_ := (hs_.cell _ (.tail _ (.head _))).1; have y2_ := (hs_.cell _ (.tail _ (.tail _ (.head _)))).1; have y3_ := (hs_.cell _ (.tail _ (.tail _ (.tail _ (.head _))))).1; have y4_ := (hs_.cell _ (.tail _ (.tail _ (.tail _ (.tail _ (.head _)))))).1; have y5_ := (hs_.cell _ (.tail _ (.tail _ (.tail _ (.tail _ (.tail _ (.head _))))))).1; have y6_ := (hs_.cell _ (.tail _ (.tail _ (.tail _ (.tail _ (.tail _ (.tail _ (.head _)))))))).1; go_simp; with_reducible rfl)
          refine takeS 7 37 (bA 17 255) HT_ HW_ hHeld ?_ (hv := by intro w' hs_; have cb4_0 := (hs_.at (.tail _ (.head _)) 0).trans rfl; have cb4_1 := (hs_.at (.tail _ (.head _)) 1).trans rfl; have cb4_2 := (hs_.at (.tail _ (.head _)) 2).trans rfl; have cb4_3 := (hs_.at (.tail _ (.head _)) 3).trans rfl; have cb4_4 := (hs_.at (.tail _ (.head _)) 4).trans rfl; have cb4_5 := (hs_.at (.tail _ (.head _)) 5).trans rfl; have cb4_6 := (hs_.at (.tail _ (.head _)) 6).trans rfl; go_simp; with_reducible rfl)
          refine pureS 8 38 (bA 17 511) HT_ ?_
          refine pureS 9 39 (bA 17 1023) HT_ ?_
          refine join_ (σ := Nat) 2 (bA 17 32767) (fun s_ => [(40, .tuple #[.agg #[.int .u8 0, .int .i64 0, .int .i64 0, .int .i64 0, .int .i64 0, .int .i64 0, .slice none 0 0], .bool false]), (29, .tuple #[.agg #[.int .u8 0, .int .i64 0, .int .i64 0, .int .i64 0, .int .i64 0, .int .i64 0, .slice none 0 0], .bool false]), (41, .agg #[.int .u8 0, .int .i64 0, .int .i64 0, .int .i64 0, .int .i64 0, .int .i64 0, .slice none 0 0]), (42, .bool false), (8, .pointer (some ⟨s_, 0, none⟩))]) (fun s_ w' => St w P [(s_, .cells #[.int .u8 0, .int .i64 0, .int .i64 0, .int .i64 0, .int .i64 0, .int .i64 0, .slice none 0 0] 26 (0, 0)), (b6, .cells #[.int .u8 0, .int .i64 0, .int .i64 0, .int .i64 0, .int .i64 0, .int .i64 0, .slice none 0 0] 26 (0, 0)), (b4, .cells #[.int .u8 kk, .int .i64 kx, .int .i64 ky, .int .i64 kw, .int .i64 kh, .int .i64 kid, .slice Ak m.length ck'] 26 (0, 0)), (b3, .cells #[.int .u8 ck, .int .i64 cx, .int .i64 cy, .int .i64 cw, .int .i64 ch, .int .i64 cid, .slice (some adk) l.length cc] 26 (0, 0))] [] [(.slice ua k.f3.length uc, k.f3), (.slice (some adk) l.length cc, l), (.slice Ak m.length ck', m)] [((adk.add (i.toNat * 7)), .int .u8 k.f0), (⟨(adk.add (i.toNat * 7)).block, (adk.add (i.toNat * 7)).off + 1, none⟩, .int .i64 k.f1.f0), (⟨(adk.add (i.toNat * 7)).block, (adk.add (i.toNat * 7)).off + 2, none⟩, .int .i64 k.f1.f1), (⟨(adk.add (i.toNat * 7)).block, (adk.add (i.toNat * 7)).off + 3, none⟩, .int .i64 k.f1.f2), (⟨(adk.add (i.toNat * 7)).block, (adk.add (i.toNat * 7)).off + 4, none⟩, .int .i64 k.f1.f3), (⟨(adk.add (i.toNat * 7)).block, (adk.add (i.toNat * 7)).off + 5, none⟩, .int .i64 k.f2), (⟨(adk.add (i.toNat * 7)).block, (adk.add (i.toNat * 7)).off + 6, none⟩, .slice ua k.f3.length uc), (adi, .int .i64 i)] w') ?_ ?_
          rotate_left
          · intro hCont
            refine two_ (i := 10) (j := 14) (Ni := some 40) (Nj := some 8) (bA 17 2047) (bA 17 17407) rfl rfl rfl rfl (two_of HT_.out (by kernel_rfl)) (by decide) (by decide) (fun K hK => ?_) (fun K hK => ?_)
            · skip
              refine goes_ Try.func103 (by kernel_rfl) rfl #[.agg #[.int .u8 k.f0, .int .i64 k.f1.f0, .int .i64 k.f1.f1, .int .i64 k.f1.f2, .int .i64 k.f1.f3, .int .i64 k.f2, .slice ua k.f3.length uc], .agg #[.int .u8 kk, .int .i64 kx, .int .i64 ky, .int .i64 kw, .int .i64 kh, .int .i64 kid, .slice Ak m.length ck'], .slice A2 is.length c2] (by rfl) rfl rfl (by (try simp only [List.map_toArray, List.map_cons, List.map_nil]); first | done | rfl) ?_
              refine (IHk _ _ (V_any (S.out.tree _ (.head _))) (V_any (S.out.tree _ (.tail _ (.tail _ (.head _))))) (Kd.C_below HI2.out S.out.below)).mono ?_
              rintro e w6_ ⟨rfl, hb⟩
              refine ⟨_, rfl, ?_⟩
              replace S := Aside0.mk (S.out.call hb)
              clear hb
              refine hK.out _ _ S.out (fun hHeld => ?_)
              clear hK K
              refine norm_ (a' := ?_) ?_ ?_
              rotate_left
              · show Act.put _ (some 40) _ = _
                simp only [Act.put, List.setIfInBounds_toArray, List.set_cons_zero, List.set_cons_succ, i64_w, i32_w]
                rfl
              refine pureS 11 29 (bA 17 4095) HT_ ?_
              refine pureS 12 41 (bA 17 8191) HT_ ?_
              refine pureS 13 42 (bA 17 16383) HT_ ?_
              refine one_ (i := 14) (N := some 8) (bA 17 32767) rfl rfl (one_of HT_.out (by kernel_rfl)) (by decide) (fun K hK => ?_)
              refine box_step ?hg (N := 8) ?hd (cs := #[.int .u8 0, .int .i64 0, .int .i64 0, .int .i64 0, .int .i64 0, .int .i64 0, .slice none 0 0]) (t := 26) ?hr ?_; (case hd => rfl); (case hg => rfl); (case hr => first | (go_simp; done) | (go_simp; rfl))
              intro b8 hg w7_ hbox hb
              replace S := Aside0.mk (S.out.box hg hbox hb)
              clear hg hbox hb
              refine hK.out _ _ S.out.dropB (fun hHeld => ?_)
              clear hK K
              refine norm_ (a' := ?_) ?_ ?_
              rotate_left
              · show Act.put _ (some 8) _ = _
                simp only [Act.put, List.setIfInBounds_toArray, List.set_cons_zero, List.set_cons_succ, i64_w, i32_w]
                rfl
              exact norm_ (by simp only [putAll, Act.put, List.setIfInBounds_toArray, List.set_cons_zero, List.set_cons_succ] <;> rfl) (hCont b8 _ S.out)
            · skip
              refine box_step ?hg (N := 8) ?hd (cs := #[.int .u8 0, .int .i64 0, .int .i64 0, .int .i64 0, .int .i64 0, .int .i64 0, .slice none 0 0]) (t := 26) ?hr ?_; (case hd => rfl); (case hg => rfl); (case hr => first | (go_simp; done) | (go_simp; rfl))
              intro b8 hg w8_ hbox hb
              replace S := Aside0.mk (S.out.box hg hbox hb)
              clear hg hbox hb
              refine hK.out _ _ S.out.dropB (fun hHeld => ?_)
              clear hK K
              refine norm_ (a' := ?_) ?_ ?_
              rotate_left
              · show Act.put _ (some 8) _ = _
                simp only [Act.put, List.setIfInBounds_toArray, List.set_cons_zero, List.set_cons_succ, i64_w, i32_w]
                rfl
              refine one_ (i := 10) (N := some 40) (bA 17 18431) rfl rfl (one_of HT_.out (by kernel_rfl)) (by decide) (fun K hK => ?_)
              refine goes_ Try.func103 (by kernel_rfl) rfl #[.agg #[.int .u8 k.f0, .int .i64 k.f1.f0, .int .i64 k.f1.f1, .int .i64 k.f1.f2, .int .i64 k.f1.f3, .int .i64 k.f2, .slice ua k.f3.length uc], .agg #[.int .u8 kk, .int .i64 kx, .int .i64 ky, .int .i64 kw, .int .i64 kh, .int .i64 kid, .slice Ak m.length ck'], .slice A2 is.length c2] (by rfl) rfl rfl (by (try simp only [List.map_toArray, List.map_cons, List.map_nil]); first | done | rfl) ?_
              refine (IHk _ _ (V_any (S.out.tree _ (.head _))) (V_any (S.out.tree _ (.tail _ (.tail _ (.head _))))) (Kd.C_below HI2.out S.out.below)).mono ?_
              rintro e w9_ ⟨rfl, hb⟩
              refine ⟨_, rfl, ?_⟩
              replace S := Aside0.mk (S.out.call hb)
              clear hb
              refine hK.out _ _ S.out.dropB (fun hHeld => ?_)
              clear hK K
              refine norm_ (a' := ?_) ?_ ?_
              rotate_left
              · show Act.put _ (some 40) _ = _
                simp only [Act.put, List.setIfInBounds_toArray, List.set_cons_zero, List.set_cons_succ, i64_w, i32_w]
                rfl
              refine pureS 11 29 (bA 17 20479) HT_ ?_
              refine pureS 12 41 (bA 17 24575) HT_ ?_
              refine pureS 13 42 (bA 17 32767) HT_ ?_
              exact norm_ (by simp only [putAll, Act.put, List.setIfInBounds_toArray, List.set_cons_zero, List.set_cons_succ] <;> rfl) (hCont b8 _ S.out)
          intro b8 wj10 S1
          simp only [putAll, Act.put, List.setIfInBounds_toArray, List.set_cons_zero, List.set_cons_succ]
          replace S := Aside0.mk S1
          clear S1 hHeld
          have hHeld := S.out.dropB
          refine last_ (i := 15) (N := none) (bA 17 65535) rfl rfl (one_of HT_.out (by kernel_rfl)) (by decide) (fun K hK => ?_)
          refine put_eff 0 rfl 26 (.tmp 8) (.tmp 41) rfl #[.int .u8 0, .int .i64 0, .int .i64 0, .int .i64 0, .int .i64 0, .int .i64 0, .slice none 0 0] (j := 0) (u := .agg #[.int .u8 0, .int .i64 0, .int .i64 0, .int .i64 0, .int .i64 0, .int .i64 0, .slice none 0 0]) (seg := [.int .u8 0, .int .i64 0, .int .i64 0, .int .i64 0, .int .i64 0, .int .i64 0, .slice none 0 0]) S.out (by rfl) rfl rfl rfl rfl (by kernel_rfl) (by simp [Value.oneCell']) (by first | decide | simp) rfl ?_
          intro w11_ S1
          simp only [List.set_cons_zero, List.set_cons_succ] at S1
          replace S := Aside0.mk S1
          clear S1
          refine hK.out _ _ ?_
          clear hK K
          refine pureS 16 9 (bA 17 131071) HT_ ?_
          refine done_ (done_of HT_.out (by kernel_rfl)) ?_
          clear hHeld
          go_wp2_with (first
            | ((with_reducible refine gate_ (.store 26 (.tmp 6) (.tmp 45)) rfl ?_); go_loud (refine put_st 1 rfl 26 (.tmp 6) (.tmp 45) rfl #[.int .u8 0, .int .i64 0, .int .i64 0, .int .i64 0, .int .i64 0, .int .i64 0, .slice none 0 0] (j := 0) (u := .agg #[.int .u8 0, .int .i64 0, .int .i64 0, .int .i64 0, .int .i64 0, .int .i64 0, .slice none 0 0]) (seg := [.int .u8 0, .int .i64 0, .int .i64 0, .int .i64 0, .int .i64 0, .int .i64 0, .slice none 0 0]) S.out ?sA ?sX rfl ?sT ?s1 ?sJ rfl rfl rfl ?_; (case sA => rfl); (case sX => rfl); (case sT => rfl); (case s1 => simp [Value.oneCell']); (case sJ => first | decide | simp); intro w12_ S1; simp only [List.set_cons_zero, List.set_cons_succ] at S1; replace S := Aside0.mk S1; clear S1))
            | fail)
          refine bodyPost_ret (results_ct rfl _ _ b6 26 #[.int .u8 0, .int .i64 0, .int .i64 0, .int .i64 0, .int .i64 0, .int .i64 0, .slice none 0 0] (0, 0) _ rfl (S.out.blk _ (.tail _ (.head _))) Try.underlying26 rfl (by kernel_rfl)) rfl ?_
          exact ⟨rfl, S.out.below⟩
        | some z =>
          simp only [hp] at IHk ⊢
          have hcut := HCUT.out
          go_enter Try.func103, Try.ntmps103
          go_wp2_with (first
            | ((with_reducible refine gate_dst (N := 3) rfl ?_); refine box_st (N := 3) rfl rfl #[.int .u8 ck, .int .i64 cx, .int .i64 cy, .int .i64 cw, .int .i64 ch, .int .i64 cid, .slice (some adk) l.length cc] 26 S.out ?hr ?_; (case hr => first | (go_simp; done) | (go_simp; rfl)); intro b3 w1_ S1; replace S := Aside0.mk S1; clear S1)
            | ((with_reducible refine gate_dst (N := 4) rfl ?_); refine box_st (N := 4) rfl rfl #[.int .u8 kk, .int .i64 kx, .int .i64 ky, .int .i64 kw, .int .i64 kh, .int .i64 kid, .slice Ak m.length ck'] 26 S.out ?hr ?_; (case hr => first | (go_simp; done) | (go_simp; rfl)); intro b4 w2_ S1; replace S := Aside0.mk S1; clear S1)
            | ((with_reducible refine gate_dst (N := 6) rfl ?_); refine box_st (N := 6) rfl rfl #[.int .u8 0, .int .i64 0, .int .i64 0, .int .i64 0, .int .i64 0, .int .i64 0, .slice none 0 0] 26 S.out ?hr ?_; (case hr => first | (go_simp; done) | (go_simp; rfl)); intro b6 w3_ S1; replace S := Aside0.mk S1; clear S1; have y7_ := (S.out.cell _ (.tail _ (.tail _ (.tail _ (.tail _ (.tail _ (.tail _ (.tail _ (.head _))))))))).1; have cb3_6 := (S.out.at (.tail _ (.tail _ (.head _))) 6).trans rfl)
            | fail)
          go_quiet (fail)
          clear y7_ cb3_6
          replace S := Aside0.mk (S.out.call (pw_below_drewN (Below.refl _ _) nq))
          generalize w3_.drewN nq = wq4 at S ⊢
          go_wp2
          refine start_ (n := 17) (S := fun w' => St w P _ _ _ _ w') (ds := [15]) (bA 17 0) (by kernel_rfl) rfl rfl (S.out.call (below_drew (Below.refl _ _))) (fun hHeld => ?_); refine with_tabW t103_5.tab5 t103_5.bits5 (fun HT_ HW_ => ?_)
          replace S := Aside0.mk (S.out.call (below_drew (Below.refl _ _)))
          generalize wq4.drew = wd5 at S hHeld ⊢
          refine pureS 0 30 (bA 17 1) HT_ ?_
          refine takeS 1 31 (bA 17 3) HT_ HW_ hHeld ?_ (hv := by intro w' hs_; have cb3_6 := (hs_.at (.tail _ (.tail _ (.head _))) 6).trans rfl; go_simp; with_reducible rfl)
          refine pureS 2 32 (bA 17 7) HT_ ?_
          refine pureS 3 33 (bA 17 15) HT_ ?_
          refine takeS 4 34 (bA 17 31) HT_ HW_ hHeld ?_ (hv := by intro w' hs_; have y7_ := (hs_.cell _ (.tail _ (.tail _ (.tail _ (.tail _ (.tail _ (.tail _ (.tail _ (.head _))))))))).1; go_simp; with_reducible rfl)
          refine pureS 5 35 (bA 17 63) HT_ ?_
          refine takeS 6 36 (bA 17 127) HT_ HW_ hHeld ?_ (hv := by intro w' hs_; have y0_ := (hs_.cell _ (.head _)).1; have y1_ := (hs_.cell _ (.tail _ (.head _))).1; have y2_ := (hs_.cell _ (.tail _ (.tail _ (.head _)))).1; have y3_ := (hs_.cell _ (.tail _ (.tail _ (.tail _ (.head _))))).1; have y4_ := (hs_.cell _ (.tail _ (.tail _ (.tail _ (.tail _ (.head _)))))).1; have y5_ := (hs_.cell _ (.tail _ (.tail _ (.tail _ (.tail _ (.tail _ (.head _))))))).1; have y6_ := (hs_.cell _ (.tail _ (.tail _ (.tail _ (.tail _ (.tail _ (.tail _ (.head _)))))))).1; go_simp; with_reducible rfl)
          refine takeS 7 37 (bA 17 255) HT_ HW_ hHeld ?_ (hv := by intro w' hs_; have cb4_0 := (hs_.at (.tail _ (.head _)) 0).trans rfl; have cb4_1 := (hs_.at (.tail _ (.head _)) 1).trans rfl; have cb4_2 := (hs_.at (.tail _ (.head _)) 2).trans rfl; have cb4_3 := (hs_.at (.tail _ (.head _)) 3).trans rfl; have cb4_4 := (hs_.at (.tail _ (.head _)) 4).trans rfl; have cb4_5 := (hs_.at (.tail _ (.head _)) 5).trans rfl; have cb4_6 := (hs_.at (.tail _ (.head _)) 6).trans rfl; go_simp; with_reducible rfl)
          refine pureS 8 38 (bA 17 511) HT_ ?_
          refine pureS 9 39 (bA 17 1023) HT_ ?_
          refine join_ (σ := Option Addr × Nat × Nat) 2 (bA 17 32767) (fun s_ => [(40, .tuple #[.agg #[.int .u8 z.f0, .int .i64 z.f1.f0, .int .i64 z.f1.f1, .int .i64 z.f1.f2, .int .i64 z.f1.f3, .int .i64 z.f2, .slice s_.1 z.f3.length s_.2.1], .bool true]), (29, .tuple #[.agg #[.int .u8 z.f0, .int .i64 z.f1.f0, .int .i64 z.f1.f1, .int .i64 z.f1.f2, .int .i64 z.f1.f3, .int .i64 z.f2, .slice s_.1 z.f3.length s_.2.1], .bool true]), (41, .agg #[.int .u8 z.f0, .int .i64 z.f1.f0, .int .i64 z.f1.f1, .int .i64 z.f1.f2, .int .i64 z.f1.f3, .int .i64 z.f2, .slice s_.1 z.f3.length s_.2.1]), (42, .bool true), (8, .pointer (some ⟨s_.2.2, 0, none⟩))]) (fun s_ w' => St w P [(s_.2.2, .cells #[.int .u8 0, .int .i64 0, .int .i64 0, .int .i64 0, .int .i64 0, .int .i64 0, .slice none 0 0] 26 (0, 0)), (b6, .cells #[.int .u8 0, .int .i64 0, .int .i64 0, .int .i64 0, .int .i64 0, .int .i64 0, .slice none 0 0] 26 (0, 0)), (b4, .cells #[.int .u8 kk, .int .i64 kx, .int .i64 ky, .int .i64 kw, .int .i64 kh, .int .i64 kid, .slice Ak m.length ck'] 26 (0, 0)), (b3, .cells #[.int .u8 ck, .int .i64 cx, .int .i64 cy, .int .i64 cw, .int .i64 ch, .int .i64 cid, .slice (some adk) l.length cc] 26 (0, 0))] [] [(.slice s_.1 z.f3.length s_.2.1, z.f3), (.slice ua k.f3.length uc, k.f3), (.slice (some adk) l.length cc, l), (.slice Ak m.length ck', m)] [((adk.add (i.toNat * 7)), .int .u8 k.f0), (⟨(adk.add (i.toNat * 7)).block, (adk.add (i.toNat * 7)).off + 1, none⟩, .int .i64 k.f1.f0), (⟨(adk.add (i.toNat * 7)).block, (adk.add (i.toNat * 7)).off + 2, none⟩, .int .i64 k.f1.f1), (⟨(adk.add (i.toNat * 7)).block, (adk.add (i.toNat * 7)).off + 3, none⟩, .int .i64 k.f1.f2), (⟨(adk.add (i.toNat * 7)).block, (adk.add (i.toNat * 7)).off + 4, none⟩, .int .i64 k.f1.f3), (⟨(adk.add (i.toNat * 7)).block, (adk.add (i.toNat * 7)).off + 5, none⟩, .int .i64 k.f2), (⟨(adk.add (i.toNat * 7)).block, (adk.add (i.toNat * 7)).off + 6, none⟩, .slice ua k.f3.length uc), (adi, .int .i64 i)] w') ?_ ?_
          rotate_left
          · intro hCont
            refine two_ (i := 10) (j := 14) (Ni := some 40) (Nj := some 8) (bA 17 2047) (bA 17 17407) rfl rfl rfl rfl (two_of HT_.out (by kernel_rfl)) (by decide) (by decide) (fun K hK => ?_) (fun K hK => ?_)
            · skip
              refine goes_ Try.func103 (by kernel_rfl) rfl #[.agg #[.int .u8 k.f0, .int .i64 k.f1.f0, .int .i64 k.f1.f1, .int .i64 k.f1.f2, .int .i64 k.f1.f3, .int .i64 k.f2, .slice ua k.f3.length uc], .agg #[.int .u8 kk, .int .i64 kx, .int .i64 ky, .int .i64 kw, .int .i64 kh, .int .i64 kid, .slice Ak m.length ck'], .slice A2 is.length c2] (by rfl) rfl rfl (by (try simp only [List.map_toArray, List.map_cons, List.map_nil]); first | done | rfl) ?_
              refine (IHk _ _ (V_any (S.out.tree _ (.head _))) (V_any (S.out.tree _ (.tail _ (.tail _ (.head _))))) (Kd.C_below HI2.out S.out.below)).mono ?_
              rintro e w6_ ⟨Ar40, cr40, rfl, h1, hb⟩
              refine ⟨_, rfl, ?_⟩
              replace S := Aside0.mk (S.out.res h1 hb)
              clear h1 hb
              refine hK.out _ _ S.out.dropT (fun hHeld => ?_)
              clear hK K
              refine norm_ (a' := ?_) ?_ ?_
              rotate_left
              · show Act.put _ (some 40) _ = _
                simp only [Act.put, List.setIfInBounds_toArray, List.set_cons_zero, List.set_cons_succ, i64_w, i32_w]
                rfl
              refine pureS 11 29 (bA 17 4095) HT_ ?_
              refine pureS 12 41 (bA 17 8191) HT_ ?_
              refine pureS 13 42 (bA 17 16383) HT_ ?_
              refine one_ (i := 14) (N := some 8) (bA 17 32767) rfl rfl (one_of HT_.out (by kernel_rfl)) (by decide) (fun K hK => ?_)
              refine box_step ?hg (N := 8) ?hd (cs := #[.int .u8 0, .int .i64 0, .int .i64 0, .int .i64 0, .int .i64 0, .int .i64 0, .slice none 0 0]) (t := 26) ?hr ?_; (case hd => rfl); (case hg => rfl); (case hr => first | (go_simp; done) | (go_simp; rfl))
              intro b8 hg w7_ hbox hb
              replace S := Aside0.mk (S.out.box hg hbox hb)
              clear hg hbox hb
              refine hK.out _ _ S.out.dropB.dropT (fun hHeld => ?_)
              clear hK K
              refine norm_ (a' := ?_) ?_ ?_
              rotate_left
              · show Act.put _ (some 8) _ = _
                simp only [Act.put, List.setIfInBounds_toArray, List.set_cons_zero, List.set_cons_succ, i64_w, i32_w]
                rfl
              exact norm_ (by simp only [putAll, Act.put, List.setIfInBounds_toArray, List.set_cons_zero, List.set_cons_succ] <;> rfl) (hCont (Ar40, cr40, b8) _ S.out)
            · skip
              refine box_step ?hg (N := 8) ?hd (cs := #[.int .u8 0, .int .i64 0, .int .i64 0, .int .i64 0, .int .i64 0, .int .i64 0, .slice none 0 0]) (t := 26) ?hr ?_; (case hd => rfl); (case hg => rfl); (case hr => first | (go_simp; done) | (go_simp; rfl))
              intro b8 hg w8_ hbox hb
              replace S := Aside0.mk (S.out.box hg hbox hb)
              clear hg hbox hb
              refine hK.out _ _ S.out.dropB (fun hHeld => ?_)
              clear hK K
              refine norm_ (a' := ?_) ?_ ?_
              rotate_left
              · show Act.put _ (some 8) _ = _
                simp only [Act.put, List.setIfInBounds_toArray, List.set_cons_zero, List.set_cons_succ, i64_w, i32_w]
                rfl
              refine one_ (i := 10) (N := some 40) (bA 17 18431) rfl rfl (one_of HT_.out (by kernel_rfl)) (by decide) (fun K hK => ?_)
              refine goes_ Try.func103 (by kernel_rfl) rfl #[.agg #[.int .u8 k.f0, .int .i64 k.f1.f0, .int .i64 k.f1.f1, .int .i64 k.f1.f2, .int .i64 k.f1.f3, .int .i64 k.f2, .slice ua k.f3.length uc], .agg #[.int .u8 kk, .int .i64 kx, .int .i64 ky, .int .i64 kw, .int .i64 kh, .int .i64 kid, .slice Ak m.length ck'], .slice A2 is.length c2] (by rfl) rfl rfl (by (try simp only [List.map_toArray, List.map_cons, List.map_nil]); first | done | rfl) ?_
              refine (IHk _ _ (V_any (S.out.tree _ (.head _))) (V_any (S.out.tree _ (.tail _ (.tail _ (.head _))))) (Kd.C_below HI2.out S.out.below)).mono ?_
              rintro e w9_ ⟨Ar40, cr40, rfl, h1, hb⟩
              refine ⟨_, rfl, ?_⟩
              replace S := Aside0.mk (S.out.res h1 hb)
              clear h1 hb
              refine hK.out _ _ S.out.dropB.dropT (fun hHeld => ?_)
              clear hK K
              refine norm_ (a' := ?_) ?_ ?_
              rotate_left
              · show Act.put _ (some 40) _ = _
                simp only [Act.put, List.setIfInBounds_toArray, List.set_cons_zero, List.set_cons_succ, i64_w, i32_w]
                rfl
              refine pureS 11 29 (bA 17 20479) HT_ ?_
              refine pureS 12 41 (bA 17 24575) HT_ ?_
              refine pureS 13 42 (bA 17 32767) HT_ ?_
              exact norm_ (by simp only [putAll, Act.put, List.setIfInBounds_toArray, List.set_cons_zero, List.set_cons_succ] <;> rfl) (hCont (Ar40, cr40, b8) _ S.out)
          rintro ⟨Ar40, cr40, b8⟩ wj10 S1
          simp only [putAll, Act.put, List.setIfInBounds_toArray, List.set_cons_zero, List.set_cons_succ]
          replace S := Aside0.mk S1
          clear S1 hHeld
          have hHeld := S.out.dropB.dropT
          refine last_ (i := 15) (N := none) (bA 17 65535) rfl rfl (one_of HT_.out (by kernel_rfl)) (by decide) (fun K hK => ?_)
          refine put_eff 0 rfl 26 (.tmp 8) (.tmp 41) rfl #[.int .u8 z.f0, .int .i64 z.f1.f0, .int .i64 z.f1.f1, .int .i64 z.f1.f2, .int .i64 z.f1.f3, .int .i64 z.f2, .slice Ar40 z.f3.length cr40] (j := 0) (u := .agg #[.int .u8 z.f0, .int .i64 z.f1.f0, .int .i64 z.f1.f1, .int .i64 z.f1.f2, .int .i64 z.f1.f3, .int .i64 z.f2, .slice Ar40 z.f3.length cr40]) (seg := [.int .u8 z.f0, .int .i64 z.f1.f0, .int .i64 z.f1.f1, .int .i64 z.f1.f2, .int .i64 z.f1.f3, .int .i64 z.f2, .slice Ar40 z.f3.length cr40]) S.out (by rfl) rfl rfl rfl rfl (by kernel_rfl) (by simp [Value.oneCell']) (by first | decide | simp) rfl ?_
          intro w11_ S1
          simp only [List.set_cons_zero, List.set_cons_succ] at S1
          replace S := Aside0.mk S1
          clear S1
          refine hK.out _ _ ?_
          clear hK K
          refine pureS 16 9 (bA 17 131071) HT_ ?_
          refine done_ (done_of HT_.out (by kernel_rfl)) ?_
          clear hHeld
          go_wp2_with (first
            | ((with_reducible refine gate_dst (N := 46) rfl ?_); refine lit_st (N := 46) rfl rfl S.out ?hr ?_; (case hr => first | (go_simp; done) | (go_simp; rfl)); intro Ae ce w12_ S1; replace S := Aside0.mk S1; clear S1; have cb3_6 := (S.out.at (.tail _ (.tail _ (.tail _ (.head _)))) 6).trans rfl)
            | ((with_reducible refine gate_dst (N := 49) rfl ?_); at_builtin; refine append_rows_st 24 (.tmp 46) (.tmp 48) rfl rfl Try.underlying24 info26 S.out (.tail _ (.tail _ (.head _))) rfl rfl (by have := HLL.out; simp only [List.length_nil]; omega) ?_; intro Ag cg w13_ S1; simp only [List.nil_append] at S1; obtain ⟨gk, capk, ev, _⟩ := Kd.N_form S1.ownN (by have := H1Z.out; have := H0Z.out; omega); injection ev with e1 e2 e3; subst e1; subst e3; clear e2; simp only [List.nil_append]; replace S := Aside0.mk S1; clear S1; clear cb3_6)
            | fail)
          refine start_ (n := 7) (S := fun w' => St w P _ _ _ _ w') (ds := [6]) (bA 7 0) (by kernel_rfl) rfl rfl (S.out.call (below_drew (Below.refl _ _))) (fun hHeld => ?_); refine with_tabW t103_9.tab9 t103_9.bits9 (fun HT_ HW_ => ?_)
          replace S := Aside0.mk (S.out.call (below_drew (Below.refl _ _)))
          generalize w13_.drew = wd14 at S hHeld ⊢
          refine pureS 0 50 (bA 7 1) HT_ ?_
          refine pureS 1 51 (bA 7 3) HT_ ?_
          refine pureS 2 52 (bA 7 7) HT_ ?_
          refine takeS 3 53 (bA 7 15) HT_ HW_ hHeld ?_ (hv := by intro w' hs_; have y7_ := (hs_.cell _ (.tail _ (.tail _ (.tail _ (.tail _ (.tail _ (.tail _ (.tail _ (.head _))))))))).1; go_simp; with_reducible rfl)
          refine takeS 4 54 (bA 7 31) HT_ HW_ hHeld ?_ (hv := by intro w' hs_; have cb8_0 := (hs_.at (.head _) 0).trans rfl; have cb8_1 := (hs_.at (.head _) 1).trans rfl; have cb8_2 := (hs_.at (.head _) 2).trans rfl; have cb8_3 := (hs_.at (.head _) 3).trans rfl; have cb8_4 := (hs_.at (.head _) 4).trans rfl; have cb8_5 := (hs_.at (.head _) 5).trans rfl; have cb8_6 := (hs_.at (.head _) 6).trans rfl; go_simp; with_reducible rfl)
          refine pureS 5 55 (bA 7 63) HT_ ?_
          refine last_ (i := 6) (N := none) (bA 7 127) rfl rfl (one_of HT_.out (by kernel_rfl)) (by decide) (fun K hK => ?_)
          refine seg_eff i z (.tmp 55) (.tmp 54) rfl S.out (by rfl) rfl H0Z.out H1Z.out (by first | rfl | (go_simp; rfl)) rfl (by kernel_rfl) (.head _) ?_
          intro w15_ S1
          replace S := Aside0.mk S1
          clear S1
          refine hK.out _ _ ?_
          clear hK K
          refine done_ (done_of HT_.out (by kernel_rfl)) ?_
          clear hHeld
          go_wp2_with (first
            | ((with_reducible refine gate_ (.store 24 (.tmp 57) (.tmp 56)) rfl ?_); go_loud (refine put_st 3 rfl 24 (.tmp 57) (.tmp 56) rfl #[.int .u8 ck, .int .i64 cx, .int .i64 cy, .int .i64 cw, .int .i64 ch, .int .i64 cid, .slice (some ⟨gk, 0, none⟩) l.length cg] (j := 6) (u := .slice (some ⟨gk, 0, none⟩) l.length cg) (seg := [.slice (some ⟨gk, 0, none⟩) l.length cg]) S.out ?sA ?sX rfl ?sT ?s1 ?sJ rfl rfl rfl ?_; (case sA => rfl); (case sX => rfl); (case sT => rfl); (case s1 => simp [Value.oneCell']); (case sJ => first | decide | simp); intro w16_ S1; simp only [List.set_cons_zero, List.set_cons_succ] at S1; replace S := Aside0.mk S1; clear S1); have cb3_0 := (S.out.at (.tail _ (.tail _ (.tail _ (.head _)))) 0).trans rfl; have cb3_1 := (S.out.at (.tail _ (.tail _ (.tail _ (.head _)))) 1).trans rfl; have cb3_2 := (S.out.at (.tail _ (.tail _ (.tail _ (.head _)))) 2).trans rfl; have cb3_3 := (S.out.at (.tail _ (.tail _ (.tail _ (.head _)))) 3).trans rfl; have cb3_4 := (S.out.at (.tail _ (.tail _ (.tail _ (.head _)))) 4).trans rfl; have cb3_5 := (S.out.at (.tail _ (.tail _ (.tail _ (.head _)))) 5).trans rfl; have cb3_6 := (S.out.at (.tail _ (.tail _ (.tail _ (.head _)))) 6).trans rfl)
            | ((with_reducible refine gate_ (.store 26 (.tmp 6) (.tmp 58)) rfl ?_); go_loud (refine put_st 1 rfl 26 (.tmp 6) (.tmp 58) rfl #[.int .u8 ck, .int .i64 cx, .int .i64 cy, .int .i64 cw, .int .i64 ch, .int .i64 cid, .slice (some ⟨gk, 0, none⟩) l.length cg] (j := 0) (u := .agg #[.int .u8 ck, .int .i64 cx, .int .i64 cy, .int .i64 cw, .int .i64 ch, .int .i64 cid, .slice (some ⟨gk, 0, none⟩) l.length cg]) (seg := [.int .u8 ck, .int .i64 cx, .int .i64 cy, .int .i64 cw, .int .i64 ch, .int .i64 cid, .slice (some ⟨gk, 0, none⟩) l.length cg]) S.out ?sA ?sX rfl ?sT ?s1 ?sJ rfl rfl rfl ?_; (case sA => rfl); (case sX => rfl); (case sT => rfl); (case s1 => simp [Value.oneCell']); (case sJ => first | decide | simp); intro w17_ S1; simp only [List.set_cons_zero, List.set_cons_succ] at S1; replace S := Aside0.mk S1; clear S1); clear cb3_0 cb3_1 cb3_2 cb3_3 cb3_4 cb3_5 cb3_6)
            | fail)
          refine bodyPost_ret (results_ct rfl _ _ b6 26 #[.int .u8 ck, .int .i64 cx, .int .i64 cy, .int .i64 cw, .int .i64 ch, .int .i64 cid, .slice (some ⟨gk, 0, none⟩) l.length cg] (0, 0) _ rfl (S.out.blk _ (.tail _ (.head _))) Try.underlying26 rfl (by kernel_rfl)) rfl ?_
          simp only [RPutP, List.length_set]
          exact ⟨_, _, rfl, by have h := S.out.free.outV (b0 := w.heap.size) (.head _); exact h, S.out.below⟩
end Go.Proofs.Ytfdmfgaiblfbhaa.P
/- What is put at a path is there; how large a tree becomes by it. -/
namespace Go.Proofs.Ytfdmfgaiblfbhaa.P
open Go.RowKit Go.Proofs.YtfdmfgaiblfbhaaW.PrintWords Go.Proofs.YtfdmfgaiblfbhaaW.PrintLast Go.Proofs.YtfdmfgaiblfbhaaW.PrintMore
theorem rd_set {l : List S26} {i : Int} (h0 : 0 ≤ i) (h1 : i < (l.length : Int)) (k : S26) : rd_T26 (l.set i.toNat k) i = k := by
  unfold rd_T26
  rw [List.getD_eq_getElem?_getD, List.getElem?_set_self (by omega)]
  rfl
theorem put_at (kid : S26) : ∀ (path : List Int) (c x : S26), putC kid path c = some x → atC x path = some kid := by
  intro path
  induction path with
  | nil => intro c x h; simp only [putC] at h; rw [← Option.some.inj h]; rfl
  | cons i is ih =>
    intro c x h
    simp only [putC] at h
    split at h
    · cases h
    · rename_i hi
      cases hp : putC kid is (rd_T26 c.f3 i) with
      | none => rw [hp] at h; cases h
      | some k =>
        rw [hp] at h
        have h := Option.some.inj h
        subst h
        simp only [atC, List.length_set]
        rw [if_neg hi, rd_set (by omega) (by omega)]
        exact ih _ _ hp
theorem szL_set_le : ∀ (l : List S26) (n : Nat) (k : S26) (m : Nat), n < l.length → sz k ≤ sz (l.getD n z26) + m → szL (l.set n k) ≤ szL l + m := by
  intro l
  induction l with
  | nil => intro n k m h; simp at h
  | cons x xs ih =>
    intro n k m h hk
    cases n with
    | zero => rw [List.set_cons_zero, szL_cons, szL_cons]; simp only [List.getD_cons_zero] at hk; omega
    | succ n => rw [List.set_cons_succ, szL_cons, szL_cons]; have := ih n k m (by simpa using h) (by simpa using hk); omega
theorem put_size (kid : S26) : ∀ (path : List Int) (c x : S26), putC kid path c = some x → sz x ≤ sz c + sz kid := by
  intro path
  induction path with
  | nil => intro c x h; simp only [putC] at h; rw [← Option.some.inj h]; omega
  | cons i is ih =>
    intro c x h
    simp only [putC] at h
    split at h
    · cases h
    · rename_i hi
      cases hp : putC kid is (rd_T26 c.f3 i) with
      | none => rw [hp] at h; cases h
      | some k =>
        rw [hp] at h
        have h := Option.some.inj h
        subst h
        have h1 := ih _ _ hp
        have h2 := szL_set_le c.f3 i.toNat k (sz kid) (by omega) h1
        rw [sz_eq, sz_eq c]
        show 1 + szL (c.f3.set i.toNat k) ≤ _
        omega
end Go.Proofs.Ytfdmfgaiblfbhaa.P
/- The law CellPuts, walked: its ways. Condition: trees whose greatness is told; at most 200 cells each where it goes on. -/
namespace Go.Proofs.Ytfdmfgaiblfbhaa.P
open Go.RowKit Go.Proofs.YtfdmfgaiblfbhaaW.PrintWords Go.Proofs.YtfdmfgaiblfbhaaW.PrintLast Go.Proofs.YtfdmfgaiblfbhaaW.PrintMore
set_option linter.unusedVariables false
set_option linter.unusedSimpArgs false
set_option maxHeartbeats 2000000 in
theorem puts_great (c kid : S26) (path : List Int) (mark : Int) (A : Option Addr) (cc : Nat) (Ak : Option Addr) (ck' : Nat) (B : Option Addr) (cb : Nat) (w : World) (hr : Kd.C k26 w A c.f3.length c.f3) (hc : c.f3.length ≤ cc) (hrk : Kd.C k26 w Ak kid.f3.length kid.f3) (hck : kid.f3.length ≤ ck') (hi : Kd.C (Kd.int .i64) w B path.length path) (hb : path.length ≤ cb) (h1 : ∃ k, sashref05_Great.f k c.f0 c.f1.f0 c.f1.f1 c.f1.f2 c.f1.f3 c.f2 c.f3 = some true) :
    Calls Try.prog 24 #[.agg #[.int .u8 c.f0, .int .i64 c.f1.f0, .int .i64 c.f1.f1, .int .i64 c.f1.f2, .int .i64 c.f1.f3, .int .i64 c.f2, .slice A c.f3.length cc], .agg #[.int .u8 kid.f0, .int .i64 kid.f1.f0, .int .i64 kid.f1.f1, .int .i64 kid.f1.f2, .int .i64 kid.f1.f3, .int .i64 kid.f2, .slice Ak kid.f3.length ck'], .slice B path.length cb, .int .i64 mark] w fun e w' => e = .returned (.bool true) ∧ Below w.heap.size w w' := by
  have S := Aside0.mk (St.start (ts := [(.slice A c.f3.length cc, c.f3), (.slice Ak kid.f3.length ck', kid.f3)]) (b0 := w.heap.size) (w := w) (P := fun k => k < w.heap.size) (fun t ht => by
    rcases List.mem_cons.1 ht with rfl | ht
    · exact Kd.V_mk hc (Kd.C_F k26_heap hr)
    · rw [List.mem_singleton.1 ht]; exact Kd.V_mk hck (Kd.C_F k26_heap hrk)))
  have G1 := Aside0.mk h1
  clear h1
  clear hr hc hrk hck hi hb
  obtain ⟨ck, ⟨cx, cy, cw, ch⟩, cid, l⟩ := c
  obtain ⟨kk, ⟨kx, ky, kw, kh⟩, kid, m⟩ := kid
  simp only [] at S G1 ⊢
  go_enter Try.func24, Try.ntmps24
  go_wp2_with (first
    | ((with_reducible refine gate_dst (N := 4) rfl ?_); refine box_st (N := 4) rfl rfl #[.int .u8 ck, .int .i64 cx, .int .i64 cy, .int .i64 cw, .int .i64 ch, .int .i64 cid, .slice A l.length cc] 26 S.out ?hr ?_; (case hr => first | (go_simp; done) | (go_simp; rfl)); intro b4 w1_ S1; replace S := Aside0.mk S1; clear S1)
    | ((with_reducible refine gate_dst (N := 5) rfl ?_); refine box_st (N := 5) rfl rfl #[.int .u8 kk, .int .i64 kx, .int .i64 ky, .int .i64 kw, .int .i64 kh, .int .i64 kid, .slice Ak m.length ck'] 26 S.out ?hr ?_; (case hr => first | (go_simp; done) | (go_simp; rfl)); intro b5 w2_ S1; replace S := Aside0.mk S1; clear S1; have cb4_0 := (S.out.at (.tail _ (.head _)) 0).trans rfl; have cb4_1 := (S.out.at (.tail _ (.head _)) 1).trans rfl; have cb4_2 := (S.out.at (.tail _ (.head _)) 2).trans rfl; have cb4_3 := (S.out.at (.tail _ (.head _)) 3).trans rfl; have cb4_4 := (S.out.at (.tail _ (.head _)) 4).trans rfl; have cb4_5 := (S.out.at (.tail _ (.head _)) 5).trans rfl; have cb4_6 := (S.out.at (.tail _ (.head _)) 6).trans rfl)
    | ((with_reducible refine gate_dst (N := 19) rfl ?_); refine goesL_ (some 19) rfl rfl Try.func34 (by kernel_rfl) rfl #[.agg #[.int .u8 ck, .int .i64 cx, .int .i64 cy, .int .i64 cw, .int .i64 ch, .int .i64 cid, .slice A l.length cc]] rfl (by (try simp only [List.map_toArray, List.map_cons, List.map_nil]); first | done | rfl) ?_; refine (great_c ⟨ck, ⟨cx, cy, cw, ch⟩, cid, l⟩ true G1.out (S.out.tree _ (.head _))).mono ?_; rintro e w3_ ⟨rfl, hb⟩; refine ⟨_, rfl, ?_⟩; replace S := Aside0.mk (S.out.call hb); clear hb; clear cb4_0 cb4_1 cb4_2 cb4_3 cb4_4 cb4_5 cb4_6)
    | ((with_reducible refine gate_dst (N := 29) rfl ?_); refine goesL_ (some 29) rfl rfl Try.func75 (by kernel_rfl) rfl #[] rfl (by (try simp only [List.map_toArray, List.map_cons, List.map_nil]); first | done | rfl) ?_; refine (sashlaw05_awake.calls true _ rfl).mono ?_; rintro e w4_ ⟨rfl, hb⟩; refine ⟨_, rfl, ?_⟩; replace S := Aside0.mk (S.out.call hb); clear hb)
    | fail)
  go_ret
  exact ⟨rfl, S.out.below⟩
set_option maxHeartbeats 2000000 in
theorem puts_great2 (c kid : S26) (path : List Int) (mark : Int) (A : Option Addr) (cc : Nat) (Ak : Option Addr) (ck' : Nat) (B : Option Addr) (cb : Nat) (w : World) (hr : Kd.C k26 w A c.f3.length c.f3) (hc : c.f3.length ≤ cc) (hrk : Kd.C k26 w Ak kid.f3.length kid.f3) (hck : kid.f3.length ≤ ck') (hi : Kd.C (Kd.int .i64) w B path.length path) (hb : path.length ≤ cb) (h1 : ∃ k, sashref05_Great.f k c.f0 c.f1.f0 c.f1.f1 c.f1.f2 c.f1.f3 c.f2 c.f3 = some false) (h2 : ∃ k, sashref05_Great.f k kid.f0 kid.f1.f0 kid.f1.f1 kid.f1.f2 kid.f1.f3 kid.f2 kid.f3 = some true) :
    Calls Try.prog 24 #[.agg #[.int .u8 c.f0, .int .i64 c.f1.f0, .int .i64 c.f1.f1, .int .i64 c.f1.f2, .int .i64 c.f1.f3, .int .i64 c.f2, .slice A c.f3.length cc], .agg #[.int .u8 kid.f0, .int .i64 kid.f1.f0, .int .i64 kid.f1.f1, .int .i64 kid.f1.f2, .int .i64 kid.f1.f3, .int .i64 kid.f2, .slice Ak kid.f3.length ck'], .slice B path.length cb, .int .i64 mark] w fun e w' => e = .returned (.bool true) ∧ Below w.heap.size w w' := by
  have S := Aside0.mk (St.start (ts := [(.slice A c.f3.length cc, c.f3), (.slice Ak kid.f3.length ck', kid.f3)]) (b0 := w.heap.size) (w := w) (P := fun k => k < w.heap.size) (fun t ht => by
    rcases List.mem_cons.1 ht with rfl | ht
    · exact Kd.V_mk hc (Kd.C_F k26_heap hr)
    · rw [List.mem_singleton.1 ht]; exact Kd.V_mk hck (Kd.C_F k26_heap hrk)))
  have G1 := Aside0.mk h1
  have G2 := Aside0.mk h2
  clear h1 h2
  clear hr hc hrk hck hi hb
  obtain ⟨ck, ⟨cx, cy, cw, ch⟩, cid, l⟩ := c
  obtain ⟨kk, ⟨kx, ky, kw, kh⟩, kid, m⟩ := kid
  simp only [] at S G1 G2 ⊢
  go_enter Try.func24, Try.ntmps24
  go_wp2_with (first
    | ((with_reducible refine gate_dst (N := 4) rfl ?_); refine box_st (N := 4) rfl rfl #[.int .u8 ck, .int .i64 cx, .int .i64 cy, .int .i64 cw, .int .i64 ch, .int .i64 cid, .slice A l.length cc] 26 S.out ?hr ?_; (case hr => first | (go_simp; done) | (go_simp; rfl)); intro b4 w1_ S1; replace S := Aside0.mk S1; clear S1)
    | ((with_reducible refine gate_dst (N := 5) rfl ?_); refine box_st (N := 5) rfl rfl #[.int .u8 kk, .int .i64 kx, .int .i64 ky, .int .i64 kw, .int .i64 kh, .int .i64 kid, .slice Ak m.length ck'] 26 S.out ?hr ?_; (case hr => first | (go_simp; done) | (go_simp; rfl)); intro b5 w2_ S1; replace S := Aside0.mk S1; clear S1; have cb4_0 := (S.out.at (.tail _ (.head _)) 0).trans rfl; have cb4_1 := (S.out.at (.tail _ (.head _)) 1).trans rfl; have cb4_2 := (S.out.at (.tail _ (.head _)) 2).trans rfl; have cb4_3 := (S.out.at (.tail _ (.head _)) 3).trans rfl; have cb4_4 := (S.out.at (.tail _ (.head _)) 4).trans rfl; have cb4_5 := (S.out.at (.tail _ (.head _)) 5).trans rfl; have cb4_6 := (S.out.at (.tail _ (.head _)) 6).trans rfl)
    | ((with_reducible refine gate_dst (N := 19) rfl ?_); refine goesL_ (some 19) rfl rfl Try.func34 (by kernel_rfl) rfl #[.agg #[.int .u8 ck, .int .i64 cx, .int .i64 cy, .int .i64 cw, .int .i64 ch, .int .i64 cid, .slice A l.length cc]] rfl (by (try simp only [List.map_toArray, List.map_cons, List.map_nil]); first | done | rfl) ?_; refine (great_c ⟨ck, ⟨cx, cy, cw, ch⟩, cid, l⟩ false G1.out (S.out.tree _ (.head _))).mono ?_; rintro e w3_ ⟨rfl, hb⟩; refine ⟨_, rfl, ?_⟩; replace S := Aside0.mk (S.out.call hb); clear hb; clear cb4_0 cb4_1 cb4_2 cb4_3 cb4_4 cb4_5 cb4_6; have cb5_0 := (S.out.at (.head _) 0).trans rfl; have cb5_1 := (S.out.at (.head _) 1).trans rfl; have cb5_2 := (S.out.at (.head _) 2).trans rfl; have cb5_3 := (S.out.at (.head _) 3).trans rfl; have cb5_4 := (S.out.at (.head _) 4).trans rfl; have cb5_5 := (S.out.at (.head _) 5).trans rfl; have cb5_6 := (S.out.at (.head _) 6).trans rfl)
    | ((with_reducible refine gate_dst (N := 22) rfl ?_); (refine gate_guard (by rfl) ?_; dsimp only); refine goesL_ (some 22) rfl rfl Try.func34 (by kernel_rfl) rfl #[.agg #[.int .u8 kk, .int .i64 kx, .int .i64 ky, .int .i64 kw, .int .i64 kh, .int .i64 kid, .slice Ak m.length ck']] rfl (by (try simp only [List.map_toArray, List.map_cons, List.map_nil]); first | done | rfl) ?_; refine (great_c ⟨kk, ⟨kx, ky, kw, kh⟩, kid, m⟩ true G2.out (S.out.tree _ (.tail _ (.head _)))).mono ?_; rintro e w4_ ⟨rfl, hb⟩; refine ⟨_, rfl, ?_⟩; replace S := Aside0.mk (S.out.call hb); clear hb; clear cb5_0 cb5_1 cb5_2 cb5_3 cb5_4 cb5_5 cb5_6)
    | ((with_reducible refine gate_dst (N := 29) rfl ?_); refine goesL_ (some 29) rfl rfl Try.func75 (by kernel_rfl) rfl #[] rfl (by (try simp only [List.map_toArray, List.map_cons, List.map_nil]); first | done | rfl) ?_; refine (sashlaw05_awake.calls true _ rfl).mono ?_; rintro e w5_ ⟨rfl, hb⟩; refine ⟨_, rfl, ?_⟩; replace S := Aside0.mk (S.out.call hb); clear hb)
    | fail)
  go_ret
  exact ⟨rfl, S.out.below⟩
set_option maxHeartbeats 2000000 in
theorem puts_long (c kid : S26) (path : List Int) (mark : Int) (A : Option Addr) (cc : Nat) (Ak : Option Addr) (ck' : Nat) (B : Option Addr) (cb : Nat) (w : World) (hr : Kd.C k26 w A c.f3.length c.f3) (hc : c.f3.length ≤ cc) (hrk : Kd.C k26 w Ak kid.f3.length kid.f3) (hck : kid.f3.length ≤ ck') (hi : Kd.C (Kd.int .i64) w B path.length path) (hb : path.length ≤ cb) (h1 : ∃ k, sashref05_Great.f k c.f0 c.f1.f0 c.f1.f1 c.f1.f2 c.f1.f3 c.f2 c.f3 = some false) (h2 : ∃ k, sashref05_Great.f k kid.f0 kid.f1.f0 kid.f1.f1 kid.f1.f2 kid.f1.f3 kid.f2 kid.f3 = some false) (h3 : 50 < path.length) :
    Calls Try.prog 24 #[.agg #[.int .u8 c.f0, .int .i64 c.f1.f0, .int .i64 c.f1.f1, .int .i64 c.f1.f2, .int .i64 c.f1.f3, .int .i64 c.f2, .slice A c.f3.length cc], .agg #[.int .u8 kid.f0, .int .i64 kid.f1.f0, .int .i64 kid.f1.f1, .int .i64 kid.f1.f2, .int .i64 kid.f1.f3, .int .i64 kid.f2, .slice Ak kid.f3.length ck'], .slice B path.length cb, .int .i64 mark] w fun e w' => e = .returned (.bool true) ∧ Below w.heap.size w w' := by
  have S := Aside0.mk (St.start (ts := [(.slice A c.f3.length cc, c.f3), (.slice Ak kid.f3.length ck', kid.f3)]) (b0 := w.heap.size) (w := w) (P := fun k => k < w.heap.size) (fun t ht => by
    rcases List.mem_cons.1 ht with rfl | ht
    · exact Kd.V_mk hc (Kd.C_F k26_heap hr)
    · rw [List.mem_singleton.1 ht]; exact Kd.V_mk hck (Kd.C_F k26_heap hrk)))
  have G1 := Aside0.mk h1
  have G2 := Aside0.mk h2
  clear h1 h2
  have h3b : decide ((path.length : Int) > 50) = true := decide_eq_true (by omega)
  have h3c : decide (50 < (path.length : Int)) = true := decide_eq_true (by omega)
  clear hr hc hrk hck hi hb
  obtain ⟨ck, ⟨cx, cy, cw, ch⟩, cid, l⟩ := c
  obtain ⟨kk, ⟨kx, ky, kw, kh⟩, kid, m⟩ := kid
  simp only [] at S G1 G2 ⊢
  go_enter Try.func24, Try.ntmps24
  go_wp2_with (first
    | ((with_reducible refine gate_dst (N := 4) rfl ?_); refine box_st (N := 4) rfl rfl #[.int .u8 ck, .int .i64 cx, .int .i64 cy, .int .i64 cw, .int .i64 ch, .int .i64 cid, .slice A l.length cc] 26 S.out ?hr ?_; (case hr => first | (go_simp; done) | (go_simp; rfl)); intro b4 w1_ S1; replace S := Aside0.mk S1; clear S1)
    | ((with_reducible refine gate_dst (N := 5) rfl ?_); refine box_st (N := 5) rfl rfl #[.int .u8 kk, .int .i64 kx, .int .i64 ky, .int .i64 kw, .int .i64 kh, .int .i64 kid, .slice Ak m.length ck'] 26 S.out ?hr ?_; (case hr => first | (go_simp; done) | (go_simp; rfl)); intro b5 w2_ S1; replace S := Aside0.mk S1; clear S1; have cb4_0 := (S.out.at (.tail _ (.head _)) 0).trans rfl; have cb4_1 := (S.out.at (.tail _ (.head _)) 1).trans rfl; have cb4_2 := (S.out.at (.tail _ (.head _)) 2).trans rfl; have cb4_3 := (S.out.at (.tail _ (.head _)) 3).trans rfl; have cb4_4 := (S.out.at (.tail _ (.head _)) 4).trans rfl; have cb4_5 := (S.out.at (.tail _ (.head _)) 5).trans rfl; have cb4_6 := (S.out.at (.tail _ (.head _)) 6).trans rfl)
    | ((with_reducible refine gate_dst (N := 19) rfl ?_); refine goesL_ (some 19) rfl rfl Try.func34 (by kernel_rfl) rfl #[.agg #[.int .u8 ck, .int .i64 cx, .int .i64 cy, .int .i64 cw, .int .i64 ch, .int .i64 cid, .slice A l.length cc]] rfl (by (try simp only [List.map_toArray, List.map_cons, List.map_nil]); first | done | rfl) ?_; refine (great_c ⟨ck, ⟨cx, cy, cw, ch⟩, cid, l⟩ false G1.out (S.out.tree _ (.head _))).mono ?_; rintro e w3_ ⟨rfl, hb⟩; refine ⟨_, rfl, ?_⟩; replace S := Aside0.mk (S.out.call hb); clear hb; clear cb4_0 cb4_1 cb4_2 cb4_3 cb4_4 cb4_5 cb4_6; have cb5_0 := (S.out.at (.head _) 0).trans rfl; have cb5_1 := (S.out.at (.head _) 1).trans rfl; have cb5_2 := (S.out.at (.head _) 2).trans rfl; have cb5_3 := (S.out.at (.head _) 3).trans rfl; have cb5_4 := (S.out.at (.head _) 4).trans rfl; have cb5_5 := (S.out.at (.head _) 5).trans rfl; have cb5_6 := (S.out.at (.head _) 6).trans rfl)
    | ((with_reducible refine gate_dst (N := 22) rfl ?_); (refine gate_guard (by rfl) ?_; dsimp only); refine goesL_ (some 22) rfl rfl Try.func34 (by kernel_rfl) rfl #[.agg #[.int .u8 kk, .int .i64 kx, .int .i64 ky, .int .i64 kw, .int .i64 kh, .int .i64 kid, .slice Ak m.length ck']] rfl (by (try simp only [List.map_toArray, List.map_cons, List.map_nil]); first | done | rfl) ?_; refine (great_c ⟨kk, ⟨kx, ky, kw, kh⟩, kid, m⟩ false G2.out (S.out.tree _ (.tail _ (.head _)))).mono ?_; rintro e w4_ ⟨rfl, hb⟩; refine ⟨_, rfl, ?_⟩; replace S := Aside0.mk (S.out.call hb); clear hb; clear cb5_0 cb5_1 cb5_2 cb5_3 cb5_4 cb5_5 cb5_6)
    | ((with_reducible refine gate_dst (N := 29) rfl ?_); refine goesL_ (some 29) rfl rfl Try.func75 (by kernel_rfl) rfl #[] rfl (by (try simp only [List.map_toArray, List.map_cons, List.map_nil]); first | done | rfl) ?_; refine (sashlaw05_awake.calls true _ rfl).mono ?_; rintro e w5_ ⟨rfl, hb⟩; refine ⟨_, rfl, ?_⟩; replace S := Aside0.mk (S.out.call hb); clear hb)
    | fail)
  go_ret
  exact ⟨rfl, S.out.below⟩
set_option maxHeartbeats 4000000 in
set_option maxRecDepth 100000 in
theorem puts_none (c kid : S26) (path : List Int) (mark : Int) (A : Option Addr) (cc : Nat) (Ak : Option Addr) (ck' : Nat) (B : Option Addr) (cb : Nat) (w : World) (hr : Kd.C k26 w A c.f3.length c.f3) (hc : c.f3.length ≤ cc) (hrk : Kd.C k26 w Ak kid.f3.length kid.f3) (hck : kid.f3.length ≤ ck') (hi : Kd.C (Kd.int .i64) w B path.length path) (hb : path.length ≤ cb) (h1 : ∃ k, sashref05_Great.f k c.f0 c.f1.f0 c.f1.f1 c.f1.f2 c.f1.f3 c.f2 c.f3 = some false) (h2 : ∃ k, sashref05_Great.f k kid.f0 kid.f1.f0 kid.f1.f1 kid.f1.f2 kid.f1.f3 kid.f2 kid.f3 = some false) (h3 : ¬ 50 < path.length) (hz : sz c ≤ 200) (hzk : sz kid ≤ 200) (hp : putC kid path c = none) :
    Calls Try.prog 24 #[.agg #[.int .u8 c.f0, .int .i64 c.f1.f0, .int .i64 c.f1.f1, .int .i64 c.f1.f2, .int .i64 c.f1.f3, .int .i64 c.f2, .slice A c.f3.length cc], .agg #[.int .u8 kid.f0, .int .i64 kid.f1.f0, .int .i64 kid.f1.f1, .int .i64 kid.f1.f2, .int .i64 kid.f1.f3, .int .i64 kid.f2, .slice Ak kid.f3.length ck'], .slice B path.length cb, .int .i64 mark] w fun e w' => e = .returned (.bool true) ∧ Below w.heap.size w w' := by
  have S := Aside0.mk (St.start (ts := [(.slice A c.f3.length cc, c.f3), (.slice Ak kid.f3.length ck', kid.f3)]) (b0 := w.heap.size) (w := w) (P := fun k => k < w.heap.size) (fun t ht => by
    rcases List.mem_cons.1 ht with rfl | ht
    · exact Kd.V_mk hc (Kd.C_F k26_heap hr)
    · rw [List.mem_singleton.1 ht]; exact Kd.V_mk hck (Kd.C_F k26_heap hrk)))
  have G1 := Aside0.mk h1
  have G2 := Aside0.mk h2
  have HI := Aside0.mk hi
  have LI := Aside0.mk hb
  have HKZ := Aside0.mk (show sz kid ≤ 1048576 by omega)
  have HPL := Aside0.mk (show path.length ≤ 1048576 by omega)
  have HP2 := fun P W h1 h2 h3 h4 => put102 path c kid P A cc Ak ck' B cb W (by omega) (by omega) h1 h2 h3 h4
  have HP3 := fun P W h1 h2 h3 h4 => put103 path c kid P A cc Ak ck' B cb W (by omega) h1 h2 h3 h4
  simp only [hp] at HP2 HP3
  have put102_ := Aside0.mk HP2
  have put103_ := Aside0.mk HP3
  have HAN := Aside0.mk (show atC z26 path = none by cases path with | nil => simp [putC] at hp | cons i is => simp only [atC]; rw [if_pos (by simp [z26]; omega)])
  have h3b : decide ((path.length : Int) > 50) = false := decide_eq_false (by omega)
  have h3c : decide (50 < (path.length : Int)) = false := decide_eq_false (by omega)
  clear h1 h2 hr hc hrk hck hi hb hz hzk HP2 HP3 hp h3
  obtain ⟨ck, ⟨cx, cy, cw, ch⟩, cid, l⟩ := c
  obtain ⟨kk, ⟨kx, ky, kw, kh⟩, kid, m⟩ := kid
  simp only [] at S G1 G2 HKZ put102_ put103_ ⊢
  go_enter Try.func24, Try.ntmps24
  go_wp2_with (first
    | ((with_reducible refine gate_dst (N := 4) rfl ?_); refine box_st (N := 4) rfl rfl #[.int .u8 ck, .int .i64 cx, .int .i64 cy, .int .i64 cw, .int .i64 ch, .int .i64 cid, .slice A l.length cc] 26 S.out ?hr ?_; (case hr => first | (go_simp; done) | (go_simp; rfl)); intro b4 w1_ S1; replace S := Aside0.mk S1; clear S1)
    | ((with_reducible refine gate_dst (N := 5) rfl ?_); refine box_st (N := 5) rfl rfl #[.int .u8 kk, .int .i64 kx, .int .i64 ky, .int .i64 kw, .int .i64 kh, .int .i64 kid, .slice Ak m.length ck'] 26 S.out ?hr ?_; (case hr => first | (go_simp; done) | (go_simp; rfl)); intro b5 w2_ S1; replace S := Aside0.mk S1; clear S1; have cb4_0 := (S.out.at (.tail _ (.head _)) 0).trans rfl; have cb4_1 := (S.out.at (.tail _ (.head _)) 1).trans rfl; have cb4_2 := (S.out.at (.tail _ (.head _)) 2).trans rfl; have cb4_3 := (S.out.at (.tail _ (.head _)) 3).trans rfl; have cb4_4 := (S.out.at (.tail _ (.head _)) 4).trans rfl; have cb4_5 := (S.out.at (.tail _ (.head _)) 5).trans rfl; have cb4_6 := (S.out.at (.tail _ (.head _)) 6).trans rfl)
    | ((with_reducible refine gate_dst (N := 19) rfl ?_); refine goesL_ (some 19) rfl rfl Try.func34 (by kernel_rfl) rfl #[.agg #[.int .u8 ck, .int .i64 cx, .int .i64 cy, .int .i64 cw, .int .i64 ch, .int .i64 cid, .slice A l.length cc]] rfl (by (try simp only [List.map_toArray, List.map_cons, List.map_nil]); first | done | rfl) ?_; refine (great_c ⟨ck, ⟨cx, cy, cw, ch⟩, cid, l⟩ false G1.out (S.out.tree _ (.head _))).mono ?_; rintro e w3_ ⟨rfl, hb⟩; refine ⟨_, rfl, ?_⟩; replace S := Aside0.mk (S.out.call hb); clear hb; clear cb4_0 cb4_1 cb4_2 cb4_3 cb4_4 cb4_5 cb4_6; have cb5_0 := (S.out.at (.head _) 0).trans rfl; have cb5_1 := (S.out.at (.head _) 1).trans rfl; have cb5_2 := (S.out.at (.head _) 2).trans rfl; have cb5_3 := (S.out.at (.head _) 3).trans rfl; have cb5_4 := (S.out.at (.head _) 4).trans rfl; have cb5_5 := (S.out.at (.head _) 5).trans rfl; have cb5_6 := (S.out.at (.head _) 6).trans rfl)
    | ((with_reducible refine gate_dst (N := 22) rfl ?_); (refine gate_guard (by rfl) ?_; dsimp only); refine goesL_ (some 22) rfl rfl Try.func34 (by kernel_rfl) rfl #[.agg #[.int .u8 kk, .int .i64 kx, .int .i64 ky, .int .i64 kw, .int .i64 kh, .int .i64 kid, .slice Ak m.length ck']] rfl (by (try simp only [List.map_toArray, List.map_cons, List.map_nil]); first | done | rfl) ?_; refine (great_c ⟨kk, ⟨kx, ky, kw, kh⟩, kid, m⟩ false G2.out (S.out.tree _ (.tail _ (.head _)))).mono ?_; rintro e w4_ ⟨rfl, hb⟩; refine ⟨_, rfl, ?_⟩; replace S := Aside0.mk (S.out.call hb); clear hb; clear cb5_0 cb5_1 cb5_2 cb5_3 cb5_4 cb5_5 cb5_6; have cb4_0 := (S.out.at (.tail _ (.head _)) 0).trans rfl; have cb4_1 := (S.out.at (.tail _ (.head _)) 1).trans rfl; have cb4_2 := (S.out.at (.tail _ (.head _)) 2).trans rfl; have cb4_3 := (S.out.at (.tail _ (.head _)) 3).trans rfl; have cb4_4 := (S.out.at (.tail _ (.head _)) 4).trans rfl; have cb4_5 := (S.out.at (.tail _ (.head _)) 5).trans rfl; have cb4_6 := (S.out.at (.tail _ (.head _)) 6).trans rfl; have cb5_0 := (S.out.at (.head _) 0).trans rfl; have cb5_1 := (S.out.at (.head _) 1).trans rfl; have cb5_2 := (S.out.at (.head _) 2).trans rfl; have cb5_3 := (S.out.at (.head _) 3).trans rfl; have cb5_4 := (S.out.at (.head _) 4).trans rfl; have cb5_5 := (S.out.at (.head _) 5).trans rfl; have cb5_6 := (S.out.at (.head _) 6).trans rfl)
    | ((with_reducible refine gate_dst (N := 34) rfl ?_); refine goesL_ (some 34) rfl rfl Try.func102 (by kernel_rfl) rfl #[.agg #[.int .u8 ck, .int .i64 cx, .int .i64 cy, .int .i64 cw, .int .i64 ch, .int .i64 cid, .slice A l.length cc], .agg #[.int .u8 kk, .int .i64 kx, .int .i64 ky, .int .i64 kw, .int .i64 kh, .int .i64 kid, .slice Ak m.length ck'], .slice B path.length cb] rfl (by (try simp only [List.map_toArray, List.map_cons, List.map_nil]); first | done | rfl) ?_; refine (put102_.out _ _ (V_any (S.out.tree _ (.head _))) (V_any (S.out.tree _ (.tail _ (.head _)))) (Kd.C_below HI.out S.out.below) LI.out).mono ?_; rintro e w5_ ⟨rfl, hb⟩; refine ⟨_, rfl, ?_⟩; replace S := Aside0.mk (S.out.call hb); clear hb; clear cb4_0 cb4_1 cb4_2 cb4_3 cb4_4 cb4_5 cb4_6 cb5_0 cb5_1 cb5_2 cb5_3 cb5_4 cb5_5 cb5_6)
    | ((with_reducible refine gate_dst (N := 9) rfl ?_); refine box_st (N := 9) rfl rfl #[.int .u8 0, .int .i64 0, .int .i64 0, .int .i64 0, .int .i64 0, .int .i64 0, .slice none 0 0] 26 S.out ?hr ?_; (case hr => first | (go_simp; done) | (go_simp; rfl)); intro b9 w6_ S1; replace S := Aside0.mk S1; clear S1)
    | ((with_reducible refine gate_ (.store 26 (.tmp 9) (.tmp 35)) rfl ?_); go_loud (refine put_st 0 rfl 26 (.tmp 9) (.tmp 35) rfl #[.int .u8 0, .int .i64 0, .int .i64 0, .int .i64 0, .int .i64 0, .int .i64 0, .slice none 0 0] (j := 0) (u := .agg #[.int .u8 0, .int .i64 0, .int .i64 0, .int .i64 0, .int .i64 0, .int .i64 0, .slice none 0 0]) (seg := [.int .u8 0, .int .i64 0, .int .i64 0, .int .i64 0, .int .i64 0, .int .i64 0, .slice none 0 0]) S.out ?sA ?sX rfl ?sT ?s1 ?sJ rfl rfl rfl ?_; (case sA => rfl); (case sX => rfl); (case sT => rfl); (case s1 => simp [Value.oneCell']); (case sJ => first | decide | simp); intro w7_ S1; simp only [List.set_cons_zero, List.set_cons_succ] at S1; replace S := Aside0.mk S1; clear S1); have cb4_0 := (S.out.at (.tail _ (.tail _ (.head _))) 0).trans rfl; have cb4_1 := (S.out.at (.tail _ (.tail _ (.head _))) 1).trans rfl; have cb4_2 := (S.out.at (.tail _ (.tail _ (.head _))) 2).trans rfl; have cb4_3 := (S.out.at (.tail _ (.tail _ (.head _))) 3).trans rfl; have cb4_4 := (S.out.at (.tail _ (.tail _ (.head _))) 4).trans rfl; have cb4_5 := (S.out.at (.tail _ (.tail _ (.head _))) 5).trans rfl; have cb4_6 := (S.out.at (.tail _ (.tail _ (.head _))) 6).trans rfl; have cb5_0 := (S.out.at (.tail _ (.head _)) 0).trans rfl; have cb5_1 := (S.out.at (.tail _ (.head _)) 1).trans rfl; have cb5_2 := (S.out.at (.tail _ (.head _)) 2).trans rfl; have cb5_3 := (S.out.at (.tail _ (.head _)) 3).trans rfl; have cb5_4 := (S.out.at (.tail _ (.head _)) 4).trans rfl; have cb5_5 := (S.out.at (.tail _ (.head _)) 5).trans rfl; have cb5_6 := (S.out.at (.tail _ (.head _)) 6).trans rfl)
    | ((with_reducible refine gate_dst (N := 41) rfl ?_); refine goesL_ (some 41) rfl rfl Try.func103 (by kernel_rfl) rfl #[.agg #[.int .u8 ck, .int .i64 cx, .int .i64 cy, .int .i64 cw, .int .i64 ch, .int .i64 cid, .slice A l.length cc], .agg #[.int .u8 kk, .int .i64 kx, .int .i64 ky, .int .i64 kw, .int .i64 kh, .int .i64 kid, .slice Ak m.length ck'], .slice B path.length cb] rfl (by (try simp only [List.map_toArray, List.map_cons, List.map_nil]); first | done | rfl) ?_; refine (put103_.out _ _ (V_any (S.out.tree _ (.head _))) (V_any (S.out.tree _ (.tail _ (.head _)))) (Kd.C_below HI.out S.out.below) LI.out).mono ?_; rintro e w8_ ⟨rfl, hb⟩; refine ⟨_, rfl, ?_⟩; replace S := Aside0.mk (S.out.call hb); clear hb; clear cb4_0 cb4_1 cb4_2 cb4_3 cb4_4 cb4_5 cb4_6 cb5_0 cb5_1 cb5_2 cb5_3 cb5_4 cb5_5 cb5_6)
    | ((with_reducible refine gate_dst (N := 11) rfl ?_); refine box_st (N := 11) rfl rfl #[.int .u8 0, .int .i64 0, .int .i64 0, .int .i64 0, .int .i64 0, .int .i64 0, .slice none 0 0] 26 S.out ?hr ?_; (case hr => first | (go_simp; done) | (go_simp; rfl)); intro b11 w9_ S1; replace S := Aside0.mk S1; clear S1)
    | ((with_reducible refine gate_ (.store 26 (.tmp 11) (.tmp 42)) rfl ?_); go_loud (refine put_st 0 rfl 26 (.tmp 11) (.tmp 42) rfl #[.int .u8 0, .int .i64 0, .int .i64 0, .int .i64 0, .int .i64 0, .int .i64 0, .slice none 0 0] (j := 0) (u := .agg #[.int .u8 0, .int .i64 0, .int .i64 0, .int .i64 0, .int .i64 0, .int .i64 0, .slice none 0 0]) (seg := [.int .u8 0, .int .i64 0, .int .i64 0, .int .i64 0, .int .i64 0, .int .i64 0, .slice none 0 0]) S.out ?sA ?sX rfl ?sT ?s1 ?sJ rfl rfl rfl ?_; (case sA => rfl); (case sX => rfl); (case sT => rfl); (case s1 => simp [Value.oneCell']); (case sJ => first | decide | simp); intro w10_ S1; simp only [List.set_cons_zero, List.set_cons_succ] at S1; replace S := Aside0.mk S1; clear S1); have cb9_0 := (S.out.at (.tail _ (.head _)) 0).trans rfl; have cb9_1 := (S.out.at (.tail _ (.head _)) 1).trans rfl; have cb9_2 := (S.out.at (.tail _ (.head _)) 2).trans rfl; have cb9_3 := (S.out.at (.tail _ (.head _)) 3).trans rfl; have cb9_4 := (S.out.at (.tail _ (.head _)) 4).trans rfl; have cb9_5 := (S.out.at (.tail _ (.head _)) 5).trans rfl; have cb9_6 := (S.out.at (.tail _ (.head _)) 6).trans rfl; have cb11_0 := (S.out.at (.head _) 0).trans rfl; have cb11_1 := (S.out.at (.head _) 1).trans rfl; have cb11_2 := (S.out.at (.head _) 2).trans rfl; have cb11_3 := (S.out.at (.head _) 3).trans rfl; have cb11_4 := (S.out.at (.head _) 4).trans rfl; have cb11_5 := (S.out.at (.head _) 5).trans rfl; have cb11_6 := (S.out.at (.head _) 6).trans rfl)
    | ((with_reducible refine gate_dst (N := 50) rfl ?_); (refine gate_guard (by rfl) ?_; dsimp only); refine goesL_ (some 50) rfl rfl Try.func64 (by kernel_rfl) rfl #[.agg #[.int .u8 0, .int .i64 0, .int .i64 0, .int .i64 0, .int .i64 0, .int .i64 0, .slice none 0 0], .agg #[.int .u8 0, .int .i64 0, .int .i64 0, .int .i64 0, .int .i64 0, .int .i64 0, .slice none 0 0]] rfl (by (try simp only [List.map_toArray, List.map_cons, List.map_nil]); first | done | rfl) ?_; refine (same_t z26 (by decide) (Kd.V_nil k26 26 _ 0 (fun _ => True)) (Kd.V_nil k26 26 _ 0 (fun _ => True))).mono ?_; rintro e w11_ ⟨rfl, hb⟩; refine ⟨_, rfl, ?_⟩; replace S := Aside0.mk (S.out.call hb); clear hb; clear cb9_0 cb9_1 cb9_2 cb9_3 cb9_4 cb9_5 cb9_6 cb11_0 cb11_1 cb11_2 cb11_3 cb11_4 cb11_5 cb11_6; have cb9_0 := (S.out.at (.tail _ (.head _)) 0).trans rfl; have cb9_1 := (S.out.at (.tail _ (.head _)) 1).trans rfl; have cb9_2 := (S.out.at (.tail _ (.head _)) 2).trans rfl; have cb9_3 := (S.out.at (.tail _ (.head _)) 3).trans rfl; have cb9_4 := (S.out.at (.tail _ (.head _)) 4).trans rfl; have cb9_5 := (S.out.at (.tail _ (.head _)) 5).trans rfl; have cb9_6 := (S.out.at (.tail _ (.head _)) 6).trans rfl)
    | ((with_reducible refine gate_dst (N := 56) rfl ?_); refine goesL_ (some 56) rfl rfl Try.func91 (by kernel_rfl) rfl #[.agg #[.int .u8 0, .int .i64 0, .int .i64 0, .int .i64 0, .int .i64 0, .int .i64 0, .slice none 0 0], .slice B path.length cb] rfl (by (try simp only [List.map_toArray, List.map_cons, List.map_nil]); first | done | rfl) ?_; refine (at_none z26 path HAN.out HPL.out (by decide) (Kd.V_nil k26 26 _ 0 (fun _ => True)) (Kd.C_below HI.out S.out.below) LI.out).mono ?_; rintro e w12_ ⟨Ab, cb', rfl, h1, hb⟩; refine ⟨_, rfl, ?_⟩; clear h1; replace S := Aside0.mk (S.out.call hb); clear hb; clear cb9_0 cb9_1 cb9_2 cb9_3 cb9_4 cb9_5 cb9_6)
    | ((with_reducible refine gate_dst (N := 13) rfl ?_); refine box_st (N := 13) rfl rfl #[.int .u8 0, .int .i64 0, .int .i64 0, .int .i64 0, .int .i64 0, .int .i64 0, .slice none 0 0] 26 S.out ?hr ?_; (case hr => first | (go_simp; done) | (go_simp; rfl)); intro b13 w13_ S1; replace S := Aside0.mk S1; clear S1)
    | ((with_reducible refine gate_ (.store 26 (.tmp 13) (.tmp 57)) rfl ?_); go_loud (refine put_st 0 rfl 26 (.tmp 13) (.tmp 57) rfl #[.int .u8 0, .int .i64 0, .int .i64 0, .int .i64 0, .int .i64 0, .int .i64 0, .slice Ab 0 cb'] (j := 0) (u := .agg #[.int .u8 0, .int .i64 0, .int .i64 0, .int .i64 0, .int .i64 0, .int .i64 0, .slice Ab 0 cb']) (seg := [.int .u8 0, .int .i64 0, .int .i64 0, .int .i64 0, .int .i64 0, .int .i64 0, .slice Ab 0 cb']) S.out ?sA ?sX rfl ?sT ?s1 ?sJ rfl rfl rfl ?_; (case sA => rfl); (case sX => rfl); (case sT => rfl); (case s1 => simp [Value.oneCell']); (case sJ => first | decide | simp); intro w14_ S1; simp only [List.set_cons_zero, List.set_cons_succ] at S1; replace S := Aside0.mk S1; clear S1))
    | fail)
  go_loopg [15] 0 (fun gg v15 wr => v15 = .int .i64 0 ∧ Aside0 (St w (fun k => k < w.heap.size) [(b13, .cells #[.int .u8 0, .int .i64 0, .int .i64 0, .int .i64 0, .int .i64 0, .int .i64 0, .slice Ab 0 cb'] 26 (0, 0)), (b11, .cells #[.int .u8 0, .int .i64 0, .int .i64 0, .int .i64 0, .int .i64 0, .int .i64 0, .slice none 0 0] 26 (0, 0)), (b9, .cells #[.int .u8 0, .int .i64 0, .int .i64 0, .int .i64 0, .int .i64 0, .int .i64 0, .slice none 0 0] 26 (0, 0)), (b5, .cells #[.int .u8 kk, .int .i64 kx, .int .i64 ky, .int .i64 kw, .int .i64 kh, .int .i64 kid, .slice Ak m.length ck'] 26 (0, 0)), (b4, .cells #[.int .u8 ck, .int .i64 cx, .int .i64 cy, .int .i64 cw, .int .i64 ch, .int .i64 cid, .slice A l.length cc] 26 (0, 0))] [] [(.slice A l.length cc, l), (.slice Ak m.length ck', m)] [] wr))
  case atStart => exact ⟨rfl, S⟩
  case round =>
    clear S
    obtain ⟨rfl, S⟩ := hrel
    have cb9_6 := (S.out.at (.tail _ (.tail _ (.head _))) 6).trans rfl
    have cb4_0 := (S.out.at (.tail _ (.tail _ (.tail _ (.tail _ (.head _))))) 0).trans rfl
    have cb4_1 := (S.out.at (.tail _ (.tail _ (.tail _ (.tail _ (.head _))))) 1).trans rfl
    have cb4_2 := (S.out.at (.tail _ (.tail _ (.tail _ (.tail _ (.head _))))) 2).trans rfl
    have cb4_3 := (S.out.at (.tail _ (.tail _ (.tail _ (.tail _ (.head _))))) 3).trans rfl
    have cb4_4 := (S.out.at (.tail _ (.tail _ (.tail _ (.tail _ (.head _))))) 4).trans rfl
    have cb4_5 := (S.out.at (.tail _ (.tail _ (.tail _ (.tail _ (.head _))))) 5).trans rfl
    have cb4_6 := (S.out.at (.tail _ (.tail _ (.tail _ (.tail _ (.head _))))) 6).trans rfl
    have cb5_0 := (S.out.at (.tail _ (.tail _ (.tail _ (.head _)))) 0).trans rfl
    have cb5_1 := (S.out.at (.tail _ (.tail _ (.tail _ (.head _)))) 1).trans rfl
    have cb5_2 := (S.out.at (.tail _ (.tail _ (.tail _ (.head _)))) 2).trans rfl
    have cb5_3 := (S.out.at (.tail _ (.tail _ (.tail _ (.head _)))) 3).trans rfl
    have cb5_4 := (S.out.at (.tail _ (.tail _ (.tail _ (.head _)))) 4).trans rfl
    have cb5_5 := (S.out.at (.tail _ (.tail _ (.tail _ (.head _)))) 5).trans rfl
    have cb5_6 := (S.out.at (.tail _ (.tail _ (.tail _ (.head _)))) 6).trans rfl
    go_wp2_with (first
      | ((with_reducible refine gate_dst (N := 94) rfl ?_); refine goesL_ (some 94) rfl rfl Try.func103 (by kernel_rfl) rfl #[.agg #[.int .u8 ck, .int .i64 cx, .int .i64 cy, .int .i64 cw, .int .i64 ch, .int .i64 cid, .slice A l.length cc], .agg #[.int .u8 kk, .int .i64 kx, .int .i64 ky, .int .i64 kw, .int .i64 kh, .int .i64 kid, .slice Ak m.length ck'], .slice B path.length cb] rfl (by (try simp only [List.map_toArray, List.map_cons, List.map_nil]); first | done | rfl) ?_; refine (put103_.out _ _ (V_any (S.out.tree _ (.head _))) (V_any (S.out.tree _ (.tail _ (.head _)))) (Kd.C_below HI.out S.out.below) LI.out).mono ?_; rintro e w15_ ⟨rfl, hb⟩; refine ⟨_, rfl, ?_⟩; replace S := Aside0.mk (S.out.call hb); clear hb; clear cb9_6 cb4_0 cb4_1 cb4_2 cb4_3 cb4_4 cb4_5 cb4_6 cb5_0 cb5_1 cb5_2 cb5_3 cb5_4 cb5_5 cb5_6)
      | ((with_reducible refine gate_dst (N := 16) rfl ?_); refine box_st (N := 16) rfl rfl #[.int .u8 0, .int .i64 0, .int .i64 0, .int .i64 0, .int .i64 0, .int .i64 0, .slice none 0 0] 26 S.out ?hr ?_; (case hr => first | (go_simp; done) | (go_simp; rfl)); intro b16 w16_ S1; replace S := Aside0.mk S1; clear S1)
      | ((with_reducible refine gate_ (.store 26 (.tmp 16) (.tmp 95)) rfl ?_); go_loud (refine put_st 0 rfl 26 (.tmp 16) (.tmp 95) rfl #[.int .u8 0, .int .i64 0, .int .i64 0, .int .i64 0, .int .i64 0, .int .i64 0, .slice none 0 0] (j := 0) (u := .agg #[.int .u8 0, .int .i64 0, .int .i64 0, .int .i64 0, .int .i64 0, .int .i64 0, .slice none 0 0]) (seg := [.int .u8 0, .int .i64 0, .int .i64 0, .int .i64 0, .int .i64 0, .int .i64 0, .slice none 0 0]) S.out ?sA ?sX rfl ?sT ?s1 ?sJ rfl rfl rfl ?_; (case sA => rfl); (case sX => rfl); (case sT => rfl); (case s1 => simp [Value.oneCell']); (case sJ => first | decide | simp); intro w17_ S1; simp only [List.set_cons_zero, List.set_cons_succ] at S1; replace S := Aside0.mk S1; clear S1); have cb16_0 := (S.out.at (.head _) 0).trans rfl; have cb16_1 := (S.out.at (.head _) 1).trans rfl; have cb16_2 := (S.out.at (.head _) 2).trans rfl; have cb16_3 := (S.out.at (.head _) 3).trans rfl; have cb16_4 := (S.out.at (.head _) 4).trans rfl; have cb16_5 := (S.out.at (.head _) 5).trans rfl; have cb16_6 := (S.out.at (.head _) 6).trans rfl; have cb11_0 := (S.out.at (.tail _ (.tail _ (.head _))) 0).trans rfl; have cb11_1 := (S.out.at (.tail _ (.tail _ (.head _))) 1).trans rfl; have cb11_2 := (S.out.at (.tail _ (.tail _ (.head _))) 2).trans rfl; have cb11_3 := (S.out.at (.tail _ (.tail _ (.head _))) 3).trans rfl; have cb11_4 := (S.out.at (.tail _ (.tail _ (.head _))) 4).trans rfl; have cb11_5 := (S.out.at (.tail _ (.tail _ (.head _))) 5).trans rfl; have cb11_6 := (S.out.at (.tail _ (.tail _ (.head _))) 6).trans rfl)
      | ((with_reducible refine gate_dst (N := 99) rfl ?_); refine goesL_ (some 99) rfl rfl Try.func64 (by kernel_rfl) rfl #[.agg #[.int .u8 0, .int .i64 0, .int .i64 0, .int .i64 0, .int .i64 0, .int .i64 0, .slice none 0 0], .agg #[.int .u8 0, .int .i64 0, .int .i64 0, .int .i64 0, .int .i64 0, .int .i64 0, .slice none 0 0]] rfl (by (try simp only [List.map_toArray, List.map_cons, List.map_nil]); first | done | rfl) ?_; refine (same_t z26 (by decide) (Kd.V_nil k26 26 _ 0 (fun _ => True)) (Kd.V_nil k26 26 _ 0 (fun _ => True))).mono ?_; rintro e w18_ ⟨rfl, hb⟩; refine ⟨_, rfl, ?_⟩; replace S := Aside0.mk (S.out.call hb); clear hb; clear cb16_0 cb16_1 cb16_2 cb16_3 cb16_4 cb16_5 cb16_6 cb11_0 cb11_1 cb11_2 cb11_3 cb11_4 cb11_5 cb11_6)
      | ((with_reducible refine gate_dst (N := 101) rfl ?_); (refine gate_guard (by rfl) ?_; dsimp only); refine goesL_ (some 101) rfl rfl Try.func75 (by kernel_rfl) rfl #[] rfl (by (try simp only [List.map_toArray, List.map_cons, List.map_nil]); first | done | rfl) ?_; refine (sashlaw05_awake.calls true _ rfl).mono ?_; rintro e w19_ ⟨rfl, hb⟩; refine ⟨_, rfl, ?_⟩; replace S := Aside0.mk (S.out.call hb); clear hb)
      | fail)
    go_ret
    exact ⟨rfl, S.out.below⟩
set_option maxHeartbeats 4000000 in
set_option maxRecDepth 100000 in
theorem puts_some (c kid : S26) (path : List Int) (mark : Int) (A : Option Addr) (cc : Nat) (Ak : Option Addr) (ck' : Nat) (B : Option Addr) (cb : Nat) (w : World) (hr : Kd.C k26 w A c.f3.length c.f3) (hc : c.f3.length ≤ cc) (hrk : Kd.C k26 w Ak kid.f3.length kid.f3) (hck : kid.f3.length ≤ ck') (hi : Kd.C (Kd.int .i64) w B path.length path) (hb : path.length ≤ cb) (x : S26) (h1 : ∃ k, sashref05_Great.f k c.f0 c.f1.f0 c.f1.f1 c.f1.f2 c.f1.f3 c.f2 c.f3 = some false) (h2 : ∃ k, sashref05_Great.f k kid.f0 kid.f1.f0 kid.f1.f1 kid.f1.f2 kid.f1.f3 kid.f2 kid.f3 = some false) (h3 : ¬ 50 < path.length) (hz : sz c ≤ 200) (hzk : sz kid ≤ 200) (hp : putC kid path c = some x) :
    Calls Try.prog 24 #[.agg #[.int .u8 c.f0, .int .i64 c.f1.f0, .int .i64 c.f1.f1, .int .i64 c.f1.f2, .int .i64 c.f1.f3, .int .i64 c.f2, .slice A c.f3.length cc], .agg #[.int .u8 kid.f0, .int .i64 kid.f1.f0, .int .i64 kid.f1.f1, .int .i64 kid.f1.f2, .int .i64 kid.f1.f3, .int .i64 kid.f2, .slice Ak kid.f3.length ck'], .slice B path.length cb, .int .i64 mark] w fun e w' => e = .returned (.bool true) ∧ Below w.heap.size w w' := by
  have S := Aside0.mk (St.start (ts := [(.slice A c.f3.length cc, c.f3), (.slice Ak kid.f3.length ck', kid.f3)]) (b0 := w.heap.size) (w := w) (P := fun k => k < w.heap.size) (fun t ht => by
    rcases List.mem_cons.1 ht with rfl | ht
    · exact Kd.V_mk hc (Kd.C_F k26_heap hr)
    · rw [List.mem_singleton.1 ht]; exact Kd.V_mk hck (Kd.C_F k26_heap hrk)))
  have G1 := Aside0.mk h1
  have G2 := Aside0.mk h2
  have HI := Aside0.mk hi
  have LI := Aside0.mk hb
  have HKZ := Aside0.mk (show sz kid ≤ 1048576 by omega)
  have HPL := Aside0.mk (show path.length ≤ 1048576 by omega)
  have HP2 := fun P W h1 h2 h3 h4 => put102 path c kid P A cc Ak ck' B cb W (by omega) (by omega) h1 h2 h3 h4
  have HP3 := fun P W h1 h2 h3 h4 => put103 path c kid P A cc Ak ck' B cb W (by omega) h1 h2 h3 h4
  simp only [hp] at HP2 HP3
  have put102_ := Aside0.mk HP2
  have put103_ := Aside0.mk HP3
  have HAT := Aside0.mk (put_at kid path c x hp)
  have HXZ := Aside0.mk (show sz x ≤ 1048576 by have := put_size kid path c x hp; omega)
  have HXZ2 := Aside0.mk (show sz x ≤ 1000000 by have := put_size kid path c x hp; omega)
  have HXL := Aside0.mk (show x.f3.length ≤ 1000000 by have := put_size kid path c x hp; have := sz_eq x; have := szL_len x.f3; omega)
  have h3b : decide ((path.length : Int) > 50) = false := decide_eq_false (by omega)
  have h3c : decide (50 < (path.length : Int)) = false := decide_eq_false (by omega)
  clear h1 h2 hr hc hrk hck hi hb hz hzk HP2 HP3 hp h3
  obtain ⟨ck, ⟨cx, cy, cw, ch⟩, cid, l⟩ := c
  obtain ⟨kk, ⟨kx, ky, kw, kh⟩, kid, m⟩ := kid
  simp only [] at S G1 G2 HKZ put102_ put103_ HAT ⊢
  go_enter Try.func24, Try.ntmps24
  go_wp2_with (first
    | ((with_reducible refine gate_dst (N := 4) rfl ?_); refine box_st (N := 4) rfl rfl #[.int .u8 ck, .int .i64 cx, .int .i64 cy, .int .i64 cw, .int .i64 ch, .int .i64 cid, .slice A l.length cc] 26 S.out ?hr ?_; (case hr => first | (go_simp; done) | (go_simp; rfl)); intro b4 w1_ S1; replace S := Aside0.mk S1; clear S1)
    | ((with_reducible refine gate_dst (N := 5) rfl ?_); refine box_st (N := 5) rfl rfl #[.int .u8 kk, .int .i64 kx, .int .i64 ky, .int .i64 kw, .int .i64 kh, .int .i64 kid, .slice Ak m.length ck'] 26 S.out ?hr ?_; (case hr => first | (go_simp; done) | (go_simp; rfl)); intro b5 w2_ S1; replace S := Aside0.mk S1; clear S1; have cb4_0 := (S.out.at (.tail _ (.head _)) 0).trans rfl; have cb4_1 := (S.out.at (.tail _ (.head _)) 1).trans rfl; have cb4_2 := (S.out.at (.tail _ (.head _)) 2).trans rfl; have cb4_3 := (S.out.at (.tail _ (.head _)) 3).trans rfl; have cb4_4 := (S.out.at (.tail _ (.head _)) 4).trans rfl; have cb4_5 := (S.out.at (.tail _ (.head _)) 5).trans rfl; have cb4_6 := (S.out.at (.tail _ (.head _)) 6).trans rfl)
    | ((with_reducible refine gate_dst (N := 19) rfl ?_); refine goesL_ (some 19) rfl rfl Try.func34 (by kernel_rfl) rfl #[.agg #[.int .u8 ck, .int .i64 cx, .int .i64 cy, .int .i64 cw, .int .i64 ch, .int .i64 cid, .slice A l.length cc]] rfl (by (try simp only [List.map_toArray, List.map_cons, List.map_nil]); first | done | rfl) ?_; refine (great_c ⟨ck, ⟨cx, cy, cw, ch⟩, cid, l⟩ false G1.out (S.out.tree _ (.head _))).mono ?_; rintro e w3_ ⟨rfl, hb⟩; refine ⟨_, rfl, ?_⟩; replace S := Aside0.mk (S.out.call hb); clear hb; clear cb4_0 cb4_1 cb4_2 cb4_3 cb4_4 cb4_5 cb4_6; have cb5_0 := (S.out.at (.head _) 0).trans rfl; have cb5_1 := (S.out.at (.head _) 1).trans rfl; have cb5_2 := (S.out.at (.head _) 2).trans rfl; have cb5_3 := (S.out.at (.head _) 3).trans rfl; have cb5_4 := (S.out.at (.head _) 4).trans rfl; have cb5_5 := (S.out.at (.head _) 5).trans rfl; have cb5_6 := (S.out.at (.head _) 6).trans rfl)
    | ((with_reducible refine gate_dst (N := 22) rfl ?_); (refine gate_guard (by rfl) ?_; dsimp only); refine goesL_ (some 22) rfl rfl Try.func34 (by kernel_rfl) rfl #[.agg #[.int .u8 kk, .int .i64 kx, .int .i64 ky, .int .i64 kw, .int .i64 kh, .int .i64 kid, .slice Ak m.length ck']] rfl (by (try simp only [List.map_toArray, List.map_cons, List.map_nil]); first | done | rfl) ?_; refine (great_c ⟨kk, ⟨kx, ky, kw, kh⟩, kid, m⟩ false G2.out (S.out.tree _ (.tail _ (.head _)))).mono ?_; rintro e w4_ ⟨rfl, hb⟩; refine ⟨_, rfl, ?_⟩; replace S := Aside0.mk (S.out.call hb); clear hb; clear cb5_0 cb5_1 cb5_2 cb5_3 cb5_4 cb5_5 cb5_6; have cb4_0 := (S.out.at (.tail _ (.head _)) 0).trans rfl; have cb4_1 := (S.out.at (.tail _ (.head _)) 1).trans rfl; have cb4_2 := (S.out.at (.tail _ (.head _)) 2).trans rfl; have cb4_3 := (S.out.at (.tail _ (.head _)) 3).trans rfl; have cb4_4 := (S.out.at (.tail _ (.head _)) 4).trans rfl; have cb4_5 := (S.out.at (.tail _ (.head _)) 5).trans rfl; have cb4_6 := (S.out.at (.tail _ (.head _)) 6).trans rfl; have cb5_0 := (S.out.at (.head _) 0).trans rfl; have cb5_1 := (S.out.at (.head _) 1).trans rfl; have cb5_2 := (S.out.at (.head _) 2).trans rfl; have cb5_3 := (S.out.at (.head _) 3).trans rfl; have cb5_4 := (S.out.at (.head _) 4).trans rfl; have cb5_5 := (S.out.at (.head _) 5).trans rfl; have cb5_6 := (S.out.at (.head _) 6).trans rfl)
    | ((with_reducible refine gate_dst (N := 34) rfl ?_); refine goesL_ (some 34) rfl rfl Try.func102 (by kernel_rfl) rfl #[.agg #[.int .u8 ck, .int .i64 cx, .int .i64 cy, .int .i64 cw, .int .i64 ch, .int .i64 cid, .slice A l.length cc], .agg #[.int .u8 kk, .int .i64 kx, .int .i64 ky, .int .i64 kw, .int .i64 kh, .int .i64 kid, .slice Ak m.length ck'], .slice B path.length cb] rfl (by (try simp only [List.map_toArray, List.map_cons, List.map_nil]); first | done | rfl) ?_; refine (put102_.out _ _ (V_any (S.out.tree _ (.head _))) (V_any (S.out.tree _ (.tail _ (.head _)))) (Kd.C_below HI.out S.out.below) LI.out).mono ?_; rintro e w5_ ⟨Ax34, cx34, rfl, h1, hb⟩; refine ⟨_, rfl, ?_⟩; replace S := Aside0.mk (S.out.resN h1 hb); clear h1 hb; clear cb4_0 cb4_1 cb4_2 cb4_3 cb4_4 cb4_5 cb4_6 cb5_0 cb5_1 cb5_2 cb5_3 cb5_4 cb5_5 cb5_6)
    | ((with_reducible refine gate_dst (N := 9) rfl ?_); refine box_st (N := 9) rfl rfl #[.int .u8 0, .int .i64 0, .int .i64 0, .int .i64 0, .int .i64 0, .int .i64 0, .slice none 0 0] 26 S.out ?hr ?_; (case hr => first | (go_simp; done) | (go_simp; rfl)); intro b9 w6_ S1; replace S := Aside0.mk S1; clear S1)
    | ((with_reducible refine gate_ (.store 26 (.tmp 9) (.tmp 35)) rfl ?_); go_loud (refine put_st 0 rfl 26 (.tmp 9) (.tmp 35) rfl #[.int .u8 x.f0, .int .i64 x.f1.f0, .int .i64 x.f1.f1, .int .i64 x.f1.f2, .int .i64 x.f1.f3, .int .i64 x.f2, .slice Ax34 x.f3.length cx34] (j := 0) (u := .agg #[.int .u8 x.f0, .int .i64 x.f1.f0, .int .i64 x.f1.f1, .int .i64 x.f1.f2, .int .i64 x.f1.f3, .int .i64 x.f2, .slice Ax34 x.f3.length cx34]) (seg := [.int .u8 x.f0, .int .i64 x.f1.f0, .int .i64 x.f1.f1, .int .i64 x.f1.f2, .int .i64 x.f1.f3, .int .i64 x.f2, .slice Ax34 x.f3.length cx34]) S.out ?sA ?sX rfl ?sT ?s1 ?sJ rfl rfl rfl ?_; (case sA => rfl); (case sX => rfl); (case sT => rfl); (case s1 => simp [Value.oneCell']); (case sJ => first | decide | simp); intro w7_ S1; simp only [List.set_cons_zero, List.set_cons_succ] at S1; replace S := Aside0.mk S1; clear S1); have cb4_0 := (S.out.at (.tail _ (.tail _ (.head _))) 0).trans rfl; have cb4_1 := (S.out.at (.tail _ (.tail _ (.head _))) 1).trans rfl; have cb4_2 := (S.out.at (.tail _ (.tail _ (.head _))) 2).trans rfl; have cb4_3 := (S.out.at (.tail _ (.tail _ (.head _))) 3).trans rfl; have cb4_4 := (S.out.at (.tail _ (.tail _ (.head _))) 4).trans rfl; have cb4_5 := (S.out.at (.tail _ (.tail _ (.head _))) 5).trans rfl; have cb4_6 := (S.out.at (.tail _ (.tail _ (.head _))) 6).trans rfl; have cb5_0 := (S.out.at (.tail _ (.head _)) 0).trans rfl; have cb5_1 := (S.out.at (.tail _ (.head _)) 1).trans rfl; have cb5_2 := (S.out.at (.tail _ (.head _)) 2).trans rfl; have cb5_3 := (S.out.at (.tail _ (.head _)) 3).trans rfl; have cb5_4 := (S.out.at (.tail _ (.head _)) 4).trans rfl; have cb5_5 := (S.out.at (.tail _ (.head _)) 5).trans rfl; have cb5_6 := (S.out.at (.tail _ (.head _)) 6).trans rfl)
    | ((with_reducible refine gate_dst (N := 41) rfl ?_); refine goesL_ (some 41) rfl rfl Try.func103 (by kernel_rfl) rfl #[.agg #[.int .u8 ck, .int .i64 cx, .int .i64 cy, .int .i64 cw, .int .i64 ch, .int .i64 cid, .slice A l.length cc], .agg #[.int .u8 kk, .int .i64 kx, .int .i64 ky, .int .i64 kw, .int .i64 kh, .int .i64 kid, .slice Ak m.length ck'], .slice B path.length cb] rfl (by (try simp only [List.map_toArray, List.map_cons, List.map_nil]); first | done | rfl) ?_; refine (put103_.out _ _ (V_any (S.out.tree _ (.head _))) (V_any (S.out.tree _ (.tail _ (.head _)))) (Kd.C_below HI.out S.out.below) LI.out).mono ?_; rintro e w8_ ⟨Ax41, cx41, rfl, h1, hb⟩; refine ⟨_, rfl, ?_⟩; replace S := Aside0.mk (S.out.res h1 hb); clear h1 hb; clear cb4_0 cb4_1 cb4_2 cb4_3 cb4_4 cb4_5 cb4_6 cb5_0 cb5_1 cb5_2 cb5_3 cb5_4 cb5_5 cb5_6)
    | ((with_reducible refine gate_dst (N := 11) rfl ?_); refine box_st (N := 11) rfl rfl #[.int .u8 0, .int .i64 0, .int .i64 0, .int .i64 0, .int .i64 0, .int .i64 0, .slice none 0 0] 26 S.out ?hr ?_; (case hr => first | (go_simp; done) | (go_simp; rfl)); intro b11 w9_ S1; replace S := Aside0.mk S1; clear S1)
    | ((with_reducible refine gate_ (.store 26 (.tmp 11) (.tmp 42)) rfl ?_); go_loud (refine put_st 0 rfl 26 (.tmp 11) (.tmp 42) rfl #[.int .u8 x.f0, .int .i64 x.f1.f0, .int .i64 x.f1.f1, .int .i64 x.f1.f2, .int .i64 x.f1.f3, .int .i64 x.f2, .slice Ax41 x.f3.length cx41] (j := 0) (u := .agg #[.int .u8 x.f0, .int .i64 x.f1.f0, .int .i64 x.f1.f1, .int .i64 x.f1.f2, .int .i64 x.f1.f3, .int .i64 x.f2, .slice Ax41 x.f3.length cx41]) (seg := [.int .u8 x.f0, .int .i64 x.f1.f0, .int .i64 x.f1.f1, .int .i64 x.f1.f2, .int .i64 x.f1.f3, .int .i64 x.f2, .slice Ax41 x.f3.length cx41]) S.out ?sA ?sX rfl ?sT ?s1 ?sJ rfl rfl rfl ?_; (case sA => rfl); (case sX => rfl); (case sT => rfl); (case s1 => simp [Value.oneCell']); (case sJ => first | decide | simp); intro w10_ S1; simp only [List.set_cons_zero, List.set_cons_succ] at S1; replace S := Aside0.mk S1; clear S1); have cb9_0 := (S.out.at (.tail _ (.head _)) 0).trans rfl; have cb9_1 := (S.out.at (.tail _ (.head _)) 1).trans rfl; have cb9_2 := (S.out.at (.tail _ (.head _)) 2).trans rfl; have cb9_3 := (S.out.at (.tail _ (.head _)) 3).trans rfl; have cb9_4 := (S.out.at (.tail _ (.head _)) 4).trans rfl; have cb9_5 := (S.out.at (.tail _ (.head _)) 5).trans rfl; have cb9_6 := (S.out.at (.tail _ (.head _)) 6).trans rfl; have cb11_0 := (S.out.at (.head _) 0).trans rfl; have cb11_1 := (S.out.at (.head _) 1).trans rfl; have cb11_2 := (S.out.at (.head _) 2).trans rfl; have cb11_3 := (S.out.at (.head _) 3).trans rfl; have cb11_4 := (S.out.at (.head _) 4).trans rfl; have cb11_5 := (S.out.at (.head _) 5).trans rfl; have cb11_6 := (S.out.at (.head _) 6).trans rfl)
    | ((with_reducible refine gate_dst (N := 50) rfl ?_); (refine gate_guard (by rfl) ?_; dsimp only); refine goesL_ (some 50) rfl rfl Try.func64 (by kernel_rfl) rfl #[.agg #[.int .u8 x.f0, .int .i64 x.f1.f0, .int .i64 x.f1.f1, .int .i64 x.f1.f2, .int .i64 x.f1.f3, .int .i64 x.f2, .slice Ax34 x.f3.length cx34], .agg #[.int .u8 x.f0, .int .i64 x.f1.f0, .int .i64 x.f1.f1, .int .i64 x.f1.f2, .int .i64 x.f1.f3, .int .i64 x.f2, .slice Ax41 x.f3.length cx41]] rfl (by (try simp only [List.map_toArray, List.map_cons, List.map_nil]); first | done | rfl) ?_; refine (same_t x HXZ.out (Kd.N_V (base' := 0) (S.out.own _ (.head _))) (S.out.tree _ (.head _))).mono ?_; rintro e w11_ ⟨rfl, hb⟩; refine ⟨_, rfl, ?_⟩; replace S := Aside0.mk (S.out.call hb); clear hb; clear cb9_0 cb9_1 cb9_2 cb9_3 cb9_4 cb9_5 cb9_6 cb11_0 cb11_1 cb11_2 cb11_3 cb11_4 cb11_5 cb11_6; have cb9_0 := (S.out.at (.tail _ (.head _)) 0).trans rfl; have cb9_1 := (S.out.at (.tail _ (.head _)) 1).trans rfl; have cb9_2 := (S.out.at (.tail _ (.head _)) 2).trans rfl; have cb9_3 := (S.out.at (.tail _ (.head _)) 3).trans rfl; have cb9_4 := (S.out.at (.tail _ (.head _)) 4).trans rfl; have cb9_5 := (S.out.at (.tail _ (.head _)) 5).trans rfl; have cb9_6 := (S.out.at (.tail _ (.head _)) 6).trans rfl)
    | ((with_reducible refine gate_dst (N := 56) rfl ?_); refine goesL_ (some 56) rfl rfl Try.func91 (by kernel_rfl) rfl #[.agg #[.int .u8 x.f0, .int .i64 x.f1.f0, .int .i64 x.f1.f1, .int .i64 x.f1.f2, .int .i64 x.f1.f3, .int .i64 x.f2, .slice Ax34 x.f3.length cx34], .slice B path.length cb] rfl (by (try simp only [List.map_toArray, List.map_cons, List.map_nil]); first | done | rfl) ?_; refine (at_c x path ⟨kk, ⟨kx, ky, kw, kh⟩, kid, m⟩ HAT.out HPL.out HXZ2.out (S.out.free.tree _ (.head _)) (Kd.C_below HI.out S.out.below) LI.out).mono ?_; rintro e w12_ ⟨At, ct, rfl, h1, hb⟩; refine ⟨_, rfl, ?_⟩; have SF := Aside0.mk (S.out.free.res (Kd.N_V (base' := 0) h1) hb); clear h1; replace S := Aside0.mk (S.out.call hb); clear hb; clear cb9_0 cb9_1 cb9_2 cb9_3 cb9_4 cb9_5 cb9_6)
    | ((with_reducible refine gate_dst (N := 13) rfl ?_); refine box_st2 (N := 13) rfl rfl #[.int .u8 0, .int .i64 0, .int .i64 0, .int .i64 0, .int .i64 0, .int .i64 0, .slice none 0 0] 26 S.out SF.out ?hr ?_; (case hr => first | (go_simp; done) | (go_simp; rfl)); intro b13 w13_ S1 S2; replace S := Aside0.mk S1; replace SF := Aside0.mk S2; clear S1 S2)
    | ((with_reducible refine gate_ (.store 26 (.tmp 13) (.tmp 57)) rfl ?_); go_loud (refine put_st2 S.out SF.out 0 0 rfl rfl 26 (.tmp 13) (.tmp 57) rfl #[.int .u8 kk, .int .i64 kx, .int .i64 ky, .int .i64 kw, .int .i64 kh, .int .i64 kid, .slice At m.length ct] (cs := #[.int .u8 0, .int .i64 0, .int .i64 0, .int .i64 0, .int .i64 0, .int .i64 0, .slice none 0 0]) (j := 0) (u := .agg #[.int .u8 kk, .int .i64 kx, .int .i64 ky, .int .i64 kw, .int .i64 kh, .int .i64 kid, .slice At m.length ct]) (seg := [.int .u8 kk, .int .i64 kx, .int .i64 ky, .int .i64 kw, .int .i64 kh, .int .i64 kid, .slice At m.length ct]) ?sA ?sX rfl ?sT ?s1 ?sJ rfl rfl rfl ?_; (case sA => rfl); (case sX => rfl); (case sT => rfl); (case s1 => simp [Value.oneCell']); (case sJ => first | decide | simp); intro w14_ S1 S2; simp only [List.set_cons_zero, List.set_cons_succ] at S1 S2; replace S := Aside0.mk S1; replace SF := Aside0.mk S2; clear S1 S2); have cb13_0 := (S.out.at (.head _) 0).trans rfl; have cb13_1 := (S.out.at (.head _) 1).trans rfl; have cb13_2 := (S.out.at (.head _) 2).trans rfl; have cb13_3 := (S.out.at (.head _) 3).trans rfl; have cb13_4 := (S.out.at (.head _) 4).trans rfl; have cb13_5 := (S.out.at (.head _) 5).trans rfl; have cb13_6 := (S.out.at (.head _) 6).trans rfl; have cb5_0 := (S.out.at (.tail _ (.tail _ (.tail _ (.head _)))) 0).trans rfl; have cb5_1 := (S.out.at (.tail _ (.tail _ (.tail _ (.head _)))) 1).trans rfl; have cb5_2 := (S.out.at (.tail _ (.tail _ (.tail _ (.head _)))) 2).trans rfl; have cb5_3 := (S.out.at (.tail _ (.tail _ (.tail _ (.head _)))) 3).trans rfl; have cb5_4 := (S.out.at (.tail _ (.tail _ (.tail _ (.head _)))) 4).trans rfl; have cb5_5 := (S.out.at (.tail _ (.tail _ (.tail _ (.head _)))) 5).trans rfl; have cb5_6 := (S.out.at (.tail _ (.tail _ (.tail _ (.head _)))) 6).trans rfl)
    | ((with_reducible refine gate_dst (N := 66) rfl ?_); (refine gate_guard (by rfl) ?_; dsimp only); refine goesL_ (some 66) rfl rfl Try.func64 (by kernel_rfl) rfl #[.agg #[.int .u8 kk, .int .i64 kx, .int .i64 ky, .int .i64 kw, .int .i64 kh, .int .i64 kid, .slice At m.length ct], .agg #[.int .u8 kk, .int .i64 kx, .int .i64 ky, .int .i64 kw, .int .i64 kh, .int .i64 kid, .slice Ak m.length ck']] rfl (by (try simp only [List.map_toArray, List.map_cons, List.map_nil]); first | done | rfl) ?_; refine (same_t ⟨kk, ⟨kx, ky, kw, kh⟩, kid, m⟩ HKZ.out (SF.out.tree _ (.head _)) (S.out.tree _ (.tail _ (.tail _ (.head _))))).mono ?_; rintro e w15_ ⟨rfl, hb⟩; refine ⟨_, rfl, ?_⟩; replace S := Aside0.mk (S.out.call hb); clear hb; clear cb13_0 cb13_1 cb13_2 cb13_3 cb13_4 cb13_5 cb13_6 cb5_0 cb5_1 cb5_2 cb5_3 cb5_4 cb5_5 cb5_6)
    | fail)
  clear SF
  go_loopg [15] x.f3.length (fun gg v15 wr => ∃ (j : Nat) (l' : List S26), v15 = .int .i64 (j : Int) ∧ x.f3.length - j ≤ gg ∧ Aside0 (l'.length = x.f3.length) ∧ Aside0 (St w (fun k => k < w.heap.size) [(b13, .cells #[.int .u8 kk, .int .i64 kx, .int .i64 ky, .int .i64 kw, .int .i64 kh, .int .i64 kid, .slice At m.length ct] 26 (0, 0)), (b11, .cells #[.int .u8 x.f0, .int .i64 x.f1.f0, .int .i64 x.f1.f1, .int .i64 x.f1.f2, .int .i64 x.f1.f3, .int .i64 x.f2, .slice Ax41 x.f3.length cx41] 26 (0, 0)), (b9, .cells #[.int .u8 x.f0, .int .i64 x.f1.f0, .int .i64 x.f1.f1, .int .i64 x.f1.f2, .int .i64 x.f1.f3, .int .i64 x.f2, .slice Ax34 x.f3.length cx34] 26 (0, 0)), (b5, .cells #[.int .u8 kk, .int .i64 kx, .int .i64 ky, .int .i64 kw, .int .i64 kh, .int .i64 kid, .slice Ak m.length ck'] 26 (0, 0)), (b4, .cells #[.int .u8 ck, .int .i64 cx, .int .i64 cy, .int .i64 cw, .int .i64 ch, .int .i64 cid, .slice A l.length cc] 26 (0, 0))] [(.slice Ax34 x.f3.length cx34, l')] [(.slice Ax41 x.f3.length cx41, x.f3), (.slice A l.length cc, l), (.slice Ak m.length ck', m)] [] wr))
  case atStart => exact ⟨0, x.f3, rfl, by omega, ⟨rfl⟩, S⟩
  case round =>
    clear S
    obtain ⟨j, l', rfl, hgg, HLL, S⟩ := hrel
    by_cases hlt : j < x.f3.length
    · have hlb : decide ((j : Int) < (x.f3.length : Int)) = true := decide_eq_true (by omega)
      have hj0 : (0 : Int) ≤ (j : Int) := by omega
      have hj1 : (j : Int) < (x.f3.length : Int) := by omega
      have HJL := Aside0.mk (show j < l'.length by rw [HLL.out]; exact hlt)
      have HG := Aside0.mk hgg
      obtain ⟨g, cap, ev, _⟩ := Kd.N_form S.out.ownN (by have := HJL.out; omega)
      injection ev with e1 e2 e3
      subst e1
      clear e2 e3 hgg
      have hw1 : wrap64 ((j : Int) + 1) = ((j + 1 : Nat) : Int) := by have := HXL.out; unfold wrap64; omega
      have HW1 := Aside0.mk hw1
      clear hw1 hlt
      have cb9_6 := (S.out.at (.tail _ (.tail _ (.head _))) 6).trans rfl
      go_wp2_with (first
        | ((with_reducible refine gate_ (.store 3 (.tmp 82) (.tmp 80)) rfl ?_); go_loud (refine field_st (j : Int) 5 (by omega) (.int .i64 mark) rfl rfl ⟨(rd_T26 l' (j : Int)).f0, (rd_T26 l' (j : Int)).f1, mark, (rd_T26 l' (j : Int)).f3⟩ rfl (fun _ _ => rfl) 3 (.tmp 82) (.tmp 80) rfl S.out (by omega) ?sL ?sA rfl (by kernel_rfl) rfl rfl ?_; (case sL => (try rw [List.length_set]); have := HJL.out; omega); (case sA => first | rfl | (go_simp; rfl)); intro w16_ S1; replace S := Aside0.mk S1; clear S1); clear cb9_6; have cb9_6 := (S.out.at (.tail _ (.tail _ (.head _))) 6).trans rfl)
        | ((with_reducible refine gate_ (.store 3 (.tmp 89) (.tmp 86)) rfl ?_); go_loud (refine field_st (j : Int) 3 (by omega) (.int .i64 mark) rfl rfl ⟨(rd_T26 (l'.set (j : Int).toNat ⟨(rd_T26 l' (j : Int)).f0, (rd_T26 l' (j : Int)).f1, mark, (rd_T26 l' (j : Int)).f3⟩) (j : Int)).f0, ⟨(rd_T26 (l'.set (j : Int).toNat ⟨(rd_T26 l' (j : Int)).f0, (rd_T26 l' (j : Int)).f1, mark, (rd_T26 l' (j : Int)).f3⟩) (j : Int)).f1.f0, (rd_T26 (l'.set (j : Int).toNat ⟨(rd_T26 l' (j : Int)).f0, (rd_T26 l' (j : Int)).f1, mark, (rd_T26 l' (j : Int)).f3⟩) (j : Int)).f1.f1, mark, (rd_T26 (l'.set (j : Int).toNat ⟨(rd_T26 l' (j : Int)).f0, (rd_T26 l' (j : Int)).f1, mark, (rd_T26 l' (j : Int)).f3⟩) (j : Int)).f1.f3⟩, (rd_T26 (l'.set (j : Int).toNat ⟨(rd_T26 l' (j : Int)).f0, (rd_T26 l' (j : Int)).f1, mark, (rd_T26 l' (j : Int)).f3⟩) (j : Int)).f2, (rd_T26 (l'.set (j : Int).toNat ⟨(rd_T26 l' (j : Int)).f0, (rd_T26 l' (j : Int)).f1, mark, (rd_T26 l' (j : Int)).f3⟩) (j : Int)).f3⟩ rfl (fun _ _ => rfl) 3 (.tmp 89) (.tmp 86) rfl S.out (by omega) ?sL ?sA rfl (by kernel_rfl) rfl rfl ?_; (case sL => (try rw [List.length_set]); have := HJL.out; omega); (case sA => first | rfl | (go_simp; rfl)); intro w17_ S1; replace S := Aside0.mk S1; clear S1); clear cb9_6)
        | fail)
      have hw1 := HW1.out
      go_wp2
      go_roundg (x.f3.length - (j + 1))
      case measure => have := HG.out; have := HJL.out; have := HLL.out; omega
      case rel => exact ⟨j + 1, _, (by rw [hw1]), Nat.le_refl _, ⟨by rw [List.length_set, List.length_set]; exact HLL.out⟩, S⟩
    · have hlb : ¬ ((j : Int) < (x.f3.length : Int)) := by omega
      clear hlt hgg
      have cb9_6 := (S.out.at (.tail _ (.tail _ (.head _))) 6).trans rfl
      have cb4_0 := (S.out.at (.tail _ (.tail _ (.tail _ (.tail _ (.head _))))) 0).trans rfl
      have cb4_1 := (S.out.at (.tail _ (.tail _ (.tail _ (.tail _ (.head _))))) 1).trans rfl
      have cb4_2 := (S.out.at (.tail _ (.tail _ (.tail _ (.tail _ (.head _))))) 2).trans rfl
      have cb4_3 := (S.out.at (.tail _ (.tail _ (.tail _ (.tail _ (.head _))))) 3).trans rfl
      have cb4_4 := (S.out.at (.tail _ (.tail _ (.tail _ (.tail _ (.head _))))) 4).trans rfl
      have cb4_5 := (S.out.at (.tail _ (.tail _ (.tail _ (.tail _ (.head _))))) 5).trans rfl
      have cb4_6 := (S.out.at (.tail _ (.tail _ (.tail _ (.tail _ (.head _))))) 6).trans rfl
      have cb5_0 := (S.out.at (.tail _ (.tail _ (.tail _ (.head _)))) 0).trans rfl
      have cb5_1 := (S.out.at (.tail _ (.tail _ (.tail _ (.head _)))) 1).trans rfl
      have cb5_2 := (S.out.at (.tail _ (.tail _ (.tail _ (.head _)))) 2).trans rfl
      have cb5_3 := (S.out.at (.tail _ (.tail _ (.tail _ (.head _)))) 3).trans rfl
      have cb5_4 := (S.out.at (.tail _ (.tail _ (.tail _ (.head _)))) 4).trans rfl
      have cb5_5 := (S.out.at (.tail _ (.tail _ (.tail _ (.head _)))) 5).trans rfl
      have cb5_6 := (S.out.at (.tail _ (.tail _ (.tail _ (.head _)))) 6).trans rfl
      go_wp2_with (first
        | ((with_reducible refine gate_dst (N := 94) rfl ?_); refine goesL_ (some 94) rfl rfl Try.func103 (by kernel_rfl) rfl #[.agg #[.int .u8 ck, .int .i64 cx, .int .i64 cy, .int .i64 cw, .int .i64 ch, .int .i64 cid, .slice A l.length cc], .agg #[.int .u8 kk, .int .i64 kx, .int .i64 ky, .int .i64 kw, .int .i64 kh, .int .i64 kid, .slice Ak m.length ck'], .slice B path.length cb] rfl (by (try simp only [List.map_toArray, List.map_cons, List.map_nil]); first | done | rfl) ?_; refine (put103_.out _ _ (V_any (S.out.tree _ (.tail _ (.head _)))) (V_any (S.out.tree _ (.tail _ (.tail _ (.head _))))) (Kd.C_below HI.out S.out.below) LI.out).mono ?_; rintro e w18_ ⟨Ax94, cx94, rfl, h1, hb⟩; refine ⟨_, rfl, ?_⟩; replace S := Aside0.mk (S.out.res h1 hb); clear h1 hb; clear cb9_6 cb4_0 cb4_1 cb4_2 cb4_3 cb4_4 cb4_5 cb4_6 cb5_0 cb5_1 cb5_2 cb5_3 cb5_4 cb5_5 cb5_6)
        | ((with_reducible refine gate_dst (N := 16) rfl ?_); refine box_st (N := 16) rfl rfl #[.int .u8 0, .int .i64 0, .int .i64 0, .int .i64 0, .int .i64 0, .int .i64 0, .slice none 0 0] 26 S.out ?hr ?_; (case hr => first | (go_simp; done) | (go_simp; rfl)); intro b16 w19_ S1; replace S := Aside0.mk S1; clear S1)
        | ((with_reducible refine gate_ (.store 26 (.tmp 16) (.tmp 95)) rfl ?_); go_loud (refine put_st 0 rfl 26 (.tmp 16) (.tmp 95) rfl #[.int .u8 x.f0, .int .i64 x.f1.f0, .int .i64 x.f1.f1, .int .i64 x.f1.f2, .int .i64 x.f1.f3, .int .i64 x.f2, .slice Ax94 x.f3.length cx94] (j := 0) (u := .agg #[.int .u8 x.f0, .int .i64 x.f1.f0, .int .i64 x.f1.f1, .int .i64 x.f1.f2, .int .i64 x.f1.f3, .int .i64 x.f2, .slice Ax94 x.f3.length cx94]) (seg := [.int .u8 x.f0, .int .i64 x.f1.f0, .int .i64 x.f1.f1, .int .i64 x.f1.f2, .int .i64 x.f1.f3, .int .i64 x.f2, .slice Ax94 x.f3.length cx94]) S.out ?sA ?sX rfl ?sT ?s1 ?sJ rfl rfl rfl ?_; (case sA => rfl); (case sX => rfl); (case sT => rfl); (case s1 => simp [Value.oneCell']); (case sJ => first | decide | simp); intro w20_ S1; simp only [List.set_cons_zero, List.set_cons_succ] at S1; replace S := Aside0.mk S1; clear S1); have cb16_0 := (S.out.at (.head _) 0).trans rfl; have cb16_1 := (S.out.at (.head _) 1).trans rfl; have cb16_2 := (S.out.at (.head _) 2).trans rfl; have cb16_3 := (S.out.at (.head _) 3).trans rfl; have cb16_4 := (S.out.at (.head _) 4).trans rfl; have cb16_5 := (S.out.at (.head _) 5).trans rfl; have cb16_6 := (S.out.at (.head _) 6).trans rfl; have cb11_0 := (S.out.at (.tail _ (.tail _ (.head _))) 0).trans rfl; have cb11_1 := (S.out.at (.tail _ (.tail _ (.head _))) 1).trans rfl; have cb11_2 := (S.out.at (.tail _ (.tail _ (.head _))) 2).trans rfl; have cb11_3 := (S.out.at (.tail _ (.tail _ (.head _))) 3).trans rfl; have cb11_4 := (S.out.at (.tail _ (.tail _ (.head _))) 4).trans rfl; have cb11_5 := (S.out.at (.tail _ (.tail _ (.head _))) 5).trans rfl; have cb11_6 := (S.out.at (.tail _ (.tail _ (.head _))) 6).trans rfl)
        | ((with_reducible refine gate_dst (N := 99) rfl ?_); refine goesL_ (some 99) rfl rfl Try.func64 (by kernel_rfl) rfl #[.agg #[.int .u8 x.f0, .int .i64 x.f1.f0, .int .i64 x.f1.f1, .int .i64 x.f1.f2, .int .i64 x.f1.f3, .int .i64 x.f2, .slice Ax94 x.f3.length cx94], .agg #[.int .u8 x.f0, .int .i64 x.f1.f0, .int .i64 x.f1.f1, .int .i64 x.f1.f2, .int .i64 x.f1.f3, .int .i64 x.f2, .slice Ax41 x.f3.length cx41]] rfl (by (try simp only [List.map_toArray, List.map_cons, List.map_nil]); first | done | rfl) ?_; refine (same_t x HXZ.out (S.out.tree _ (.head _)) (S.out.tree _ (.tail _ (.head _)))).mono ?_; rintro e w21_ ⟨rfl, hb⟩; refine ⟨_, rfl, ?_⟩; replace S := Aside0.mk (S.out.call hb); clear hb; clear cb16_0 cb16_1 cb16_2 cb16_3 cb16_4 cb16_5 cb16_6 cb11_0 cb11_1 cb11_2 cb11_3 cb11_4 cb11_5 cb11_6)
        | ((with_reducible refine gate_dst (N := 101) rfl ?_); (refine gate_guard (by rfl) ?_; dsimp only); refine goesL_ (some 101) rfl rfl Try.func75 (by kernel_rfl) rfl #[] rfl (by (try simp only [List.map_toArray, List.map_cons, List.map_nil]); first | done | rfl) ?_; refine (sashlaw05_awake.calls true _ rfl).mono ?_; rintro e w22_ ⟨rfl, hb⟩; refine ⟨_, rfl, ?_⟩; replace S := Aside0.mk (S.out.call hb); clear hb)
        | fail)
      go_ret
      exact ⟨rfl, S.out.below⟩
end Go.Proofs.Ytfdmfgaiblfbhaa.P
/- The law CellPuts: what it comes to. Condition: the trees have at most 1048576 cells. -/
namespace Go.Proofs.Ytfdmfgaiblfbhaa.P
open Go.RowKit Go.Proofs.YtfdmfgaiblfbhaaW.PrintWords Go.Proofs.YtfdmfgaiblfbhaaW.PrintLast Go.Proofs.YtfdmfgaiblfbhaaW.PrintMore
def sashlaw05_CellPuts.f (a0 a1 a2 a3 a4 a5 : Int) (l : List S26) (b0 b1 b2 b3 b4 b5 : Int) (m : List S26) (_ : List Int) (_ : Int) : Option Bool := if sz ⟨a0, ⟨a1, a2, a3, a4⟩, a5, l⟩ ≤ 1048576 ∧ sz ⟨b0, ⟨b1, b2, b3, b4⟩, b5, m⟩ ≤ 1048576 then some true else none
theorem puts_all (c kid : S26) (path : List Int) (mark : Int) (A : Option Addr) (cc : Nat) (Ak : Option Addr) (ck' : Nat) (B : Option Addr) (cb : Nat) (w : World) (hr : Kd.C k26 w A c.f3.length c.f3) (hc : c.f3.length ≤ cc) (hrk : Kd.C k26 w Ak kid.f3.length kid.f3) (hck : kid.f3.length ≤ ck') (hi : Kd.C (Kd.int .i64) w B path.length path) (hb : path.length ≤ cb) (hz : sz c ≤ 1048576) (hzk : sz kid ≤ 1048576) :
  Calls Try.prog 24 #[.agg #[.int .u8 c.f0, .int .i64 c.f1.f0, .int .i64 c.f1.f1, .int .i64 c.f1.f2, .int .i64 c.f1.f3, .int .i64 c.f2, .slice A c.f3.length cc], .agg #[.int .u8 kid.f0, .int .i64 kid.f1.f0, .int .i64 kid.f1.f1, .int .i64 kid.f1.f2, .int .i64 kid.f1.f3, .int .i64 kid.f2, .slice Ak kid.f3.length ck'], .slice B path.length cb, .int .i64 mark] w fun e w' => e = .returned (.bool true) ∧ Below w.heap.size w w' := by
 obtain ⟨g, eg, hg⟩ := great_ev c hz
 cases g with
 | true => exact puts_great c kid path mark A cc Ak ck' B cb w hr hc hrk hck hi hb eg.rounds
 | false =>
  obtain ⟨g2, eg2, hg2⟩ := great_ev kid hzk
  cases g2 with
  | true => exact puts_great2 c kid path mark A cc Ak ck' B cb w hr hc hrk hck hi hb eg.rounds eg2.rounds
  | false =>
   by_cases h3 : 50 < path.length
   ·exact puts_long c kid path mark A cc Ak ck' B cb w hr hc hrk hck hi hb eg.rounds eg2.rounds h3
   ·cases hp : putC kid path c with
    | none => exact puts_none c kid path mark A cc Ak ck' B cb w hr hc hrk hck hi hb eg.rounds eg2.rounds h3 (hg rfl) (hg2 rfl) hp
    | some x => exact puts_some c kid path mark A cc Ak ck' B cb w hr hc hrk hck hi hb x eg.rounds eg2.rounds h3 (hg rfl) (hg2 rfl) hp
theorem sashlaw05_CellPuts.calls (a0_0 a0_1 a0_2 a0_3 a0_4 a0_5 : Int) (A0_6 : Option Addr) (c0_6 : Nat) (l0_6 : List S26) (a1_0 a1_1 a1_2 a1_3 a1_4 a1_5 : Int) (A1_6 : Option Addr) (c1_6 : Nat) (l1_6 : List S26) (A2 : Option Addr) (c2 : Nat) (l2 : List Int) (a3 : Int) (r : Bool) (w : World) (hr0_6 : Kd.C k26 w A0_6 l0_6.length l0_6) (hc0_6 : l0_6.length ≤ c0_6) (hr1_6 : Kd.C k26 w A1_6 l1_6.length l1_6) (hc1_6 : l1_6.length ≤ c1_6) (hr2 : Kd.C (Kd.int .i64) w A2 l2.length l2) (hc2 : l2.length ≤ c2) (h : sashlaw05_CellPuts.f a0_0 a0_1 a0_2 a0_3 a0_4 a0_5 l0_6 a1_0 a1_1 a1_2 a1_3 a1_4 a1_5 l1_6 l2 a3 = some r) :
  Calls Try.prog 24 #[.agg #[.int .u8 a0_0, .int .i64 a0_1, .int .i64 a0_2, .int .i64 a0_3, .int .i64 a0_4, .int .i64 a0_5, .slice A0_6 l0_6.length c0_6], .agg #[.int .u8 a1_0, .int .i64 a1_1, .int .i64 a1_2, .int .i64 a1_3, .int .i64 a1_4, .int .i64 a1_5, .slice A1_6 l1_6.length c1_6], .slice A2 l2.length c2, .int .i64 a3] w fun e w' => e = .returned (.bool r) ∧ Below w.heap.size w w' := by
 unfold sashlaw05_CellPuts.f at h
 split at h
 ·rename_i hz
  injection h with h
  subst h
  exact puts_all ⟨a0_0, ⟨a0_1, a0_2, a0_3, a0_4⟩, a0_5, l0_6⟩ ⟨a1_0, ⟨a1_1, a1_2, a1_3, a1_4⟩, a1_5, l1_6⟩ l2 a3 A0_6 c0_6 A1_6 c1_6 A2 c2 w hr0_6 hc0_6 hr1_6 hc1_6 hr2 hc2 hz.1 hz.2
 ·exact absurd h (by simp)
end Go.Proofs.Ytfdmfgaiblfbhaa.P
/- How a law's arguments read: cells, rectangles, panes, and rows of these, as plain data. -/
namespace Go.Proofs.Ytfdmfgaiblfbhaa.P
open Go.RowKit Go.Proofs.YtfdmfgaiblfbhaaW.PrintWords Go.Proofs.YtfdmfgaiblfbhaaW.PrintLast Go.Proofs.YtfdmfgaiblfbhaaW.PrintMore
open Go.ChangeShapes Go.WideShapes Go.ChangeAt Go.Joins Go.Deep

/-! ### What is known of the numbers -/
def I64 (n : Int) : Prop := -9223372036854775808 ≤ n ∧ n ≤ 9223372036854775807
def U8 (n : Int) : Prop := 0 ≤ n ∧ n ≤ 255
def U16 (n : Int) : Prop := 0 ≤ n ∧ n ≤ 65535
def wf23 (r : S23) : Prop := I64 r.f0 ∧ I64 r.f1 ∧ I64 r.f2 ∧ I64 r.f3
def wf35 (p : S35) : Prop := I64 p.f0 ∧ wf23 p.f1
def wfn26 : Nat → S26 → Prop
  | 0, _ => False
  | n + 1, c => U8 c.f0 ∧ wf23 c.f1 ∧ I64 c.f2 ∧ c.f3.length ≤ 9223372036854775807 ∧ ∀ k, k ∈ c.f3 → wfn26 n k
def wf26 (c : S26) : Prop := ∃ n, wfn26 n c
theorem wfn26_le : ∀ {n m : Nat} (_ : n ≤ m) {c : S26}, wfn26 n c → wfn26 m c
  | 0, _, _, _, h => h.elim
  | n + 1, 0, hm, _, _ => absurd hm (by omega)
  | n + 1, m + 1, hm, _, h => ⟨h.1, h.2.1, h.2.2.1, h.2.2.2.1, fun k hk => wfn26_le (by omega) (h.2.2.2.2 k hk)⟩

section
variable {H : Type} {enc : TypeId × Value → H} {P : Program} {w : World} {base : Nat} {spare : Nat → Bool} {held : Bool}
theorem row_of {α : Type} {Q : Nat → α → Prop} : ∀ (n : Nat), (∀ i, i < n → ∃ p, Q i p) → ∃ l : List α, l.length = n ∧ ∀ i p, l[i]? = some p → Q i p
  | 0, _ => ⟨[], rfl, fun i p h => by simp at h⟩
  | n + 1, h => by
    obtain ⟨l, hl, hq⟩ := row_of n fun i hi => h i (by omega)
    obtain ⟨p, hp⟩ := h n (by omega)
    refine ⟨l ++ [p], by simp [hl], fun i q hi => ?_⟩
    rcases Nat.lt_trichotomy i n with h1 | h1 | h1
    · rw [List.getElem?_append_left (by omega)] at hi
      exact hq i q hi
    · subst h1
      rw [List.getElem?_append_right (by omega), hl, Nat.sub_self] at hi
      obtain rfl : p = q := by simpa using hi
      exact hp
    · rw [List.getElem?_eq_none (by simp; omega)] at hi
      cases hi
theorem cells_at {a : Addr} {n : Nat} {cs : List Value} (h : w.cells? base a n = some cs) : cs.length = n ∧ ∀ i u, cs[i]? = some u → w.cell? (a.add i) = some u := by
  obtain ⟨_, h1, h2⟩ := World.cells?_some h
  exact ⟨h1, fun i u hi => by
    have hlt : i < n := by rw [← h1]; exact (List.getElem?_eq_some_iff.1 hi).1
    rw [h2 i hlt, hi]⟩

end
section
variable {H : Type} {enc : TypeId × Value → H} {w : World} {base : Nat} {spare : Nat → Bool} {held : Bool}
theorem i64_of {n : Int} (h : (Lit.int .i64 n).wf = true) : I64 n := by
  have := bounds_i64 h
  unfold I64
  omega
theorem u8_of {n : Int} (h : (Lit.int .u8 n).wf = true) : U8 n := bounds_u8 h
theorem agg_of {a : Array Value} {l : List Value} (h : (Value.agg a).cells.toList = l) : a = l.toArray := by
  subst h
  simp [Value.cells]
theorem cells23 : Try.prog.cellsOf 23 = 4 := by kernel_rfl
theorem cells26 : Try.prog.cellsOf 26 = 7 := by kernel_rfl
theorem cells3 : Try.prog.cellsOf 3 = 1 := by kernel_rfl
theorem cells5 : Try.prog.cellsOf 5 = 1 := by kernel_rfl
theorem cells24 : Try.prog.cellsOf 24 = 1 := by kernel_rfl
set_option maxRecDepth 100000 in
theorem read23 {fuel : Nat} {cs : List Value} {x : DataW H × List MemPlace} (h : DataW.trod enc Try.prog w base spare held fuel 23 cs = some x) : ∃ r : S23, k23.K w r cs ∧ wf23 r := by
  obtain ⟨y0, y1, y2, y3, n, _, hl, h0, h1, h2, h3⟩ := trod_struct4 Try.underlying23 h
  rw [cells23] at hl
  match cs, hl with
  | [c0, c1, c2, c3], _ =>
    simp only [cells3, List.drop_zero, List.take_succ_cons, List.take_zero, List.drop_succ_cons] at h0 h1 h2 h3
    obtain ⟨n0, e0, _, w0⟩ := DataW.trod_int Try.underlying3 h0
    obtain ⟨n1, e1, _, w1⟩ := DataW.trod_int Try.underlying3 h1
    obtain ⟨n2, e2, _, w2⟩ := DataW.trod_int Try.underlying3 h2
    obtain ⟨n3, e3, _, w3⟩ := DataW.trod_int Try.underlying3 h3
    simp only [List.cons.injEq, and_true] at e0 e1 e2 e3
    subst e0 e1 e2 e3
    exact ⟨⟨n0, n1, n2, n3⟩, k23_mk w ⟨n0, n1, n2, n3⟩, i64_of w0, i64_of w1, i64_of w2, i64_of w3⟩
end
end Go.Proofs.Ytfdmfgaiblfbhaa.P
/- CellPuts, the plain law: it holds of all trees of at most 1048576 cells. -/
namespace Go.Proofs.Ytfdmfgaiblfbhaa.Pure
open Go.RowKit Go.Proofs.Ytfdmfgaiblfbhaa.P Go.Proofs.YtfdmfgaiblfbhaaW.PrintWords Go.Proofs.YtfdmfgaiblfbhaaW.PrintLast Go.Proofs.YtfdmfgaiblfbhaaW.PrintMore
theorem CellPuts : ∀ (a0 : S26) (a1 : S26) (a2 : List Int) (a3 : Int), wf26 a0 → sz a0 ≤ 1048576 → wf26 a1 → sz a1 ≤ 1048576 → a2.length ≤ 1048576 → (∀ x, x ∈ a2 → I64 x) → I64 a3 → sashlaw05_CellPuts.f a0.f0 a0.f1.f0 a0.f1.f1 a0.f1.f2 a0.f1.f3 a0.f2 a0.f3 a1.f0 a1.f1.f0 a1.f1.f1 a1.f1.f2 a1.f1.f3 a1.f2 a1.f3 a2 a3 = some true := by
  intro c kid path mark _ hz _ hzk _ _ _
  unfold sashlaw05_CellPuts.f
  rw [eta26, eta26, if_pos ⟨hz, hzk⟩]
end Go.Proofs.Ytfdmfgaiblfbhaa.Pure
/- Facts on the program's head, each once: the head's text as a row of signs, its words; what follows of them. -/
namespace Go.Proofs.Ytfdmfgaiblfbhaa.P
open Go.RowKit
def headSigns : List Char := [104, 97, 114, 110, 101, 115, 115, 32, 57, 48, 98, 52, 50, 100, 98, 100, 99, 50, 52, 54, 55, 51, 50, 51, 56, 57, 50, 48, 100, 50, 50, 98, 56, 57, 53, 102, 48, 48, 55, 48, 53, 101, 102, 48, 53, 53, 102, 54, 54, 55, 97, 57, 54, 56, 100, 50, 56, 97, 57, 52, 55, 52, 56, 57, 49, 49, 48, 97, 48, 101, 53, 55, 32, 99, 117, 116, 32, 97, 116, 32, 115, 97, 115, 104, 47, 115, 97, 115, 104, 108, 97, 119, 48, 55, 46, 70, 108, 97, 116, 78, 101, 120, 116, 115, 32, 115, 97, 115, 104, 47, 115, 97, 115, 104, 108, 97, 119, 48, 55, 46, 70, 108, 97, 116, 76, 105, 115, 116, 115, 32, 115, 97, 115, 104, 47, 115, 97, 115, 104, 108, 97, 119, 48, 52, 46, 82, 101, 99, 116, 67, 117, 116, 115, 32, 115, 97, 115, 104, 47, 115, 97, 115, 104, 108, 97, 119, 48, 57, 46, 65, 100, 106, 117, 115, 116, 83, 104, 97, 114, 101, 115, 32, 115, 97, 115, 104, 47, 115, 97, 115, 104, 108, 97, 119, 48, 57, 46, 65, 100, 106, 117, 115, 116, 69, 118, 101, 110, 115, 32, 115, 97, 115, 104, 47, 115, 97, 115, 104, 108, 97, 119, 49, 54, 46, 83, 112, 114, 101, 97, 100, 83, 105, 122, 101, 115, 32, 115, 97, 115, 104, 47, 115, 97, 115, 104, 108, 97, 119, 48, 55, 46, 70, 108, 97, 116, 67, 104, 97, 110, 103, 101, 115, 32, 115, 97, 115, 104, 47, 115, 97, 115, 104, 108, 97, 119, 48, 52, 46, 82, 101, 99, 116, 73, 110, 115, 105, 100, 101, 32, 115, 97, 115, 104, 47, 115, 97, 115, 104, 108, 97, 119, 48, 55, 46, 70, 108, 97, 116, 78, 97, 109, 101, 115, 32, 115, 97, 115, 104, 47, 115, 97, 115, 104, 108, 97, 119, 48, 57, 46, 65, 100, 106, 117, 115, 116, 83, 101, 116, 115, 32, 115, 97, 115, 104, 47, 115, 97, 115, 104, 108, 97, 119, 48, 52, 46, 82, 101, 99, 116, 77, 101, 101, 116, 115, 32, 115, 97, 115, 104, 47, 115, 97, 115, 104, 108, 97, 119, 48, 52, 46, 82, 101, 99, 116, 77, 97, 121, 115, 32, 115, 97, 115, 104, 47, 115, 97, 115, 104, 108, 97, 119, 48, 55, 46, 70, 108, 97, 116, 83, 116, 105, 108, 108, 32, 115, 97, 115, 104, 47, 115, 97, 115, 104, 108, 97, 119, 48, 53, 46, 67, 101, 108, 108, 77, 97, 121, 115, 32, 115, 97, 115, 104, 47, 115, 97, 115, 104, 108, 97, 119, 48, 53, 46, 67, 101, 108, 108, 83, 97, 109, 101, 32, 115, 97, 115, 104, 47, 115, 97, 115, 104, 108, 97, 119, 48, 53, 46, 67, 101, 108, 108, 67, 111, 117, 110, 116, 115, 32, 115, 97, 115, 104, 47, 115, 97, 115, 104, 108, 97, 119, 48, 56, 46, 76, 101, 97, 115, 116, 83, 117, 109, 115, 32, 115, 97, 115, 104, 47, 115, 97, 115, 104, 108, 97, 119, 48, 53, 46, 67, 101, 108, 108, 70, 105, 110, 100, 115, 32, 115, 97, 115, 104, 47, 115, 97, 115, 104, 108, 97, 119, 48, 56, 46, 76, 101, 97, 115, 116, 73, 115, 32, 115, 97, 115, 104, 47, 115, 97, 115, 104, 108, 97, 119, 48, 56, 46, 76, 101, 97, 115, 116, 70, 105, 116, 115, 32, 115, 97, 115, 104, 47, 115, 97, 115, 104, 108, 97, 119, 48, 56, 46, 76, 101, 97, 115, 116, 80, 97, 116, 104, 115, 32, 115, 97, 115, 104, 47, 115, 97, 115, 104, 108, 97, 119, 48, 53, 46, 67, 101, 108, 108, 80, 117, 116, 115, 32, 115, 97, 115, 104, 47, 115, 97, 115, 104, 108, 97, 119, 49, 50, 46, 83, 112, 108, 105, 116, 83, 105, 122, 101, 115, 32, 115, 97, 115, 104, 47, 115, 97, 115, 104, 108, 97, 119, 49, 54, 46, 83, 112, 114, 101, 97, 100, 65, 108, 108, 32, 115, 97, 115, 104, 47, 115, 97, 115, 104, 108, 97, 119, 49, 54, 46, 83, 112, 114, 101, 97, 100, 65, 116, 32, 115, 97, 115, 104, 47, 115, 97, 115, 104, 108, 97, 119, 49, 52, 46, 80, 117, 115, 104, 73, 115, 32, 115, 97, 115, 104, 47, 115, 97, 115, 104, 108, 97, 119, 49, 52, 46, 80, 117, 115, 104, 79, 110, 101, 32, 115, 97, 115, 104, 47, 115, 97, 115, 104, 108, 97, 119, 49, 52, 46, 80, 117, 115, 104, 70, 114, 97, 109, 101, 115, 32, 115, 97, 115, 104, 47, 115, 97, 115, 104, 108, 97, 119, 49, 52, 46, 80, 117, 115, 104, 67, 97, 110, 32, 115, 97, 115, 104, 47, 115, 97, 115, 104, 108, 97, 119, 49, 50, 46, 83, 112, 108, 105, 116, 73, 115, 32, 115, 97, 115, 104, 47, 115, 97, 115, 104, 108, 97, 119, 49, 50, 46, 83, 112, 108, 105, 116, 67, 97, 110].map Char.ofNat
def headWords : List (List Char) := [[104, 97, 114, 110, 101, 115, 115].map Char.ofNat,
  [57, 48, 98, 52, 50, 100, 98, 100, 99, 50, 52, 54, 55, 51, 50, 51, 56, 57, 50, 48, 100, 50, 50, 98, 56, 57, 53, 102, 48, 48, 55, 48, 53, 101, 102, 48, 53, 53, 102, 54, 54, 55, 97, 57, 54, 56, 100, 50, 56, 97, 57, 52, 55, 52, 56, 57, 49, 49, 48, 97, 48, 101, 53, 55].map Char.ofNat,
  [99, 117, 116].map Char.ofNat,
  [97, 116].map Char.ofNat,
  [115, 97, 115, 104, 47, 115, 97, 115, 104, 108, 97, 119, 48, 55, 46, 70, 108, 97, 116, 78, 101, 120, 116, 115].map Char.ofNat,
  [115, 97, 115, 104, 47, 115, 97, 115, 104, 108, 97, 119, 48, 55, 46, 70, 108, 97, 116, 76, 105, 115, 116, 115].map Char.ofNat,
  [115, 97, 115, 104, 47, 115, 97, 115, 104, 108, 97, 119, 48, 52, 46, 82, 101, 99, 116, 67, 117, 116, 115].map Char.ofNat,
  [115, 97, 115, 104, 47, 115, 97, 115, 104, 108, 97, 119, 48, 57, 46, 65, 100, 106, 117, 115, 116, 83, 104, 97, 114, 101, 115].map Char.ofNat,
  [115, 97, 115, 104, 47, 115, 97, 115, 104, 108, 97, 119, 48, 57, 46, 65, 100, 106, 117, 115, 116, 69, 118, 101, 110, 115].map Char.ofNat,
  [115, 97, 115, 104, 47, 115, 97, 115, 104, 108, 97, 119, 49, 54, 46, 83, 112, 114, 101, 97, 100, 83, 105, 122, 101, 115].map Char.ofNat,
  [115, 97, 115, 104, 47, 115, 97, 115, 104, 108, 97, 119, 48, 55, 46, 70, 108, 97, 116, 67, 104, 97, 110, 103, 101, 115].map Char.ofNat,
  [115, 97, 115, 104, 47, 115, 97, 115, 104, 108, 97, 119, 48, 52, 46, 82, 101, 99, 116, 73, 110, 115, 105, 100, 101].map Char.ofNat,
  [115, 97, 115, 104, 47, 115, 97, 115, 104, 108, 97, 119, 48, 55, 46, 70, 108, 97, 116, 78, 97, 109, 101, 115].map Char.ofNat,
  [115, 97, 115, 104, 47, 115, 97, 115, 104, 108, 97, 119, 48, 57, 46, 65, 100, 106, 117, 115, 116, 83, 101, 116, 115].map Char.ofNat,
  [115, 97, 115, 104, 47, 115, 97, 115, 104, 108, 97, 119, 48, 52, 46, 82, 101, 99, 116, 77, 101, 101, 116, 115].map Char.ofNat,
  [115, 97, 115, 104, 47, 115, 97, 115, 104, 108, 97, 119, 48, 52, 46, 82, 101, 99, 116, 77, 97, 121, 115].map Char.ofNat,
  [115, 97, 115, 104, 47, 115, 97, 115, 104, 108, 97, 119, 48, 55, 46, 70, 108, 97, 116, 83, 116, 105, 108, 108].map Char.ofNat,
  [115, 97, 115, 104, 47, 115, 97, 115, 104, 108, 97, 119, 48, 53, 46, 67, 101, 108, 108, 77, 97, 121, 115].map Char.ofNat,
  [115, 97, 115, 104, 47, 115, 97, 115, 104, 108, 97, 119, 48, 53, 46, 67, 101, 108, 108, 83, 97, 109, 101].map Char.ofNat,
  [115, 97, 115, 104, 47, 115, 97, 115, 104, 108, 97, 119, 48, 53, 46, 67, 101, 108, 108, 67, 111, 117, 110, 116, 115].map Char.ofNat,
  [115, 97, 115, 104, 47, 115, 97, 115, 104, 108, 97, 119, 48, 56, 46, 76, 101, 97, 115, 116, 83, 117, 109, 115].map Char.ofNat,
  [115, 97, 115, 104, 47, 115, 97, 115, 104, 108, 97, 119, 48, 53, 46, 67, 101, 108, 108, 70, 105, 110, 100, 115].map Char.ofNat,
  [115, 97, 115, 104, 47, 115, 97, 115, 104, 108, 97, 119, 48, 56, 46, 76, 101, 97, 115, 116, 73, 115].map Char.ofNat,
  [115, 97, 115, 104, 47, 115, 97, 115, 104, 108, 97, 119, 48, 56, 46, 76, 101, 97, 115, 116, 70, 105, 116, 115].map Char.ofNat,
  [115, 97, 115, 104, 47, 115, 97, 115, 104, 108, 97, 119, 48, 56, 46, 76, 101, 97, 115, 116, 80, 97, 116, 104, 115].map Char.ofNat,
  [115, 97, 115, 104, 47, 115, 97, 115, 104, 108, 97, 119, 48, 53, 46, 67, 101, 108, 108, 80, 117, 116, 115].map Char.ofNat,
  [115, 97, 115, 104, 47, 115, 97, 115, 104, 108, 97, 119, 49, 50, 46, 83, 112, 108, 105, 116, 83, 105, 122, 101, 115].map Char.ofNat,
  [115, 97, 115, 104, 47, 115, 97, 115, 104, 108, 97, 119, 49, 54, 46, 83, 112, 114, 101, 97, 100, 65, 108, 108].map Char.ofNat,
  [115, 97, 115, 104, 47, 115, 97, 115, 104, 108, 97, 119, 49, 54, 46, 83, 112, 114, 101, 97, 100, 65, 116].map Char.ofNat,
  [115, 97, 115, 104, 47, 115, 97, 115, 104, 108, 97, 119, 49, 52, 46, 80, 117, 115, 104, 73, 115].map Char.ofNat,
  [115, 97, 115, 104, 47, 115, 97, 115, 104, 108, 97, 119, 49, 52, 46, 80, 117, 115, 104, 79, 110, 101].map Char.ofNat,
  [115, 97, 115, 104, 47, 115, 97, 115, 104, 108, 97, 119, 49, 52, 46, 80, 117, 115, 104, 70, 114, 97, 109, 101, 115].map Char.ofNat,
  [115, 97, 115, 104, 47, 115, 97, 115, 104, 108, 97, 119, 49, 52, 46, 80, 117, 115, 104, 67, 97, 110].map Char.ofNat,
  [115, 97, 115, 104, 47, 115, 97, 115, 104, 108, 97, 119, 49, 50, 46, 83, 112, 108, 105, 116, 73, 115].map Char.ofNat,
  [115, 97, 115, 104, 47, 115, 97, 115, 104, 108, 97, 119, 49, 50, 46, 83, 112, 108, 105, 116, 67, 97, 110].map Char.ofNat]
theorem head_list : Try.prog.initOrder.toList = headSigns := by
  have e : Try.prog.initOrder = String.ofList headSigns := by kernel_rfl
  rw [e, String.toList_ofList]
theorem head_words : wordsSigns Try.prog.initOrder.toList = headWords := by
  rw [head_list]
  kernel_rfl
def headRest : List (List Char) := headWords.drop 3
theorem head_behind : behindMainWord (wordsSigns Try.prog.initOrder.toList) = ([99, 117, 116].map Char.ofNat) :: headRest := by
  rw [head_words]
  kernel_rfl
theorem cut_eq : ([99, 117, 116].map Char.ofNat : List Char) = "cut".toList := by decide +kernel
theorem head_behind' : behindMainWord (wordsSigns Try.prog.initOrder.toList) = "cut".toList :: headRest := head_behind.trans (congrArg (fun c => c :: headRest) cut_eq)
theorem strip_none (rest : List (List Char)) : stripLifts liftWords ("cut".toList :: rest) = ([], "cut".toList :: rest) := by
  have key : ∀ (l : List String), (l.all fun o => !("cut".toList == o.toList)) = true → stripLifts l ("cut".toList :: rest) = ([], "cut".toList :: rest) := by
    intro l
    induction l with
    | nil => intro _; rfl
    | cons o l ih =>
      intro h
      simp only [List.all_cons, Bool.and_eq_true] at h
      unfold stripLifts
      rw [if_neg (by simpa using h.1)]
      exact ih h.2
  exact key _ (by decide +kernel)
theorem make_of (P : Program) (rest : List (List Char)) (h : behindMainWord (wordsSigns P.initOrder.toList) = "cut".toList :: rest) : P.make = some .cut := by
  unfold Program.make
  rw [h]
  simp only
  have h1 : ("cut".toList == "gc".toList) = false := by decide +kernel
  have h2 : ("cut".toList == "spec".toList) = false := by decide +kernel
  rw [h1, h2, if_neg (by simp), if_pos (by simp)]
theorem lifts_of (P : Program) (rest : List (List Char)) (h : behindMainWord (wordsSigns P.initOrder.toList) = "cut".toList :: rest) : P.headLifts = [] := by
  unfold Program.headLifts
  simp only [h, strip_none]
  simp
theorem final_of (P : Program) (rest : List (List Char)) (h : behindMainWord (wordsSigns P.initOrder.toList) = "cut".toList :: rest) : P.liftsFinal = false := by
  have h1 : (some "cut".toList == some "carried".toList) = false := by decide +kernel
  unfold Program.liftsFinal
  simp only [h, lifts_of P rest h, List.head?_cons, h1, Bool.false_and, List.contains_nil, Bool.or_false]
theorem enter_of (P : Program) (rest : List (List Char)) (h : behindMainWord (wordsSigns P.initOrder.toList) = "cut".toList :: rest) (h1 : P.laysLater = false) (h2 : P.bearsReflect = false) (h3 : P.doorFits [] = true) : P.mayEnter = true := by
  unfold Program.mayEnter
  rw [h]
  simp only [strip_none]
  rw [h1, h2, h3]
  simp
theorem head_make : Try.prog.make = some .cut := make_of Try.prog headRest head_behind'
theorem head_final : Try.prog.liftsFinal = false := final_of Try.prog headRest head_behind'
theorem head_later : Try.prog.laysLater = false := by kernel_rfl
theorem head_reflect : Try.prog.bearsReflect = false := by kernel_rfl
theorem head_door : Try.prog.doorFits [] = true := by kernel_rfl
theorem head_enter : Try.prog.mayEnter = true := enter_of Try.prog headRest head_behind' head_later head_reflect head_door
theorem head_keys : (true == Try.prog.plainKeys) = true := by kernel_rfl
theorem head_heard : Try.prog.stopsHeard = true := by kernel_rfl
end Go.Proofs.Ytfdmfgaiblfbhaa.P
/- joinedFacts out of its parts, over any program. -/
namespace Go.Proofs.Ytfdmfgaiblfbhaa.P
open Go.RowKit
theorem joined_mk {P : Program} {f : FuncId} {fn : Func} {s : ChangeSpec} {c : OpenClaim}
    (h0 : (c.wf (OpenSpec.ofChange s)) = true)
    (h1 : (laidOutB P) = true)
    (h2 : (mapsRowed P) = true)
    (h3 : (fn.params.all (P.readableRec ·)) = true)
    (h4 : (namedTie P c.named s.vars) = true)
    (h5 : ((c.stops == [])) = true)
    (h6 : ((P.stops == [])) = true)
    (h7 : ((c.knobs == [])) = true)
    (h8 : ((P.stopKnobs == [])) = true)
    (h9 : ((c.inPlace == P.inPlace f)) = true)
    (h10 : ((c.unfollowed == P.unfollowed f)) = true)
    (h11 : ((c.recurses == P.recurses f)) = true)
    (h12 : ((c.named == P.varsNamed f)) = true)
    (h13 : ((c.maps == (fn.params.toList ++ s.plain.varTypes P).any (P.mapsRec ·))) = true)
    (h14 : ((c.ifaces == (fn.params.toList ++ s.plain.varTypes P).any (P.ifacesRec ·))) = true)
    (h15 : ((c.mapsOut == P.mapsAmong fn.resultTypes.toList)) = true)
    (h16 : ((c.loops == (fn.params.toList ++ s.plain.varTypes P).any (P.loopsFrom ·))) = true)
    (h17 : ((c.wideKeys == (fn.params.toList ++ s.plain.varTypes P ++ fn.resultTypes.toList).any (P.wideKeysFrom ·))) = true)
    (h18 : (s.vars.all (P.varReadable ·)) = true)
    (h19 : (fn.resultTypes.all (fun t => P.readableRec t && decide (t < P.types.size))) = true)
    (h20 : ((c.ifacesOut == fn.resultTypes.toList.any (P.ifacesRec ·))) = true)
    (h21 : ((c.loopsOut == fn.resultTypes.toList.any (P.loopsFrom ·))) = true)
    (h22 : ((c.plainKeys == P.plainKeys)) = true)
    (h23 : (c.shortTexts.isNone) = true)
    (h24 : (P.stopsHeard) = true)
    (h25 : (P.mayEnter) = true)
    (h26 : ((c.lifted == P.liftsFinal)) = true)
    (h27 : ((P.make == some c.make)) = true)
    (hd : c.domain.isEmpty = true) (hk : c.kinds = [])
    (h29 : ((c.pinned == c.pinnedBy)) = true)
    (h30 : ((c.veiled == (fn.params.toList ++ s.plain.varTypes P ++ fn.resultTypes.toList).any (P.veiledRec ·))) = true)
    (h31 : (c.veiledFits P fn.params.toList (fn.params.toList ++ s.plain.varTypes P ++ fn.resultTypes.toList)) = true)
    : joinedFacts P f fn s c = true := by
  unfold joinedFacts
  rw [h0, h1, h2, h3, h4, h5, h6, h7, h8, h9, h10, h11, h12, h13, h14, h15, h16, h17, h18, h19, h20, h21, h22, h23, h24, h25, h26, h27, if_pos hd, hk, h29, h30, h31]
  rfl
end Go.Proofs.Ytfdmfgaiblfbhaa.P
/- How a law's arguments read, with their bulk: a tree has no more cells than its reading has bulk. -/
namespace Go.Proofs.Ytfdmfgaiblfbhaa.P
open Go.RowKit Go.Proofs.YtfdmfgaiblfbhaaW.PrintWords Go.Proofs.YtfdmfgaiblfbhaaW.PrintLast Go.Proofs.YtfdmfgaiblfbhaaW.PrintMore
open Go.ChangeShapes Go.WideShapes Go.ChangeAt Go.Joins Go.Deep

section
variable {H : Type} {enc : TypeId × Value → H} {P : Program} {w : World} {base : Nat} {spare : Nat → Bool} {held : Bool}
theorem bulk_pos (d : DataW H) : 1 ≤ Rows.uptoBulk d := by
  cases d with
  | lit l => cases l <;> simp [Rows.uptoBulk]
  | _ => simp [Rows.uptoBulk]
theorem bulk_len (l : List (DataW H)) : l.length ≤ Rows.uptoBulkAll l := by
  induction l with
  | nil => simp
  | cons x xs ih =>
    have := bulk_pos x
    simp only [Rows.uptoBulkAll, List.length_cons]
    omega
theorem bulk_sum {α : Type} (m : α → Nat) : ∀ (l : List α) (es : List (DataW H)), l.length = es.length → (∀ (i : Nat) (p : α) (e : DataW H), l[i]? = some p → es[i]? = some e → m p ≤ Rows.uptoBulk e) → (l.map m).sum ≤ Rows.uptoBulkAll es := by
  intro l
  induction l with
  | nil => intro es _ _; simp
  | cons x xs ih =>
    intro es hl h
    cases es with
    | nil => simp at hl
    | cons e es =>
      have h0 := h 0 x e rfl rfl
      have h1 := ih es (by simpa using hl) (fun i p e hp he => h (i + 1) p e (by simpa using hp) (by simpa using he))
      simp only [List.map_cons, List.sum_cons, Rows.uptoBulkAll]
      omega
theorem trod_struct4z {t : TypeId} {f0 f1 f2 f3 : Field} {fuel : Nat} {cs : List Value} {x : DataW H × List MemPlace} (ht : P.underlying t = some (.struct #[f0, f1, f2, f3])) (h : DataW.trod enc P w base spare held fuel t cs = some x) :
    ∃ y0 y1 y2 y3 n, fuel = n + 1 ∧ x.1 = .agg [y0.1, y1.1, y2.1, y3.1] ∧ cs.length = P.cellsOf t ∧ DataW.trod enc P w base spare held n f0.type ((cs.drop f0.offset).take (P.cellsOf f0.type)) = some y0 ∧
      DataW.trod enc P w base spare held n f1.type ((cs.drop f1.offset).take (P.cellsOf f1.type)) = some y1 ∧ DataW.trod enc P w base spare held n f2.type ((cs.drop f2.offset).take (P.cellsOf f2.type)) = some y2 ∧
      DataW.trod enc P w base spare held n f3.type ((cs.drop f3.offset).take (P.cellsOf f3.type)) = some y3 := by
  obtain ⟨xs, n, hn, rfl, hl, hlen, hf⟩ := DataW.trod_struct ht h
  match xs, hlen with
  | [y0, y1, y2, y3], _ => exact ⟨y0, y1, y2, y3, n, hn, rfl, hl, by simpa using hf 0 f0 rfl, by simpa using hf 1 f1 rfl, by simpa using hf 2 f2 rfl, by simpa using hf 3 f3 rfl⟩
/-- A row whose elements read: so many, and of such a bulk. -/
theorem open_rowz {α : Type} {k : Kd α} {ok : α → Prop} (m : α → Nat) {t e : TypeId} {fuel : Nat} {cs : List Value} {x : DataW H × List MemPlace} (ht : P.underlying t = some (.slice e)) (hs : k.sz = P.cellsOf e)
    (hE : ∀ n, n < fuel → ∀ cs y, DataW.trod enc P w base spare held n e cs = some y → ∃ p, k.K w p cs ∧ ok p ∧ m p ≤ Rows.uptoBulk y.1) (h : DataW.trod enc P w base spare held fuel t cs = some x) :
    ∃ A c l, cs = [.slice A (l : List α).length c] ∧ l.length ≤ c ∧ k.C w A l.length l ∧ (∀ p, p ∈ l → ok p) ∧ (l.map m).sum < Rows.uptoBulk x.1 ∧ l.length < Rows.uptoBulk x.1 := by
  rcases DataW.trod_slice ht h with ⟨rfl, rfl⟩ | ⟨a, len, cap, elems, rest, n, hn, rfl, rfl, hb, hl, hm, hlen, hel, hsp, hns⟩
  · exact ⟨none, 0, [], rfl, Nat.le_refl _, ⟨rfl, by simp, fun h => absurd h (by simp)⟩, (fun p hp => by cases hp), (by simp [Rows.uptoBulk]), (by simp [Rows.uptoBulk])⟩
  · obtain ⟨l, hl2, hq⟩ := row_of (α := α) (Q := fun i p => ok p ∧ (∃ c, c.length = k.sz ∧ k.K w p c ∧ ∀ j u, c[j]? = some u → w.cell? (a.add (i * k.sz + j)) = some u) ∧ ∀ e, elems[i]? = some e → m p ≤ Rows.uptoBulk e.1) len (fun i hi => by
      have key := hel i hi
      rw [List.getElem?_eq_getElem (by omega)] at key
      obtain ⟨cs', h1, h2⟩ := Option.bind_eq_some_iff.1 key
      obtain ⟨p, hp, hok, hm⟩ := hE n (by omega) cs' _ h2
      obtain ⟨h3, h4⟩ := cells_at h1
      refine ⟨p, hok, ⟨cs', by rw [h3, hs], hp, fun j u hj => ?_⟩, fun e he => ?_⟩
      · rw [hs, ← Deep.add_add]
        exact h4 j u hj
      · rw [List.getElem?_eq_getElem (by omega)] at he
        cases he
        exact hm)
    subst hl2
    refine ⟨some a, cap, l, rfl, hl, ⟨rfl, by unfold maxLen at hm; omega, fun _ => ⟨a, rfl, fun j p hj => ?_⟩⟩, fun p hp => ?_, ?_, ?_⟩
    · obtain ⟨_, ⟨c, h1, h2, h3⟩, _⟩ := hq j p hj
      exact ⟨c, h1, h2, h3⟩
    · obtain ⟨i, hi, rfl⟩ := List.getElem_of_mem hp
      exact (hq i _ (List.getElem?_eq_getElem hi)).1
    · have := bulk_sum m l (elems.map (·.1)) (by simp [hlen]) (fun i p e hp he => by
        rw [List.getElem?_map] at he
        obtain ⟨e', he', rfl⟩ := Option.map_eq_some_iff.1 he
        exact (hq i p hp).2.2 e' he')
      simp only [Rows.uptoBulk]
      omega
    · have := bulk_len (elems.map (·.1))
      simp only [List.length_map] at this
      simp only [Rows.uptoBulk]
      omega
end
section
variable {H : Type} {enc : TypeId × Value → H} {w : World} {base : Nat} {spare : Nat → Bool} {held : Bool}
set_option maxRecDepth 100000 in
theorem read26nz : ∀ (fuel : Nat) {cs : List Value} {x : DataW H × List MemPlace} (_ : DataW.trod enc Try.prog w base spare held fuel 26 cs = some x), ∃ r : S26, (Kd.upto F26 7 [26] fuel).K w r cs ∧ wfn26 fuel r ∧ sz r ≤ Rows.uptoBulk x.1 := by
  intro fuel
  induction fuel using Nat.strongRecOn with
  | _ fuel ih =>
  intro cs x h
  cases fuel with
  | zero => simp [DataW.trod] at h
  | succ fuel =>
    obtain ⟨y0, y1, y2, y3, m, hm, hx, hl, h0, h1, h2, h3⟩ := trod_struct4z Try.underlying26 h
    obtain rfl : fuel = m := by omega
    rw [cells26] at hl
    match cs, hl with
    | [c0, c1, c2, c3, c4, c5, c6], _ =>
        simp only [cells3, cells5, cells23, cells24, List.drop_zero, List.take_succ_cons, List.take_zero, List.drop_succ_cons] at h0 h1 h2 h3
        obtain ⟨n0, e0, _, w0⟩ := DataW.trod_int Try.underlying5 h0
        obtain ⟨n2, e2, _, w2⟩ := DataW.trod_int Try.underlying3 h2
        simp only [List.cons.injEq, and_true] at e0 e2
        subst e0 e2
        obtain ⟨r, hr, hw⟩ := read23 h1
        obtain e1 := k23_open hr
        simp only [List.cons.injEq, and_true] at e1
        obtain ⟨rfl, rfl, rfl, rfl⟩ := e1
        obtain ⟨A, c, l, e3, hlc, hC, hok, hsum, _⟩ := open_rowz (k := Kd.upto F26 7 [26] fuel) (ok := wfn26 fuel) sz Try.underlying24 (by rw [sz26, cells26]) (fun n hn cs y hy => by
          obtain ⟨p, hp, hok, hz⟩ := ih n (by omega) hy
          exact ⟨p, Kd.upto_K_le mono26 sz26 (by omega) hp, wfn26_le (by omega) hok, hz⟩) h3
        simp only [List.cons.injEq, and_true] at e3
        subst e3
        have hlen9 : l.length ≤ 9223372036854775807 := hC.2.1
        refine ⟨⟨n0, r, n2, l⟩, ?_, ⟨u8_of w0, hw, i64_of w2, hlen9, hok⟩, ?_⟩
        · exact ⟨[.int .u8 n0], [.int .i64 r.f0, .int .i64 r.f1, .int .i64 r.f2, .int .i64 r.f3, .int .i64 n2, .slice A l.length c], rfl, rfl, [.int .i64 r.f0, .int .i64 r.f1, .int .i64 r.f2, .int .i64 r.f3], [.int .i64 n2, .slice A l.length c], rfl, k23_mk w r, [.int .i64 n2], [.slice A l.length c], rfl, rfl, A, c, rfl, hlc, hC⟩
        · rw [hx, sz_eq]
          have := szL_sum l
          simp only [Rows.uptoBulk, Rows.uptoBulkAll]
          have h3 := bulk_pos y0.1
          omega
theorem read26z {fuel : Nat} {cs : List Value} {x : DataW H × List MemPlace} (h : DataW.trod enc Try.prog w base spare held fuel 26 cs = some x) : ∃ r : S26, k26.K w r cs ∧ wf26 r ∧ sz r ≤ Rows.uptoBulk x.1 := by
  obtain ⟨r, hr, hw, hz⟩ := read26nz fuel h
  exact ⟨r, ⟨fuel, hr⟩, ⟨fuel, hw⟩, hz⟩
end
end Go.Proofs.Ytfdmfgaiblfbhaa.P
/- The row of the law CellPuts, second form (what it reads is of bulk at most 1048576), out of its plain law and its walk. -/
namespace Go.Proofs.Ytfdmfgaiblfbhaa.cellPutsUpto
open Go.ChangeShapes Go.WideShapes Go.ChangeAt Go.RowKit Go.Proofs.Ytfdmfgaiblfbhaa.P Go.Proofs.YtfdmfgaiblfbhaaW.PrintWords
open Go.ChangeMaps (open_string shut_string)
theorem own : ownKnob Try.prog.godebug = none := by kernel_rfl
theorem laidOut : laidOutB Try.prog = true := by kernel_rfl
set_option maxRecDepth 100000 in
theorem lifted (os : Os) (started : os.Started) (H : Type) (enc : TypeId × Value → H) (F : Stop.Interp) :
  ReturnsInHanded {} Try.checked os 24 .any ((Rows.OpenSpec.upto Rows.cellPutsSpec).pre6 enc Try.prog Try.f24 Rows.cellPutsUptoRow.domain false) (((Rows.OpenSpec.upto Rows.cellPutsSpec).at F).post enc Try.prog Try.f24 false true false false) := by
 refine returnsInHanded_of_cond (C := Try.checked) (s := Rows.OpenSpec.upto Rows.cellPutsSpec) (k := Rows.uptoSmall) rfl own started (by kernel_rfl) Try.func24
  (OpenSpec.witness (enc := enc) (C := Try.checked) (s := Rows.OpenSpec.upto Rows.cellPutsSpec) (k := Rows.uptoSmall) rfl false ⟨#[], #[.agg #[.int .u8 0, .int .i64 0, .int .i64 0, .int .i64 0, .int .i64 0, .int .i64 0, .slice none 0 0], .agg #[.int .u8 0, .int .i64 0, .int .i64 0, .int .i64 0, .int .i64 0, .int .i64 0, .slice none 0 0], .slice none 0 0, .int .i64 0], []⟩ 8 (by kernel_rfl) (by kernel_rfl) (by kernel_rfl)
   (x := ([.agg [.lit (.int .u8 0), .agg [.lit (.int .i64 0), .lit (.int .i64 0), .lit (.int .i64 0), .lit (.int .i64 0)], .lit (.int .i64 0), .nil], .agg [.lit (.int .u8 0), .agg [.lit (.int .i64 0), .lit (.int .i64 0), .lit (.int .i64 0), .lit (.int .i64 0)], .lit (.int .i64 0), .nil], .nil, .lit (.int .i64 0)], [], [])) (by kernel_rfl) rfl (by kernel_rfl)) ?_
 intro W base args ds gs before hval0 hW hcnd hk0 _
 have hval : ∀ (j : Nat) t v, Try.f24.params[j]? = some t → args[j]? = some v → Value.okWide Try.prog W .any base t v := hval0
 have hW' := hW
 obtain ⟨p, q, hA0, hV, rfl, hfz, hnd⟩ := hW
 have hA : DataW.TrodAll enc Try.prog W 0 (fun _ => true) true Try.f24.params.toList args.toList ds p := hA0
 rw [Try.params24] at hA hval
 obtain ⟨v0, vs0, d0, ds0, p0, q0, hargs, rfl, rfl, h0, r0⟩ := trodAll_cons hA
 obtain ⟨v1, vs1, d1, ds1, p1, q1, rfl, rfl, rfl, h1, r1⟩ := trodAll_cons r0
 obtain ⟨v2, vs2, d2, ds2, p2, q2, rfl, rfl, rfl, h2, r2⟩ := trodAll_cons r1
 obtain ⟨v3, vs3, d3, ds3, p3, q3, rfl, rfl, rfl, h3, r3⟩ := trodAll_cons r2
 obtain ⟨rfl, rfl, rfl⟩ := trodAll_nil r3
 obtain rfl : args = #[v0, v1, v2, v3] := by cases args; simp_all
 obtain ⟨rfl, rfl⟩ := trodVars_none hV
 have hB := of_decide_eq_true hk0
 simp only [List.cons_append, List.nil_append, List.append_nil, Rows.uptoBulkAll] at hB
 have z0 : Rows.uptoBulk d0 ≤ 1048576 := by omega
 have z1 : Rows.uptoBulk d1 ≤ 1048576 := by omega
 have z2 : Rows.uptoBulk d2 ≤ 1048576 := by omega
 have k0 := h0
 have lt0 : ∀ x ∈ p0, x.block < W.heap.size := by obtain ⟨m, hm⟩ := k0; exact DataW.trod_lt m _ _ _ hm
 obtain ⟨fuel0, hf0⟩ := h0
 obtain ⟨cs0, rfl, _⟩ := okWide_struct Try.underlying26 (hval 0 26 v0 rfl rfl)
 obtain ⟨a0, b0, w0, y0⟩ := read26z hf0
 obtain ⟨A0, c0, e0, hc0, hr0⟩ := k26_open b0
 obtain rfl := agg_of e0
 have k1 := h1
 have lt1 : ∀ x ∈ p1, x.block < W.heap.size := by obtain ⟨m, hm⟩ := k1; exact DataW.trod_lt m _ _ _ hm
 obtain ⟨fuel1, hf1⟩ := h1
 obtain ⟨cs1, rfl, _⟩ := okWide_struct Try.underlying26 (hval 1 26 v1 rfl rfl)
 obtain ⟨a1, b1, w1, y1⟩ := read26z hf1
 obtain ⟨A1, c1, e1, hc1, hr1⟩ := k26_open b1
 obtain rfl := agg_of e1
 have k2 := h2
 have lt2 : ∀ x ∈ p2, x.block < W.heap.size := by obtain ⟨m, hm⟩ := k2; exact DataW.trod_lt m _ _ _ hm
 obtain ⟨fuel2, hf2⟩ := h2
 obtain ⟨A2, len2, cap2, rfl⟩ := okWide_slice Try.underlying41 (hval 2 41 v2 rfl rfl)
 obtain ⟨B2, c2, a2, e2, hc2, hr2, w2, s2, y2⟩ := open_rowz (k := Kd.int .i64) (ok := I64) (fun _ => 0) Try.underlying41 (by kernel_rfl) (fun n _ cs y hy => by obtain ⟨x, rfl, _, hw⟩ := DataW.trod_int Try.underlying3 hy; exact ⟨x, rfl, i64_of hw, Nat.zero_le _⟩) hf2
 simp only [Value.cells, List.cons.injEq, Value.slice.injEq, and_true] at e2
 obtain ⟨rfl, rfl, rfl⟩ := e2
 obtain ⟨a3, rfl, rfl, rfl, w3⟩ := open_int Try.underlying3 (hval 3 3 v3 rfl rfl) h3
 have hP := Pure.CellPuts a0 a1 a2 a3 w0 (Nat.le_trans y0 z0) w1 (Nat.le_trans y1 z1) (Nat.le_trans (Nat.le_of_lt y2) z2) w2 (i64_of w3)
 refine (sashlaw05_CellPuts.calls a0.f0 a0.f1.f0 a0.f1.f1 a0.f1.f2 a0.f1.f3 a0.f2 _ _ a0.f3 a1.f0 a1.f1.f0 a1.f1.f1 a1.f1.f2 a1.f1.f3 a1.f2 _ _ a1.f3 _ _ a2 a3 true W hr0 hc0 hr1 hc1 hr2 hc2 hP).mono fun e W' ⟨he, bel0⟩ => ?_
 have bel : Below W.heap.size W W' := bel0
 subst he
 exact ⟨_, rfl, _, _, _, [], _, [], hW', trodAll_mk1 (shut_bool Try.underlying4 _), (trodAll_cons_mk (Below.trod laidOut (by kernel_rfl) (of_decide_eq_true (by kernel_rfl)) k0 bel lt0) (trodAll_cons_mk (Below.trod laidOut (by kernel_rfl) (of_decide_eq_true (by kernel_rfl)) k1 bel lt1) (trodAll_cons_mk (Below.trod laidOut (by kernel_rfl) (of_decide_eq_true (by kernel_rfl)) k2 bel lt2) (trodAll_cons_mk (shut_int Try.underlying3 w3) trodAll_mk0)))), rfl, bel.frame _, fun h => by cases h⟩
theorem j0 : (Rows.cellPutsUptoRow.wf (OpenSpec.ofChange (Rows.OpenSpec.upto Rows.cellPutsSpec).bare)) = true := by kernel_rfl
theorem j1 : (laidOutB Try.prog) = true := by kernel_rfl
theorem j2 : (mapsRowed Try.prog) = true := by kernel_rfl
theorem j3 : (Try.f24.params.all (Try.prog.readableRec ·)) = true := by kernel_rfl
theorem j4 : (namedTie Try.prog Rows.cellPutsUptoRow.named (Rows.OpenSpec.upto Rows.cellPutsSpec).bare.vars) = true := by kernel_rfl
theorem j5 : ((Rows.cellPutsUptoRow.stops == [])) = true := by kernel_rfl
theorem j6 : ((Try.prog.stops == [])) = true := by kernel_rfl
theorem j7 : ((Rows.cellPutsUptoRow.knobs == [])) = true := by kernel_rfl
theorem j8 : ((Try.prog.stopKnobs == [])) = true := by kernel_rfl
theorem j9 : ((Rows.cellPutsUptoRow.inPlace == Try.prog.inPlace 24)) = true := by kernel_rfl
theorem j10 : ((Rows.cellPutsUptoRow.unfollowed == Try.prog.unfollowed 24)) = true := by kernel_rfl
theorem j11 : ((Rows.cellPutsUptoRow.recurses == Try.prog.recurses 24)) = true := by kernel_rfl
theorem j12 : ((Rows.cellPutsUptoRow.named == Try.prog.varsNamed 24)) = true := by kernel_rfl
theorem j13 : ((Rows.cellPutsUptoRow.maps == (Try.f24.params.toList ++ (Rows.OpenSpec.upto Rows.cellPutsSpec).bare.plain.varTypes Try.prog).any (Try.prog.mapsRec ·))) = true := by kernel_rfl
theorem j14 : ((Rows.cellPutsUptoRow.ifaces == (Try.f24.params.toList ++ (Rows.OpenSpec.upto Rows.cellPutsSpec).bare.plain.varTypes Try.prog).any (Try.prog.ifacesRec ·))) = true := by kernel_rfl
theorem j15 : ((Rows.cellPutsUptoRow.mapsOut == Try.prog.mapsAmong Try.f24.resultTypes.toList)) = true := by kernel_rfl
theorem j16 : ((Rows.cellPutsUptoRow.loops == (Try.f24.params.toList ++ (Rows.OpenSpec.upto Rows.cellPutsSpec).bare.plain.varTypes Try.prog).any (Try.prog.loopsFrom ·))) = true := by kernel_rfl
theorem j17 : ((Rows.cellPutsUptoRow.wideKeys == (Try.f24.params.toList ++ (Rows.OpenSpec.upto Rows.cellPutsSpec).bare.plain.varTypes Try.prog ++ Try.f24.resultTypes.toList).any (Try.prog.wideKeysFrom ·))) = true := by kernel_rfl
theorem j18 : ((Rows.OpenSpec.upto Rows.cellPutsSpec).bare.vars.all (Try.prog.varReadable ·)) = true := by kernel_rfl
theorem j19 : (Try.f24.resultTypes.all (fun t => Try.prog.readableRec t && decide (t < Try.prog.types.size))) = true := by kernel_rfl
theorem j20 : ((Rows.cellPutsUptoRow.ifacesOut == Try.f24.resultTypes.toList.any (Try.prog.ifacesRec ·))) = true := by kernel_rfl
theorem j21 : ((Rows.cellPutsUptoRow.loopsOut == Try.f24.resultTypes.toList.any (Try.prog.loopsFrom ·))) = true := by kernel_rfl
theorem j23 : (Rows.cellPutsUptoRow.shortTexts.isNone) = true := by kernel_rfl
theorem j29 : ((Rows.cellPutsUptoRow.pinned == Rows.cellPutsUptoRow.pinnedBy)) = true := by kernel_rfl
theorem j30 : ((Rows.cellPutsUptoRow.veiled == (Try.f24.params.toList ++ (Rows.OpenSpec.upto Rows.cellPutsSpec).bare.plain.varTypes Try.prog ++ Try.f24.resultTypes.toList).any (Try.prog.veiledRec ·))) = true := by kernel_rfl
theorem j31 : (Rows.cellPutsUptoRow.veiledFits Try.prog Try.f24.params.toList (Try.f24.params.toList ++ (Rows.OpenSpec.upto Rows.cellPutsSpec).bare.plain.varTypes Try.prog ++ Try.f24.resultTypes.toList)) = true := by kernel_rfl
theorem closed : joinedFacts Try.prog 24 Try.f24 (Rows.OpenSpec.upto Rows.cellPutsSpec).bare Rows.cellPutsUptoRow = true := P.joined_mk j0 j1 j2 j3 j4 j5 j6 j7 j8 j9 j10 j11 j12 j13 j14 j15 j16 j17 j18 j19 j20 j21 P.head_keys j23 P.head_heard P.head_enter (by rw [P.head_final]; rfl) (by rw [P.head_make]; rfl) rfl rfl j29 j30 j31
theorem over : Rows.cellPutsUptoRow.holds Try.pinned (Rows.OpenSpec.upto Rows.cellPutsSpec) :=
 OpenClaim.holds_of_cond 24 Try.f24 rfl rfl rfl rfl rfl rfl rfl ⟨rfl, rfl, rfl, rfl, rfl⟩ rfl rfl rfl rfl rfl (by kernel_rfl) Try.func24 closed
  (of_decide_eq_true (by kernel_rfl)) (by unfold Func.isWrapper; first | (rw [if_pos (by decide +kernel)]; kernel_rfl) | (rw [if_neg (by decide +kernel)]; exact ⟨rfl, rfl⟩))
  (fun os started H enc _ F => lifted os started H enc F)
theorem proved : Rows.CellPutsUptoSaid := over
#print axioms proved
end Go.Proofs.Ytfdmfgaiblfbhaa.cellPutsUpto
namespace Go.Proofs.Ytfdmfgaiblfbhaa
/-- The row, under a short name, for the claim. -/
theorem cellPutsUpto_holds : Rows.CellPutsUptoSaid := cellPutsUpto.proved
end Go.Proofs.Ytfdmfgaiblfbhaa
