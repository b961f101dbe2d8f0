/- LeastPaths: part 3 of 7 of this claim's texts, one behind the other. The words of the kit's printer stand in it cut down, by a program, to those that are used. -/
import Derived.Test.YtfdmfgaiblfbhaaProg
import Derived.Below
import Derived.Deep.Draws
import Derived.Deep.AppendLies
import Derived.Maps.AppendAt
import Derived.OwnWalk
import Derived.Laws.BytesArg
import Derived.Laws.MakeOwn
import Derived.Laws.OwnMore
import Derived.Deep.OwnRows
import Derived.Tactics
import Derived.Lib.ConvBytes
import Derived.Laws.Slices
import Derived.WalkKit
import Derived.KernelRfl
import Derived.RowKit3
import Derived.Deep.LoopGhost
import Derived.Deep.QuietTactic
import Derived.BigQuiet
import Derived.WideLaws
import Derived.Deep.DeepCutAuto
import Derived.Deep.CutBlock
import Derived.Deep.RegionHeld3
import Derived.Laws.Rows
import Derived.Lib.AppendStr
import Derived.ArgAppend
import Derived.Laws.IdiomCopy
import Derived.OrdersHeld
import Derived.Laws.BitsLemmas
import Derived.RowKit
import Derived.Test.YtfdmfgaiblfbhaaMLeastPathsa
import Derived.Test.YtfdmfgaiblfbhaaMLeastPathsb
namespace Go.Proofs.Ytfdmfgaiblfbhaa.P
open Go.RowKit Go.Proofs.YtfdmfgaiblfbhaaW.PrintWords Go.Proofs.YtfdmfgaiblfbhaaW.PrintLast Go.Proofs.YtfdmfgaiblfbhaaW.PrintMore
attribute [local go_sem] max2_int min2_int max_two min_two max_three min_three max_four min_four   -- for this text's walks alone
set_option linter.unusedVariables false
set_option linter.unusedSimpArgs false



def errW : Option Int → Value
  | none => .nilIface
  | some c => .iface 0 (.int .i64 c)
theorem errW_none : errW none = .nilIface := rfl
theorem errW_some (c : Int) : errW (some c) = .iface 0 (.int .i64 c) := rfl

theorem info3 : (Try.prog.info? 3).map (fun i => (i.zero, i.size, i.bytes)) = some (some (.int .i64 0), 1, 8) := by kernel_rfl
theorem info23 : (Try.prog.info? 23).map (fun i => (i.zero, i.size, i.bytes)) = some (some (.agg #[(.int .i64 0), (.int .i64 0), (.int .i64 0), (.int .i64 0)]), 4, 32) := by kernel_rfl
-- the values' own types
/-! #### struct type 23 -/
structure S23 where
  f0 : Int
  f1 : Int
  f2 : Int
  f3 : Int
def z23 : S23 := ⟨(0 : Int), (0 : Int), (0 : Int), (0 : Int)⟩
def k23 : Kd S23 := Kd.iso (Kd.pair (Kd.int .i64) (Kd.pair (Kd.int .i64) (Kd.pair (Kd.int .i64) (Kd.int .i64)))) (fun x : S23 => (x.f0, x.f1, x.f2, x.f3))
theorem k23_heap : Kd.Heap k23 := Kd.heap_iso _ (Kd.heap_pair (Kd.heap_int .i64) (Kd.heap_pair (Kd.heap_int .i64) (Kd.heap_pair (Kd.heap_int .i64) (Kd.heap_int .i64))))
theorem k23_open {w : World} {x : S23} {cs : List Value} (h : k23.K w x cs) : cs = [.int .i64 x.f0, .int .i64 x.f1, .int .i64 x.f2, .int .i64 x.f3] := by
  obtain ⟨_, _, rfl, rfl, ⟨_, _, rfl, rfl, ⟨_, _, rfl, rfl, rfl⟩⟩⟩ := h
  exact rfl
theorem k23_mk (w : World) (x : S23)  : k23.K w x [.int .i64 x.f0, .int .i64 x.f1, .int .i64 x.f2, .int .i64 x.f3] := ⟨[.int .i64 x.f0], [.int .i64 x.f1, .int .i64 x.f2, .int .i64 x.f3], rfl, rfl, ⟨[.int .i64 x.f1], [.int .i64 x.f2, .int .i64 x.f3], rfl, rfl, ⟨[.int .i64 x.f2], [.int .i64 x.f3], rfl, rfl, rfl⟩⟩⟩
theorem k23_mkM (w : World) (base : Nat) (ok : Nat → Prop) (x : S23)  : k23.M w base ok x [.int .i64 x.f0, .int .i64 x.f1, .int .i64 x.f2, .int .i64 x.f3] := ⟨[.int .i64 x.f0], [.int .i64 x.f1, .int .i64 x.f2, .int .i64 x.f3], rfl, rfl, ⟨[.int .i64 x.f1], [.int .i64 x.f2, .int .i64 x.f3], rfl, rfl, ⟨[.int .i64 x.f2], [.int .i64 x.f3], rfl, rfl, rfl⟩⟩⟩
def rd_T23 (xs : List S23) (i : Int) : S23 := xs.getD i.toNat z23
theorem at_T23 {w : World} {A : Option Addr} {n : Nat} {xs : List S23} (h : Kd.C k23 w A n xs) (i : Int) (h0 : 0 ≤ i) (h1 : i < n) : ∃ ad , A = some ad ∧ w.cell? (ad.add (i.toNat * 4)) = some (.int .i64 (rd_T23 xs i).f0) ∧ w.cell? ⟨(ad.add (i.toNat * 4)).block, (ad.add (i.toNat * 4)).off + 1, none⟩ = some (.int .i64 (rd_T23 xs i).f1) ∧ w.cell? ⟨(ad.add (i.toNat * 4)).block, (ad.add (i.toNat * 4)).off + 2, none⟩ = some (.int .i64 (rd_T23 xs i).f2) ∧ w.cell? ⟨(ad.add (i.toNat * 4)).block, (ad.add (i.toNat * 4)).off + 3, none⟩ = some (.int .i64 (rd_T23 xs i).f3) := by
  obtain ⟨ad, c, e, _, hK, hc0⟩ := Kd.C_get h z23 i h0 h1
  have hc : ∀ j u, c[j]? = some u → w.cell? (ad.add (i.toNat * 4 + j)) = some u := hc0
  obtain rfl := k23_open hK
  exact ⟨ad, e, hc 0 _ rfl, by rw [← add_field _ _ 1 (by omega)]; exact hc 1 _ rfl, by rw [← add_field _ _ 2 (by omega)]; exact hc 2 _ rfl, by rw [← add_field _ _ 3 (by omega)]; exact hc 3 _ rfl⟩

/-! #### struct type 26, nested in itself -/
structure S26 where
  f0 : Int
  f1 : S23
  f2 : Int
  f3 : (List S26)
def z26 : S26 := ⟨(0 : Int), z23, (0 : Int), ([] : List S26)⟩
def F26 (d : Kd S26) : Kd S26 := Kd.iso (Kd.pair (Kd.int .u8) (Kd.pair k23 (Kd.pair (Kd.int .i64) (Kd.slice 26 d)))) (fun x : S26 => (x.f0, x.f1, x.f2, x.f3))
theorem mono26 : Kd.Mono F26 := Kd.mono_iso _ (Kd.mono_pair (Kd.mono_const _) (Kd.mono_pair (Kd.mono_const _) (Kd.mono_pair (Kd.mono_const _) (Kd.mono_slice 26 Kd.mono_id))))
theorem sub26 : Kd.Sub F26 [26] := Kd.sub_iso _ (Kd.sub_pair (Kd.sub_const _ (by decide)) (Kd.sub_pair (Kd.sub_const _ (by decide)) (Kd.sub_pair (Kd.sub_const _ (by decide)) (Kd.sub_slice 26 (by decide) Kd.sub_id))))
theorem sz26 : ∀ n, (Kd.upto F26 7 [26] n).sz = 7 := Kd.upto_sz (fun _ => rfl)
def k26 : Kd S26 := Kd.fix F26 7 [26] sz26 (Kd.upto_E sub26)
theorem k26_heap : Kd.Heap k26 := Kd.heap_fix (fun _ h_ => Kd.heap_iso _ (Kd.heap_pair (Kd.heap_int .u8) (Kd.heap_pair k23_heap (Kd.heap_pair (Kd.heap_int .i64) (Kd.heap_slice 26 h_)))))
theorem k26_open {w : World} {x : S26} {cs : List Value} (h : k26.K w x cs) : ∃ A6 c6, cs = [.int .u8 x.f0, .int .i64 x.f1.f0, .int .i64 x.f1.f1, .int .i64 x.f1.f2, .int .i64 x.f1.f3, .int .i64 x.f2, .slice A6 x.f3.length c6] ∧ x.f3.length ≤ c6 ∧ k26.C w A6 x.f3.length x.f3 := by
  obtain ⟨n, h⟩ := h
  cases n with
  | zero => exact h.elim
  | succ n =>
    obtain ⟨_, _, rfl, rfl, ⟨_, _, rfl, s1, ⟨_, _, rfl, rfl, ⟨A6, c6, rfl, l6, g6⟩⟩⟩⟩ := h
    obtain rfl := k23_open s1
    exact ⟨A6, c6, rfl, l6, Kd.fix_C g6⟩
theorem k26_mk (w : World) (x : S26) {A6 : Option Addr} {c6 : Nat} (l6 : x.f3.length ≤ c6) (g6 : k26.C w A6 x.f3.length x.f3) : k26.K w x [.int .u8 x.f0, .int .i64 x.f1.f0, .int .i64 x.f1.f1, .int .i64 x.f1.f2, .int .i64 x.f1.f3, .int .i64 x.f2, .slice A6 x.f3.length c6] := by
  obtain ⟨n6, q6⟩ := Kd.fix_C_back mono26 g6
  have r6 := Kd.upto_C_le mono26 sz26 (show n6 ≤ n6 by omega) q6
  exact ⟨n6 + 1, ⟨[.int .u8 x.f0], [.int .i64 x.f1.f0, .int .i64 x.f1.f1, .int .i64 x.f1.f2, .int .i64 x.f1.f3, .int .i64 x.f2, .slice A6 x.f3.length c6], rfl, rfl, ⟨[.int .i64 x.f1.f0, .int .i64 x.f1.f1, .int .i64 x.f1.f2, .int .i64 x.f1.f3], [.int .i64 x.f2, .slice A6 x.f3.length c6], rfl, (k23_mk w x.f1 ), ⟨[.int .i64 x.f2], [.slice A6 x.f3.length c6], rfl, rfl, ⟨A6, c6, rfl, l6, r6⟩⟩⟩⟩⟩
theorem k26_mkM (w : World) (base : Nat) (ok : Nat → Prop) (x : S26) {v6 : Value} (g6 : k26.R 26 w base ok v6 x.f3) : k26.M w base ok x [.int .u8 x.f0, .int .i64 x.f1.f0, .int .i64 x.f1.f1, .int .i64 x.f1.f2, .int .i64 x.f1.f3, .int .i64 x.f2, v6] := by
  obtain ⟨n6, q6⟩ := Kd.fix_R_back mono26 g6
  have r6 := Kd.upto_R_le mono26 sz26 (show n6 ≤ n6 by omega) q6
  exact ⟨n6 + 1, ⟨[.int .u8 x.f0], [.int .i64 x.f1.f0, .int .i64 x.f1.f1, .int .i64 x.f1.f2, .int .i64 x.f1.f3, .int .i64 x.f2, v6], rfl, rfl, ⟨[.int .i64 x.f1.f0, .int .i64 x.f1.f1, .int .i64 x.f1.f2, .int .i64 x.f1.f3], [.int .i64 x.f2, v6], rfl, (k23_mkM w base ok x.f1 ), ⟨[.int .i64 x.f2], [v6], rfl, rfl, ⟨v6, rfl, r6⟩⟩⟩⟩⟩
theorem k26_openF {W : World} {ok : Nat → Prop} {x : S26} {cs : List Value} (h : Kd.FK k26 W ok x cs) : ∃ A6 c6, cs = [.int .u8 x.f0, .int .i64 x.f1.f0, .int .i64 x.f1.f1, .int .i64 x.f1.f2, .int .i64 x.f1.f3, .int .i64 x.f2, .slice A6 x.f3.length c6] ∧ x.f3.length ≤ c6 ∧ Kd.F k26 W ok A6 x.f3.length x.f3 := by
  obtain ⟨A6, c6, rfl, l6, _⟩ := k26_open (Kd.FK_now h)
  exact ⟨A6, c6, rfl, l6, (fun W' hW => by obtain ⟨A6_, c6_, he, l6_, g6_⟩ := k26_open (h W' hW); injection (Option.some.inj (show some (Value.slice A6 x.f3.length c6) = some (Value.slice A6_ x.f3.length c6_) from congrArg (fun l => l[6]?) he)) with ha_ _ _; rw [ha_]; exact g6_)⟩
theorem k26_mkF (W : World) (ok : Nat → Prop) (x : S26) {A6 : Option Addr} {c6 : Nat} (l6 : x.f3.length ≤ c6) (g6 : Kd.F k26 W ok A6 x.f3.length x.f3) : Kd.FK k26 W ok x [.int .u8 x.f0, .int .i64 x.f1.f0, .int .i64 x.f1.f1, .int .i64 x.f1.f2, .int .i64 x.f1.f3, .int .i64 x.f2, .slice A6 x.f3.length c6] := fun W2 hW => k26_mk W2 x l6 (g6 W2 hW)
def rd_T26 (xs : List S26) (i : Int) : S26 := xs.getD i.toNat z26
theorem at_T26 {w : World} {A : Option Addr} {n : Nat} {xs : List S26} (h : Kd.C k26 w A n xs) (i : Int) (h0 : 0 ≤ i) (h1 : i < n) : ∃ ad A6 c6, A = some ad ∧ w.cell? (ad.add (i.toNat * 7)) = some (.int .u8 (rd_T26 xs i).f0) ∧ w.cell? ⟨(ad.add (i.toNat * 7)).block, (ad.add (i.toNat * 7)).off + 1, none⟩ = some (.int .i64 (rd_T26 xs i).f1.f0) ∧ w.cell? ⟨(ad.add (i.toNat * 7)).block, (ad.add (i.toNat * 7)).off + 2, none⟩ = some (.int .i64 (rd_T26 xs i).f1.f1) ∧ w.cell? ⟨(ad.add (i.toNat * 7)).block, (ad.add (i.toNat * 7)).off + 3, none⟩ = some (.int .i64 (rd_T26 xs i).f1.f2) ∧ w.cell? ⟨(ad.add (i.toNat * 7)).block, (ad.add (i.toNat * 7)).off + 4, none⟩ = some (.int .i64 (rd_T26 xs i).f1.f3) ∧ w.cell? ⟨(ad.add (i.toNat * 7)).block, (ad.add (i.toNat * 7)).off + 5, none⟩ = some (.int .i64 (rd_T26 xs i).f2) ∧ w.cell? ⟨(ad.add (i.toNat * 7)).block, (ad.add (i.toNat * 7)).off + 6, none⟩ = some (.slice A6 (rd_T26 xs i).f3.length c6) ∧ (rd_T26 xs i).f3.length ≤ c6 ∧ k26.C w A6 (rd_T26 xs i).f3.length (rd_T26 xs i).f3 := by
  obtain ⟨ad, c, e, _, hK, hc0⟩ := Kd.C_get h z26 i h0 h1
  have hc : ∀ j u, c[j]? = some u → w.cell? (ad.add (i.toNat * 7 + j)) = some u := hc0
  obtain ⟨A6, c6, rfl, l6, g6⟩ := k26_open hK
  exact ⟨ad, A6, c6, e, hc 0 _ rfl, by rw [← add_field _ _ 1 (by omega)]; exact hc 1 _ rfl, by rw [← add_field _ _ 2 (by omega)]; exact hc 2 _ rfl, by rw [← add_field _ _ 3 (by omega)]; exact hc 3 _ rfl, by rw [← add_field _ _ 4 (by omega)]; exact hc 4 _ rfl, by rw [← add_field _ _ 5 (by omega)]; exact hc 5 _ rfl, by rw [← add_field _ _ 6 (by omega)]; exact hc 6 _ rfl, l6, g6⟩

/-! #### struct type 35 -/
structure S35 where
  f0 : Int
  f1 : S23
def z35 : S35 := ⟨(0 : Int), z23⟩
def k35 : Kd S35 := Kd.iso (Kd.pair (Kd.int .i64) k23) (fun x : S35 => (x.f0, x.f1))
def rd_T35 (xs : List S35) (i : Int) : S35 := xs.getD i.toNat z35
def rd_L5 (xs : List (List S35)) (i : Int) : (List S35) := xs.getD i.toNat ([] : List S35)
def rd_L6 (xs : List (List Int)) (i : Int) : (List Int) := xs.getD i.toNat ([] : List Int)
def rd_L8 (xs : List (List S23)) (i : Int) : (List S23) := xs.getD i.toNat ([] : List S23)
def rd_L9 (xs : List (List S26)) (i : Int) : (List S26) := xs.getD i.toNat ([] : List S26)
def rd_L10 (xs : List (List Int)) (i : Int) : (List Int) := xs.getD i.toNat ([] : List Int)
end Go.Proofs.Ytfdmfgaiblfbhaa.P
namespace Go.Proofs.Ytfdmfgaiblfbhaa.P
open Go.RowKit Go.Proofs.YtfdmfgaiblfbhaaW.PrintWords Go.Proofs.YtfdmfgaiblfbhaaW.PrintLast Go.Proofs.YtfdmfgaiblfbhaaW.PrintMore
attribute [local go_sem] max2_int min2_int max_two min_two max_three min_three max_four min_four   -- for this text's walks alone
set_option linter.unusedVariables false
set_option linter.unusedSimpArgs false

/-! ### sashref05_count: function 124 -/
mutual
def sashref05_count.l0 : Nat → Int → Int → Int → Int → Int → Int → Int → Int → Int → Int → List (S26) → Option (Int)
 | 0, _, _, _, _, _, _, _, _, _, _, _ => none
 | k + 1, x1, x5, x9, x10, x102000, x102001, x102002, x102003, x102004, x102005, x102006 => if x10 < x9 then (if x5 > x1 then (some x5) else (if 0 ≤ x10 then (if x10 < (x102006.length : Int) then ((sashref05_count.f k ((rd_T26 x102006 x10).f0) ((rd_T26 x102006 x10).f1.f0) ((rd_T26 x102006 x10).f1.f1) ((rd_T26 x102006 x10).f1.f2) ((rd_T26 x102006 x10).f1.f3) ((rd_T26 x102006 x10).f2) ((rd_T26 x102006 x10).f3) x1).bind fun t103 => (sashref05_count.l0 k x1 (wrap64 (x5 + t103)) x9 (wrap64 (x10 + 1)) x102000 x102001 x102002 x102003 x102004 x102005 x102006)) else (none)) else (none))) else (some x5)
def sashref05_count.f : Nat → Int → Int → Int → Int → Int → Int → List (S26) → Int → Option (Int)
 | 0, _, _, _, _, _, _, _, _ => none
 | k + 1, a0_0, a0_1, a0_2, a0_3, a0_4, a0_5, l0_6, a1 => sashref05_count.l0 k a1 1 (l0_6.length : Int) 0 a0_0 a0_1 a0_2 a0_3 a0_4 a0_5 l0_6
end
set_option maxHeartbeats 8000000 in
set_option maxRecDepth 100000 in
theorem sashref05_count.calls (k : Nat) : ∀ (a0_0 : Int) (a0_1 : Int) (a0_2 : Int) (a0_3 : Int) (a0_4 : Int) (a0_5 : Int) (A0_6 : Option Addr) (c0_6 : Nat) (l0_6 : List (S26)) (a1 : Int) (r : Int) (w : World) (hr0_6 : Kd.C k26 w A0_6 l0_6.length l0_6) (hc0_6 : l0_6.length ≤ c0_6) (h : sashref05_count.f k a0_0 a0_1 a0_2 a0_3 a0_4 a0_5 l0_6 a1 = some r),
  Calls Try.prog 124 #[.agg #[.int .u8 a0_0, .int .i64 a0_1, .int .i64 a0_2, .int .i64 a0_3, .int .i64 a0_4, .int .i64 a0_5, .slice A0_6 l0_6.length c0_6], .int .i64 a1] w fun e w' => e = .returned (.int .i64 r) ∧ Below w.heap.size w w' := by
 induction k using Nat.strongRecOn with
 | _ k ih =>
 intro a0_0 a0_1 a0_2 a0_3 a0_4 a0_5 A0_6 c0_6 l0_6 a1 r w hr0_6 hc0_6 h
 cases k with
 | zero => exact absurd h (by simp [sashref05_count.f])
 | succ k =>
 simp only [sashref05_count.f] at h
 have hu26 := Try.underlying26
 have HR0_6 := Aside0.mk hr0_6
 have HC0_6 := Aside0.mk hc0_6
 clear hr0_6 hc0_6
 have HB := Aside0.mk (Below.refl w.heap.size w)
 have H : (sashref05_count.l0 k a1 1 (l0_6.length : Int) 0 a0_0 a0_1 a0_2 a0_3 a0_4 a0_5 l0_6) = some r := h
 clear h
 have H' := Aside0.mk H
 clear H
 go_enter Try.func124, Try.ntmps124
 go_wp2_with (first | ((with_reducible refine gate_dst (N := 2) rfl ?_); refine box_event ?hg (N := 2) ?hd (cs := #[.int .u8 a0_0, .int .i64 a0_1, .int .i64 a0_2, .int .i64 a0_3, .int .i64 a0_4, .int .i64 a0_5, .slice A0_6 l0_6.length c0_6]) (t := 26) ?hr ?_; (case hd => rfl); (case hg => rfl); (case hr => first | (go_simp; done) | (go_simp; rfl)); intro gb101 hg w3 hbox hb; have n0_ := Aside0.mk (below_step (by repeat (first | (with_reducible first | exact HB.out | apply below_alloc | apply pw_below_drewN | apply below_drew1) | exact HB.out)) hb); have n1_ := Aside0.mk (hbox); have n2_ := Aside0.mk ((by rw [hg]; exact (below_size (by repeat (first | (with_reducible first | exact HB.out | apply below_alloc | apply pw_below_drewN | apply below_drew1) | exact HB.out))) : w.heap.size ≤ gb101)); have n3_ := Aside0.mk ((by rw [hg]; exact (below_size (by repeat (first | (with_reducible first | exact HB.out | apply below_alloc | apply pw_below_drewN | apply below_drew1) | exact HB.out))) : w.heap.size ≤ gb101)); clear HB; have HB := n0_; have BK101 := n1_; have GW101 := n2_; have GE101 := n3_; clear n0_ n1_ n2_ n3_; clear hb hbox hg; have hcz4_0 : w3.cell? ⟨gb101, 0, none⟩ = some (.int .u8 a0_0) := (blk_cell BK101.out 0).trans rfl; have hcz4_1 : w3.cell? ⟨gb101, 1, none⟩ = some (.int .i64 a0_1) := (blk_cell BK101.out 1).trans rfl; have hcz4_2 : w3.cell? ⟨gb101, 2, none⟩ = some (.int .i64 a0_2) := (blk_cell BK101.out 2).trans rfl; have hcz4_3 : w3.cell? ⟨gb101, 3, none⟩ = some (.int .i64 a0_3) := (blk_cell BK101.out 3).trans rfl; have hcz4_4 : w3.cell? ⟨gb101, 4, none⟩ = some (.int .i64 a0_4) := (blk_cell BK101.out 4).trans rfl; have hcz4_5 : w3.cell? ⟨gb101, 5, none⟩ = some (.int .i64 a0_5) := (blk_cell BK101.out 5).trans rfl; have hcz4_6 : w3.cell? ⟨gb101, 6, none⟩ = some (.slice A0_6 l0_6.length c0_6) := (blk_cell BK101.out 6).trans rfl; have hfz4_0 := blk_frozen BK101.out 0; have hfz4_1 := blk_frozen BK101.out 1; have hfz4_2 := blk_frozen BK101.out 2; have hfz4_3 := blk_frozen BK101.out 3; have hfz4_4 := blk_frozen BK101.out 4; have hfz4_5 := blk_frozen BK101.out 5; have hfz4_6 := blk_frozen BK101.out 6))
 go_loopg [5, 10] k (fun kq v5 v10 w' => ∃ (x5_1 : Int) (x10_1 : Int), v5 = .int .i64 x5_1 ∧ v10 = .int .i64 x10_1 ∧ Aside0 (sashref05_count.l0 kq a1 x5_1 (l0_6.length : Int) x10_1 a0_0 a0_1 a0_2 a0_3 a0_4 a0_5 l0_6 = some r) ∧ Aside0 (kq ≤ k) ∧ Aside0 (w'.heap[gb101]? = some (.cells #[.int .u8 a0_0, .int .i64 a0_1, .int .i64 a0_2, .int .i64 a0_3, .int .i64 a0_4, .int .i64 a0_5, (.slice A0_6 l0_6.length c0_6)] 26 (0, 0))) ∧ Aside0 (Below w.heap.size w w'))
 case atStart => exact ⟨(1), (0), (by first | rfl | (simp; done) | (simp [*]; done)), (by first | rfl | (simp; done) | (simp [*]; done)), H', ⟨Nat.le_refl _⟩, ⟨by (with_reducible repeat (first | refine blk_drewN ?_ _ | refine blk_drew ?_ | refine blk_alloc ?_ _)); exact BK101.out⟩, ⟨by repeat (first | (with_reducible first | exact HB.out | apply below_alloc | apply pw_below_drewN | apply below_drew1 | refine below_set ?_ GE101.out) | exact HB.out)⟩⟩
 case round =>
  clear H'
  try clear c1
  try clear p2
  try clear hcz4_0
  try clear hcz4_1
  try clear hcz4_2
  try clear hcz4_3
  try clear hcz4_4
  try clear hcz4_5
  try clear hcz4_6
  try clear hfz4_0
  try clear hfz4_1
  try clear hfz4_2
  try clear hfz4_3
  try clear hfz4_4
  try clear hfz4_5
  try clear hfz4_6
  obtain ⟨x5_1, x10_1, rfl, rfl, HA, HK1, BK101, HB⟩ := hrel
  cases gk with
  | zero => exact absurd HA.out (by simp [sashref05_count.l0])
  | succ k1 =>
   have H := HA.out
   clear HA
   simp only [sashref05_count.l0] at H
   by_cases c5 : x10_1 < (l0_6.length : Int)
   ·rw [if_pos c5] at H
    have c5b0 : decide (x10_1 < (l0_6.length : Int)) = true := decide_eq_true c5
    clear c5
    by_cases c6 : x5_1 > a1
    ·rw [if_pos c6] at H
     have c6b0 : decide (a1 < x5_1) = true := decide_eq_true c6
     clear c6
     obtain rfl := Option.some.inj H
     go_wp2
     go_ret
     exact ⟨by first | rfl | (simp [errW_none, errW_some] <;> rfl) | (simp [*, errW_none, errW_some] <;> rfl), by repeat (first | (with_reducible first | exact HB.out | apply below_alloc | apply pw_below_drewN | apply below_drew1 | refine below_set ?_ GE101.out) | exact HB.out)⟩
    ·rw [if_neg c6] at H
     have c6b0 : decide (a1 < x5_1) = false := decide_eq_false c6
     clear c6
     by_cases c7 : 0 ≤ x10_1
     ·rw [if_pos c7] at H
      have c7b0 : decide (0 ≤ x10_1) = true := decide_eq_true c7
      clear c7
      by_cases c8 : x10_1 < (l0_6.length : Int)
      ·rw [if_pos c8] at H
       have c8b0 : decide (x10_1 < (l0_6.length : Int)) = true := decide_eq_true c8
       clear c8
       replace H := Option.bind_eq_some_iff.mp H
       obtain ⟨t103, A90, H⟩ := H
       replace H : (sashref05_count.l0 k1 a1 (wrap64 (x5_1 + t103)) (l0_6.length : Int) (wrap64 (x10_1 + 1)) a0_0 a0_1 a0_2 a0_3 a0_4 a0_5 l0_6) = some r := H
       have A9 := Aside0.mk A90
       clear A90
       have H' := Aside0.mk H
       clear H
       have hcz10_0 : wr.cell? ⟨gb101, 0, none⟩ = some (.int .u8 a0_0) := (blk_cell BK101.out 0).trans rfl
       have hcz10_1 : wr.cell? ⟨gb101, 1, none⟩ = some (.int .i64 a0_1) := (blk_cell BK101.out 1).trans rfl
       have hcz10_2 : wr.cell? ⟨gb101, 2, none⟩ = some (.int .i64 a0_2) := (blk_cell BK101.out 2).trans rfl
       have hcz10_3 : wr.cell? ⟨gb101, 3, none⟩ = some (.int .i64 a0_3) := (blk_cell BK101.out 3).trans rfl
       have hcz10_4 : wr.cell? ⟨gb101, 4, none⟩ = some (.int .i64 a0_4) := (blk_cell BK101.out 4).trans rfl
       have hcz10_5 : wr.cell? ⟨gb101, 5, none⟩ = some (.int .i64 a0_5) := (blk_cell BK101.out 5).trans rfl
       have hcz10_6 : wr.cell? ⟨gb101, 6, none⟩ = some (.slice A0_6 l0_6.length c0_6) := (blk_cell BK101.out 6).trans rfl
       have hfz10_0 := blk_frozen BK101.out 0
       have hfz10_1 := blk_frozen BK101.out 1
       have hfz10_2 := blk_frozen BK101.out 2
       have hfz10_3 := blk_frozen BK101.out 3
       have hfz10_4 := blk_frozen BK101.out 4
       have hfz10_5 := blk_frozen BK101.out 5
       have hfz10_6 := blk_frozen BK101.out 6
       have p102 : 0 ≤ (x10_1 : Int) := of_decide_eq_true (by first | (with_reducible assumption) | assumption)
       have q102 : x10_1 < (l0_6.length : Int) := of_decide_eq_true (by first | (with_reducible assumption) | assumption)
       obtain ⟨ad102, A102_6, c102_6, e102, hx102_0, hx102_1, hx102_2, hx102_3, hx102_4, hx102_5, hx102_6, hl102_6, hi102_6⟩ := at_T26 HR0_6.out x10_1 p102 q102
       cases e102
       replace hx102_0 := (HB.out.cell (World.block_lt_of_cell? w _ hx102_0)).trans hx102_0
       replace hx102_1 := (HB.out.cell (World.block_lt_of_cell? w _ hx102_1)).trans hx102_1
       replace hx102_2 := (HB.out.cell (World.block_lt_of_cell? w _ hx102_2)).trans hx102_2
       replace hx102_3 := (HB.out.cell (World.block_lt_of_cell? w _ hx102_3)).trans hx102_3
       replace hx102_4 := (HB.out.cell (World.block_lt_of_cell? w _ hx102_4)).trans hx102_4
       replace hx102_5 := (HB.out.cell (World.block_lt_of_cell? w _ hx102_5)).trans hx102_5
       replace hx102_6 := (HB.out.cell (World.block_lt_of_cell? w _ hx102_6)).trans hx102_6
       have HR102_6 := Aside0.mk hi102_6
       have HC102_6 := Aside0.mk hl102_6
       clear hi102_6 hl102_6
       replace p102 := eq_true p102
       replace q102 := eq_true q102
       go_wp2_with (first | ((with_reducible refine gate_callee (f := 124) rfl ?_); refine goesL_ (some 24) rfl rfl Try.func124 (by kernel_rfl) rfl #[.agg #[.int .u8 ((rd_T26 l0_6 x10_1).f0), .int .i64 ((rd_T26 l0_6 x10_1).f1.f0), .int .i64 ((rd_T26 l0_6 x10_1).f1.f1), .int .i64 ((rd_T26 l0_6 x10_1).f1.f2), .int .i64 ((rd_T26 l0_6 x10_1).f1.f3), .int .i64 ((rd_T26 l0_6 x10_1).f2), .slice A102_6 ((rd_T26 l0_6 x10_1).f3).length c102_6], .int .i64 a1] rfl (by (try simp only [List.map_toArray, List.map_cons, List.map_nil]); first | done | rfl | (simp only [List.length_drop, List.length_take]; rfl)) ?_; (with_reducible refine (ih k1 (by have := HK1.out; omega) ((rd_T26 l0_6 x10_1).f0) ((rd_T26 l0_6 x10_1).f1.f0) ((rd_T26 l0_6 x10_1).f1.f1) ((rd_T26 l0_6 x10_1).f1.f2) ((rd_T26 l0_6 x10_1).f1.f3) ((rd_T26 l0_6 x10_1).f2) _ _ ((rd_T26 l0_6 x10_1).f3) a1 t103 _ ?side1 ?side2 A9.out).mono ?_); (case side1 => repeat (first | exact (Kd.C_below HR102_6.out HB.out) | (with_reducible refine Kd.C_alloc ?_ _) | (with_reducible refine Kd.C_drewN ?_ _) | (with_reducible refine Kd.C_drew ?_))); (case side2 => exact HC102_6.out); rintro e w11 ⟨rfl, hb⟩; refine ⟨_, rfl, ?_⟩; have n0_ := Aside0.mk (blk_below (g := gb101) (o := .cells #[.int .u8 a0_0, .int .i64 a0_1, .int .i64 a0_2, .int .i64 a0_3, .int .i64 a0_4, .int .i64 a0_5, .slice (some ad102) l0_6.length c0_6] 26 (0, 0)) (by (with_reducible repeat (first | refine blk_drewN ?_ _ | refine blk_drew ?_ | refine blk_alloc ?_ _)); exact BK101.out) hb); have n1_ := Aside0.mk (below_step (by repeat (first | (with_reducible first | exact HB.out | apply below_alloc | apply pw_below_drewN | apply below_drew1 | refine below_set ?_ GE101.out) | exact HB.out)) hb); clear BK101; clear HB; have BK101 := n0_; have HB := n1_; clear n0_ n1_; (try clear hb); (try clear hb2); (try clear hk); (try clear hi)))
       go_roundg k1
       case measure => have := HK1.out; omega
       case rel => exact ⟨(wrap64 (x5_1 + t103)), (wrap64 (x10_1 + 1)), (by first | rfl | (simp; done) | (simp [*]; done)), (by first | rfl | (simp; done) | (simp [*]; done)), H', ⟨by have := HK1.out; omega⟩, ⟨by (with_reducible repeat (first | refine blk_drewN ?_ _ | refine blk_drew ?_ | refine blk_alloc ?_ _)); exact BK101.out⟩, ⟨by repeat (first | (with_reducible first | exact HB.out | apply below_alloc | apply pw_below_drewN | apply below_drew1 | refine below_set ?_ GE101.out) | exact HB.out)⟩⟩
      ·rw [if_neg c8] at H
       exact absurd H (by simp)
     ·rw [if_neg c7] at H
      exact absurd H (by simp)
   ·rw [if_neg c5] at H
    have c5b0 : decide (x10_1 < (l0_6.length : Int)) = false := decide_eq_false c5
    clear c5
    obtain rfl := Option.some.inj H
    go_wp2
    go_ret
    exact ⟨by first | rfl | (simp [errW_none, errW_some] <;> rfl) | (simp [*, errW_none, errW_some] <;> rfl), by repeat (first | (with_reducible first | exact HB.out | apply below_alloc | apply pw_below_drewN | apply below_drew1 | refine below_set ?_ GE101.out) | exact HB.out)⟩

end Go.Proofs.Ytfdmfgaiblfbhaa.P
namespace Go.Proofs.Ytfdmfgaiblfbhaa.P
open Go.RowKit Go.Proofs.YtfdmfgaiblfbhaaW.PrintWords Go.Proofs.YtfdmfgaiblfbhaaW.PrintLast Go.Proofs.YtfdmfgaiblfbhaaW.PrintMore
attribute [local go_sem] max2_int min2_int max_two min_two max_three min_three max_four min_four   -- for this text's walks alone
set_option linter.unusedVariables false
set_option linter.unusedSimpArgs false

/-! ### sashref05_Great: function 34 -/
def sashref05_Great.f (k : Nat) (a0_0 : Int) (a0_1 : Int) (a0_2 : Int) (a0_3 : Int) (a0_4 : Int) (a0_5 : Int) (l0_6 : List (S26)) : Option (Bool) := (sashref05_count.f k a0_0 a0_1 a0_2 a0_3 a0_4 a0_5 l0_6 200).bind fun t105 => (some (decide (t105 > 200)))
set_option maxHeartbeats 8000000 in
set_option maxRecDepth 100000 in
theorem sashref05_Great.calls (k : Nat) (a0_0 : Int) (a0_1 : Int) (a0_2 : Int) (a0_3 : Int) (a0_4 : Int) (a0_5 : Int) (A0_6 : Option Addr) (c0_6 : Nat) (l0_6 : List (S26)) (r : Bool) (w : World) (hr0_6 : Kd.C k26 w A0_6 l0_6.length l0_6) (hc0_6 : l0_6.length ≤ c0_6) (h : sashref05_Great.f k a0_0 a0_1 a0_2 a0_3 a0_4 a0_5 l0_6 = some r) :
  Calls Try.prog 34 #[.agg #[.int .u8 a0_0, .int .i64 a0_1, .int .i64 a0_2, .int .i64 a0_3, .int .i64 a0_4, .int .i64 a0_5, .slice A0_6 l0_6.length c0_6]] w fun e w' => e = .returned (.bool r) ∧ Below w.heap.size w w' := by
 have hu26 := Try.underlying26
 have HR0_6 := Aside0.mk hr0_6
 have HC0_6 := Aside0.mk hc0_6
 clear hr0_6 hc0_6
 have HB := Aside0.mk (Below.refl w.heap.size w)
 have H : ((sashref05_count.f k a0_0 a0_1 a0_2 a0_3 a0_4 a0_5 l0_6 200).bind fun t105 => (some (decide (t105 > 200)))) = some r := h
 clear h
 replace H := Option.bind_eq_some_iff.mp H
 obtain ⟨t105, A20, H⟩ := H
 replace H : (some (decide (t105 > 200))) = some r := H
 have A2 := Aside0.mk A20
 clear A20
 obtain rfl := Option.some.inj H
 go_enter Try.func34, Try.ntmps34
 go_wp2_with (first | ((with_reducible refine gate_dst (N := 1) rfl ?_); refine box_event ?hg (N := 1) ?hd (cs := #[.int .u8 a0_0, .int .i64 a0_1, .int .i64 a0_2, .int .i64 a0_3, .int .i64 a0_4, .int .i64 a0_5, .slice A0_6 l0_6.length c0_6]) (t := 26) ?hr ?_; (case hd => rfl); (case hg => rfl); (case hr => first | (go_simp; done) | (go_simp; rfl)); intro gb104 hg w3 hbox hb; have n0_ := Aside0.mk (below_step (by repeat (first | (with_reducible first | exact HB.out | apply below_alloc | apply pw_below_drewN | apply below_drew1) | exact HB.out)) hb); have n1_ := Aside0.mk (hbox); have n2_ := Aside0.mk ((by rw [hg]; exact (below_size (by repeat (first | (with_reducible first | exact HB.out | apply below_alloc | apply pw_below_drewN | apply below_drew1) | exact HB.out))) : w.heap.size ≤ gb104)); have n3_ := Aside0.mk ((by rw [hg]; exact (below_size (by repeat (first | (with_reducible first | exact HB.out | apply below_alloc | apply pw_below_drewN | apply below_drew1) | exact HB.out))) : w.heap.size ≤ gb104)); clear HB; have HB := n0_; have BK104 := n1_; have GW104 := n2_; have GE104 := n3_; clear n0_ n1_ n2_ n3_; clear hb hbox hg; have hcz4_0 : w3.cell? ⟨gb104, 0, none⟩ = some (.int .u8 a0_0) := (blk_cell BK104.out 0).trans rfl; have hcz4_1 : w3.cell? ⟨gb104, 1, none⟩ = some (.int .i64 a0_1) := (blk_cell BK104.out 1).trans rfl; have hcz4_2 : w3.cell? ⟨gb104, 2, none⟩ = some (.int .i64 a0_2) := (blk_cell BK104.out 2).trans rfl; have hcz4_3 : w3.cell? ⟨gb104, 3, none⟩ = some (.int .i64 a0_3) := (blk_cell BK104.out 3).trans rfl; have hcz4_4 : w3.cell? ⟨gb104, 4, none⟩ = some (.int .i64 a0_4) := (blk_cell BK104.out 4).trans rfl; have hcz4_5 : w3.cell? ⟨gb104, 5, none⟩ = some (.int .i64 a0_5) := (blk_cell BK104.out 5).trans rfl; have hcz4_6 : w3.cell? ⟨gb104, 6, none⟩ = some (.slice A0_6 l0_6.length c0_6) := (blk_cell BK104.out 6).trans rfl; have hfz4_0 := blk_frozen BK104.out 0; have hfz4_1 := blk_frozen BK104.out 1; have hfz4_2 := blk_frozen BK104.out 2; have hfz4_3 := blk_frozen BK104.out 3; have hfz4_4 := blk_frozen BK104.out 4; have hfz4_5 := blk_frozen BK104.out 5; have hfz4_6 := blk_frozen BK104.out 6) | ((with_reducible refine gate_callee (f := 124) rfl ?_); refine goesL_ (some 4) rfl rfl Try.func124 (by kernel_rfl) rfl #[.agg #[.int .u8 a0_0, .int .i64 a0_1, .int .i64 a0_2, .int .i64 a0_3, .int .i64 a0_4, .int .i64 a0_5, .slice A0_6 l0_6.length c0_6], .int .i64 200] rfl (by (try simp only [List.map_toArray, List.map_cons, List.map_nil]); first | done | rfl | (simp only [List.length_drop, List.length_take]; rfl)) ?_; (with_reducible refine (sashref05_count.calls k a0_0 a0_1 a0_2 a0_3 a0_4 a0_5 _ _ l0_6 200 t105 _ ?side1 ?side2 A2.out).mono ?_); (case side1 => repeat (first | exact (Kd.C_below HR0_6.out HB.out) | (with_reducible refine Kd.C_alloc ?_ _) | (with_reducible refine Kd.C_drewN ?_ _) | (with_reducible refine Kd.C_drew ?_))); (case side2 => exact HC0_6.out); rintro e w5 ⟨rfl, hb⟩; refine ⟨_, rfl, ?_⟩; have n0_ := Aside0.mk (blk_below (g := gb104) (o := .cells #[.int .u8 a0_0, .int .i64 a0_1, .int .i64 a0_2, .int .i64 a0_3, .int .i64 a0_4, .int .i64 a0_5, .slice A0_6 l0_6.length c0_6] 26 (0, 0)) (by (with_reducible repeat (first | refine blk_drewN ?_ _ | refine blk_drew ?_ | refine blk_alloc ?_ _)); exact BK104.out) hb); have n1_ := Aside0.mk (below_step (by repeat (first | (with_reducible first | exact HB.out | apply below_alloc | apply pw_below_drewN | apply below_drew1 | refine below_set ?_ GE104.out) | exact HB.out)) hb); clear BK104; clear HB; have BK104 := n0_; have HB := n1_; clear n0_ n1_; (try clear hb); (try clear hb2); (try clear hk); (try clear hi)))
 go_ret
 exact ⟨by first | rfl | (simp [errW_none, errW_some] <;> rfl) | (simp [*, errW_none, errW_some] <;> rfl), by repeat (first | (with_reducible first | exact HB.out | apply below_alloc | apply pw_below_drewN | apply below_drew1 | refine below_set ?_ GE104.out) | exact HB.out)⟩

end Go.Proofs.Ytfdmfgaiblfbhaa.P
namespace Go.Proofs.Ytfdmfgaiblfbhaa.P
open Go.RowKit Go.Proofs.YtfdmfgaiblfbhaaW.PrintWords Go.Proofs.YtfdmfgaiblfbhaaW.PrintLast Go.Proofs.YtfdmfgaiblfbhaaW.PrintMore
attribute [local go_sem] max2_int min2_int max_two min_two max_three min_three max_four min_four   -- for this text's walks alone
set_option linter.unusedVariables false
set_option linter.unusedSimpArgs false

/-! ### least_Size: function 98 -/
def least_Size.f (a0_0 : Int) (a0_1 : Int) (a0_2 : Int) (a0_3 : Int) (a1 : Int) : Option (Int) := if a1 = 2 then (some a0_3) else (if a1 = 1 then (some a0_2) else (some 0))
set_option maxHeartbeats 8000000 in
set_option maxRecDepth 100000 in
theorem least_Size.calls (a0_0 : Int) (a0_1 : Int) (a0_2 : Int) (a0_3 : Int) (a1 : Int) (r : Int) (w : World) (h : least_Size.f a0_0 a0_1 a0_2 a0_3 a1 = some r) :
  Calls Try.prog 98 #[.agg #[.int .i64 a0_0, .int .i64 a0_1, .int .i64 a0_2, .int .i64 a0_3], .int .u8 a1] w fun e w' => e = .returned (.int .i64 r) ∧ Below w.heap.size w w' := by
 have hu23 := Try.underlying23
 have HB := Aside0.mk (Below.refl w.heap.size w)
 have H : (if a1 = 2 then (some a0_3) else (if a1 = 1 then (some a0_2) else (some 0))) = some r := h
 clear h
 by_cases c3 : a1 = 2
 ·rw [if_pos c3] at H
  have c3b0 : (a1 == 2) = true := beq_iff_eq.mpr c3
  have c3b1 : (a1 != 2) = false := bne_eq_false_iff_eq.mpr c3
  clear c3
  obtain rfl := Option.some.inj H
  go_enter Try.func98, Try.ntmps98
  go_wp2_with (first | ((with_reducible refine gate_dst (N := 2) rfl ?_); refine box_event ?hg (N := 2) ?hd (cs := #[.int .i64 a0_0, .int .i64 a0_1, .int .i64 a0_2, .int .i64 a0_3]) (t := 23) ?hr ?_; (case hd => rfl); (case hg => rfl); (case hr => first | (go_simp; done) | (go_simp; rfl)); intro gb964 hg w4 hbox hb; have n0_ := Aside0.mk (below_step (by repeat (first | (with_reducible first | exact HB.out | apply below_alloc | apply pw_below_drewN | apply below_drew1) | exact HB.out)) hb); have n1_ := Aside0.mk (hbox); have n2_ := Aside0.mk ((by rw [hg]; exact (below_size (by repeat (first | (with_reducible first | exact HB.out | apply below_alloc | apply pw_below_drewN | apply below_drew1) | exact HB.out))) : w.heap.size ≤ gb964)); have n3_ := Aside0.mk ((by rw [hg]; exact (below_size (by repeat (first | (with_reducible first | exact HB.out | apply below_alloc | apply pw_below_drewN | apply below_drew1) | exact HB.out))) : w.heap.size ≤ gb964)); clear HB; have HB := n0_; have BK964 := n1_; have GW964 := n2_; have GE964 := n3_; clear n0_ n1_ n2_ n3_; clear hb hbox hg; have hcz5_0 : w4.cell? ⟨gb964, 0, none⟩ = some (.int .i64 a0_0) := (blk_cell BK964.out 0).trans rfl; have hcz5_1 : w4.cell? ⟨gb964, 1, none⟩ = some (.int .i64 a0_1) := (blk_cell BK964.out 1).trans rfl; have hcz5_2 : w4.cell? ⟨gb964, 2, none⟩ = some (.int .i64 a0_2) := (blk_cell BK964.out 2).trans rfl; have hcz5_3 : w4.cell? ⟨gb964, 3, none⟩ = some (.int .i64 a0_3) := (blk_cell BK964.out 3).trans rfl; have hfz5_0 := blk_frozen BK964.out 0; have hfz5_1 := blk_frozen BK964.out 1; have hfz5_2 := blk_frozen BK964.out 2; have hfz5_3 := blk_frozen BK964.out 3))
  go_ret
  exact ⟨by first | rfl | (simp [errW_none, errW_some] <;> rfl) | (simp [*, errW_none, errW_some] <;> rfl), by repeat (first | (with_reducible first | exact HB.out | apply below_alloc | apply pw_below_drewN | apply below_drew1 | refine below_set ?_ GE964.out) | exact HB.out)⟩
 ·rw [if_neg c3] at H
  have c3b0 : (a1 == 2) = false := beq_eq_false_iff_ne.mpr c3
  have c3b1 : (a1 != 2) = true := bne_iff_ne.mpr c3
  by_cases c6 : a1 = 1
  ·rw [if_pos c6] at H
   have c6b0 : (a1 == 1) = true := beq_iff_eq.mpr c6
   have c6b1 : (a1 != 1) = false := bne_eq_false_iff_eq.mpr c6
   clear c6
   obtain rfl := Option.some.inj H
   go_enter Try.func98, Try.ntmps98
   go_wp2_with (first | ((with_reducible refine gate_dst (N := 2) rfl ?_); refine box_event ?hg (N := 2) ?hd (cs := #[.int .i64 a0_0, .int .i64 a0_1, .int .i64 a0_2, .int .i64 a0_3]) (t := 23) ?hr ?_; (case hd => rfl); (case hg => rfl); (case hr => first | (go_simp; done) | (go_simp; rfl)); intro gb964 hg w7 hbox hb; have n0_ := Aside0.mk (below_step (by repeat (first | (with_reducible first | exact HB.out | apply below_alloc | apply pw_below_drewN | apply below_drew1) | exact HB.out)) hb); have n1_ := Aside0.mk (hbox); have n2_ := Aside0.mk ((by rw [hg]; exact (below_size (by repeat (first | (with_reducible first | exact HB.out | apply below_alloc | apply pw_below_drewN | apply below_drew1) | exact HB.out))) : w.heap.size ≤ gb964)); have n3_ := Aside0.mk ((by rw [hg]; exact (below_size (by repeat (first | (with_reducible first | exact HB.out | apply below_alloc | apply pw_below_drewN | apply below_drew1) | exact HB.out))) : w.heap.size ≤ gb964)); clear HB; have HB := n0_; have BK964 := n1_; have GW964 := n2_; have GE964 := n3_; clear n0_ n1_ n2_ n3_; clear hb hbox hg; have hcz8_0 : w7.cell? ⟨gb964, 0, none⟩ = some (.int .i64 a0_0) := (blk_cell BK964.out 0).trans rfl; have hcz8_1 : w7.cell? ⟨gb964, 1, none⟩ = some (.int .i64 a0_1) := (blk_cell BK964.out 1).trans rfl; have hcz8_2 : w7.cell? ⟨gb964, 2, none⟩ = some (.int .i64 a0_2) := (blk_cell BK964.out 2).trans rfl; have hcz8_3 : w7.cell? ⟨gb964, 3, none⟩ = some (.int .i64 a0_3) := (blk_cell BK964.out 3).trans rfl; have hfz8_0 := blk_frozen BK964.out 0; have hfz8_1 := blk_frozen BK964.out 1; have hfz8_2 := blk_frozen BK964.out 2; have hfz8_3 := blk_frozen BK964.out 3))
   go_ret
   exact ⟨by first | rfl | (simp [errW_none, errW_some] <;> rfl) | (simp [*, errW_none, errW_some] <;> rfl), by repeat (first | (with_reducible first | exact HB.out | apply below_alloc | apply pw_below_drewN | apply below_drew1 | refine below_set ?_ GE964.out) | exact HB.out)⟩
  ·rw [if_neg c6] at H
   have c6b0 : (a1 == 1) = false := beq_eq_false_iff_ne.mpr c6
   have c6b1 : (a1 != 1) = true := bne_iff_ne.mpr c6
   obtain rfl := Option.some.inj H
   go_enter Try.func98, Try.ntmps98
   go_wp2_with (first | ((with_reducible refine gate_dst (N := 2) rfl ?_); refine box_event ?hg (N := 2) ?hd (cs := #[.int .i64 a0_0, .int .i64 a0_1, .int .i64 a0_2, .int .i64 a0_3]) (t := 23) ?hr ?_; (case hd => rfl); (case hg => rfl); (case hr => first | (go_simp; done) | (go_simp; rfl)); intro gb964 hg w9 hbox hb; have n0_ := Aside0.mk (below_step (by repeat (first | (with_reducible first | exact HB.out | apply below_alloc | apply pw_below_drewN | apply below_drew1) | exact HB.out)) hb); have n1_ := Aside0.mk (hbox); have n2_ := Aside0.mk ((by rw [hg]; exact (below_size (by repeat (first | (with_reducible first | exact HB.out | apply below_alloc | apply pw_below_drewN | apply below_drew1) | exact HB.out))) : w.heap.size ≤ gb964)); have n3_ := Aside0.mk ((by rw [hg]; exact (below_size (by repeat (first | (with_reducible first | exact HB.out | apply below_alloc | apply pw_below_drewN | apply below_drew1) | exact HB.out))) : w.heap.size ≤ gb964)); clear HB; have HB := n0_; have BK964 := n1_; have GW964 := n2_; have GE964 := n3_; clear n0_ n1_ n2_ n3_; clear hb hbox hg))
   go_ret
   exact ⟨by first | rfl | (simp [errW_none, errW_some] <;> rfl) | (simp [*, errW_none, errW_some] <;> rfl), by repeat (first | (with_reducible first | exact HB.out | apply below_alloc | apply pw_below_drewN | apply below_drew1 | refine below_set ?_ GE964.out) | exact HB.out)⟩

end Go.Proofs.Ytfdmfgaiblfbhaa.P
namespace Go.Proofs.Ytfdmfgaiblfbhaa.P
open Go.RowKit Go.Proofs.YtfdmfgaiblfbhaaW.PrintWords Go.Proofs.YtfdmfgaiblfbhaaW.PrintLast Go.Proofs.YtfdmfgaiblfbhaaW.PrintMore
attribute [local go_sem] max2_int min2_int max_two min_two max_three min_three max_four min_four   -- for this text's walks alone
set_option linter.unusedVariables false
set_option linter.unusedSimpArgs false

/-! ### least_Along: function 99 -/
def least_Along.f (a0_0 : Int) (a0_1 : Int) (a0_2 : Int) (a0_3 : Int) (a0_4 : Int) (a0_5 : Int) (l0_6 : List (S26)) (a1 : Int) : Option (Bool) := if a0_0 = 2 then (if a1 = 1 then (some true) else (if a0_0 = 3 then (some (a1 == 2)) else (some false))) else (if a0_0 = 3 then (some (a1 == 2)) else (some false))
set_option maxHeartbeats 8000000 in
set_option maxRecDepth 100000 in
theorem least_Along.calls (a0_0 : Int) (a0_1 : Int) (a0_2 : Int) (a0_3 : Int) (a0_4 : Int) (a0_5 : Int) (A0_6 : Option Addr) (c0_6 : Nat) (l0_6 : List (S26)) (a1 : Int) (r : Bool) (w : World) (hr0_6 : Kd.C k26 w A0_6 l0_6.length l0_6) (hc0_6 : l0_6.length ≤ c0_6) (h : least_Along.f a0_0 a0_1 a0_2 a0_3 a0_4 a0_5 l0_6 a1 = some r) :
  Calls Try.prog 99 #[.agg #[.int .u8 a0_0, .int .i64 a0_1, .int .i64 a0_2, .int .i64 a0_3, .int .i64 a0_4, .int .i64 a0_5, .slice A0_6 l0_6.length c0_6], .int .u8 a1] w fun e w' => e = .returned (.bool r) ∧ Below w.heap.size w w' := by
 have hu26 := Try.underlying26
 have HR0_6 := Aside0.mk hr0_6
 have HC0_6 := Aside0.mk hc0_6
 clear hr0_6 hc0_6
 have HB := Aside0.mk (Below.refl w.heap.size w)
 have H : (if a0_0 = 2 then (if a1 = 1 then (some true) else (if a0_0 = 3 then (some (a1 == 2)) else (some false))) else (if a0_0 = 3 then (some (a1 == 2)) else (some false))) = some r := h
 clear h
 by_cases c3 : a0_0 = 2
 ·rw [if_pos c3] at H
  have c3b0 : (a0_0 == 2) = true := beq_iff_eq.mpr c3
  have c3b1 : (a0_0 != 2) = false := bne_eq_false_iff_eq.mpr c3
  clear c3
  by_cases c4 : a1 = 1
  ·rw [if_pos c4] at H
   have c4b0 : (a1 == 1) = true := beq_iff_eq.mpr c4
   have c4b1 : (a1 != 1) = false := bne_eq_false_iff_eq.mpr c4
   clear c4
   obtain rfl := Option.some.inj H
   go_enter Try.func99, Try.ntmps99
   go_wp2_with (first | ((with_reducible refine gate_dst (N := 2) rfl ?_); refine box_event ?hg (N := 2) ?hd (cs := #[.int .u8 a0_0, .int .i64 a0_1, .int .i64 a0_2, .int .i64 a0_3, .int .i64 a0_4, .int .i64 a0_5, .slice A0_6 l0_6.length c0_6]) (t := 26) ?hr ?_; (case hd => rfl); (case hg => rfl); (case hr => first | (go_simp; done) | (go_simp; rfl)); intro gb965 hg w5 hbox hb; have n0_ := Aside0.mk (below_step (by repeat (first | (with_reducible first | exact HB.out | apply below_alloc | apply pw_below_drewN | apply below_drew1) | exact HB.out)) hb); have n1_ := Aside0.mk (hbox); have n2_ := Aside0.mk ((by rw [hg]; exact (below_size (by repeat (first | (with_reducible first | exact HB.out | apply below_alloc | apply pw_below_drewN | apply below_drew1) | exact HB.out))) : w.heap.size ≤ gb965)); have n3_ := Aside0.mk ((by rw [hg]; exact (below_size (by repeat (first | (with_reducible first | exact HB.out | apply below_alloc | apply pw_below_drewN | apply below_drew1) | exact HB.out))) : w.heap.size ≤ gb965)); clear HB; have HB := n0_; have BK965 := n1_; have GW965 := n2_; have GE965 := n3_; clear n0_ n1_ n2_ n3_; clear hb hbox hg; have hcz6_0 : w5.cell? ⟨gb965, 0, none⟩ = some (.int .u8 a0_0) := (blk_cell BK965.out 0).trans rfl; have hcz6_1 : w5.cell? ⟨gb965, 1, none⟩ = some (.int .i64 a0_1) := (blk_cell BK965.out 1).trans rfl; have hcz6_2 : w5.cell? ⟨gb965, 2, none⟩ = some (.int .i64 a0_2) := (blk_cell BK965.out 2).trans rfl; have hcz6_3 : w5.cell? ⟨gb965, 3, none⟩ = some (.int .i64 a0_3) := (blk_cell BK965.out 3).trans rfl; have hcz6_4 : w5.cell? ⟨gb965, 4, none⟩ = some (.int .i64 a0_4) := (blk_cell BK965.out 4).trans rfl; have hcz6_5 : w5.cell? ⟨gb965, 5, none⟩ = some (.int .i64 a0_5) := (blk_cell BK965.out 5).trans rfl; have hcz6_6 : w5.cell? ⟨gb965, 6, none⟩ = some (.slice A0_6 l0_6.length c0_6) := (blk_cell BK965.out 6).trans rfl; have hfz6_0 := blk_frozen BK965.out 0; have hfz6_1 := blk_frozen BK965.out 1; have hfz6_2 := blk_frozen BK965.out 2; have hfz6_3 := blk_frozen BK965.out 3; have hfz6_4 := blk_frozen BK965.out 4; have hfz6_5 := blk_frozen BK965.out 5; have hfz6_6 := blk_frozen BK965.out 6))
   go_ret
   exact ⟨by first | rfl | (simp [errW_none, errW_some] <;> rfl) | (simp [*, errW_none, errW_some] <;> rfl), by repeat (first | (with_reducible first | exact HB.out | apply below_alloc | apply pw_below_drewN | apply below_drew1 | refine below_set ?_ GE965.out) | exact HB.out)⟩
  ·rw [if_neg c4] at H
   have c4b0 : (a1 == 1) = false := beq_eq_false_iff_ne.mpr c4
   have c4b1 : (a1 != 1) = true := bne_iff_ne.mpr c4
   by_cases c7 : a0_0 = 3
   ·rw [if_pos c7] at H
    have c7b0 : (a0_0 == 3) = true := beq_iff_eq.mpr c7
    have c7b1 : (a0_0 != 3) = false := bne_eq_false_iff_eq.mpr c7
    clear c7
    obtain rfl := Option.some.inj H
    go_enter Try.func99, Try.ntmps99
    go_wp2_with (first | ((with_reducible refine gate_dst (N := 2) rfl ?_); refine box_event ?hg (N := 2) ?hd (cs := #[.int .u8 a0_0, .int .i64 a0_1, .int .i64 a0_2, .int .i64 a0_3, .int .i64 a0_4, .int .i64 a0_5, .slice A0_6 l0_6.length c0_6]) (t := 26) ?hr ?_; (case hd => rfl); (case hg => rfl); (case hr => first | (go_simp; done) | (go_simp; rfl)); intro gb965 hg w8 hbox hb; have n0_ := Aside0.mk (below_step (by repeat (first | (with_reducible first | exact HB.out | apply below_alloc | apply pw_below_drewN | apply below_drew1) | exact HB.out)) hb); have n1_ := Aside0.mk (hbox); have n2_ := Aside0.mk ((by rw [hg]; exact (below_size (by repeat (first | (with_reducible first | exact HB.out | apply below_alloc | apply pw_below_drewN | apply below_drew1) | exact HB.out))) : w.heap.size ≤ gb965)); have n3_ := Aside0.mk ((by rw [hg]; exact (below_size (by repeat (first | (with_reducible first | exact HB.out | apply below_alloc | apply pw_below_drewN | apply below_drew1) | exact HB.out))) : w.heap.size ≤ gb965)); clear HB; have HB := n0_; have BK965 := n1_; have GW965 := n2_; have GE965 := n3_; clear n0_ n1_ n2_ n3_; clear hb hbox hg; have hcz9_0 : w8.cell? ⟨gb965, 0, none⟩ = some (.int .u8 a0_0) := (blk_cell BK965.out 0).trans rfl; have hcz9_1 : w8.cell? ⟨gb965, 1, none⟩ = some (.int .i64 a0_1) := (blk_cell BK965.out 1).trans rfl; have hcz9_2 : w8.cell? ⟨gb965, 2, none⟩ = some (.int .i64 a0_2) := (blk_cell BK965.out 2).trans rfl; have hcz9_3 : w8.cell? ⟨gb965, 3, none⟩ = some (.int .i64 a0_3) := (blk_cell BK965.out 3).trans rfl; have hcz9_4 : w8.cell? ⟨gb965, 4, none⟩ = some (.int .i64 a0_4) := (blk_cell BK965.out 4).trans rfl; have hcz9_5 : w8.cell? ⟨gb965, 5, none⟩ = some (.int .i64 a0_5) := (blk_cell BK965.out 5).trans rfl; have hcz9_6 : w8.cell? ⟨gb965, 6, none⟩ = some (.slice A0_6 l0_6.length c0_6) := (blk_cell BK965.out 6).trans rfl; have hfz9_0 := blk_frozen BK965.out 0; have hfz9_1 := blk_frozen BK965.out 1; have hfz9_2 := blk_frozen BK965.out 2; have hfz9_3 := blk_frozen BK965.out 3; have hfz9_4 := blk_frozen BK965.out 4; have hfz9_5 := blk_frozen BK965.out 5; have hfz9_6 := blk_frozen BK965.out 6))
    go_ret
    exact ⟨by first | rfl | (simp [errW_none, errW_some] <;> rfl) | (simp [*, errW_none, errW_some] <;> rfl), by repeat (first | (with_reducible first | exact HB.out | apply below_alloc | apply pw_below_drewN | apply below_drew1 | refine below_set ?_ GE965.out) | exact HB.out)⟩
   ·rw [if_neg c7] at H
    have c7b0 : (a0_0 == 3) = false := beq_eq_false_iff_ne.mpr c7
    have c7b1 : (a0_0 != 3) = true := bne_iff_ne.mpr c7
    obtain rfl := Option.some.inj H
    go_enter Try.func99, Try.ntmps99
    go_wp2_with (first | ((with_reducible refine gate_dst (N := 2) rfl ?_); refine box_event ?hg (N := 2) ?hd (cs := #[.int .u8 a0_0, .int .i64 a0_1, .int .i64 a0_2, .int .i64 a0_3, .int .i64 a0_4, .int .i64 a0_5, .slice A0_6 l0_6.length c0_6]) (t := 26) ?hr ?_; (case hd => rfl); (case hg => rfl); (case hr => first | (go_simp; done) | (go_simp; rfl)); intro gb965 hg w10 hbox hb; have n0_ := Aside0.mk (below_step (by repeat (first | (with_reducible first | exact HB.out | apply below_alloc | apply pw_below_drewN | apply below_drew1) | exact HB.out)) hb); have n1_ := Aside0.mk (hbox); have n2_ := Aside0.mk ((by rw [hg]; exact (below_size (by repeat (first | (with_reducible first | exact HB.out | apply below_alloc | apply pw_below_drewN | apply below_drew1) | exact HB.out))) : w.heap.size ≤ gb965)); have n3_ := Aside0.mk ((by rw [hg]; exact (below_size (by repeat (first | (with_reducible first | exact HB.out | apply below_alloc | apply pw_below_drewN | apply below_drew1) | exact HB.out))) : w.heap.size ≤ gb965)); clear HB; have HB := n0_; have BK965 := n1_; have GW965 := n2_; have GE965 := n3_; clear n0_ n1_ n2_ n3_; clear hb hbox hg; have hcz11_0 : w10.cell? ⟨gb965, 0, none⟩ = some (.int .u8 a0_0) := (blk_cell BK965.out 0).trans rfl; have hcz11_1 : w10.cell? ⟨gb965, 1, none⟩ = some (.int .i64 a0_1) := (blk_cell BK965.out 1).trans rfl; have hcz11_2 : w10.cell? ⟨gb965, 2, none⟩ = some (.int .i64 a0_2) := (blk_cell BK965.out 2).trans rfl; have hcz11_3 : w10.cell? ⟨gb965, 3, none⟩ = some (.int .i64 a0_3) := (blk_cell BK965.out 3).trans rfl; have hcz11_4 : w10.cell? ⟨gb965, 4, none⟩ = some (.int .i64 a0_4) := (blk_cell BK965.out 4).trans rfl; have hcz11_5 : w10.cell? ⟨gb965, 5, none⟩ = some (.int .i64 a0_5) := (blk_cell BK965.out 5).trans rfl; have hcz11_6 : w10.cell? ⟨gb965, 6, none⟩ = some (.slice A0_6 l0_6.length c0_6) := (blk_cell BK965.out 6).trans rfl; have hfz11_0 := blk_frozen BK965.out 0; have hfz11_1 := blk_frozen BK965.out 1; have hfz11_2 := blk_frozen BK965.out 2; have hfz11_3 := blk_frozen BK965.out 3; have hfz11_4 := blk_frozen BK965.out 4; have hfz11_5 := blk_frozen BK965.out 5; have hfz11_6 := blk_frozen BK965.out 6))
    go_ret
    exact ⟨by first | rfl | (simp [errW_none, errW_some] <;> rfl) | (simp [*, errW_none, errW_some] <;> rfl), by repeat (first | (with_reducible first | exact HB.out | apply below_alloc | apply pw_below_drewN | apply below_drew1 | refine below_set ?_ GE965.out) | exact HB.out)⟩
 ·rw [if_neg c3] at H
  have c3b0 : (a0_0 == 2) = false := beq_eq_false_iff_ne.mpr c3
  have c3b1 : (a0_0 != 2) = true := bne_iff_ne.mpr c3
  by_cases c12 : a0_0 = 3
  ·rw [if_pos c12] at H
   have c12b0 : (a0_0 == 3) = true := beq_iff_eq.mpr c12
   have c12b1 : (a0_0 != 3) = false := bne_eq_false_iff_eq.mpr c12
   clear c12
   obtain rfl := Option.some.inj H
   go_enter Try.func99, Try.ntmps99
   go_wp2_with (first | ((with_reducible refine gate_dst (N := 2) rfl ?_); refine box_event ?hg (N := 2) ?hd (cs := #[.int .u8 a0_0, .int .i64 a0_1, .int .i64 a0_2, .int .i64 a0_3, .int .i64 a0_4, .int .i64 a0_5, .slice A0_6 l0_6.length c0_6]) (t := 26) ?hr ?_; (case hd => rfl); (case hg => rfl); (case hr => first | (go_simp; done) | (go_simp; rfl)); intro gb965 hg w13 hbox hb; have n0_ := Aside0.mk (below_step (by repeat (first | (with_reducible first | exact HB.out | apply below_alloc | apply pw_below_drewN | apply below_drew1) | exact HB.out)) hb); have n1_ := Aside0.mk (hbox); have n2_ := Aside0.mk ((by rw [hg]; exact (below_size (by repeat (first | (with_reducible first | exact HB.out | apply below_alloc | apply pw_below_drewN | apply below_drew1) | exact HB.out))) : w.heap.size ≤ gb965)); have n3_ := Aside0.mk ((by rw [hg]; exact (below_size (by repeat (first | (with_reducible first | exact HB.out | apply below_alloc | apply pw_below_drewN | apply below_drew1) | exact HB.out))) : w.heap.size ≤ gb965)); clear HB; have HB := n0_; have BK965 := n1_; have GW965 := n2_; have GE965 := n3_; clear n0_ n1_ n2_ n3_; clear hb hbox hg; have hcz14_0 : w13.cell? ⟨gb965, 0, none⟩ = some (.int .u8 a0_0) := (blk_cell BK965.out 0).trans rfl; have hcz14_1 : w13.cell? ⟨gb965, 1, none⟩ = some (.int .i64 a0_1) := (blk_cell BK965.out 1).trans rfl; have hcz14_2 : w13.cell? ⟨gb965, 2, none⟩ = some (.int .i64 a0_2) := (blk_cell BK965.out 2).trans rfl; have hcz14_3 : w13.cell? ⟨gb965, 3, none⟩ = some (.int .i64 a0_3) := (blk_cell BK965.out 3).trans rfl; have hcz14_4 : w13.cell? ⟨gb965, 4, none⟩ = some (.int .i64 a0_4) := (blk_cell BK965.out 4).trans rfl; have hcz14_5 : w13.cell? ⟨gb965, 5, none⟩ = some (.int .i64 a0_5) := (blk_cell BK965.out 5).trans rfl; have hcz14_6 : w13.cell? ⟨gb965, 6, none⟩ = some (.slice A0_6 l0_6.length c0_6) := (blk_cell BK965.out 6).trans rfl; have hfz14_0 := blk_frozen BK965.out 0; have hfz14_1 := blk_frozen BK965.out 1; have hfz14_2 := blk_frozen BK965.out 2; have hfz14_3 := blk_frozen BK965.out 3; have hfz14_4 := blk_frozen BK965.out 4; have hfz14_5 := blk_frozen BK965.out 5; have hfz14_6 := blk_frozen BK965.out 6))
   go_ret
   exact ⟨by first | rfl | (simp [errW_none, errW_some] <;> rfl) | (simp [*, errW_none, errW_some] <;> rfl), by repeat (first | (with_reducible first | exact HB.out | apply below_alloc | apply pw_below_drewN | apply below_drew1 | refine below_set ?_ GE965.out) | exact HB.out)⟩
  ·rw [if_neg c12] at H
   have c12b0 : (a0_0 == 3) = false := beq_eq_false_iff_ne.mpr c12
   have c12b1 : (a0_0 != 3) = true := bne_iff_ne.mpr c12
   obtain rfl := Option.some.inj H
   go_enter Try.func99, Try.ntmps99
   go_wp2_with (first | ((with_reducible refine gate_dst (N := 2) rfl ?_); refine box_event ?hg (N := 2) ?hd (cs := #[.int .u8 a0_0, .int .i64 a0_1, .int .i64 a0_2, .int .i64 a0_3, .int .i64 a0_4, .int .i64 a0_5, .slice A0_6 l0_6.length c0_6]) (t := 26) ?hr ?_; (case hd => rfl); (case hg => rfl); (case hr => first | (go_simp; done) | (go_simp; rfl)); intro gb965 hg w15 hbox hb; have n0_ := Aside0.mk (below_step (by repeat (first | (with_reducible first | exact HB.out | apply below_alloc | apply pw_below_drewN | apply below_drew1) | exact HB.out)) hb); have n1_ := Aside0.mk (hbox); have n2_ := Aside0.mk ((by rw [hg]; exact (below_size (by repeat (first | (with_reducible first | exact HB.out | apply below_alloc | apply pw_below_drewN | apply below_drew1) | exact HB.out))) : w.heap.size ≤ gb965)); have n3_ := Aside0.mk ((by rw [hg]; exact (below_size (by repeat (first | (with_reducible first | exact HB.out | apply below_alloc | apply pw_below_drewN | apply below_drew1) | exact HB.out))) : w.heap.size ≤ gb965)); clear HB; have HB := n0_; have BK965 := n1_; have GW965 := n2_; have GE965 := n3_; clear n0_ n1_ n2_ n3_; clear hb hbox hg; have hcz16_0 : w15.cell? ⟨gb965, 0, none⟩ = some (.int .u8 a0_0) := (blk_cell BK965.out 0).trans rfl; have hcz16_1 : w15.cell? ⟨gb965, 1, none⟩ = some (.int .i64 a0_1) := (blk_cell BK965.out 1).trans rfl; have hcz16_2 : w15.cell? ⟨gb965, 2, none⟩ = some (.int .i64 a0_2) := (blk_cell BK965.out 2).trans rfl; have hcz16_3 : w15.cell? ⟨gb965, 3, none⟩ = some (.int .i64 a0_3) := (blk_cell BK965.out 3).trans rfl; have hcz16_4 : w15.cell? ⟨gb965, 4, none⟩ = some (.int .i64 a0_4) := (blk_cell BK965.out 4).trans rfl; have hcz16_5 : w15.cell? ⟨gb965, 5, none⟩ = some (.int .i64 a0_5) := (blk_cell BK965.out 5).trans rfl; have hcz16_6 : w15.cell? ⟨gb965, 6, none⟩ = some (.slice A0_6 l0_6.length c0_6) := (blk_cell BK965.out 6).trans rfl; have hfz16_0 := blk_frozen BK965.out 0; have hfz16_1 := blk_frozen BK965.out 1; have hfz16_2 := blk_frozen BK965.out 2; have hfz16_3 := blk_frozen BK965.out 3; have hfz16_4 := blk_frozen BK965.out 4; have hfz16_5 := blk_frozen BK965.out 5; have hfz16_6 := blk_frozen BK965.out 6))
   go_ret
   exact ⟨by first | rfl | (simp [errW_none, errW_some] <;> rfl) | (simp [*, errW_none, errW_some] <;> rfl), by repeat (first | (with_reducible first | exact HB.out | apply below_alloc | apply pw_below_drewN | apply below_drew1 | refine below_set ?_ GE965.out) | exact HB.out)⟩

end Go.Proofs.Ytfdmfgaiblfbhaa.P
namespace Go.Proofs.Ytfdmfgaiblfbhaa.P
open Go.RowKit Go.Proofs.YtfdmfgaiblfbhaaW.PrintWords Go.Proofs.YtfdmfgaiblfbhaaW.PrintLast Go.Proofs.YtfdmfgaiblfbhaaW.PrintMore
attribute [local go_sem] max2_int min2_int max_two min_two max_three min_three max_four min_four   -- for this text's walks alone
set_option linter.unusedVariables false
set_option linter.unusedSimpArgs false

/-! ### sashref08_Size: function 87 -/
def sashref08_Size.f (a0_0 : Int) (a0_1 : Int) (a0_2 : Int) (a0_3 : Int) (a1 : Int) : Option (Int) := if a1 = 1 then (some a0_2) else (if a1 = 2 then (some a0_3) else (some 0))
set_option maxHeartbeats 8000000 in
set_option maxRecDepth 100000 in
theorem sashref08_Size.calls (a0_0 : Int) (a0_1 : Int) (a0_2 : Int) (a0_3 : Int) (a1 : Int) (r : Int) (w : World) (h : sashref08_Size.f a0_0 a0_1 a0_2 a0_3 a1 = some r) :
  Calls Try.prog 87 #[.agg #[.int .i64 a0_0, .int .i64 a0_1, .int .i64 a0_2, .int .i64 a0_3], .int .u8 a1] w fun e w' => e = .returned (.int .i64 r) ∧ Below w.heap.size w w' := by
 have hu23 := Try.underlying23
 have HB := Aside0.mk (Below.refl w.heap.size w)
 have H : (if a1 = 1 then (some a0_2) else (if a1 = 2 then (some a0_3) else (some 0))) = some r := h
 clear h
 by_cases c3 : a1 = 1
 ·rw [if_pos c3] at H
  have c3b0 : (a1 == 1) = true := beq_iff_eq.mpr c3
  have c3b1 : (a1 != 1) = false := bne_eq_false_iff_eq.mpr c3
  clear c3
  obtain rfl := Option.some.inj H
  go_enter Try.func87, Try.ntmps87
  go_wp2_with (first | ((with_reducible refine gate_dst (N := 2) rfl ?_); refine box_event ?hg (N := 2) ?hd (cs := #[.int .i64 a0_0, .int .i64 a0_1, .int .i64 a0_2, .int .i64 a0_3]) (t := 23) ?hr ?_; (case hd => rfl); (case hg => rfl); (case hr => first | (go_simp; done) | (go_simp; rfl)); intro gb986 hg w4 hbox hb; have n0_ := Aside0.mk (below_step (by repeat (first | (with_reducible first | exact HB.out | apply below_alloc | apply pw_below_drewN | apply below_drew1) | exact HB.out)) hb); have n1_ := Aside0.mk (hbox); have n2_ := Aside0.mk ((by rw [hg]; exact (below_size (by repeat (first | (with_reducible first | exact HB.out | apply below_alloc | apply pw_below_drewN | apply below_drew1) | exact HB.out))) : w.heap.size ≤ gb986)); have n3_ := Aside0.mk ((by rw [hg]; exact (below_size (by repeat (first | (with_reducible first | exact HB.out | apply below_alloc | apply pw_below_drewN | apply below_drew1) | exact HB.out))) : w.heap.size ≤ gb986)); clear HB; have HB := n0_; have BK986 := n1_; have GW986 := n2_; have GE986 := n3_; clear n0_ n1_ n2_ n3_; clear hb hbox hg; have hcz5_0 : w4.cell? ⟨gb986, 0, none⟩ = some (.int .i64 a0_0) := (blk_cell BK986.out 0).trans rfl; have hcz5_1 : w4.cell? ⟨gb986, 1, none⟩ = some (.int .i64 a0_1) := (blk_cell BK986.out 1).trans rfl; have hcz5_2 : w4.cell? ⟨gb986, 2, none⟩ = some (.int .i64 a0_2) := (blk_cell BK986.out 2).trans rfl; have hcz5_3 : w4.cell? ⟨gb986, 3, none⟩ = some (.int .i64 a0_3) := (blk_cell BK986.out 3).trans rfl; have hfz5_0 := blk_frozen BK986.out 0; have hfz5_1 := blk_frozen BK986.out 1; have hfz5_2 := blk_frozen BK986.out 2; have hfz5_3 := blk_frozen BK986.out 3))
  go_ret
  exact ⟨by first | rfl | (simp [errW_none, errW_some] <;> rfl) | (simp [*, errW_none, errW_some] <;> rfl), by repeat (first | (with_reducible first | exact HB.out | apply below_alloc | apply pw_below_drewN | apply below_drew1 | refine below_set ?_ GE986.out) | exact HB.out)⟩
 ·rw [if_neg c3] at H
  have c3b0 : (a1 == 1) = false := beq_eq_false_iff_ne.mpr c3
  have c3b1 : (a1 != 1) = true := bne_iff_ne.mpr c3
  by_cases c6 : a1 = 2
  ·rw [if_pos c6] at H
   have c6b0 : (a1 == 2) = true := beq_iff_eq.mpr c6
   have c6b1 : (a1 != 2) = false := bne_eq_false_iff_eq.mpr c6
   clear c6
   obtain rfl := Option.some.inj H
   go_enter Try.func87, Try.ntmps87
   go_wp2_with (first | ((with_reducible refine gate_dst (N := 2) rfl ?_); refine box_event ?hg (N := 2) ?hd (cs := #[.int .i64 a0_0, .int .i64 a0_1, .int .i64 a0_2, .int .i64 a0_3]) (t := 23) ?hr ?_; (case hd => rfl); (case hg => rfl); (case hr => first | (go_simp; done) | (go_simp; rfl)); intro gb986 hg w7 hbox hb; have n0_ := Aside0.mk (below_step (by repeat (first | (with_reducible first | exact HB.out | apply below_alloc | apply pw_below_drewN | apply below_drew1) | exact HB.out)) hb); have n1_ := Aside0.mk (hbox); have n2_ := Aside0.mk ((by rw [hg]; exact (below_size (by repeat (first | (with_reducible first | exact HB.out | apply below_alloc | apply pw_below_drewN | apply below_drew1) | exact HB.out))) : w.heap.size ≤ gb986)); have n3_ := Aside0.mk ((by rw [hg]; exact (below_size (by repeat (first | (with_reducible first | exact HB.out | apply below_alloc | apply pw_below_drewN | apply below_drew1) | exact HB.out))) : w.heap.size ≤ gb986)); clear HB; have HB := n0_; have BK986 := n1_; have GW986 := n2_; have GE986 := n3_; clear n0_ n1_ n2_ n3_; clear hb hbox hg; have hcz8_0 : w7.cell? ⟨gb986, 0, none⟩ = some (.int .i64 a0_0) := (blk_cell BK986.out 0).trans rfl; have hcz8_1 : w7.cell? ⟨gb986, 1, none⟩ = some (.int .i64 a0_1) := (blk_cell BK986.out 1).trans rfl; have hcz8_2 : w7.cell? ⟨gb986, 2, none⟩ = some (.int .i64 a0_2) := (blk_cell BK986.out 2).trans rfl; have hcz8_3 : w7.cell? ⟨gb986, 3, none⟩ = some (.int .i64 a0_3) := (blk_cell BK986.out 3).trans rfl; have hfz8_0 := blk_frozen BK986.out 0; have hfz8_1 := blk_frozen BK986.out 1; have hfz8_2 := blk_frozen BK986.out 2; have hfz8_3 := blk_frozen BK986.out 3))
   go_ret
   exact ⟨by first | rfl | (simp [errW_none, errW_some] <;> rfl) | (simp [*, errW_none, errW_some] <;> rfl), by repeat (first | (with_reducible first | exact HB.out | apply below_alloc | apply pw_below_drewN | apply below_drew1 | refine below_set ?_ GE986.out) | exact HB.out)⟩
  ·rw [if_neg c6] at H
   have c6b0 : (a1 == 2) = false := beq_eq_false_iff_ne.mpr c6
   have c6b1 : (a1 != 2) = true := bne_iff_ne.mpr c6
   obtain rfl := Option.some.inj H
   go_enter Try.func87, Try.ntmps87
   go_wp2_with (first | ((with_reducible refine gate_dst (N := 2) rfl ?_); refine box_event ?hg (N := 2) ?hd (cs := #[.int .i64 a0_0, .int .i64 a0_1, .int .i64 a0_2, .int .i64 a0_3]) (t := 23) ?hr ?_; (case hd => rfl); (case hg => rfl); (case hr => first | (go_simp; done) | (go_simp; rfl)); intro gb986 hg w9 hbox hb; have n0_ := Aside0.mk (below_step (by repeat (first | (with_reducible first | exact HB.out | apply below_alloc | apply pw_below_drewN | apply below_drew1) | exact HB.out)) hb); have n1_ := Aside0.mk (hbox); have n2_ := Aside0.mk ((by rw [hg]; exact (below_size (by repeat (first | (with_reducible first | exact HB.out | apply below_alloc | apply pw_below_drewN | apply below_drew1) | exact HB.out))) : w.heap.size ≤ gb986)); have n3_ := Aside0.mk ((by rw [hg]; exact (below_size (by repeat (first | (with_reducible first | exact HB.out | apply below_alloc | apply pw_below_drewN | apply below_drew1) | exact HB.out))) : w.heap.size ≤ gb986)); clear HB; have HB := n0_; have BK986 := n1_; have GW986 := n2_; have GE986 := n3_; clear n0_ n1_ n2_ n3_; clear hb hbox hg))
   go_ret
   exact ⟨by first | rfl | (simp [errW_none, errW_some] <;> rfl) | (simp [*, errW_none, errW_some] <;> rfl), by repeat (first | (with_reducible first | exact HB.out | apply below_alloc | apply pw_below_drewN | apply below_drew1 | refine below_set ?_ GE986.out) | exact HB.out)⟩

end Go.Proofs.Ytfdmfgaiblfbhaa.P
namespace Go.Proofs.Ytfdmfgaiblfbhaa.P
open Go.RowKit Go.Proofs.YtfdmfgaiblfbhaaW.PrintWords Go.Proofs.YtfdmfgaiblfbhaaW.PrintLast Go.Proofs.YtfdmfgaiblfbhaaW.PrintMore
attribute [local go_sem] max2_int min2_int max_two min_two max_three min_three max_four min_four   -- for this text's walks alone
set_option linter.unusedVariables false
set_option linter.unusedSimpArgs false

/-! ### sashref08_Along: function 88 -/
def sashref08_Along.f (a0_0 : Int) (a0_1 : Int) (a0_2 : Int) (a0_3 : Int) (a0_4 : Int) (a0_5 : Int) (l0_6 : List (S26)) (a1 : Int) : Option (Bool) := if a0_0 = 2 then (if a1 = 1 then (some true) else (if a0_0 = 3 then (some (a1 == 2)) else (some false))) else (if a0_0 = 3 then (some (a1 == 2)) else (some false))
set_option maxHeartbeats 8000000 in
set_option maxRecDepth 100000 in
theorem sashref08_Along.calls (a0_0 : Int) (a0_1 : Int) (a0_2 : Int) (a0_3 : Int) (a0_4 : Int) (a0_5 : Int) (A0_6 : Option Addr) (c0_6 : Nat) (l0_6 : List (S26)) (a1 : Int) (r : Bool) (w : World) (hr0_6 : Kd.C k26 w A0_6 l0_6.length l0_6) (hc0_6 : l0_6.length ≤ c0_6) (h : sashref08_Along.f a0_0 a0_1 a0_2 a0_3 a0_4 a0_5 l0_6 a1 = some r) :
  Calls Try.prog 88 #[.agg #[.int .u8 a0_0, .int .i64 a0_1, .int .i64 a0_2, .int .i64 a0_3, .int .i64 a0_4, .int .i64 a0_5, .slice A0_6 l0_6.length c0_6], .int .u8 a1] w fun e w' => e = .returned (.bool r) ∧ Below w.heap.size w w' := by
 have hu26 := Try.underlying26
 have HR0_6 := Aside0.mk hr0_6
 have HC0_6 := Aside0.mk hc0_6
 clear hr0_6 hc0_6
 have HB := Aside0.mk (Below.refl w.heap.size w)
 have H : (if a0_0 = 2 then (if a1 = 1 then (some true) else (if a0_0 = 3 then (some (a1 == 2)) else (some false))) else (if a0_0 = 3 then (some (a1 == 2)) else (some false))) = some r := h
 clear h
 by_cases c3 : a0_0 = 2
 ·rw [if_pos c3] at H
  have c3b0 : (a0_0 == 2) = true := beq_iff_eq.mpr c3
  have c3b1 : (a0_0 != 2) = false := bne_eq_false_iff_eq.mpr c3
  clear c3
  by_cases c4 : a1 = 1
  ·rw [if_pos c4] at H
   have c4b0 : (a1 == 1) = true := beq_iff_eq.mpr c4
   have c4b1 : (a1 != 1) = false := bne_eq_false_iff_eq.mpr c4
   clear c4
   obtain rfl := Option.some.inj H
   go_enter Try.func88, Try.ntmps88
   go_wp2_with (first | ((with_reducible refine gate_dst (N := 2) rfl ?_); refine box_event ?hg (N := 2) ?hd (cs := #[.int .u8 a0_0, .int .i64 a0_1, .int .i64 a0_2, .int .i64 a0_3, .int .i64 a0_4, .int .i64 a0_5, .slice A0_6 l0_6.length c0_6]) (t := 26) ?hr ?_; (case hd => rfl); (case hg => rfl); (case hr => first | (go_simp; done) | (go_simp; rfl)); intro gb987 hg w5 hbox hb; have n0_ := Aside0.mk (below_step (by repeat (first | (with_reducible first | exact HB.out | apply below_alloc | apply pw_below_drewN | apply below_drew1) | exact HB.out)) hb); have n1_ := Aside0.mk (hbox); have n2_ := Aside0.mk ((by rw [hg]; exact (below_size (by repeat (first | (with_reducible first | exact HB.out | apply below_alloc | apply pw_below_drewN | apply below_drew1) | exact HB.out))) : w.heap.size ≤ gb987)); have n3_ := Aside0.mk ((by rw [hg]; exact (below_size (by repeat (first | (with_reducible first | exact HB.out | apply below_alloc | apply pw_below_drewN | apply below_drew1) | exact HB.out))) : w.heap.size ≤ gb987)); clear HB; have HB := n0_; have BK987 := n1_; have GW987 := n2_; have GE987 := n3_; clear n0_ n1_ n2_ n3_; clear hb hbox hg; have hcz6_0 : w5.cell? ⟨gb987, 0, none⟩ = some (.int .u8 a0_0) := (blk_cell BK987.out 0).trans rfl; have hcz6_1 : w5.cell? ⟨gb987, 1, none⟩ = some (.int .i64 a0_1) := (blk_cell BK987.out 1).trans rfl; have hcz6_2 : w5.cell? ⟨gb987, 2, none⟩ = some (.int .i64 a0_2) := (blk_cell BK987.out 2).trans rfl; have hcz6_3 : w5.cell? ⟨gb987, 3, none⟩ = some (.int .i64 a0_3) := (blk_cell BK987.out 3).trans rfl; have hcz6_4 : w5.cell? ⟨gb987, 4, none⟩ = some (.int .i64 a0_4) := (blk_cell BK987.out 4).trans rfl; have hcz6_5 : w5.cell? ⟨gb987, 5, none⟩ = some (.int .i64 a0_5) := (blk_cell BK987.out 5).trans rfl; have hcz6_6 : w5.cell? ⟨gb987, 6, none⟩ = some (.slice A0_6 l0_6.length c0_6) := (blk_cell BK987.out 6).trans rfl; have hfz6_0 := blk_frozen BK987.out 0; have hfz6_1 := blk_frozen BK987.out 1; have hfz6_2 := blk_frozen BK987.out 2; have hfz6_3 := blk_frozen BK987.out 3; have hfz6_4 := blk_frozen BK987.out 4; have hfz6_5 := blk_frozen BK987.out 5; have hfz6_6 := blk_frozen BK987.out 6))
   go_ret
   exact ⟨by first | rfl | (simp [errW_none, errW_some] <;> rfl) | (simp [*, errW_none, errW_some] <;> rfl), by repeat (first | (with_reducible first | exact HB.out | apply below_alloc | apply pw_below_drewN | apply below_drew1 | refine below_set ?_ GE987.out) | exact HB.out)⟩
  ·rw [if_neg c4] at H
   have c4b0 : (a1 == 1) = false := beq_eq_false_iff_ne.mpr c4
   have c4b1 : (a1 != 1) = true := bne_iff_ne.mpr c4
   by_cases c7 : a0_0 = 3
   ·rw [if_pos c7] at H
    have c7b0 : (a0_0 == 3) = true := beq_iff_eq.mpr c7
    have c7b1 : (a0_0 != 3) = false := bne_eq_false_iff_eq.mpr c7
    clear c7
    obtain rfl := Option.some.inj H
    go_enter Try.func88, Try.ntmps88
    go_wp2_with (first | ((with_reducible refine gate_dst (N := 2) rfl ?_); refine box_event ?hg (N := 2) ?hd (cs := #[.int .u8 a0_0, .int .i64 a0_1, .int .i64 a0_2, .int .i64 a0_3, .int .i64 a0_4, .int .i64 a0_5, .slice A0_6 l0_6.length c0_6]) (t := 26) ?hr ?_; (case hd => rfl); (case hg => rfl); (case hr => first | (go_simp; done) | (go_simp; rfl)); intro gb987 hg w8 hbox hb; have n0_ := Aside0.mk (below_step (by repeat (first | (with_reducible first | exact HB.out | apply below_alloc | apply pw_below_drewN | apply below_drew1) | exact HB.out)) hb); have n1_ := Aside0.mk (hbox); have n2_ := Aside0.mk ((by rw [hg]; exact (below_size (by repeat (first | (with_reducible first | exact HB.out | apply below_alloc | apply pw_below_drewN | apply below_drew1) | exact HB.out))) : w.heap.size ≤ gb987)); have n3_ := Aside0.mk ((by rw [hg]; exact (below_size (by repeat (first | (with_reducible first | exact HB.out | apply below_alloc | apply pw_below_drewN | apply below_drew1) | exact HB.out))) : w.heap.size ≤ gb987)); clear HB; have HB := n0_; have BK987 := n1_; have GW987 := n2_; have GE987 := n3_; clear n0_ n1_ n2_ n3_; clear hb hbox hg; have hcz9_0 : w8.cell? ⟨gb987, 0, none⟩ = some (.int .u8 a0_0) := (blk_cell BK987.out 0).trans rfl; have hcz9_1 : w8.cell? ⟨gb987, 1, none⟩ = some (.int .i64 a0_1) := (blk_cell BK987.out 1).trans rfl; have hcz9_2 : w8.cell? ⟨gb987, 2, none⟩ = some (.int .i64 a0_2) := (blk_cell BK987.out 2).trans rfl; have hcz9_3 : w8.cell? ⟨gb987, 3, none⟩ = some (.int .i64 a0_3) := (blk_cell BK987.out 3).trans rfl; have hcz9_4 : w8.cell? ⟨gb987, 4, none⟩ = some (.int .i64 a0_4) := (blk_cell BK987.out 4).trans rfl; have hcz9_5 : w8.cell? ⟨gb987, 5, none⟩ = some (.int .i64 a0_5) := (blk_cell BK987.out 5).trans rfl; have hcz9_6 : w8.cell? ⟨gb987, 6, none⟩ = some (.slice A0_6 l0_6.length c0_6) := (blk_cell BK987.out 6).trans rfl; have hfz9_0 := blk_frozen BK987.out 0; have hfz9_1 := blk_frozen BK987.out 1; have hfz9_2 := blk_frozen BK987.out 2; have hfz9_3 := blk_frozen BK987.out 3; have hfz9_4 := blk_frozen BK987.out 4; have hfz9_5 := blk_frozen BK987.out 5; have hfz9_6 := blk_frozen BK987.out 6))
    go_ret
    exact ⟨by first | rfl | (simp [errW_none, errW_some] <;> rfl) | (simp [*, errW_none, errW_some] <;> rfl), by repeat (first | (with_reducible first | exact HB.out | apply below_alloc | apply pw_below_drewN | apply below_drew1 | refine below_set ?_ GE987.out) | exact HB.out)⟩
   ·rw [if_neg c7] at H
    have c7b0 : (a0_0 == 3) = false := beq_eq_false_iff_ne.mpr c7
    have c7b1 : (a0_0 != 3) = true := bne_iff_ne.mpr c7
    obtain rfl := Option.some.inj H
    go_enter Try.func88, Try.ntmps88
    go_wp2_with (first | ((with_reducible refine gate_dst (N := 2) rfl ?_); refine box_event ?hg (N := 2) ?hd (cs := #[.int .u8 a0_0, .int .i64 a0_1, .int .i64 a0_2, .int .i64 a0_3, .int .i64 a0_4, .int .i64 a0_5, .slice A0_6 l0_6.length c0_6]) (t := 26) ?hr ?_; (case hd => rfl); (case hg => rfl); (case hr => first | (go_simp; done) | (go_simp; rfl)); intro gb987 hg w10 hbox hb; have n0_ := Aside0.mk (below_step (by repeat (first | (with_reducible first | exact HB.out | apply below_alloc | apply pw_below_drewN | apply below_drew1) | exact HB.out)) hb); have n1_ := Aside0.mk (hbox); have n2_ := Aside0.mk ((by rw [hg]; exact (below_size (by repeat (first | (with_reducible first | exact HB.out | apply below_alloc | apply pw_below_drewN | apply below_drew1) | exact HB.out))) : w.heap.size ≤ gb987)); have n3_ := Aside0.mk ((by rw [hg]; exact (below_size (by repeat (first | (with_reducible first | exact HB.out | apply below_alloc | apply pw_below_drewN | apply below_drew1) | exact HB.out))) : w.heap.size ≤ gb987)); clear HB; have HB := n0_; have BK987 := n1_; have GW987 := n2_; have GE987 := n3_; clear n0_ n1_ n2_ n3_; clear hb hbox hg; have hcz11_0 : w10.cell? ⟨gb987, 0, none⟩ = some (.int .u8 a0_0) := (blk_cell BK987.out 0).trans rfl; have hcz11_1 : w10.cell? ⟨gb987, 1, none⟩ = some (.int .i64 a0_1) := (blk_cell BK987.out 1).trans rfl; have hcz11_2 : w10.cell? ⟨gb987, 2, none⟩ = some (.int .i64 a0_2) := (blk_cell BK987.out 2).trans rfl; have hcz11_3 : w10.cell? ⟨gb987, 3, none⟩ = some (.int .i64 a0_3) := (blk_cell BK987.out 3).trans rfl; have hcz11_4 : w10.cell? ⟨gb987, 4, none⟩ = some (.int .i64 a0_4) := (blk_cell BK987.out 4).trans rfl; have hcz11_5 : w10.cell? ⟨gb987, 5, none⟩ = some (.int .i64 a0_5) := (blk_cell BK987.out 5).trans rfl; have hcz11_6 : w10.cell? ⟨gb987, 6, none⟩ = some (.slice A0_6 l0_6.length c0_6) := (blk_cell BK987.out 6).trans rfl; have hfz11_0 := blk_frozen BK987.out 0; have hfz11_1 := blk_frozen BK987.out 1; have hfz11_2 := blk_frozen BK987.out 2; have hfz11_3 := blk_frozen BK987.out 3; have hfz11_4 := blk_frozen BK987.out 4; have hfz11_5 := blk_frozen BK987.out 5; have hfz11_6 := blk_frozen BK987.out 6))
    go_ret
    exact ⟨by first | rfl | (simp [errW_none, errW_some] <;> rfl) | (simp [*, errW_none, errW_some] <;> rfl), by repeat (first | (with_reducible first | exact HB.out | apply below_alloc | apply pw_below_drewN | apply below_drew1 | refine below_set ?_ GE987.out) | exact HB.out)⟩
 ·rw [if_neg c3] at H
  have c3b0 : (a0_0 == 2) = false := beq_eq_false_iff_ne.mpr c3
  have c3b1 : (a0_0 != 2) = true := bne_iff_ne.mpr c3
  by_cases c12 : a0_0 = 3
  ·rw [if_pos c12] at H
   have c12b0 : (a0_0 == 3) = true := beq_iff_eq.mpr c12
   have c12b1 : (a0_0 != 3) = false := bne_eq_false_iff_eq.mpr c12
   clear c12
   obtain rfl := Option.some.inj H
   go_enter Try.func88, Try.ntmps88
   go_wp2_with (first | ((with_reducible refine gate_dst (N := 2) rfl ?_); refine box_event ?hg (N := 2) ?hd (cs := #[.int .u8 a0_0, .int .i64 a0_1, .int .i64 a0_2, .int .i64 a0_3, .int .i64 a0_4, .int .i64 a0_5, .slice A0_6 l0_6.length c0_6]) (t := 26) ?hr ?_; (case hd => rfl); (case hg => rfl); (case hr => first | (go_simp; done) | (go_simp; rfl)); intro gb987 hg w13 hbox hb; have n0_ := Aside0.mk (below_step (by repeat (first | (with_reducible first | exact HB.out | apply below_alloc | apply pw_below_drewN | apply below_drew1) | exact HB.out)) hb); have n1_ := Aside0.mk (hbox); have n2_ := Aside0.mk ((by rw [hg]; exact (below_size (by repeat (first | (with_reducible first | exact HB.out | apply below_alloc | apply pw_below_drewN | apply below_drew1) | exact HB.out))) : w.heap.size ≤ gb987)); have n3_ := Aside0.mk ((by rw [hg]; exact (below_size (by repeat (first | (with_reducible first | exact HB.out | apply below_alloc | apply pw_below_drewN | apply below_drew1) | exact HB.out))) : w.heap.size ≤ gb987)); clear HB; have HB := n0_; have BK987 := n1_; have GW987 := n2_; have GE987 := n3_; clear n0_ n1_ n2_ n3_; clear hb hbox hg; have hcz14_0 : w13.cell? ⟨gb987, 0, none⟩ = some (.int .u8 a0_0) := (blk_cell BK987.out 0).trans rfl; have hcz14_1 : w13.cell? ⟨gb987, 1, none⟩ = some (.int .i64 a0_1) := (blk_cell BK987.out 1).trans rfl; have hcz14_2 : w13.cell? ⟨gb987, 2, none⟩ = some (.int .i64 a0_2) := (blk_cell BK987.out 2).trans rfl; have hcz14_3 : w13.cell? ⟨gb987, 3, none⟩ = some (.int .i64 a0_3) := (blk_cell BK987.out 3).trans rfl; have hcz14_4 : w13.cell? ⟨gb987, 4, none⟩ = some (.int .i64 a0_4) := (blk_cell BK987.out 4).trans rfl; have hcz14_5 : w13.cell? ⟨gb987, 5, none⟩ = some (.int .i64 a0_5) := (blk_cell BK987.out 5).trans rfl; have hcz14_6 : w13.cell? ⟨gb987, 6, none⟩ = some (.slice A0_6 l0_6.length c0_6) := (blk_cell BK987.out 6).trans rfl; have hfz14_0 := blk_frozen BK987.out 0; have hfz14_1 := blk_frozen BK987.out 1; have hfz14_2 := blk_frozen BK987.out 2; have hfz14_3 := blk_frozen BK987.out 3; have hfz14_4 := blk_frozen BK987.out 4; have hfz14_5 := blk_frozen BK987.out 5; have hfz14_6 := blk_frozen BK987.out 6))
   go_ret
   exact ⟨by first | rfl | (simp [errW_none, errW_some] <;> rfl) | (simp [*, errW_none, errW_some] <;> rfl), by repeat (first | (with_reducible first | exact HB.out | apply below_alloc | apply pw_below_drewN | apply below_drew1 | refine below_set ?_ GE987.out) | exact HB.out)⟩
  ·rw [if_neg c12] at H
   have c12b0 : (a0_0 == 3) = false := beq_eq_false_iff_ne.mpr c12
   have c12b1 : (a0_0 != 3) = true := bne_iff_ne.mpr c12
   obtain rfl := Option.some.inj H
   go_enter Try.func88, Try.ntmps88
   go_wp2_with (first | ((with_reducible refine gate_dst (N := 2) rfl ?_); refine box_event ?hg (N := 2) ?hd (cs := #[.int .u8 a0_0, .int .i64 a0_1, .int .i64 a0_2, .int .i64 a0_3, .int .i64 a0_4, .int .i64 a0_5, .slice A0_6 l0_6.length c0_6]) (t := 26) ?hr ?_; (case hd => rfl); (case hg => rfl); (case hr => first | (go_simp; done) | (go_simp; rfl)); intro gb987 hg w15 hbox hb; have n0_ := Aside0.mk (below_step (by repeat (first | (with_reducible first | exact HB.out | apply below_alloc | apply pw_below_drewN | apply below_drew1) | exact HB.out)) hb); have n1_ := Aside0.mk (hbox); have n2_ := Aside0.mk ((by rw [hg]; exact (below_size (by repeat (first | (with_reducible first | exact HB.out | apply below_alloc | apply pw_below_drewN | apply below_drew1) | exact HB.out))) : w.heap.size ≤ gb987)); have n3_ := Aside0.mk ((by rw [hg]; exact (below_size (by repeat (first | (with_reducible first | exact HB.out | apply below_alloc | apply pw_below_drewN | apply below_drew1) | exact HB.out))) : w.heap.size ≤ gb987)); clear HB; have HB := n0_; have BK987 := n1_; have GW987 := n2_; have GE987 := n3_; clear n0_ n1_ n2_ n3_; clear hb hbox hg; have hcz16_0 : w15.cell? ⟨gb987, 0, none⟩ = some (.int .u8 a0_0) := (blk_cell BK987.out 0).trans rfl; have hcz16_1 : w15.cell? ⟨gb987, 1, none⟩ = some (.int .i64 a0_1) := (blk_cell BK987.out 1).trans rfl; have hcz16_2 : w15.cell? ⟨gb987, 2, none⟩ = some (.int .i64 a0_2) := (blk_cell BK987.out 2).trans rfl; have hcz16_3 : w15.cell? ⟨gb987, 3, none⟩ = some (.int .i64 a0_3) := (blk_cell BK987.out 3).trans rfl; have hcz16_4 : w15.cell? ⟨gb987, 4, none⟩ = some (.int .i64 a0_4) := (blk_cell BK987.out 4).trans rfl; have hcz16_5 : w15.cell? ⟨gb987, 5, none⟩ = some (.int .i64 a0_5) := (blk_cell BK987.out 5).trans rfl; have hcz16_6 : w15.cell? ⟨gb987, 6, none⟩ = some (.slice A0_6 l0_6.length c0_6) := (blk_cell BK987.out 6).trans rfl; have hfz16_0 := blk_frozen BK987.out 0; have hfz16_1 := blk_frozen BK987.out 1; have hfz16_2 := blk_frozen BK987.out 2; have hfz16_3 := blk_frozen BK987.out 3; have hfz16_4 := blk_frozen BK987.out 4; have hfz16_5 := blk_frozen BK987.out 5; have hfz16_6 := blk_frozen BK987.out 6))
   go_ret
   exact ⟨by first | rfl | (simp [errW_none, errW_some] <;> rfl) | (simp [*, errW_none, errW_some] <;> rfl), by repeat (first | (with_reducible first | exact HB.out | apply below_alloc | apply pw_below_drewN | apply below_drew1 | refine below_set ?_ GE987.out) | exact HB.out)⟩

end Go.Proofs.Ytfdmfgaiblfbhaa.P
namespace Go.Proofs.Ytfdmfgaiblfbhaa.P
open Go.RowKit Go.Proofs.YtfdmfgaiblfbhaaW.PrintWords Go.Proofs.YtfdmfgaiblfbhaaW.PrintLast Go.Proofs.YtfdmfgaiblfbhaaW.PrintMore
attribute [local go_sem] max2_int min2_int max_two min_two max_three min_three max_four min_four   -- for this text's walks alone
set_option linter.unusedVariables false
set_option linter.unusedSimpArgs false

/-! ### least_Path: function 100 -/
def least_Path.l0 : Nat → Int → Int → List Int → Int → Int → Int → Int → Int → Int → Int → Int → List (S26) → Option (Int)
 | 0, _, _, _, _, _, _, _, _, _, _, _, _ => none
 | k + 1, x1, x7, x10, x11, x12, x1125000, x1125001, x1125002, x1125003, x1125004, x1125005, x1125006 => if x12 < x11 then (if 0 ≤ x12 then (if x12 < (x10.length : Int) then ((least_Along.f x1125000 x1125001 x1125002 x1125003 x1125004 x1125005 x1125006 x1).bind fun t1126 => (if t1126 = true then (if (rd x10 x12) < 0 then (some (wrap64 (x7 + 1))) else (if (rd x10 x12) ≥ (x1125006.length : Int) then (some (wrap64 (x7 + 1))) else (if 0 ≤ (rd x10 x12) then (if (rd x10 x12) < (x1125006.length : Int) then (least_Path.l0 k x1 (wrap64 (x7 + 1)) x10 x11 (wrap64 (x12 + 1)) ((rd_T26 x1125006 (rd x10 x12)).f0) ((rd_T26 x1125006 (rd x10 x12)).f1.f0) ((rd_T26 x1125006 (rd x10 x12)).f1.f1) ((rd_T26 x1125006 (rd x10 x12)).f1.f2) ((rd_T26 x1125006 (rd x10 x12)).f1.f3) ((rd_T26 x1125006 (rd x10 x12)).f2) ((rd_T26 x1125006 (rd x10 x12)).f3)) else (none)) else (none)))) else (if (rd x10 x12) < 0 then (some x7) else (if (rd x10 x12) ≥ (x1125006.length : Int) then (some x7) else (if 0 ≤ (rd x10 x12) then (if (rd x10 x12) < (x1125006.length : Int) then (least_Path.l0 k x1 x7 x10 x11 (wrap64 (x12 + 1)) ((rd_T26 x1125006 (rd x10 x12)).f0) ((rd_T26 x1125006 (rd x10 x12)).f1.f0) ((rd_T26 x1125006 (rd x10 x12)).f1.f1) ((rd_T26 x1125006 (rd x10 x12)).f1.f2) ((rd_T26 x1125006 (rd x10 x12)).f1.f3) ((rd_T26 x1125006 (rd x10 x12)).f2) ((rd_T26 x1125006 (rd x10 x12)).f3)) else (none)) else (none)))))) else (none)) else (none)) else (some x7)
def least_Path.f (k : Nat) (a0_0 : Int) (a0_1 : Int) (a0_2 : Int) (a0_3 : Int) (a0_4 : Int) (a0_5 : Int) (l0_6 : List (S26)) (a1 : Int) (l2 : List Int) : Option (Int) := least_Path.l0 k a1 0 l2 (l2.length : Int) 0 a0_0 a0_1 a0_2 a0_3 a0_4 a0_5 l0_6
set_option maxHeartbeats 8000000 in
set_option maxRecDepth 100000 in
theorem least_Path.calls (k : Nat) (a0_0 : Int) (a0_1 : Int) (a0_2 : Int) (a0_3 : Int) (a0_4 : Int) (a0_5 : Int) (P0_6_ : Nat → Prop) (A0_6 : Option Addr) (c0_6 : Nat) (l0_6 : List (S26)) (a1 : Int) (A2 : Option Addr) (c2 : Nat) (l2 : List Int) (r : Int) (w : World) (hs0_6 : Kd.V k26 26 w w.heap.size (fun k_ => P0_6_ k_) (.slice A0_6 l0_6.length c0_6) l0_6) (hr2 : Kd.C (Kd.int .i64) w A2 l2.length l2) (hc2 : l2.length ≤ c2) (h : least_Path.f k a0_0 a0_1 a0_2 a0_3 a0_4 a0_5 l0_6 a1 l2 = some r) :
  Calls Try.prog 100 #[.agg #[.int .u8 a0_0, .int .i64 a0_1, .int .i64 a0_2, .int .i64 a0_3, .int .i64 a0_4, .int .i64 a0_5, .slice A0_6 l0_6.length c0_6], .int .u8 a1, .slice A2 l2.length c2] w fun e w' => e = .returned (.int .i64 r) ∧ Below w.heap.size w w' := by
 have hu26 := Try.underlying26
 have HO0_6 := Aside0.mk (show Kd.V k26 26 w w.heap.size (fun k_ => (P0_6_ k_ ∨ w.heap.size ≤ k_)) (.slice A0_6 l0_6.length c0_6) l0_6 from Kd.V_mono hs0_6 (fun k_ hk => .inl hk))
 have HR2 := Aside0.mk hr2
 have HC2 := Aside0.mk hc2
 clear hr2 hc2
 have HB := Aside0.mk (Below.refl w.heap.size w)
 have H : (least_Path.l0 k a1 0 l2 (l2.length : Int) 0 a0_0 a0_1 a0_2 a0_3 a0_4 a0_5 l0_6) = some r := h
 clear h
 have H' := Aside0.mk H
 clear H
 go_enter Try.func100, Try.ntmps100
 go_wp2_with (first | ((with_reducible refine gate_dst (N := 3) rfl ?_); (try (refine gate_guard (by rfl) ?_; dsimp only)); refine box_event ?hg (N := 3) ?hd (cs := #[.int .u8 a0_0, .int .i64 a0_1, .int .i64 a0_2, .int .i64 a0_3, .int .i64 a0_4, .int .i64 a0_5, .slice A0_6 l0_6.length c0_6]) (t := 26) ?hr ?_; (case hd => rfl); (case hg => rfl); (case hr => first | (go_simp; done) | (go_simp; rfl)); intro gb1124 hg w4 hbox hb; have n0_ := Aside0.mk (Kd.V_below (Kd.V_elderB (by (with_reducible repeat (first | apply Kd.V_alloc | apply Kd.V_drewN | apply Kd.V_drew)); exact HO0_6.out) gb1124 (Nat.le_of_eq hg.symm)) hb); have n1_ := Aside0.mk (below_step (by repeat (first | (with_reducible first | exact HB.out | apply below_alloc | apply pw_below_drewN | apply below_drew1) | exact HB.out)) hb); have n2_ := Aside0.mk (hbox); have n3_ := Aside0.mk ((by rw [hg]; exact (below_size (by repeat (first | (with_reducible first | exact HB.out | apply below_alloc | apply pw_below_drewN | apply below_drew1) | exact HB.out))) : w.heap.size ≤ gb1124)); have n4_ := Aside0.mk ((by rw [hg]; exact (below_size (by repeat (first | (with_reducible first | exact HB.out | apply below_alloc | apply pw_below_drewN | apply below_drew1) | exact HB.out))) : w.heap.size ≤ gb1124)); clear HO0_6; clear HB; have HO0_6 := n0_; have HB := n1_; have BK1124 := n2_; have GW1124 := n3_; have GE1124 := n4_; clear n0_ n1_ n2_ n3_ n4_; clear hb hbox hg))
 go_loopg [7, 12] k (fun kq v7 v12 w' => ∃ (x7_1 : Int) (x12_1 : Int) (x1125000_1 : Int) (x1125001_1 : Int) (x1125002_1 : Int) (x1125003_1 : Int) (x1125004_1 : Int) (x1125005_1 : Int) (x1125006_1 : List (S26)) (u1125006 : Value), v7 = .int .i64 x7_1 ∧ v12 = .int .i64 x12_1 ∧ Aside0 (least_Path.l0 kq a1 x7_1 l2 (l2.length : Int) x12_1 x1125000_1 x1125001_1 x1125002_1 x1125003_1 x1125004_1 x1125005_1 x1125006_1 = some r) ∧ Aside0 (kq ≤ k) ∧ Aside0 (Kd.V k26 26 w' w.heap.size (fun k_ => (P0_6_ k_ ∨ w.heap.size ≤ k_) ∧ k_ ≠ gb1124) u1125006 x1125006_1) ∧ Aside0 (w'.heap[gb1124]? = some (.cells #[.int .u8 x1125000_1, .int .i64 x1125001_1, .int .i64 x1125002_1, .int .i64 x1125003_1, .int .i64 x1125004_1, .int .i64 x1125005_1, u1125006] 26 (0, 0))) ∧ Aside0 (Below w.heap.size w w'))
 case atStart => exact ⟨(0), (0), (a0_0), (a0_1), (a0_2), (a0_3), (a0_4), (a0_5), (l0_6), (.slice A0_6 l0_6.length c0_6), (by first | rfl | (simp; done) | (simp [*]; done)), (by first | rfl | (simp; done) | (simp [*]; done)), H', ⟨Nat.le_refl _⟩, ⟨by (with_reducible repeat (first | apply Kd.V_alloc | apply Kd.V_drewN | apply Kd.V_drew)); exact HO0_6.out⟩, ⟨by (with_reducible repeat (first | refine blk_drewN ?_ _ | refine blk_drew ?_ | refine blk_alloc ?_ _)); exact BK1124.out⟩, ⟨by repeat (first | (with_reducible first | exact HB.out | apply below_alloc | apply pw_below_drewN | apply below_drew1 | refine below_set ?_ GE1124.out) | exact HB.out)⟩⟩
 case round =>
  clear H'
  try clear c1
  try clear c2
  try clear p2
  obtain ⟨x7_1, x12_1, x1125000_1, x1125001_1, x1125002_1, x1125003_1, x1125004_1, x1125005_1, x1125006_1, u1125006, rfl, rfl, HA, HK1, HO_1125006, BK1124, HB⟩ := hrel
  cases gk with
  | zero => exact absurd HA.out (by simp [least_Path.l0])
  | succ k1 =>
   have H := HA.out
   clear HA
   simp only [least_Path.l0] at H
   by_cases c5 : x12_1 < (l2.length : Int)
   ·rw [if_pos c5] at H
    have c5b0 : decide (x12_1 < (l2.length : Int)) = true := decide_eq_true c5
    clear c5
    by_cases c6 : 0 ≤ x12_1
    ·rw [if_pos c6] at H
     have c6b0 : decide (0 ≤ x12_1) = true := decide_eq_true c6
     clear c6
     by_cases c7 : x12_1 < (l2.length : Int)
     ·rw [if_pos c7] at H
      have c7b0 : decide (x12_1 < (l2.length : Int)) = true := decide_eq_true c7
      clear c7
      replace H := Option.bind_eq_some_iff.mp H
      obtain ⟨t1126, A80, H⟩ := H
      replace H : (if t1126 = true then (if (rd l2 x12_1) < 0 then (some (wrap64 (x7_1 + 1))) else (if (rd l2 x12_1) ≥ (x1125006_1.length : Int) then (some (wrap64 (x7_1 + 1))) else (if 0 ≤ (rd l2 x12_1) then (if (rd l2 x12_1) < (x1125006_1.length : Int) then (least_Path.l0 k1 a1 (wrap64 (x7_1 + 1)) l2 (l2.length : Int) (wrap64 (x12_1 + 1)) ((rd_T26 x1125006_1 (rd l2 x12_1)).f0) ((rd_T26 x1125006_1 (rd l2 x12_1)).f1.f0) ((rd_T26 x1125006_1 (rd l2 x12_1)).f1.f1) ((rd_T26 x1125006_1 (rd l2 x12_1)).f1.f2) ((rd_T26 x1125006_1 (rd l2 x12_1)).f1.f3) ((rd_T26 x1125006_1 (rd l2 x12_1)).f2) ((rd_T26 x1125006_1 (rd l2 x12_1)).f3)) else (none)) else (none)))) else (if (rd l2 x12_1) < 0 then (some x7_1) else (if (rd l2 x12_1) ≥ (x1125006_1.length : Int) then (some x7_1) else (if 0 ≤ (rd l2 x12_1) then (if (rd l2 x12_1) < (x1125006_1.length : Int) then (least_Path.l0 k1 a1 x7_1 l2 (l2.length : Int) (wrap64 (x12_1 + 1)) ((rd_T26 x1125006_1 (rd l2 x12_1)).f0) ((rd_T26 x1125006_1 (rd l2 x12_1)).f1.f0) ((rd_T26 x1125006_1 (rd l2 x12_1)).f1.f1) ((rd_T26 x1125006_1 (rd l2 x12_1)).f1.f2) ((rd_T26 x1125006_1 (rd l2 x12_1)).f1.f3) ((rd_T26 x1125006_1 (rd l2 x12_1)).f2) ((rd_T26 x1125006_1 (rd l2 x12_1)).f3)) else (none)) else (none))))) = some r := H
      have A8 := Aside0.mk A80
      clear A80
      by_cases c9 : t1126 = true
      ·subst c9
       have H1 : (if (rd l2 x12_1) < 0 then (some (wrap64 (x7_1 + 1))) else (if (rd l2 x12_1) ≥ (x1125006_1.length : Int) then (some (wrap64 (x7_1 + 1))) else (if 0 ≤ (rd l2 x12_1) then (if (rd l2 x12_1) < (x1125006_1.length : Int) then (least_Path.l0 k1 a1 (wrap64 (x7_1 + 1)) l2 (l2.length : Int) (wrap64 (x12_1 + 1)) ((rd_T26 x1125006_1 (rd l2 x12_1)).f0) ((rd_T26 x1125006_1 (rd l2 x12_1)).f1.f0) ((rd_T26 x1125006_1 (rd l2 x12_1)).f1.f1) ((rd_T26 x1125006_1 (rd l2 x12_1)).f1.f2) ((rd_T26 x1125006_1 (rd l2 x12_1)).f1.f3) ((rd_T26 x1125006_1 (rd l2 x12_1)).f2) ((rd_T26 x1125006_1 (rd l2 x12_1)).f3)) else (none)) else (none)))) = some r := by rw [if_pos rfl] at H; exact H
       clear H
       have H := H1
       clear H1
       by_cases c10 : (rd l2 x12_1) < 0
       ·rw [if_pos c10] at H
        have c10b0 : decide ((rd l2 x12_1) < 0) = true := decide_eq_true c10
        clear c10
        obtain rfl := Option.some.inj H
        have p1125 : 0 ≤ (x12_1 : Int) := of_decide_eq_true (by first | (with_reducible assumption) | assumption)
        have q1125 : x12_1 < (l2.length : Int) := of_decide_eq_true (by first | (with_reducible assumption) | assumption)
        obtain ⟨ad1125, e1125, hx1125_0⟩ := Kd.at_int HR2.out x12_1 p1125 q1125
        cases e1125
        replace hx1125_0 := (HB.out.cell (World.block_lt_of_cell? w _ hx1125_0)).trans hx1125_0
        replace p1125 := eq_true p1125
        replace q1125 := eq_true q1125
        have hcz11_0 : wr.cell? ⟨gb1124, 0, none⟩ = some (.int .u8 x1125000_1) := (blk_cell BK1124.out 0).trans rfl
        have hcz11_1 : wr.cell? ⟨gb1124, 1, none⟩ = some (.int .i64 x1125001_1) := (blk_cell BK1124.out 1).trans rfl
        have hcz11_2 : wr.cell? ⟨gb1124, 2, none⟩ = some (.int .i64 x1125002_1) := (blk_cell BK1124.out 2).trans rfl
        have hcz11_3 : wr.cell? ⟨gb1124, 3, none⟩ = some (.int .i64 x1125003_1) := (blk_cell BK1124.out 3).trans rfl
        have hcz11_4 : wr.cell? ⟨gb1124, 4, none⟩ = some (.int .i64 x1125004_1) := (blk_cell BK1124.out 4).trans rfl
        have hcz11_5 : wr.cell? ⟨gb1124, 5, none⟩ = some (.int .i64 x1125005_1) := (blk_cell BK1124.out 5).trans rfl
        have hcz11_6 : wr.cell? ⟨gb1124, 6, none⟩ = some (u1125006) := (blk_cell BK1124.out 6).trans rfl
        have hfz11_0 := blk_frozen BK1124.out 0
        have hfz11_1 := blk_frozen BK1124.out 1
        have hfz11_2 := blk_frozen BK1124.out 2
        have hfz11_3 := blk_frozen BK1124.out 3
        have hfz11_4 := blk_frozen BK1124.out 4
        have hfz11_5 := blk_frozen BK1124.out 5
        have hfz11_6 := blk_frozen BK1124.out 6
        obtain ⟨Ao12, co12, eo12⟩ := Kd.V_slice HO_1125006.out
        subst eo12
        go_wp2_with (first | ((with_reducible refine gate_callee (f := 99) rfl ?_); refine goesL_ (some 18) rfl rfl Try.func99 (by kernel_rfl) rfl #[.agg #[.int .u8 x1125000_1, .int .i64 x1125001_1, .int .i64 x1125002_1, .int .i64 x1125003_1, .int .i64 x1125004_1, .int .i64 x1125005_1, .slice Ao12 x1125006_1.length co12], .int .u8 a1] rfl (by (try simp only [List.map_toArray, List.map_cons, List.map_nil]); first | done | rfl | (simp only [List.length_drop, List.length_take]; rfl)) ?_; (with_reducible refine (least_Along.calls x1125000_1 x1125001_1 x1125002_1 x1125003_1 x1125004_1 x1125005_1 _ _ x1125006_1 a1 true _ ?side1 ?side2 A8.out).mono ?_); (case side1 => repeat (first | exact (Kd.V_reads' HO_1125006.out).2.2 | (with_reducible refine Kd.C_alloc ?_ _) | (with_reducible refine Kd.C_drewN ?_ _) | (with_reducible refine Kd.C_drew ?_))); (case side2 => exact (Kd.V_reads' HO_1125006.out).2.1); rintro e w13 ⟨rfl, hb⟩; refine ⟨_, rfl, ?_⟩; have n0_ := Aside0.mk (Kd.V_below (by (with_reducible repeat (first | apply Kd.V_alloc | apply Kd.V_drewN | apply Kd.V_drew)); exact HO_1125006.out) hb); have n1_ := Aside0.mk (blk_below (g := gb1124) (o := .cells #[.int .u8 x1125000_1, .int .i64 x1125001_1, .int .i64 x1125002_1, .int .i64 x1125003_1, .int .i64 x1125004_1, .int .i64 x1125005_1, .slice Ao12 x1125006_1.length co12] 26 (0, 0)) (by (with_reducible repeat (first | refine blk_drewN ?_ _ | refine blk_drew ?_ | refine blk_alloc ?_ _)); exact BK1124.out) hb); have n2_ := Aside0.mk (below_step (by repeat (first | (with_reducible first | exact HB.out | apply below_alloc | apply pw_below_drewN | apply below_drew1 | refine below_set ?_ GE1124.out) | exact HB.out)) hb); clear HO_1125006; clear BK1124; clear HB; have HO_1125006 := n0_; have BK1124 := n1_; have HB := n2_; clear n0_ n1_ n2_; (try clear hb); (try clear hb2); (try clear hk); (try clear hi)))
        go_ret
        exact ⟨by first | rfl | (simp [errW_none, errW_some] <;> rfl) | (simp [*, errW_none, errW_some] <;> rfl), by repeat (first | (with_reducible first | exact HB.out | apply below_alloc | apply pw_below_drewN | apply below_drew1 | refine below_set ?_ GE1124.out) | exact HB.out)⟩
       ·rw [if_neg c10] at H
        have c10b0 : decide ((rd l2 x12_1) < 0) = false := decide_eq_false c10
        clear c10
        by_cases c14 : (rd l2 x12_1) ≥ (x1125006_1.length : Int)
        ·rw [if_pos c14] at H
         have c14b0 : decide ((x1125006_1.length : Int) ≤ (rd l2 x12_1)) = true := decide_eq_true c14
         clear c14
         obtain rfl := Option.some.inj H
         have p1125 : 0 ≤ (x12_1 : Int) := of_decide_eq_true (by first | (with_reducible assumption) | assumption)
         have q1125 : x12_1 < (l2.length : Int) := of_decide_eq_true (by first | (with_reducible assumption) | assumption)
         obtain ⟨ad1125, e1125, hx1125_0⟩ := Kd.at_int HR2.out x12_1 p1125 q1125
         cases e1125
         replace hx1125_0 := (HB.out.cell (World.block_lt_of_cell? w _ hx1125_0)).trans hx1125_0
         replace p1125 := eq_true p1125
         replace q1125 := eq_true q1125
         have hcz15_0 : wr.cell? ⟨gb1124, 0, none⟩ = some (.int .u8 x1125000_1) := (blk_cell BK1124.out 0).trans rfl
         have hcz15_1 : wr.cell? ⟨gb1124, 1, none⟩ = some (.int .i64 x1125001_1) := (blk_cell BK1124.out 1).trans rfl
         have hcz15_2 : wr.cell? ⟨gb1124, 2, none⟩ = some (.int .i64 x1125002_1) := (blk_cell BK1124.out 2).trans rfl
         have hcz15_3 : wr.cell? ⟨gb1124, 3, none⟩ = some (.int .i64 x1125003_1) := (blk_cell BK1124.out 3).trans rfl
         have hcz15_4 : wr.cell? ⟨gb1124, 4, none⟩ = some (.int .i64 x1125004_1) := (blk_cell BK1124.out 4).trans rfl
         have hcz15_5 : wr.cell? ⟨gb1124, 5, none⟩ = some (.int .i64 x1125005_1) := (blk_cell BK1124.out 5).trans rfl
         have hcz15_6 : wr.cell? ⟨gb1124, 6, none⟩ = some (u1125006) := (blk_cell BK1124.out 6).trans rfl
         have hfz15_0 := blk_frozen BK1124.out 0
         have hfz15_1 := blk_frozen BK1124.out 1
         have hfz15_2 := blk_frozen BK1124.out 2
         have hfz15_3 := blk_frozen BK1124.out 3
         have hfz15_4 := blk_frozen BK1124.out 4
         have hfz15_5 := blk_frozen BK1124.out 5
         have hfz15_6 := blk_frozen BK1124.out 6
         obtain ⟨Ao16, co16, eo16⟩ := Kd.V_slice HO_1125006.out
         subst eo16
         go_wp2_with (first | ((with_reducible refine gate_callee (f := 99) rfl ?_); refine goesL_ (some 18) rfl rfl Try.func99 (by kernel_rfl) rfl #[.agg #[.int .u8 x1125000_1, .int .i64 x1125001_1, .int .i64 x1125002_1, .int .i64 x1125003_1, .int .i64 x1125004_1, .int .i64 x1125005_1, .slice Ao16 x1125006_1.length co16], .int .u8 a1] rfl (by (try simp only [List.map_toArray, List.map_cons, List.map_nil]); first | done | rfl | (simp only [List.length_drop, List.length_take]; rfl)) ?_; (with_reducible refine (least_Along.calls x1125000_1 x1125001_1 x1125002_1 x1125003_1 x1125004_1 x1125005_1 _ _ x1125006_1 a1 true _ ?side1 ?side2 A8.out).mono ?_); (case side1 => repeat (first | exact (Kd.V_reads' HO_1125006.out).2.2 | (with_reducible refine Kd.C_alloc ?_ _) | (with_reducible refine Kd.C_drewN ?_ _) | (with_reducible refine Kd.C_drew ?_))); (case side2 => exact (Kd.V_reads' HO_1125006.out).2.1); rintro e w17 ⟨rfl, hb⟩; refine ⟨_, rfl, ?_⟩; have n0_ := Aside0.mk (Kd.V_below (by (with_reducible repeat (first | apply Kd.V_alloc | apply Kd.V_drewN | apply Kd.V_drew)); exact HO_1125006.out) hb); have n1_ := Aside0.mk (blk_below (g := gb1124) (o := .cells #[.int .u8 x1125000_1, .int .i64 x1125001_1, .int .i64 x1125002_1, .int .i64 x1125003_1, .int .i64 x1125004_1, .int .i64 x1125005_1, .slice Ao16 x1125006_1.length co16] 26 (0, 0)) (by (with_reducible repeat (first | refine blk_drewN ?_ _ | refine blk_drew ?_ | refine blk_alloc ?_ _)); exact BK1124.out) hb); have n2_ := Aside0.mk (below_step (by repeat (first | (with_reducible first | exact HB.out | apply below_alloc | apply pw_below_drewN | apply below_drew1 | refine below_set ?_ GE1124.out) | exact HB.out)) hb); clear HO_1125006; clear BK1124; clear HB; have HO_1125006 := n0_; have BK1124 := n1_; have HB := n2_; clear n0_ n1_ n2_; (try clear hb); (try clear hb2); (try clear hk); (try clear hi); have hcz18_0 : w17.cell? ⟨gb1124, 0, none⟩ = some (.int .u8 x1125000_1) := (blk_cell BK1124.out 0).trans rfl; have hcz18_1 : w17.cell? ⟨gb1124, 1, none⟩ = some (.int .i64 x1125001_1) := (blk_cell BK1124.out 1).trans rfl; have hcz18_2 : w17.cell? ⟨gb1124, 2, none⟩ = some (.int .i64 x1125002_1) := (blk_cell BK1124.out 2).trans rfl; have hcz18_3 : w17.cell? ⟨gb1124, 3, none⟩ = some (.int .i64 x1125003_1) := (blk_cell BK1124.out 3).trans rfl; have hcz18_4 : w17.cell? ⟨gb1124, 4, none⟩ = some (.int .i64 x1125004_1) := (blk_cell BK1124.out 4).trans rfl; have hcz18_5 : w17.cell? ⟨gb1124, 5, none⟩ = some (.int .i64 x1125005_1) := (blk_cell BK1124.out 5).trans rfl; have hcz18_6 : w17.cell? ⟨gb1124, 6, none⟩ = some (.slice Ao16 x1125006_1.length co16) := (blk_cell BK1124.out 6).trans rfl; have hfz18_0 := blk_frozen BK1124.out 0; have hfz18_1 := blk_frozen BK1124.out 1; have hfz18_2 := blk_frozen BK1124.out 2; have hfz18_3 := blk_frozen BK1124.out 3; have hfz18_4 := blk_frozen BK1124.out 4; have hfz18_5 := blk_frozen BK1124.out 5; have hfz18_6 := blk_frozen BK1124.out 6))
         go_ret
         exact ⟨by first | rfl | (simp [errW_none, errW_some] <;> rfl) | (simp [*, errW_none, errW_some] <;> rfl), by repeat (first | (with_reducible first | exact HB.out | apply below_alloc | apply pw_below_drewN | apply below_drew1 | refine below_set ?_ GE1124.out) | exact HB.out)⟩
        ·rw [if_neg c14] at H
         have c14b0 : decide ((x1125006_1.length : Int) ≤ (rd l2 x12_1)) = false := decide_eq_false c14
         clear c14
         by_cases c19 : 0 ≤ (rd l2 x12_1)
         ·rw [if_pos c19] at H
          have c19b0 : decide (0 ≤ (rd l2 x12_1)) = true := decide_eq_true c19
          clear c19
          by_cases c20 : (rd l2 x12_1) < (x1125006_1.length : Int)
          ·rw [if_pos c20] at H
           have c20b0 : decide ((rd l2 x12_1) < (x1125006_1.length : Int)) = true := decide_eq_true c20
           clear c20
           have H' := Aside0.mk H
           clear H
           have p1125 : 0 ≤ (x12_1 : Int) := of_decide_eq_true (by first | (with_reducible assumption) | assumption)
           have q1125 : x12_1 < (l2.length : Int) := of_decide_eq_true (by first | (with_reducible assumption) | assumption)
           obtain ⟨ad1125, e1125, hx1125_0⟩ := Kd.at_int HR2.out x12_1 p1125 q1125
           cases e1125
           replace hx1125_0 := (HB.out.cell (World.block_lt_of_cell? w _ hx1125_0)).trans hx1125_0
           replace p1125 := eq_true p1125
           replace q1125 := eq_true q1125
           have hcz21_0 : wr.cell? ⟨gb1124, 0, none⟩ = some (.int .u8 x1125000_1) := (blk_cell BK1124.out 0).trans rfl
           have hcz21_1 : wr.cell? ⟨gb1124, 1, none⟩ = some (.int .i64 x1125001_1) := (blk_cell BK1124.out 1).trans rfl
           have hcz21_2 : wr.cell? ⟨gb1124, 2, none⟩ = some (.int .i64 x1125002_1) := (blk_cell BK1124.out 2).trans rfl
           have hcz21_3 : wr.cell? ⟨gb1124, 3, none⟩ = some (.int .i64 x1125003_1) := (blk_cell BK1124.out 3).trans rfl
           have hcz21_4 : wr.cell? ⟨gb1124, 4, none⟩ = some (.int .i64 x1125004_1) := (blk_cell BK1124.out 4).trans rfl
           have hcz21_5 : wr.cell? ⟨gb1124, 5, none⟩ = some (.int .i64 x1125005_1) := (blk_cell BK1124.out 5).trans rfl
           have hcz21_6 : wr.cell? ⟨gb1124, 6, none⟩ = some (u1125006) := (blk_cell BK1124.out 6).trans rfl
           have hfz21_0 := blk_frozen BK1124.out 0
           have hfz21_1 := blk_frozen BK1124.out 1
           have hfz21_2 := blk_frozen BK1124.out 2
           have hfz21_3 := blk_frozen BK1124.out 3
           have hfz21_4 := blk_frozen BK1124.out 4
           have hfz21_5 := blk_frozen BK1124.out 5
           have hfz21_6 := blk_frozen BK1124.out 6
           obtain ⟨Ao22, co22, eo22⟩ := Kd.V_slice HO_1125006.out
           subst eo22
           go_wp2_with (first | ((with_reducible refine gate_callee (f := 99) rfl ?_); refine goesL_ (some 18) rfl rfl Try.func99 (by kernel_rfl) rfl #[.agg #[.int .u8 x1125000_1, .int .i64 x1125001_1, .int .i64 x1125002_1, .int .i64 x1125003_1, .int .i64 x1125004_1, .int .i64 x1125005_1, .slice Ao22 x1125006_1.length co22], .int .u8 a1] rfl (by (try simp only [List.map_toArray, List.map_cons, List.map_nil]); first | done | rfl | (simp only [List.length_drop, List.length_take]; rfl)) ?_; (with_reducible refine (least_Along.calls x1125000_1 x1125001_1 x1125002_1 x1125003_1 x1125004_1 x1125005_1 _ _ x1125006_1 a1 true _ ?side1 ?side2 A8.out).mono ?_); (case side1 => repeat (first | exact (Kd.V_reads' HO_1125006.out).2.2 | (with_reducible refine Kd.C_alloc ?_ _) | (with_reducible refine Kd.C_drewN ?_ _) | (with_reducible refine Kd.C_drew ?_))); (case side2 => exact (Kd.V_reads' HO_1125006.out).2.1); rintro e w23 ⟨rfl, hb⟩; refine ⟨_, rfl, ?_⟩; have n0_ := Aside0.mk (Kd.V_below (by (with_reducible repeat (first | apply Kd.V_alloc | apply Kd.V_drewN | apply Kd.V_drew)); exact HO_1125006.out) hb); have n1_ := Aside0.mk (blk_below (g := gb1124) (o := .cells #[.int .u8 x1125000_1, .int .i64 x1125001_1, .int .i64 x1125002_1, .int .i64 x1125003_1, .int .i64 x1125004_1, .int .i64 x1125005_1, .slice Ao22 x1125006_1.length co22] 26 (0, 0)) (by (with_reducible repeat (first | refine blk_drewN ?_ _ | refine blk_drew ?_ | refine blk_alloc ?_ _)); exact BK1124.out) hb); have n2_ := Aside0.mk (below_step (by repeat (first | (with_reducible first | exact HB.out | apply below_alloc | apply pw_below_drewN | apply below_drew1 | refine below_set ?_ GE1124.out) | exact HB.out)) hb); clear HO_1125006; clear BK1124; clear HB; have HO_1125006 := n0_; have BK1124 := n1_; have HB := n2_; clear n0_ n1_ n2_; (try clear hb); (try clear hb2); (try clear hk); (try clear hi); have hcz24_0 : w23.cell? ⟨gb1124, 0, none⟩ = some (.int .u8 x1125000_1) := (blk_cell BK1124.out 0).trans rfl; have hcz24_1 : w23.cell? ⟨gb1124, 1, none⟩ = some (.int .i64 x1125001_1) := (blk_cell BK1124.out 1).trans rfl; have hcz24_2 : w23.cell? ⟨gb1124, 2, none⟩ = some (.int .i64 x1125002_1) := (blk_cell BK1124.out 2).trans rfl; have hcz24_3 : w23.cell? ⟨gb1124, 3, none⟩ = some (.int .i64 x1125003_1) := (blk_cell BK1124.out 3).trans rfl; have hcz24_4 : w23.cell? ⟨gb1124, 4, none⟩ = some (.int .i64 x1125004_1) := (blk_cell BK1124.out 4).trans rfl; have hcz24_5 : w23.cell? ⟨gb1124, 5, none⟩ = some (.int .i64 x1125005_1) := (blk_cell BK1124.out 5).trans rfl; have hcz24_6 : w23.cell? ⟨gb1124, 6, none⟩ = some (.slice Ao22 x1125006_1.length co22) := (blk_cell BK1124.out 6).trans rfl; have hfz24_0 := blk_frozen BK1124.out 0; have hfz24_1 := blk_frozen BK1124.out 1; have hfz24_2 := blk_frozen BK1124.out 2; have hfz24_3 := blk_frozen BK1124.out 3; have hfz24_4 := blk_frozen BK1124.out 4; have hfz24_5 := blk_frozen BK1124.out 5; have hfz24_6 := blk_frozen BK1124.out 6; have p1127 : 0 ≤ ((rd l2 x12_1) : Int) := of_decide_eq_true (by first | (with_reducible assumption) | assumption); have q1127 : (rd l2 x12_1) < (x1125006_1.length : Int) := of_decide_eq_true (by first | (with_reducible assumption) | assumption); obtain ⟨ad1127, A1127_6, c1127_6, e1127, hx1127_0, hx1127_1, hx1127_2, hx1127_3, hx1127_4, hx1127_5, hx1127_6, hl1127_6, hi1127_6⟩ := at_T26 (Kd.V_reads' HO_1125006.out).2.2 (rd l2 x12_1) p1127 q1127; cases e1127; obtain ⟨ce1127, hce1127, hMe1127, hcc1127⟩ := Kd.V_get HO_1125006.out z26 (rd l2 x12_1) p1127 (by first | exact q1127 | exact of_decide_eq_true (by first | (with_reducible assumption) | assumption) | (have e_ := (Kd.V_reads' HO_1125006.out).1; omega)); obtain ⟨ua1127_6, uc1127_6, rfl, ul1127_6, ge1127_6⟩ := k26_openF hMe1127; have hv1127_6 := hcc1127 6 _ rfl; rw [add_field _ _ 6 (by omega)] at hv1127_6; replace hv1127_6 := Option.some.inj (hv1127_6.symm.trans hx1127_6); injection hv1127_6 with hva_ hvn_ hvc_; rw [hva_] at ge1127_6; rw [hvc_] at ul1127_6; have HL1127_6 := Aside0.mk (show Kd.V k26 26 _ w.heap.size _ _ ((rd_T26 x1125006_1 (rd l2 x12_1)).f3) from Kd.V_mk ul1127_6 ge1127_6); clear hva_ hvn_ hvc_ ge1127_6 ul1127_6; clear hcc1127 hce1127; have HR1127_6 := Aside0.mk hi1127_6; have HC1127_6 := Aside0.mk hl1127_6; clear hi1127_6 hl1127_6; replace p1127 := eq_true p1127; replace q1127 := eq_true q1127))
           go_roundg k1
           case measure => have := HK1.out; omega
           case rel => exact ⟨(wrap64 (x7_1 + 1)), (wrap64 (x12_1 + 1)), ((rd_T26 x1125006_1 (rd l2 x12_1)).f0), ((rd_T26 x1125006_1 (rd l2 x12_1)).f1.f0), ((rd_T26 x1125006_1 (rd l2 x12_1)).f1.f1), ((rd_T26 x1125006_1 (rd l2 x12_1)).f1.f2), ((rd_T26 x1125006_1 (rd l2 x12_1)).f1.f3), ((rd_T26 x1125006_1 (rd l2 x12_1)).f2), ((rd_T26 x1125006_1 (rd l2 x12_1)).f3), (.slice A1127_6 ((rd_T26 x1125006_1 (rd l2 x12_1)).f3).length c1127_6), (by first | rfl | (simp; done) | (simp [*]; done)), (by first | rfl | (simp; done) | (simp [*]; done)), H', ⟨by have := HK1.out; omega⟩, ⟨by (with_reducible repeat (first | apply Kd.V_alloc | apply Kd.V_drewN | apply Kd.V_drew)); exact Kd.V_mono (Kd.V_far (p := ⟨gb1124, 6, none⟩) (Kd.V_far (p := ⟨gb1124, 5, none⟩) (Kd.V_far (p := ⟨gb1124, 4, none⟩) (Kd.V_far (p := ⟨gb1124, 3, none⟩) (Kd.V_far (p := ⟨gb1124, 2, none⟩) (Kd.V_far (p := ⟨gb1124, 1, none⟩) (Kd.V_far (p := ⟨gb1124, 0, none⟩) (Kd.V_mono HL1127_6.out (fun k_ hk => (⟨hk, hk.2⟩ : _ ∧ k_ ≠ gb1124))) (fun _ hk => hk.2) (.int .u8 ((rd_T26 x1125006_1 (rd l2 x12_1)).f0))) (fun _ hk => hk.2) (.int .i64 ((rd_T26 x1125006_1 (rd l2 x12_1)).f1.f0))) (fun _ hk => hk.2) (.int .i64 ((rd_T26 x1125006_1 (rd l2 x12_1)).f1.f1))) (fun _ hk => hk.2) (.int .i64 ((rd_T26 x1125006_1 (rd l2 x12_1)).f1.f2))) (fun _ hk => hk.2) (.int .i64 ((rd_T26 x1125006_1 (rd l2 x12_1)).f1.f3))) (fun _ hk => hk.2) (.int .i64 ((rd_T26 x1125006_1 (rd l2 x12_1)).f2))) (fun _ hk => hk.2) (.slice A1127_6 ((rd_T26 x1125006_1 (rd l2 x12_1)).f3).length c1127_6)) (fun _ hk => ⟨hk.1.1, hk.1.2⟩)⟩, ⟨by (with_reducible repeat (first | refine blk_drewN ?_ _ | refine blk_drew ?_ | refine blk_alloc ?_ _)); refine blk_put (cs := #[.int .u8 ((rd_T26 x1125006_1 (rd l2 x12_1)).f0), .int .i64 ((rd_T26 x1125006_1 (rd l2 x12_1)).f1.f0), .int .i64 ((rd_T26 x1125006_1 (rd l2 x12_1)).f1.f1), .int .i64 ((rd_T26 x1125006_1 (rd l2 x12_1)).f1.f2), .int .i64 ((rd_T26 x1125006_1 (rd l2 x12_1)).f1.f3), .int .i64 ((rd_T26 x1125006_1 (rd l2 x12_1)).f2), .slice (some ad1127) x1125006_1.length co22]) ?_ 6 _ rfl; (with_reducible repeat (first | refine blk_drewN ?_ _ | refine blk_drew ?_ | refine blk_alloc ?_ _)); refine blk_put (cs := #[.int .u8 ((rd_T26 x1125006_1 (rd l2 x12_1)).f0), .int .i64 ((rd_T26 x1125006_1 (rd l2 x12_1)).f1.f0), .int .i64 ((rd_T26 x1125006_1 (rd l2 x12_1)).f1.f1), .int .i64 ((rd_T26 x1125006_1 (rd l2 x12_1)).f1.f2), .int .i64 ((rd_T26 x1125006_1 (rd l2 x12_1)).f1.f3), .int .i64 x1125005_1, .slice (some ad1127) x1125006_1.length co22]) ?_ 5 _ rfl; (with_reducible repeat (first | refine blk_drewN ?_ _ | refine blk_drew ?_ | refine blk_alloc ?_ _)); refine blk_put (cs := #[.int .u8 ((rd_T26 x1125006_1 (rd l2 x12_1)).f0), .int .i64 ((rd_T26 x1125006_1 (rd l2 x12_1)).f1.f0), .int .i64 ((rd_T26 x1125006_1 (rd l2 x12_1)).f1.f1), .int .i64 ((rd_T26 x1125006_1 (rd l2 x12_1)).f1.f2), .int .i64 x1125004_1, .int .i64 x1125005_1, .slice (some ad1127) x1125006_1.length co22]) ?_ 4 _ rfl; (with_reducible repeat (first | refine blk_drewN ?_ _ | refine blk_drew ?_ | refine blk_alloc ?_ _)); refine blk_put (cs := #[.int .u8 ((rd_T26 x1125006_1 (rd l2 x12_1)).f0), .int .i64 ((rd_T26 x1125006_1 (rd l2 x12_1)).f1.f0), .int .i64 ((rd_T26 x1125006_1 (rd l2 x12_1)).f1.f1), .int .i64 x1125003_1, .int .i64 x1125004_1, .int .i64 x1125005_1, .slice (some ad1127) x1125006_1.length co22]) ?_ 3 _ rfl; (with_reducible repeat (first | refine blk_drewN ?_ _ | refine blk_drew ?_ | refine blk_alloc ?_ _)); refine blk_put (cs := #[.int .u8 ((rd_T26 x1125006_1 (rd l2 x12_1)).f0), .int .i64 ((rd_T26 x1125006_1 (rd l2 x12_1)).f1.f0), .int .i64 x1125002_1, .int .i64 x1125003_1, .int .i64 x1125004_1, .int .i64 x1125005_1, .slice (some ad1127) x1125006_1.length co22]) ?_ 2 _ rfl; (with_reducible repeat (first | refine blk_drewN ?_ _ | refine blk_drew ?_ | refine blk_alloc ?_ _)); refine blk_put (cs := #[.int .u8 ((rd_T26 x1125006_1 (rd l2 x12_1)).f0), .int .i64 x1125001_1, .int .i64 x1125002_1, .int .i64 x1125003_1, .int .i64 x1125004_1, .int .i64 x1125005_1, .slice (some ad1127) x1125006_1.length co22]) ?_ 1 _ rfl; (with_reducible repeat (first | refine blk_drewN ?_ _ | refine blk_drew ?_ | refine blk_alloc ?_ _)); refine blk_put (cs := #[.int .u8 x1125000_1, .int .i64 x1125001_1, .int .i64 x1125002_1, .int .i64 x1125003_1, .int .i64 x1125004_1, .int .i64 x1125005_1, .slice (some ad1127) x1125006_1.length co22]) ?_ 0 _ rfl; (with_reducible repeat (first | refine blk_drewN ?_ _ | refine blk_drew ?_ | refine blk_alloc ?_ _)); exact BK1124.out⟩, ⟨by repeat (first | (with_reducible first | exact HB.out | apply below_alloc | apply pw_below_drewN | apply below_drew1 | refine below_set ?_ GE1124.out) | exact HB.out)⟩⟩
          ·rw [if_neg c20] at H
           exact absurd H (by simp)
         ·rw [if_neg c19] at H
          exact absurd H (by simp)
      ·replace c9 := Bool.eq_false_iff.mpr c9
       subst c9
       have H1 : (if (rd l2 x12_1) < 0 then (some x7_1) else (if (rd l2 x12_1) ≥ (x1125006_1.length : Int) then (some x7_1) else (if 0 ≤ (rd l2 x12_1) then (if (rd l2 x12_1) < (x1125006_1.length : Int) then (least_Path.l0 k1 a1 x7_1 l2 (l2.length : Int) (wrap64 (x12_1 + 1)) ((rd_T26 x1125006_1 (rd l2 x12_1)).f0) ((rd_T26 x1125006_1 (rd l2 x12_1)).f1.f0) ((rd_T26 x1125006_1 (rd l2 x12_1)).f1.f1) ((rd_T26 x1125006_1 (rd l2 x12_1)).f1.f2) ((rd_T26 x1125006_1 (rd l2 x12_1)).f1.f3) ((rd_T26 x1125006_1 (rd l2 x12_1)).f2) ((rd_T26 x1125006_1 (rd l2 x12_1)).f3)) else (none)) else (none)))) = some r := by rw [if_neg (show ¬ (false = true) by decide)] at H; exact H
       clear H
       have H := H1
       clear H1
       by_cases c25 : (rd l2 x12_1) < 0
       ·rw [if_pos c25] at H
        have c25b0 : decide ((rd l2 x12_1) < 0) = true := decide_eq_true c25
        clear c25
        obtain rfl := Option.some.inj H
        have p1125 : 0 ≤ (x12_1 : Int) := of_decide_eq_true (by first | (with_reducible assumption) | assumption)
        have q1125 : x12_1 < (l2.length : Int) := of_decide_eq_true (by first | (with_reducible assumption) | assumption)
        obtain ⟨ad1125, e1125, hx1125_0⟩ := Kd.at_int HR2.out x12_1 p1125 q1125
        cases e1125
        replace hx1125_0 := (HB.out.cell (World.block_lt_of_cell? w _ hx1125_0)).trans hx1125_0
        replace p1125 := eq_true p1125
        replace q1125 := eq_true q1125
        have hcz26_0 : wr.cell? ⟨gb1124, 0, none⟩ = some (.int .u8 x1125000_1) := (blk_cell BK1124.out 0).trans rfl
        have hcz26_1 : wr.cell? ⟨gb1124, 1, none⟩ = some (.int .i64 x1125001_1) := (blk_cell BK1124.out 1).trans rfl
        have hcz26_2 : wr.cell? ⟨gb1124, 2, none⟩ = some (.int .i64 x1125002_1) := (blk_cell BK1124.out 2).trans rfl
        have hcz26_3 : wr.cell? ⟨gb1124, 3, none⟩ = some (.int .i64 x1125003_1) := (blk_cell BK1124.out 3).trans rfl
        have hcz26_4 : wr.cell? ⟨gb1124, 4, none⟩ = some (.int .i64 x1125004_1) := (blk_cell BK1124.out 4).trans rfl
        have hcz26_5 : wr.cell? ⟨gb1124, 5, none⟩ = some (.int .i64 x1125005_1) := (blk_cell BK1124.out 5).trans rfl
        have hcz26_6 : wr.cell? ⟨gb1124, 6, none⟩ = some (u1125006) := (blk_cell BK1124.out 6).trans rfl
        have hfz26_0 := blk_frozen BK1124.out 0
        have hfz26_1 := blk_frozen BK1124.out 1
        have hfz26_2 := blk_frozen BK1124.out 2
        have hfz26_3 := blk_frozen BK1124.out 3
        have hfz26_4 := blk_frozen BK1124.out 4
        have hfz26_5 := blk_frozen BK1124.out 5
        have hfz26_6 := blk_frozen BK1124.out 6
        obtain ⟨Ao27, co27, eo27⟩ := Kd.V_slice HO_1125006.out
        subst eo27
        go_wp2_with (first | ((with_reducible refine gate_callee (f := 99) rfl ?_); refine goesL_ (some 18) rfl rfl Try.func99 (by kernel_rfl) rfl #[.agg #[.int .u8 x1125000_1, .int .i64 x1125001_1, .int .i64 x1125002_1, .int .i64 x1125003_1, .int .i64 x1125004_1, .int .i64 x1125005_1, .slice Ao27 x1125006_1.length co27], .int .u8 a1] rfl (by (try simp only [List.map_toArray, List.map_cons, List.map_nil]); first | done | rfl | (simp only [List.length_drop, List.length_take]; rfl)) ?_; (with_reducible refine (least_Along.calls x1125000_1 x1125001_1 x1125002_1 x1125003_1 x1125004_1 x1125005_1 _ _ x1125006_1 a1 false _ ?side1 ?side2 A8.out).mono ?_); (case side1 => repeat (first | exact (Kd.V_reads' HO_1125006.out).2.2 | (with_reducible refine Kd.C_alloc ?_ _) | (with_reducible refine Kd.C_drewN ?_ _) | (with_reducible refine Kd.C_drew ?_))); (case side2 => exact (Kd.V_reads' HO_1125006.out).2.1); rintro e w28 ⟨rfl, hb⟩; refine ⟨_, rfl, ?_⟩; have n0_ := Aside0.mk (Kd.V_below (by (with_reducible repeat (first | apply Kd.V_alloc | apply Kd.V_drewN | apply Kd.V_drew)); exact HO_1125006.out) hb); have n1_ := Aside0.mk (blk_below (g := gb1124) (o := .cells #[.int .u8 x1125000_1, .int .i64 x1125001_1, .int .i64 x1125002_1, .int .i64 x1125003_1, .int .i64 x1125004_1, .int .i64 x1125005_1, .slice Ao27 x1125006_1.length co27] 26 (0, 0)) (by (with_reducible repeat (first | refine blk_drewN ?_ _ | refine blk_drew ?_ | refine blk_alloc ?_ _)); exact BK1124.out) hb); have n2_ := Aside0.mk (below_step (by repeat (first | (with_reducible first | exact HB.out | apply below_alloc | apply pw_below_drewN | apply below_drew1 | refine below_set ?_ GE1124.out) | exact HB.out)) hb); clear HO_1125006; clear BK1124; clear HB; have HO_1125006 := n0_; have BK1124 := n1_; have HB := n2_; clear n0_ n1_ n2_; (try clear hb); (try clear hb2); (try clear hk); (try clear hi)))
        go_ret
        exact ⟨by first | rfl | (simp [errW_none, errW_some] <;> rfl) | (simp [*, errW_none, errW_some] <;> rfl), by repeat (first | (with_reducible first | exact HB.out | apply below_alloc | apply pw_below_drewN | apply below_drew1 | refine below_set ?_ GE1124.out) | exact HB.out)⟩
       ·rw [if_neg c25] at H
        have c25b0 : decide ((rd l2 x12_1) < 0) = false := decide_eq_false c25
        clear c25
        by_cases c29 : (rd l2 x12_1) ≥ (x1125006_1.length : Int)
        ·rw [if_pos c29] at H
         have c29b0 : decide ((x1125006_1.length : Int) ≤ (rd l2 x12_1)) = true := decide_eq_true c29
         clear c29
         obtain rfl := Option.some.inj H
         have p1125 : 0 ≤ (x12_1 : Int) := of_decide_eq_true (by first | (with_reducible assumption) | assumption)
         have q1125 : x12_1 < (l2.length : Int) := of_decide_eq_true (by first | (with_reducible assumption) | assumption)
         obtain ⟨ad1125, e1125, hx1125_0⟩ := Kd.at_int HR2.out x12_1 p1125 q1125
         cases e1125
         replace hx1125_0 := (HB.out.cell (World.block_lt_of_cell? w _ hx1125_0)).trans hx1125_0
         replace p1125 := eq_true p1125
         replace q1125 := eq_true q1125
         have hcz30_0 : wr.cell? ⟨gb1124, 0, none⟩ = some (.int .u8 x1125000_1) := (blk_cell BK1124.out 0).trans rfl
         have hcz30_1 : wr.cell? ⟨gb1124, 1, none⟩ = some (.int .i64 x1125001_1) := (blk_cell BK1124.out 1).trans rfl
         have hcz30_2 : wr.cell? ⟨gb1124, 2, none⟩ = some (.int .i64 x1125002_1) := (blk_cell BK1124.out 2).trans rfl
         have hcz30_3 : wr.cell? ⟨gb1124, 3, none⟩ = some (.int .i64 x1125003_1) := (blk_cell BK1124.out 3).trans rfl
         have hcz30_4 : wr.cell? ⟨gb1124, 4, none⟩ = some (.int .i64 x1125004_1) := (blk_cell BK1124.out 4).trans rfl
         have hcz30_5 : wr.cell? ⟨gb1124, 5, none⟩ = some (.int .i64 x1125005_1) := (blk_cell BK1124.out 5).trans rfl
         have hcz30_6 : wr.cell? ⟨gb1124, 6, none⟩ = some (u1125006) := (blk_cell BK1124.out 6).trans rfl
         have hfz30_0 := blk_frozen BK1124.out 0
         have hfz30_1 := blk_frozen BK1124.out 1
         have hfz30_2 := blk_frozen BK1124.out 2
         have hfz30_3 := blk_frozen BK1124.out 3
         have hfz30_4 := blk_frozen BK1124.out 4
         have hfz30_5 := blk_frozen BK1124.out 5
         have hfz30_6 := blk_frozen BK1124.out 6
         obtain ⟨Ao31, co31, eo31⟩ := Kd.V_slice HO_1125006.out
         subst eo31
         go_wp2_with (first | ((with_reducible refine gate_callee (f := 99) rfl ?_); refine goesL_ (some 18) rfl rfl Try.func99 (by kernel_rfl) rfl #[.agg #[.int .u8 x1125000_1, .int .i64 x1125001_1, .int .i64 x1125002_1, .int .i64 x1125003_1, .int .i64 x1125004_1, .int .i64 x1125005_1, .slice Ao31 x1125006_1.length co31], .int .u8 a1] rfl (by (try simp only [List.map_toArray, List.map_cons, List.map_nil]); first | done | rfl | (simp only [List.length_drop, List.length_take]; rfl)) ?_; (with_reducible refine (least_Along.calls x1125000_1 x1125001_1 x1125002_1 x1125003_1 x1125004_1 x1125005_1 _ _ x1125006_1 a1 false _ ?side1 ?side2 A8.out).mono ?_); (case side1 => repeat (first | exact (Kd.V_reads' HO_1125006.out).2.2 | (with_reducible refine Kd.C_alloc ?_ _) | (with_reducible refine Kd.C_drewN ?_ _) | (with_reducible refine Kd.C_drew ?_))); (case side2 => exact (Kd.V_reads' HO_1125006.out).2.1); rintro e w32 ⟨rfl, hb⟩; refine ⟨_, rfl, ?_⟩; have n0_ := Aside0.mk (Kd.V_below (by (with_reducible repeat (first | apply Kd.V_alloc | apply Kd.V_drewN | apply Kd.V_drew)); exact HO_1125006.out) hb); have n1_ := Aside0.mk (blk_below (g := gb1124) (o := .cells #[.int .u8 x1125000_1, .int .i64 x1125001_1, .int .i64 x1125002_1, .int .i64 x1125003_1, .int .i64 x1125004_1, .int .i64 x1125005_1, .slice Ao31 x1125006_1.length co31] 26 (0, 0)) (by (with_reducible repeat (first | refine blk_drewN ?_ _ | refine blk_drew ?_ | refine blk_alloc ?_ _)); exact BK1124.out) hb); have n2_ := Aside0.mk (below_step (by repeat (first | (with_reducible first | exact HB.out | apply below_alloc | apply pw_below_drewN | apply below_drew1 | refine below_set ?_ GE1124.out) | exact HB.out)) hb); clear HO_1125006; clear BK1124; clear HB; have HO_1125006 := n0_; have BK1124 := n1_; have HB := n2_; clear n0_ n1_ n2_; (try clear hb); (try clear hb2); (try clear hk); (try clear hi); have hcz33_0 : w32.cell? ⟨gb1124, 0, none⟩ = some (.int .u8 x1125000_1) := (blk_cell BK1124.out 0).trans rfl; have hcz33_1 : w32.cell? ⟨gb1124, 1, none⟩ = some (.int .i64 x1125001_1) := (blk_cell BK1124.out 1).trans rfl; have hcz33_2 : w32.cell? ⟨gb1124, 2, none⟩ = some (.int .i64 x1125002_1) := (blk_cell BK1124.out 2).trans rfl; have hcz33_3 : w32.cell? ⟨gb1124, 3, none⟩ = some (.int .i64 x1125003_1) := (blk_cell BK1124.out 3).trans rfl; have hcz33_4 : w32.cell? ⟨gb1124, 4, none⟩ = some (.int .i64 x1125004_1) := (blk_cell BK1124.out 4).trans rfl; have hcz33_5 : w32.cell? ⟨gb1124, 5, none⟩ = some (.int .i64 x1125005_1) := (blk_cell BK1124.out 5).trans rfl; have hcz33_6 : w32.cell? ⟨gb1124, 6, none⟩ = some (.slice Ao31 x1125006_1.length co31) := (blk_cell BK1124.out 6).trans rfl; have hfz33_0 := blk_frozen BK1124.out 0; have hfz33_1 := blk_frozen BK1124.out 1; have hfz33_2 := blk_frozen BK1124.out 2; have hfz33_3 := blk_frozen BK1124.out 3; have hfz33_4 := blk_frozen BK1124.out 4; have hfz33_5 := blk_frozen BK1124.out 5; have hfz33_6 := blk_frozen BK1124.out 6))
         go_ret
         exact ⟨by first | rfl | (simp [errW_none, errW_some] <;> rfl) | (simp [*, errW_none, errW_some] <;> rfl), by repeat (first | (with_reducible first | exact HB.out | apply below_alloc | apply pw_below_drewN | apply below_drew1 | refine below_set ?_ GE1124.out) | exact HB.out)⟩
        ·rw [if_neg c29] at H
         have c29b0 : decide ((x1125006_1.length : Int) ≤ (rd l2 x12_1)) = false := decide_eq_false c29
         clear c29
         by_cases c34 : 0 ≤ (rd l2 x12_1)
         ·rw [if_pos c34] at H
          have c34b0 : decide (0 ≤ (rd l2 x12_1)) = true := decide_eq_true c34
          clear c34
          by_cases c35 : (rd l2 x12_1) < (x1125006_1.length : Int)
          ·rw [if_pos c35] at H
           have c35b0 : decide ((rd l2 x12_1) < (x1125006_1.length : Int)) = true := decide_eq_true c35
           clear c35
           have H' := Aside0.mk H
           clear H
           have p1125 : 0 ≤ (x12_1 : Int) := of_decide_eq_true (by first | (with_reducible assumption) | assumption)
           have q1125 : x12_1 < (l2.length : Int) := of_decide_eq_true (by first | (with_reducible assumption) | assumption)
           obtain ⟨ad1125, e1125, hx1125_0⟩ := Kd.at_int HR2.out x12_1 p1125 q1125
           cases e1125
           replace hx1125_0 := (HB.out.cell (World.block_lt_of_cell? w _ hx1125_0)).trans hx1125_0
           replace p1125 := eq_true p1125
           replace q1125 := eq_true q1125
           have hcz36_0 : wr.cell? ⟨gb1124, 0, none⟩ = some (.int .u8 x1125000_1) := (blk_cell BK1124.out 0).trans rfl
           have hcz36_1 : wr.cell? ⟨gb1124, 1, none⟩ = some (.int .i64 x1125001_1) := (blk_cell BK1124.out 1).trans rfl
           have hcz36_2 : wr.cell? ⟨gb1124, 2, none⟩ = some (.int .i64 x1125002_1) := (blk_cell BK1124.out 2).trans rfl
           have hcz36_3 : wr.cell? ⟨gb1124, 3, none⟩ = some (.int .i64 x1125003_1) := (blk_cell BK1124.out 3).trans rfl
           have hcz36_4 : wr.cell? ⟨gb1124, 4, none⟩ = some (.int .i64 x1125004_1) := (blk_cell BK1124.out 4).trans rfl
           have hcz36_5 : wr.cell? ⟨gb1124, 5, none⟩ = some (.int .i64 x1125005_1) := (blk_cell BK1124.out 5).trans rfl
           have hcz36_6 : wr.cell? ⟨gb1124, 6, none⟩ = some (u1125006) := (blk_cell BK1124.out 6).trans rfl
           have hfz36_0 := blk_frozen BK1124.out 0
           have hfz36_1 := blk_frozen BK1124.out 1
           have hfz36_2 := blk_frozen BK1124.out 2
           have hfz36_3 := blk_frozen BK1124.out 3
           have hfz36_4 := blk_frozen BK1124.out 4
           have hfz36_5 := blk_frozen BK1124.out 5
           have hfz36_6 := blk_frozen BK1124.out 6
           obtain ⟨Ao37, co37, eo37⟩ := Kd.V_slice HO_1125006.out
           subst eo37
           go_wp2_with (first | ((with_reducible refine gate_callee (f := 99) rfl ?_); refine goesL_ (some 18) rfl rfl Try.func99 (by kernel_rfl) rfl #[.agg #[.int .u8 x1125000_1, .int .i64 x1125001_1, .int .i64 x1125002_1, .int .i64 x1125003_1, .int .i64 x1125004_1, .int .i64 x1125005_1, .slice Ao37 x1125006_1.length co37], .int .u8 a1] rfl (by (try simp only [List.map_toArray, List.map_cons, List.map_nil]); first | done | rfl | (simp only [List.length_drop, List.length_take]; rfl)) ?_; (with_reducible refine (least_Along.calls x1125000_1 x1125001_1 x1125002_1 x1125003_1 x1125004_1 x1125005_1 _ _ x1125006_1 a1 false _ ?side1 ?side2 A8.out).mono ?_); (case side1 => repeat (first | exact (Kd.V_reads' HO_1125006.out).2.2 | (with_reducible refine Kd.C_alloc ?_ _) | (with_reducible refine Kd.C_drewN ?_ _) | (with_reducible refine Kd.C_drew ?_))); (case side2 => exact (Kd.V_reads' HO_1125006.out).2.1); rintro e w38 ⟨rfl, hb⟩; refine ⟨_, rfl, ?_⟩; have n0_ := Aside0.mk (Kd.V_below (by (with_reducible repeat (first | apply Kd.V_alloc | apply Kd.V_drewN | apply Kd.V_drew)); exact HO_1125006.out) hb); have n1_ := Aside0.mk (blk_below (g := gb1124) (o := .cells #[.int .u8 x1125000_1, .int .i64 x1125001_1, .int .i64 x1125002_1, .int .i64 x1125003_1, .int .i64 x1125004_1, .int .i64 x1125005_1, .slice Ao37 x1125006_1.length co37] 26 (0, 0)) (by (with_reducible repeat (first | refine blk_drewN ?_ _ | refine blk_drew ?_ | refine blk_alloc ?_ _)); exact BK1124.out) hb); have n2_ := Aside0.mk (below_step (by repeat (first | (with_reducible first | exact HB.out | apply below_alloc | apply pw_below_drewN | apply below_drew1 | refine below_set ?_ GE1124.out) | exact HB.out)) hb); clear HO_1125006; clear BK1124; clear HB; have HO_1125006 := n0_; have BK1124 := n1_; have HB := n2_; clear n0_ n1_ n2_; (try clear hb); (try clear hb2); (try clear hk); (try clear hi); have hcz39_0 : w38.cell? ⟨gb1124, 0, none⟩ = some (.int .u8 x1125000_1) := (blk_cell BK1124.out 0).trans rfl; have hcz39_1 : w38.cell? ⟨gb1124, 1, none⟩ = some (.int .i64 x1125001_1) := (blk_cell BK1124.out 1).trans rfl; have hcz39_2 : w38.cell? ⟨gb1124, 2, none⟩ = some (.int .i64 x1125002_1) := (blk_cell BK1124.out 2).trans rfl; have hcz39_3 : w38.cell? ⟨gb1124, 3, none⟩ = some (.int .i64 x1125003_1) := (blk_cell BK1124.out 3).trans rfl; have hcz39_4 : w38.cell? ⟨gb1124, 4, none⟩ = some (.int .i64 x1125004_1) := (blk_cell BK1124.out 4).trans rfl; have hcz39_5 : w38.cell? ⟨gb1124, 5, none⟩ = some (.int .i64 x1125005_1) := (blk_cell BK1124.out 5).trans rfl; have hcz39_6 : w38.cell? ⟨gb1124, 6, none⟩ = some (.slice Ao37 x1125006_1.length co37) := (blk_cell BK1124.out 6).trans rfl; have hfz39_0 := blk_frozen BK1124.out 0; have hfz39_1 := blk_frozen BK1124.out 1; have hfz39_2 := blk_frozen BK1124.out 2; have hfz39_3 := blk_frozen BK1124.out 3; have hfz39_4 := blk_frozen BK1124.out 4; have hfz39_5 := blk_frozen BK1124.out 5; have hfz39_6 := blk_frozen BK1124.out 6; have p1128 : 0 ≤ ((rd l2 x12_1) : Int) := of_decide_eq_true (by first | (with_reducible assumption) | assumption); have q1128 : (rd l2 x12_1) < (x1125006_1.length : Int) := of_decide_eq_true (by first | (with_reducible assumption) | assumption); obtain ⟨ad1128, A1128_6, c1128_6, e1128, hx1128_0, hx1128_1, hx1128_2, hx1128_3, hx1128_4, hx1128_5, hx1128_6, hl1128_6, hi1128_6⟩ := at_T26 (Kd.V_reads' HO_1125006.out).2.2 (rd l2 x12_1) p1128 q1128; cases e1128; obtain ⟨ce1128, hce1128, hMe1128, hcc1128⟩ := Kd.V_get HO_1125006.out z26 (rd l2 x12_1) p1128 (by first | exact q1128 | exact of_decide_eq_true (by first | (with_reducible assumption) | assumption) | (have e_ := (Kd.V_reads' HO_1125006.out).1; omega)); obtain ⟨ua1128_6, uc1128_6, rfl, ul1128_6, ge1128_6⟩ := k26_openF hMe1128; have hv1128_6 := hcc1128 6 _ rfl; rw [add_field _ _ 6 (by omega)] at hv1128_6; replace hv1128_6 := Option.some.inj (hv1128_6.symm.trans hx1128_6); injection hv1128_6 with hva_ hvn_ hvc_; rw [hva_] at ge1128_6; rw [hvc_] at ul1128_6; have HL1128_6 := Aside0.mk (show Kd.V k26 26 _ w.heap.size _ _ ((rd_T26 x1125006_1 (rd l2 x12_1)).f3) from Kd.V_mk ul1128_6 ge1128_6); clear hva_ hvn_ hvc_ ge1128_6 ul1128_6; clear hcc1128 hce1128; have HR1128_6 := Aside0.mk hi1128_6; have HC1128_6 := Aside0.mk hl1128_6; clear hi1128_6 hl1128_6; replace p1128 := eq_true p1128; replace q1128 := eq_true q1128))
           go_roundg k1
           case measure => have := HK1.out; omega
           case rel => exact ⟨(x7_1), (wrap64 (x12_1 + 1)), ((rd_T26 x1125006_1 (rd l2 x12_1)).f0), ((rd_T26 x1125006_1 (rd l2 x12_1)).f1.f0), ((rd_T26 x1125006_1 (rd l2 x12_1)).f1.f1), ((rd_T26 x1125006_1 (rd l2 x12_1)).f1.f2), ((rd_T26 x1125006_1 (rd l2 x12_1)).f1.f3), ((rd_T26 x1125006_1 (rd l2 x12_1)).f2), ((rd_T26 x1125006_1 (rd l2 x12_1)).f3), (.slice A1128_6 ((rd_T26 x1125006_1 (rd l2 x12_1)).f3).length c1128_6), (by first | rfl | (simp; done) | (simp [*]; done)), (by first | rfl | (simp; done) | (simp [*]; done)), H', ⟨by have := HK1.out; omega⟩, ⟨by (with_reducible repeat (first | apply Kd.V_alloc | apply Kd.V_drewN | apply Kd.V_drew)); exact Kd.V_mono (Kd.V_far (p := ⟨gb1124, 6, none⟩) (Kd.V_far (p := ⟨gb1124, 5, none⟩) (Kd.V_far (p := ⟨gb1124, 4, none⟩) (Kd.V_far (p := ⟨gb1124, 3, none⟩) (Kd.V_far (p := ⟨gb1124, 2, none⟩) (Kd.V_far (p := ⟨gb1124, 1, none⟩) (Kd.V_far (p := ⟨gb1124, 0, none⟩) (Kd.V_mono HL1128_6.out (fun k_ hk => (⟨hk, hk.2⟩ : _ ∧ k_ ≠ gb1124))) (fun _ hk => hk.2) (.int .u8 ((rd_T26 x1125006_1 (rd l2 x12_1)).f0))) (fun _ hk => hk.2) (.int .i64 ((rd_T26 x1125006_1 (rd l2 x12_1)).f1.f0))) (fun _ hk => hk.2) (.int .i64 ((rd_T26 x1125006_1 (rd l2 x12_1)).f1.f1))) (fun _ hk => hk.2) (.int .i64 ((rd_T26 x1125006_1 (rd l2 x12_1)).f1.f2))) (fun _ hk => hk.2) (.int .i64 ((rd_T26 x1125006_1 (rd l2 x12_1)).f1.f3))) (fun _ hk => hk.2) (.int .i64 ((rd_T26 x1125006_1 (rd l2 x12_1)).f2))) (fun _ hk => hk.2) (.slice A1128_6 ((rd_T26 x1125006_1 (rd l2 x12_1)).f3).length c1128_6)) (fun _ hk => ⟨hk.1.1, hk.1.2⟩)⟩, ⟨by (with_reducible repeat (first | refine blk_drewN ?_ _ | refine blk_drew ?_ | refine blk_alloc ?_ _)); refine blk_put (cs := #[.int .u8 ((rd_T26 x1125006_1 (rd l2 x12_1)).f0), .int .i64 ((rd_T26 x1125006_1 (rd l2 x12_1)).f1.f0), .int .i64 ((rd_T26 x1125006_1 (rd l2 x12_1)).f1.f1), .int .i64 ((rd_T26 x1125006_1 (rd l2 x12_1)).f1.f2), .int .i64 ((rd_T26 x1125006_1 (rd l2 x12_1)).f1.f3), .int .i64 ((rd_T26 x1125006_1 (rd l2 x12_1)).f2), .slice (some ad1128) x1125006_1.length co37]) ?_ 6 _ rfl; (with_reducible repeat (first | refine blk_drewN ?_ _ | refine blk_drew ?_ | refine blk_alloc ?_ _)); refine blk_put (cs := #[.int .u8 ((rd_T26 x1125006_1 (rd l2 x12_1)).f0), .int .i64 ((rd_T26 x1125006_1 (rd l2 x12_1)).f1.f0), .int .i64 ((rd_T26 x1125006_1 (rd l2 x12_1)).f1.f1), .int .i64 ((rd_T26 x1125006_1 (rd l2 x12_1)).f1.f2), .int .i64 ((rd_T26 x1125006_1 (rd l2 x12_1)).f1.f3), .int .i64 x1125005_1, .slice (some ad1128) x1125006_1.length co37]) ?_ 5 _ rfl; (with_reducible repeat (first | refine blk_drewN ?_ _ | refine blk_drew ?_ | refine blk_alloc ?_ _)); refine blk_put (cs := #[.int .u8 ((rd_T26 x1125006_1 (rd l2 x12_1)).f0), .int .i64 ((rd_T26 x1125006_1 (rd l2 x12_1)).f1.f0), .int .i64 ((rd_T26 x1125006_1 (rd l2 x12_1)).f1.f1), .int .i64 ((rd_T26 x1125006_1 (rd l2 x12_1)).f1.f2), .int .i64 x1125004_1, .int .i64 x1125005_1, .slice (some ad1128) x1125006_1.length co37]) ?_ 4 _ rfl; (with_reducible repeat (first | refine blk_drewN ?_ _ | refine blk_drew ?_ | refine blk_alloc ?_ _)); refine blk_put (cs := #[.int .u8 ((rd_T26 x1125006_1 (rd l2 x12_1)).f0), .int .i64 ((rd_T26 x1125006_1 (rd l2 x12_1)).f1.f0), .int .i64 ((rd_T26 x1125006_1 (rd l2 x12_1)).f1.f1), .int .i64 x1125003_1, .int .i64 x1125004_1, .int .i64 x1125005_1, .slice (some ad1128) x1125006_1.length co37]) ?_ 3 _ rfl; (with_reducible repeat (first | refine blk_drewN ?_ _ | refine blk_drew ?_ | refine blk_alloc ?_ _)); refine blk_put (cs := #[.int .u8 ((rd_T26 x1125006_1 (rd l2 x12_1)).f0), .int .i64 ((rd_T26 x1125006_1 (rd l2 x12_1)).f1.f0), .int .i64 x1125002_1, .int .i64 x1125003_1, .int .i64 x1125004_1, .int .i64 x1125005_1, .slice (some ad1128) x1125006_1.length co37]) ?_ 2 _ rfl; (with_reducible repeat (first | refine blk_drewN ?_ _ | refine blk_drew ?_ | refine blk_alloc ?_ _)); refine blk_put (cs := #[.int .u8 ((rd_T26 x1125006_1 (rd l2 x12_1)).f0), .int .i64 x1125001_1, .int .i64 x1125002_1, .int .i64 x1125003_1, .int .i64 x1125004_1, .int .i64 x1125005_1, .slice (some ad1128) x1125006_1.length co37]) ?_ 1 _ rfl; (with_reducible repeat (first | refine blk_drewN ?_ _ | refine blk_drew ?_ | refine blk_alloc ?_ _)); refine blk_put (cs := #[.int .u8 x1125000_1, .int .i64 x1125001_1, .int .i64 x1125002_1, .int .i64 x1125003_1, .int .i64 x1125004_1, .int .i64 x1125005_1, .slice (some ad1128) x1125006_1.length co37]) ?_ 0 _ rfl; (with_reducible repeat (first | refine blk_drewN ?_ _ | refine blk_drew ?_ | refine blk_alloc ?_ _)); exact BK1124.out⟩, ⟨by repeat (first | (with_reducible first | exact HB.out | apply below_alloc | apply pw_below_drewN | apply below_drew1 | refine below_set ?_ GE1124.out) | exact HB.out)⟩⟩
          ·rw [if_neg c35] at H
           exact absurd H (by simp)
         ·rw [if_neg c34] at H
          exact absurd H (by simp)
     ·rw [if_neg c7] at H
      exact absurd H (by simp)
    ·rw [if_neg c6] at H
     exact absurd H (by simp)
   ·rw [if_neg c5] at H
    have c5b0 : decide (x12_1 < (l2.length : Int)) = false := decide_eq_false c5
    clear c5
    obtain rfl := Option.some.inj H
    go_wp2
    go_ret
    exact ⟨by first | rfl | (simp [errW_none, errW_some] <;> rfl) | (simp [*, errW_none, errW_some] <;> rfl), by repeat (first | (with_reducible first | exact HB.out | apply below_alloc | apply pw_below_drewN | apply below_drew1 | refine below_set ?_ GE1124.out) | exact HB.out)⟩

end Go.Proofs.Ytfdmfgaiblfbhaa.P
namespace Go.Proofs.Ytfdmfgaiblfbhaa.P
open Go.RowKit Go.Proofs.YtfdmfgaiblfbhaaW.PrintWords Go.Proofs.YtfdmfgaiblfbhaaW.PrintLast Go.Proofs.YtfdmfgaiblfbhaaW.PrintMore
attribute [local go_sem] max2_int min2_int max_two min_two max_three min_three max_four min_four   -- for this text's walks alone
set_option linter.unusedVariables false
set_option linter.unusedSimpArgs false

/-! ### sashref08_Path: function 101 -/
def sashref08_Path.f : Nat → Int → Int → Int → Int → Int → Int → List (S26) → Int → List Int → Option (Int)
 | 0, _, _, _, _, _, _, _, _, _ => none
 | k + 1, a0_0, a0_1, a0_2, a0_3, a0_4, a0_5, l0_6, a1, l2 => if (l2.length : Int) = 0 then (some 0) else ((sashref08_Along.f a0_0 a0_1 a0_2 a0_3 a0_4 a0_5 l0_6 a1).bind fun t1130 => (if t1130 = true then (if 0 < (l2.length : Int) then (if (rd l2 0) < 0 then (some 1) else (if (rd l2 0) ≥ (l0_6.length : Int) then (some 1) else (if 0 ≤ (rd l2 0) then (if (rd l2 0) < (l0_6.length : Int) then (if 1 ≤ (l2.length : Int) then ((sashref08_Path.f k ((rd_T26 l0_6 (rd l2 0)).f0) ((rd_T26 l0_6 (rd l2 0)).f1.f0) ((rd_T26 l0_6 (rd l2 0)).f1.f1) ((rd_T26 l0_6 (rd l2 0)).f1.f2) ((rd_T26 l0_6 (rd l2 0)).f1.f3) ((rd_T26 l0_6 (rd l2 0)).f2) ((rd_T26 l0_6 (rd l2 0)).f3) a1 (l2.drop 1)).bind fun t1136 => (some (wrap64 (1 + t1136)))) else (none)) else (none)) else (none)))) else (none)) else (if 0 < (l2.length : Int) then (if (rd l2 0) < 0 then (some 0) else (if (rd l2 0) ≥ (l0_6.length : Int) then (some 0) else (if 0 ≤ (rd l2 0) then (if (rd l2 0) < (l0_6.length : Int) then (if 1 ≤ (l2.length : Int) then ((sashref08_Path.f k ((rd_T26 l0_6 (rd l2 0)).f0) ((rd_T26 l0_6 (rd l2 0)).f1.f0) ((rd_T26 l0_6 (rd l2 0)).f1.f1) ((rd_T26 l0_6 (rd l2 0)).f1.f2) ((rd_T26 l0_6 (rd l2 0)).f1.f3) ((rd_T26 l0_6 (rd l2 0)).f2) ((rd_T26 l0_6 (rd l2 0)).f3) a1 (l2.drop 1)).bind fun t1142 => (some (wrap64 (0 + t1142)))) else (none)) else (none)) else (none)))) else (none))))
def sashref08_Path.T6 : Bool × List (List Nat × List Nat) := (true, [([], []), ([0], [0]), ([1], [1]), ([2], [2]), ([3], [3]), ([4], [4]), ([5, 4], [4, 5]), ([6, 4], [4, 6]), ([4], [4]), ([8, 4], [4, 8]), ([9, 4], [4, 9]), ([7, 10, 4], [4, 7, 10]), ([4, 11], [4, 11])])
def sashref08_Path.B6 : List Nat := [0, 1, 3, 7, 15, 31, 63, 127, 31, 287, 799, 2047, 4095]
theorem sashref08_Path.tab6 : rtab .any (opsOf Try.f101 6) = sashref08_Path.T6 := by kernel_rfl
theorem sashref08_Path.bits6 : waitsOk sashref08_Path.T6.2 sashref08_Path.B6 = true := by kernel_rfl
def sashref08_Path.T8 : Bool × List (List Nat × List Nat) := (true, [([], []), ([], []), ([1], [1]), ([], []), ([3], [3]), ([4], [4]), ([2, 5], [2, 5]), ([6], [6]), ([], []), ([], []), ([9], [9]), ([7, 8, 10], [7, 8, 10]), ([0, 11], [0, 11]), ([12, 11, 0, 1, 2, 3, 4, 5, 6, 7, 8, 9, 10, 11, 12], [12])])
def sashref08_Path.B8 : List Nat := [0, 0, 2, 0, 8, 24, 62, 126, 0, 0, 512, 2046, 4095, 8191]
theorem sashref08_Path.tab8 : rtab .any (opsOf Try.f101 8) = sashref08_Path.T8 := by kernel_rfl
theorem sashref08_Path.bits8 : waitsOk sashref08_Path.T8.2 sashref08_Path.B8 = true := by kernel_rfl
set_option maxHeartbeats 8000000 in
set_option maxRecDepth 100000 in
theorem sashref08_Path.calls (k : Nat) : ∀ (a0_0 : Int) (a0_1 : Int) (a0_2 : Int) (a0_3 : Int) (a0_4 : Int) (a0_5 : Int) (A0_6 : Option Addr) (c0_6 : Nat) (l0_6 : List (S26)) (a1 : Int) (A2 : Option Addr) (c2 : Nat) (l2 : List Int) (r : Int) (w : World) (hr0_6 : Kd.C k26 w A0_6 l0_6.length l0_6) (hc0_6 : l0_6.length ≤ c0_6) (hr2 : Kd.C (Kd.int .i64) w A2 l2.length l2) (hc2 : l2.length ≤ c2) (h : sashref08_Path.f k a0_0 a0_1 a0_2 a0_3 a0_4 a0_5 l0_6 a1 l2 = some r),
  Calls Try.prog 101 #[.agg #[.int .u8 a0_0, .int .i64 a0_1, .int .i64 a0_2, .int .i64 a0_3, .int .i64 a0_4, .int .i64 a0_5, .slice A0_6 l0_6.length c0_6], .int .u8 a1, .slice A2 l2.length c2] w fun e w' => e = .returned (.int .i64 r) ∧ Below w.heap.size w w' := by
 induction k using Nat.strongRecOn with
 | _ k ih =>
 intro a0_0 a0_1 a0_2 a0_3 a0_4 a0_5 A0_6 c0_6 l0_6 a1 A2 c2 l2 r w hr0_6 hc0_6 hr2 hc2 h
 cases k with
 | zero => exact absurd h (by simp [sashref08_Path.f])
 | succ k =>
 simp only [sashref08_Path.f] at h
 have hu26 := Try.underlying26
 have HR0_6 := Aside0.mk hr0_6
 have HC0_6 := Aside0.mk hc0_6
 clear hr0_6 hc0_6
 have HR2 := Aside0.mk hr2
 have HC2 := Aside0.mk hc2
 clear hr2 hc2
 have HB := Aside0.mk (Below.refl w.heap.size w)
 have H : (if (l2.length : Int) = 0 then (some 0) else ((sashref08_Along.f a0_0 a0_1 a0_2 a0_3 a0_4 a0_5 l0_6 a1).bind fun t1130 => (if t1130 = true then (if 0 < (l2.length : Int) then (if (rd l2 0) < 0 then (some 1) else (if (rd l2 0) ≥ (l0_6.length : Int) then (some 1) else (if 0 ≤ (rd l2 0) then (if (rd l2 0) < (l0_6.length : Int) then (if 1 ≤ (l2.length : Int) then ((sashref08_Path.f k ((rd_T26 l0_6 (rd l2 0)).f0) ((rd_T26 l0_6 (rd l2 0)).f1.f0) ((rd_T26 l0_6 (rd l2 0)).f1.f1) ((rd_T26 l0_6 (rd l2 0)).f1.f2) ((rd_T26 l0_6 (rd l2 0)).f1.f3) ((rd_T26 l0_6 (rd l2 0)).f2) ((rd_T26 l0_6 (rd l2 0)).f3) a1 (l2.drop 1)).bind fun t1136 => (some (wrap64 (1 + t1136)))) else (none)) else (none)) else (none)))) else (none)) else (if 0 < (l2.length : Int) then (if (rd l2 0) < 0 then (some 0) else (if (rd l2 0) ≥ (l0_6.length : Int) then (some 0) else (if 0 ≤ (rd l2 0) then (if (rd l2 0) < (l0_6.length : Int) then (if 1 ≤ (l2.length : Int) then ((sashref08_Path.f k ((rd_T26 l0_6 (rd l2 0)).f0) ((rd_T26 l0_6 (rd l2 0)).f1.f0) ((rd_T26 l0_6 (rd l2 0)).f1.f1) ((rd_T26 l0_6 (rd l2 0)).f1.f2) ((rd_T26 l0_6 (rd l2 0)).f1.f3) ((rd_T26 l0_6 (rd l2 0)).f2) ((rd_T26 l0_6 (rd l2 0)).f3) a1 (l2.drop 1)).bind fun t1142 => (some (wrap64 (0 + t1142)))) else (none)) else (none)) else (none)))) else (none))))) = some r := h
 clear h
 by_cases c4 : (l2.length : Int) = 0
 ·rw [if_pos c4] at H
  have c4b0 : ((l2.length : Int) == 0) = true := beq_iff_eq.mpr c4
  have c4b1 : ((l2.length : Int) != 0) = false := bne_eq_false_iff_eq.mpr c4
  clear c4
  obtain rfl := Option.some.inj H
  go_enter Try.func101, Try.ntmps101
  go_wp2_with (first | ((with_reducible refine gate_dst (N := 3) rfl ?_); (try (refine gate_guard (by rfl) ?_; dsimp only)); refine box_event ?hg (N := 3) ?hd (cs := #[.int .u8 a0_0, .int .i64 a0_1, .int .i64 a0_2, .int .i64 a0_3, .int .i64 a0_4, .int .i64 a0_5, .slice A0_6 l0_6.length c0_6]) (t := 26) ?hr ?_; (case hd => rfl); (case hg => rfl); (case hr => first | (go_simp; done) | (go_simp; rfl)); intro gb1129 hg w5 hbox hb; have n0_ := Aside0.mk (below_step (by repeat (first | (with_reducible first | exact HB.out | apply below_alloc | apply pw_below_drewN | apply below_drew1) | exact HB.out)) hb); have n1_ := Aside0.mk (hbox); have n2_ := Aside0.mk ((by rw [hg]; exact (below_size (by repeat (first | (with_reducible first | exact HB.out | apply below_alloc | apply pw_below_drewN | apply below_drew1) | exact HB.out))) : w.heap.size ≤ gb1129)); have n3_ := Aside0.mk ((by rw [hg]; exact (below_size (by repeat (first | (with_reducible first | exact HB.out | apply below_alloc | apply pw_below_drewN | apply below_drew1) | exact HB.out))) : w.heap.size ≤ gb1129)); clear HB; have HB := n0_; have BK1129 := n1_; have GW1129 := n2_; have GE1129 := n3_; clear n0_ n1_ n2_ n3_; clear hb hbox hg))
  go_ret
  exact ⟨by first | rfl | (simp [errW_none, errW_some] <;> rfl) | (simp [*, errW_none, errW_some] <;> rfl), by repeat (first | (with_reducible first | exact HB.out | apply below_alloc | apply pw_below_drewN | apply below_drew1 | refine below_set ?_ GE1129.out) | exact HB.out)⟩
 ·rw [if_neg c4] at H
  have c4b0 : ((l2.length : Int) == 0) = false := beq_eq_false_iff_ne.mpr c4
  have c4b1 : ((l2.length : Int) != 0) = true := bne_iff_ne.mpr c4
  have c4b2 : ¬ (l2 = []) := fun h_ => c4 (by rw [h_]; rfl)
  replace H := Option.bind_eq_some_iff.mp H
  obtain ⟨t1130, A60, H⟩ := H
  replace H : (if t1130 = true then (if 0 < (l2.length : Int) then (if (rd l2 0) < 0 then (some 1) else (if (rd l2 0) ≥ (l0_6.length : Int) then (some 1) else (if 0 ≤ (rd l2 0) then (if (rd l2 0) < (l0_6.length : Int) then (if 1 ≤ (l2.length : Int) then ((sashref08_Path.f k ((rd_T26 l0_6 (rd l2 0)).f0) ((rd_T26 l0_6 (rd l2 0)).f1.f0) ((rd_T26 l0_6 (rd l2 0)).f1.f1) ((rd_T26 l0_6 (rd l2 0)).f1.f2) ((rd_T26 l0_6 (rd l2 0)).f1.f3) ((rd_T26 l0_6 (rd l2 0)).f2) ((rd_T26 l0_6 (rd l2 0)).f3) a1 (l2.drop 1)).bind fun t1136 => (some (wrap64 (1 + t1136)))) else (none)) else (none)) else (none)))) else (none)) else (if 0 < (l2.length : Int) then (if (rd l2 0) < 0 then (some 0) else (if (rd l2 0) ≥ (l0_6.length : Int) then (some 0) else (if 0 ≤ (rd l2 0) then (if (rd l2 0) < (l0_6.length : Int) then (if 1 ≤ (l2.length : Int) then ((sashref08_Path.f k ((rd_T26 l0_6 (rd l2 0)).f0) ((rd_T26 l0_6 (rd l2 0)).f1.f0) ((rd_T26 l0_6 (rd l2 0)).f1.f1) ((rd_T26 l0_6 (rd l2 0)).f1.f2) ((rd_T26 l0_6 (rd l2 0)).f1.f3) ((rd_T26 l0_6 (rd l2 0)).f2) ((rd_T26 l0_6 (rd l2 0)).f3) a1 (l2.drop 1)).bind fun t1142 => (some (wrap64 (0 + t1142)))) else (none)) else (none)) else (none)))) else (none))) = some r := H
  have A6 := Aside0.mk A60
  clear A60
  by_cases c7 : t1130 = true
  ·subst c7
   have H1 : (if 0 < (l2.length : Int) then (if (rd l2 0) < 0 then (some 1) else (if (rd l2 0) ≥ (l0_6.length : Int) then (some 1) else (if 0 ≤ (rd l2 0) then (if (rd l2 0) < (l0_6.length : Int) then (if 1 ≤ (l2.length : Int) then ((sashref08_Path.f k ((rd_T26 l0_6 (rd l2 0)).f0) ((rd_T26 l0_6 (rd l2 0)).f1.f0) ((rd_T26 l0_6 (rd l2 0)).f1.f1) ((rd_T26 l0_6 (rd l2 0)).f1.f2) ((rd_T26 l0_6 (rd l2 0)).f1.f3) ((rd_T26 l0_6 (rd l2 0)).f2) ((rd_T26 l0_6 (rd l2 0)).f3) a1 (l2.drop 1)).bind fun t1136 => (some (wrap64 (1 + t1136)))) else (none)) else (none)) else (none)))) else (none)) = some r := by rw [if_pos rfl] at H; exact H
   clear H
   have H := H1
   clear H1
   by_cases c8 : 0 < (l2.length : Int)
   ·rw [if_pos c8] at H
    have c8b0 : decide (0 < (l2.length : Int)) = true := decide_eq_true c8
    have c8b1 : decide (0 < l2.length) = true := decide_eq_true (by omega)
    clear c8
    by_cases c9 : (rd l2 0) < 0
    ·rw [if_pos c9] at H
     have c9b0 : decide ((rd l2 0) < 0) = true := decide_eq_true c9
     clear c9
     obtain rfl := Option.some.inj H
     go_enter Try.func101, Try.ntmps101
     try go_wp2_with (first | ((with_reducible refine gate_dst (N := 3) rfl ?_); (try (refine gate_guard (by rfl) ?_; dsimp only)); refine box_event ?hg (N := 3) ?hd (cs := #[.int .u8 a0_0, .int .i64 a0_1, .int .i64 a0_2, .int .i64 a0_3, .int .i64 a0_4, .int .i64 a0_5, .slice A0_6 l0_6.length c0_6]) (t := 26) ?hr ?_; (case hd => rfl); (case hg => rfl); (case hr => first | (go_simp; done) | (go_simp; rfl)); intro gb1129 hg w10 hbox hb; have n0_ := Aside0.mk (below_step (by repeat (first | (with_reducible first | exact HB.out | apply below_alloc | apply pw_below_drewN | apply below_drew1) | exact HB.out)) hb); have n1_ := Aside0.mk (hbox); have n2_ := Aside0.mk ((by rw [hg]; exact (below_size (by repeat (first | (with_reducible first | exact HB.out | apply below_alloc | apply pw_below_drewN | apply below_drew1) | exact HB.out))) : w.heap.size ≤ gb1129)); have n3_ := Aside0.mk ((by rw [hg]; exact (below_size (by repeat (first | (with_reducible first | exact HB.out | apply below_alloc | apply pw_below_drewN | apply below_drew1) | exact HB.out))) : w.heap.size ≤ gb1129)); clear HB; have HB := n0_; have BK1129 := n1_; have GW1129 := n2_; have GE1129 := n3_; clear n0_ n1_ n2_ n3_; clear hb hbox hg; have hcz11_0 : w10.cell? ⟨gb1129, 0, none⟩ = some (.int .u8 a0_0) := (blk_cell BK1129.out 0).trans rfl; have hcz11_1 : w10.cell? ⟨gb1129, 1, none⟩ = some (.int .i64 a0_1) := (blk_cell BK1129.out 1).trans rfl; have hcz11_2 : w10.cell? ⟨gb1129, 2, none⟩ = some (.int .i64 a0_2) := (blk_cell BK1129.out 2).trans rfl; have hcz11_3 : w10.cell? ⟨gb1129, 3, none⟩ = some (.int .i64 a0_3) := (blk_cell BK1129.out 3).trans rfl; have hcz11_4 : w10.cell? ⟨gb1129, 4, none⟩ = some (.int .i64 a0_4) := (blk_cell BK1129.out 4).trans rfl; have hcz11_5 : w10.cell? ⟨gb1129, 5, none⟩ = some (.int .i64 a0_5) := (blk_cell BK1129.out 5).trans rfl; have hcz11_6 : w10.cell? ⟨gb1129, 6, none⟩ = some (.slice A0_6 l0_6.length c0_6) := (blk_cell BK1129.out 6).trans rfl; have hfz11_0 := blk_frozen BK1129.out 0; have hfz11_1 := blk_frozen BK1129.out 1; have hfz11_2 := blk_frozen BK1129.out 2; have hfz11_3 := blk_frozen BK1129.out 3; have hfz11_4 := blk_frozen BK1129.out 4; have hfz11_5 := blk_frozen BK1129.out 5; have hfz11_6 := blk_frozen BK1129.out 6) | ((with_reducible refine gate_callee (f := 88) rfl ?_); refine goesL_ (some 13) rfl rfl Try.func88 (by kernel_rfl) rfl #[.agg #[.int .u8 a0_0, .int .i64 a0_1, .int .i64 a0_2, .int .i64 a0_3, .int .i64 a0_4, .int .i64 a0_5, .slice A0_6 l0_6.length c0_6], .int .u8 a1] rfl (by (try simp only [List.map_toArray, List.map_cons, List.map_nil]); first | done | rfl | (simp only [List.length_drop, List.length_take]; rfl)) ?_; (with_reducible refine (sashref08_Along.calls a0_0 a0_1 a0_2 a0_3 a0_4 a0_5 _ _ l0_6 a1 true _ ?side1 ?side2 A6.out).mono ?_); (case side1 => repeat (first | exact (Kd.C_below HR0_6.out HB.out) | (with_reducible refine Kd.C_alloc ?_ _) | (with_reducible refine Kd.C_drewN ?_ _) | (with_reducible refine Kd.C_drew ?_))); (case side2 => exact HC0_6.out); rintro e w12 ⟨rfl, hb⟩; refine ⟨_, rfl, ?_⟩; have n0_ := Aside0.mk (blk_below (g := gb1129) (o := .cells #[.int .u8 a0_0, .int .i64 a0_1, .int .i64 a0_2, .int .i64 a0_3, .int .i64 a0_4, .int .i64 a0_5, .slice A0_6 l0_6.length c0_6] 26 (0, 0)) (by (with_reducible repeat (first | refine blk_drewN ?_ _ | refine blk_drew ?_ | refine blk_alloc ?_ _)); exact BK1129.out) hb); have n1_ := Aside0.mk (below_step (by repeat (first | (with_reducible first | exact HB.out | apply below_alloc | apply pw_below_drewN | apply below_drew1 | refine below_set ?_ GE1129.out) | exact HB.out)) hb); clear BK1129; clear HB; have BK1129 := n0_; have HB := n1_; clear n0_ n1_; (try clear hb); (try clear hb2); (try clear hk); (try clear hi)))
     have n0_ := Aside0.mk (blk_drew BK1129.out)
     have n1_ := Aside0.mk (below_drew1 HB.out)
     clear BK1129
     clear HB
     have BK1129 := n0_
     have HB := n1_
     clear n0_ n1_
     have p1131 : 0 ≤ (0 : Int) := (by omega)
     have q1131 : 0 < (l2.length : Int) := of_decide_eq_true (by first | (with_reducible assumption) | assumption)
     obtain ⟨ad1131, e1131, hx1131_0⟩ := Kd.at_int HR2.out 0 p1131 q1131
     have hw1131_0 := hx1131_0
     (try rw [show ((0 : Int)).toNat = 0 from rfl] at hw1131_0)
     (try rw [show 0 * 1 = 0 from rfl] at hw1131_0)
     (try rw [Addr.add_zero'] at hw1131_0)
     cases e1131
     have qi1131 : (0 < l2.length) = True := eq_true (by omega)
     (try rw [show ((0 : Int)).toNat = 0 from rfl] at hx1131_0)
     (try rw [Addr.add_zero'] at hx1131_0)
     replace hx1131_0 := (HB.out.cell (World.block_lt_of_cell? w _ hx1131_0)).trans hx1131_0
     replace p1131 := eq_true p1131
     replace q1131 := eq_true q1131
     refine start_ (n := 13) (S := fun w' => w'.cell? ad1131 = some (.int .i64 (rd l2 0))) (ds := []) #[false, false, false, false, false, false, false, false, false, false, false, false, false] (by kernel_rfl) rfl rfl (((HB.out.cell (World.block_lt_of_cell? w _ hw1131_0)).trans hw1131_0)) (fun hHeld => ?_); refine with_tabW sashref08_Path.tab6 sashref08_Path.bits6 (fun HT_ HW_ => ?_)
     generalize w12.drew = w13 at BK1129 HB hx1131_0 hHeld ⊢
     refine pure_ (i := 0) (N := some 14) (v := ?_) (a' := ?_) #[true, false, false, false, false, false, false, false, false, false, false, false, false] rfl rfl (any_of HT_.out (by kernel_rfl)) (fun _ _ _ h => h) (Or.inl ⟨by rfl, ?_⟩) ?_ ?_
     rotate_left
     ·intro w'
      go_simp
      with_reducible rfl
     rotate_left
     ·simp only [Act.put, List.setIfInBounds_toArray, List.set_cons_zero, List.set_cons_succ, i64_w, i32_w]
      rfl
     refine pure_ (i := 1) (N := some 15) (v := ?_) (a' := ?_) #[true, true, false, false, false, false, false, false, false, false, false, false, false] rfl rfl (any_of HT_.out (by kernel_rfl)) (fun _ _ _ h => h) (Or.inl ⟨by rfl, ?_⟩) ?_ ?_
     rotate_left
     ·intro w'
      go_simp
      with_reducible rfl
     rotate_left
     ·simp only [Act.put, List.setIfInBounds_toArray, List.set_cons_zero, List.set_cons_succ, i64_w, i32_w]
      rfl
     refine take_ (i := 2) (N := some 16) (v := ?_) (a' := ?_) #[true, true, true, false, false, false, false, false, false, false, false, false, false] rfl rfl (take_ofW HT_.out HW_.out (by kernel_rfl)) (fun _ _ _ h => h) (Or.inl ⟨by rfl, ?_⟩) hHeld ?_ ?_
     rotate_left
     ·intro w' s0
      go_simp
      with_reducible rfl
     rotate_left
     ·simp only [Act.put, List.setIfInBounds_toArray, List.set_cons_zero, List.set_cons_succ, i64_w, i32_w]
      rfl
     refine pure_ (i := 3) (N := some 17) (v := ?_) (a' := ?_) #[true, true, true, true, false, false, false, false, false, false, false, false, false] rfl rfl (any_of HT_.out (by kernel_rfl)) (fun _ _ _ h => h) (Or.inl ⟨by rfl, ?_⟩) ?_ ?_
     rotate_left
     ·intro w'
      go_simp
      with_reducible rfl
     rotate_left
     ·simp only [Act.put, List.setIfInBounds_toArray, List.set_cons_zero, List.set_cons_succ, i64_w, i32_w]
      rfl
     refine pure_ (i := 4) (N := some 18) (v := ?_) (a' := ?_) #[true, true, true, true, true, false, false, false, false, false, false, false, false] rfl rfl (any_of HT_.out (by kernel_rfl)) (fun _ _ _ h => h) (Or.inl ⟨by rfl, ?_⟩) ?_ ?_
     rotate_left
     ·intro w'
      go_simp
      with_reducible rfl
     rotate_left
     ·simp only [Act.put, List.setIfInBounds_toArray, List.set_cons_zero, List.set_cons_succ, i64_w, i32_w]
      rfl
     refine pure_ (i := 5) (N := some 19) (v := undef) (a' := ?_) #[true, true, true, true, true, true, false, false, false, false, false, false, false] rfl rfl (any_of HT_.out (by kernel_rfl)) (fun _ _ _ h => h) (Or.inr ⟨by rfl, rfl⟩) ?_ ?_
     rotate_left
     ·simp only [Act.put, List.setIfInBounds_toArray, List.set_cons_zero, List.set_cons_succ, i64_w, i32_w]
      rfl
     refine pure_ (i := 6) (N := some 20) (v := undef) (a' := ?_) #[true, true, true, true, true, true, true, false, false, false, false, false, false] rfl rfl (any_of HT_.out (by kernel_rfl)) (fun _ _ _ h => h) (Or.inr ⟨by rfl, rfl⟩) ?_ ?_
     rotate_left
     ·simp only [Act.put, List.setIfInBounds_toArray, List.set_cons_zero, List.set_cons_succ, i64_w, i32_w]
      rfl
     refine pure_ (i := 7) (N := some 21) (v := undef) (a' := ?_) #[true, true, true, true, true, true, true, true, false, false, false, false, false] rfl rfl (any_of HT_.out (by kernel_rfl)) (fun _ _ _ h => h) (Or.inr ⟨by rfl, rfl⟩) ?_ ?_
     rotate_left
     ·simp only [Act.put, List.setIfInBounds_toArray, List.set_cons_zero, List.set_cons_succ, i64_w, i32_w]
      rfl
     refine pure_ (i := 8) (N := some 22) (v := undef) (a' := ?_) #[true, true, true, true, true, true, true, true, true, false, false, false, false] rfl rfl (any_of HT_.out (by kernel_rfl)) (fun _ _ _ h => h) (Or.inr ⟨by rfl, rfl⟩) ?_ ?_
     rotate_left
     ·simp only [Act.put, List.setIfInBounds_toArray, List.set_cons_zero, List.set_cons_succ, i64_w, i32_w]
      rfl
     refine pure_ (i := 9) (N := some 23) (v := undef) (a' := ?_) #[true, true, true, true, true, true, true, true, true, true, false, false, false] rfl rfl (any_of HT_.out (by kernel_rfl)) (fun _ _ _ h => h) (Or.inr ⟨by rfl, rfl⟩) ?_ ?_
     rotate_left
     ·simp only [Act.put, List.setIfInBounds_toArray, List.set_cons_zero, List.set_cons_succ, i64_w, i32_w]
      rfl
     refine pure_ (i := 10) (N := some 24) (v := undef) (a' := ?_) #[true, true, true, true, true, true, true, true, true, true, true, false, false] rfl rfl (any_of HT_.out (by kernel_rfl)) (fun _ _ _ h => h) (Or.inr ⟨by rfl, rfl⟩) ?_ ?_
     rotate_left
     ·simp only [Act.put, List.setIfInBounds_toArray, List.set_cons_zero, List.set_cons_succ, i64_w, i32_w]
      rfl
     refine pure_ (i := 11) (N := some 25) (v := undef) (a' := ?_) #[true, true, true, true, true, true, true, true, true, true, true, true, false] rfl rfl (any_of HT_.out (by kernel_rfl)) (fun _ _ _ h => h) (Or.inr ⟨by rfl, rfl⟩) ?_ ?_
     rotate_left
     ·simp only [Act.put, List.setIfInBounds_toArray, List.set_cons_zero, List.set_cons_succ, i64_w, i32_w]
      rfl
     refine pure_ (i := 12) (N := some 26) (v := ?_) (a' := ?_) #[true, true, true, true, true, true, true, true, true, true, true, true, true] rfl rfl (any_of HT_.out (by kernel_rfl)) (fun _ _ _ h => h) (Or.inl ⟨by rfl, ?_⟩) ?_ ?_
     rotate_left
     ·intro w'
      go_simp
      with_reducible rfl
     rotate_left
     ·simp only [Act.put, List.setIfInBounds_toArray, List.set_cons_zero, List.set_cons_succ, i64_w, i32_w]
      rfl
     refine done_ (done_of HT_.out (by kernel_rfl)) ?_
     try go_wp2
     go_ret
     exact ⟨by first | rfl | (simp [errW_none, errW_some] <;> rfl) | (simp [*, errW_none, errW_some] <;> rfl), by repeat (first | (with_reducible first | exact HB.out | apply below_alloc | apply pw_below_drewN | apply below_drew1 | refine below_set ?_ GE1129.out) | exact HB.out)⟩
    ·rw [if_neg c9] at H
     have c9b0 : decide ((rd l2 0) < 0) = false := decide_eq_false c9
     clear c9
     by_cases c14 : (rd l2 0) ≥ (l0_6.length : Int)
     ·rw [if_pos c14] at H
      have c14b0 : decide ((l0_6.length : Int) ≤ (rd l2 0)) = true := decide_eq_true c14
      clear c14
      obtain rfl := Option.some.inj H
      go_enter Try.func101, Try.ntmps101
      try go_wp2_with (first | ((with_reducible refine gate_dst (N := 3) rfl ?_); (try (refine gate_guard (by rfl) ?_; dsimp only)); refine box_event ?hg (N := 3) ?hd (cs := #[.int .u8 a0_0, .int .i64 a0_1, .int .i64 a0_2, .int .i64 a0_3, .int .i64 a0_4, .int .i64 a0_5, .slice A0_6 l0_6.length c0_6]) (t := 26) ?hr ?_; (case hd => rfl); (case hg => rfl); (case hr => first | (go_simp; done) | (go_simp; rfl)); intro gb1129 hg w15 hbox hb; have n0_ := Aside0.mk (below_step (by repeat (first | (with_reducible first | exact HB.out | apply below_alloc | apply pw_below_drewN | apply below_drew1) | exact HB.out)) hb); have n1_ := Aside0.mk (hbox); have n2_ := Aside0.mk ((by rw [hg]; exact (below_size (by repeat (first | (with_reducible first | exact HB.out | apply below_alloc | apply pw_below_drewN | apply below_drew1) | exact HB.out))) : w.heap.size ≤ gb1129)); have n3_ := Aside0.mk ((by rw [hg]; exact (below_size (by repeat (first | (with_reducible first | exact HB.out | apply below_alloc | apply pw_below_drewN | apply below_drew1) | exact HB.out))) : w.heap.size ≤ gb1129)); clear HB; have HB := n0_; have BK1129 := n1_; have GW1129 := n2_; have GE1129 := n3_; clear n0_ n1_ n2_ n3_; clear hb hbox hg; have hcz16_0 : w15.cell? ⟨gb1129, 0, none⟩ = some (.int .u8 a0_0) := (blk_cell BK1129.out 0).trans rfl; have hcz16_1 : w15.cell? ⟨gb1129, 1, none⟩ = some (.int .i64 a0_1) := (blk_cell BK1129.out 1).trans rfl; have hcz16_2 : w15.cell? ⟨gb1129, 2, none⟩ = some (.int .i64 a0_2) := (blk_cell BK1129.out 2).trans rfl; have hcz16_3 : w15.cell? ⟨gb1129, 3, none⟩ = some (.int .i64 a0_3) := (blk_cell BK1129.out 3).trans rfl; have hcz16_4 : w15.cell? ⟨gb1129, 4, none⟩ = some (.int .i64 a0_4) := (blk_cell BK1129.out 4).trans rfl; have hcz16_5 : w15.cell? ⟨gb1129, 5, none⟩ = some (.int .i64 a0_5) := (blk_cell BK1129.out 5).trans rfl; have hcz16_6 : w15.cell? ⟨gb1129, 6, none⟩ = some (.slice A0_6 l0_6.length c0_6) := (blk_cell BK1129.out 6).trans rfl; have hfz16_0 := blk_frozen BK1129.out 0; have hfz16_1 := blk_frozen BK1129.out 1; have hfz16_2 := blk_frozen BK1129.out 2; have hfz16_3 := blk_frozen BK1129.out 3; have hfz16_4 := blk_frozen BK1129.out 4; have hfz16_5 := blk_frozen BK1129.out 5; have hfz16_6 := blk_frozen BK1129.out 6) | ((with_reducible refine gate_callee (f := 88) rfl ?_); refine goesL_ (some 13) rfl rfl Try.func88 (by kernel_rfl) rfl #[.agg #[.int .u8 a0_0, .int .i64 a0_1, .int .i64 a0_2, .int .i64 a0_3, .int .i64 a0_4, .int .i64 a0_5, .slice A0_6 l0_6.length c0_6], .int .u8 a1] rfl (by (try simp only [List.map_toArray, List.map_cons, List.map_nil]); first | done | rfl | (simp only [List.length_drop, List.length_take]; rfl)) ?_; (with_reducible refine (sashref08_Along.calls a0_0 a0_1 a0_2 a0_3 a0_4 a0_5 _ _ l0_6 a1 true _ ?side1 ?side2 A6.out).mono ?_); (case side1 => repeat (first | exact (Kd.C_below HR0_6.out HB.out) | (with_reducible refine Kd.C_alloc ?_ _) | (with_reducible refine Kd.C_drewN ?_ _) | (with_reducible refine Kd.C_drew ?_))); (case side2 => exact HC0_6.out); rintro e w17 ⟨rfl, hb⟩; refine ⟨_, rfl, ?_⟩; have n0_ := Aside0.mk (blk_below (g := gb1129) (o := .cells #[.int .u8 a0_0, .int .i64 a0_1, .int .i64 a0_2, .int .i64 a0_3, .int .i64 a0_4, .int .i64 a0_5, .slice A0_6 l0_6.length c0_6] 26 (0, 0)) (by (with_reducible repeat (first | refine blk_drewN ?_ _ | refine blk_drew ?_ | refine blk_alloc ?_ _)); exact BK1129.out) hb); have n1_ := Aside0.mk (below_step (by repeat (first | (with_reducible first | exact HB.out | apply below_alloc | apply pw_below_drewN | apply below_drew1 | refine below_set ?_ GE1129.out) | exact HB.out)) hb); clear BK1129; clear HB; have BK1129 := n0_; have HB := n1_; clear n0_ n1_; (try clear hb); (try clear hb2); (try clear hk); (try clear hi)))
      have n0_ := Aside0.mk (blk_drew BK1129.out)
      have n1_ := Aside0.mk (below_drew1 HB.out)
      clear BK1129
      clear HB
      have BK1129 := n0_
      have HB := n1_
      clear n0_ n1_
      have p1131 : 0 ≤ (0 : Int) := (by omega)
      have q1131 : 0 < (l2.length : Int) := of_decide_eq_true (by first | (with_reducible assumption) | assumption)
      obtain ⟨ad1131, e1131, hx1131_0⟩ := Kd.at_int HR2.out 0 p1131 q1131
      have hw1131_0 := hx1131_0
      (try rw [show ((0 : Int)).toNat = 0 from rfl] at hw1131_0)
      (try rw [show 0 * 1 = 0 from rfl] at hw1131_0)
      (try rw [Addr.add_zero'] at hw1131_0)
      cases e1131
      have qi1131 : (0 < l2.length) = True := eq_true (by omega)
      (try rw [show ((0 : Int)).toNat = 0 from rfl] at hx1131_0)
      (try rw [Addr.add_zero'] at hx1131_0)
      replace hx1131_0 := (HB.out.cell (World.block_lt_of_cell? w _ hx1131_0)).trans hx1131_0
      replace p1131 := eq_true p1131
      replace q1131 := eq_true q1131
      have p1132 : 0 ≤ (0 : Int) := (by omega)
      have q1132 : 0 < (l2.length : Int) := of_decide_eq_true (by first | (with_reducible assumption) | assumption)
      obtain ⟨ad1132, e1132, hx1132_0⟩ := Kd.at_int HR2.out 0 p1132 q1132
      have hw1132_0 := hx1132_0
      (try rw [show ((0 : Int)).toNat = 0 from rfl] at hw1132_0)
      (try rw [show 0 * 1 = 0 from rfl] at hw1132_0)
      (try rw [Addr.add_zero'] at hw1132_0)
      obtain rfl : ad1131 = ad1132 := (by injection e1132)
      have qi1132 : (0 < l2.length) = True := eq_true (by omega)
      (try rw [show ((0 : Int)).toNat = 0 from rfl] at hx1132_0)
      (try rw [Addr.add_zero'] at hx1132_0)
      replace hx1132_0 := (HB.out.cell (World.block_lt_of_cell? w _ hx1132_0)).trans hx1132_0
      replace p1132 := eq_true p1132
      replace q1132 := eq_true q1132
      refine start_ (n := 13) (S := fun w' => w'.cell? ⟨gb1129, 0, none⟩ = some (.int .u8 a0_0) ∧ w'.cell? ⟨gb1129, 1, none⟩ = some (.int .i64 a0_1) ∧ w'.cell? ⟨gb1129, 2, none⟩ = some (.int .i64 a0_2) ∧ w'.cell? ⟨gb1129, 3, none⟩ = some (.int .i64 a0_3) ∧ w'.cell? ⟨gb1129, 4, none⟩ = some (.int .i64 a0_4) ∧ w'.cell? ⟨gb1129, 5, none⟩ = some (.int .i64 a0_5) ∧ w'.cell? ⟨gb1129, 6, none⟩ = some (.slice A0_6 l0_6.length c0_6) ∧ w'.cell? ad1131 = some (.int .i64 (rd l2 0)) ∧ w'.cell? ad1131 = some (.int .i64 (rd l2 0))) (ds := []) #[false, false, false, false, false, false, false, false, false, false, false, false, false] (by kernel_rfl) rfl rfl ⟨(blk_cell BK1129.out 0).trans rfl, (blk_cell BK1129.out 1).trans rfl, (blk_cell BK1129.out 2).trans rfl, (blk_cell BK1129.out 3).trans rfl, (blk_cell BK1129.out 4).trans rfl, (blk_cell BK1129.out 5).trans rfl, (blk_cell BK1129.out 6).trans rfl, ((HB.out.cell (World.block_lt_of_cell? w _ hw1131_0)).trans hw1131_0), ((HB.out.cell (World.block_lt_of_cell? w _ hw1132_0)).trans hw1132_0)⟩ (fun hHeld => ?_); refine with_tabW sashref08_Path.tab6 sashref08_Path.bits6 (fun HT_ HW_ => ?_)
      generalize w17.drew = w18 at BK1129 HB hx1131_0 hx1132_0 hHeld ⊢
      refine pure_ (i := 0) (N := some 14) (v := ?_) (a' := ?_) #[true, false, false, false, false, false, false, false, false, false, false, false, false] rfl rfl (any_of HT_.out (by kernel_rfl)) (fun _ _ _ h => h) (Or.inl ⟨by rfl, ?_⟩) ?_ ?_
      rotate_left
      ·intro w'
       go_simp
       with_reducible rfl
      rotate_left
      ·simp only [Act.put, List.setIfInBounds_toArray, List.set_cons_zero, List.set_cons_succ, i64_w, i32_w]
       rfl
      refine pure_ (i := 1) (N := some 15) (v := ?_) (a' := ?_) #[true, true, false, false, false, false, false, false, false, false, false, false, false] rfl rfl (any_of HT_.out (by kernel_rfl)) (fun _ _ _ h => h) (Or.inl ⟨by rfl, ?_⟩) ?_ ?_
      rotate_left
      ·intro w'
       go_simp
       with_reducible rfl
      rotate_left
      ·simp only [Act.put, List.setIfInBounds_toArray, List.set_cons_zero, List.set_cons_succ, i64_w, i32_w]
       rfl
      refine take_ (i := 2) (N := some 16) (v := ?_) (a' := ?_) #[true, true, true, false, false, false, false, false, false, false, false, false, false] rfl rfl (take_ofW HT_.out HW_.out (by kernel_rfl)) (fun _ _ _ h => h) (Or.inl ⟨by rfl, ?_⟩) hHeld ?_ ?_
      rotate_left
      ·rintro w' ⟨s0, s1, s2, s3, s4, s5, s6, s7, s8⟩
       go_simp
       with_reducible rfl
      rotate_left
      ·simp only [Act.put, List.setIfInBounds_toArray, List.set_cons_zero, List.set_cons_succ, i64_w, i32_w]
       rfl
      refine pure_ (i := 3) (N := some 17) (v := ?_) (a' := ?_) #[true, true, true, true, false, false, false, false, false, false, false, false, false] rfl rfl (any_of HT_.out (by kernel_rfl)) (fun _ _ _ h => h) (Or.inl ⟨by rfl, ?_⟩) ?_ ?_
      rotate_left
      ·intro w'
       go_simp
       with_reducible rfl
      rotate_left
      ·simp only [Act.put, List.setIfInBounds_toArray, List.set_cons_zero, List.set_cons_succ, i64_w, i32_w]
       rfl
      refine pure_ (i := 4) (N := some 18) (v := ?_) (a' := ?_) #[true, true, true, true, true, false, false, false, false, false, false, false, false] rfl rfl (any_of HT_.out (by kernel_rfl)) (fun _ _ _ h => h) (Or.inl ⟨by rfl, ?_⟩) ?_ ?_
      rotate_left
      ·intro w'
       go_simp
       with_reducible rfl
      rotate_left
      ·simp only [Act.put, List.setIfInBounds_toArray, List.set_cons_zero, List.set_cons_succ, i64_w, i32_w]
       rfl
      refine pure_ (i := 5) (N := some 19) (v := ?_) (a' := ?_) #[true, true, true, true, true, true, false, false, false, false, false, false, false] rfl rfl (any_of HT_.out (by kernel_rfl)) (fun _ _ _ h => h) (Or.inl ⟨by rfl, ?_⟩) ?_ ?_
      rotate_left
      ·intro w'
       go_simp
       with_reducible rfl
      rotate_left
      ·simp only [Act.put, List.setIfInBounds_toArray, List.set_cons_zero, List.set_cons_succ, i64_w, i32_w]
       rfl
      refine pure_ (i := 6) (N := some 20) (v := ?_) (a' := ?_) #[true, true, true, true, true, true, true, false, false, false, false, false, false] rfl rfl (any_of HT_.out (by kernel_rfl)) (fun _ _ _ h => h) (Or.inl ⟨by rfl, ?_⟩) ?_ ?_
      rotate_left
      ·intro w'
       go_simp
       with_reducible rfl
      rotate_left
      ·simp only [Act.put, List.setIfInBounds_toArray, List.set_cons_zero, List.set_cons_succ, i64_w, i32_w]
       rfl
      refine pure_ (i := 8) (N := some 22) (v := ?_) (a' := ?_) #[true, true, true, true, true, true, true, false, true, false, false, false, false] rfl rfl (any_of HT_.out (by kernel_rfl)) (fun _ _ _ h => h) (Or.inl ⟨by rfl, ?_⟩) ?_ ?_
      rotate_left
      ·intro w'
       go_simp
       with_reducible rfl
      rotate_left
      ·simp only [Act.put, List.setIfInBounds_toArray, List.set_cons_zero, List.set_cons_succ, i64_w, i32_w]
       rfl
      refine take_ (i := 7) (N := some 21) (v := ?_) (a' := ?_) #[true, true, true, true, true, true, true, true, true, false, false, false, false] rfl rfl (take_ofW HT_.out HW_.out (by kernel_rfl)) (fun _ _ _ h => h) (Or.inl ⟨by rfl, ?_⟩) hHeld ?_ ?_
      rotate_left
      ·rintro w' ⟨s0, s1, s2, s3, s4, s5, s6, s7, s8⟩
       go_simp
       with_reducible rfl
      rotate_left
      ·simp only [Act.put, List.setIfInBounds_toArray, List.set_cons_zero, List.set_cons_succ, i64_w, i32_w]
       rfl
      refine take_ (i := 9) (N := some 23) (v := ?_) (a' := ?_) #[true, true, true, true, true, true, true, true, true, true, false, false, false] rfl rfl (take_ofW HT_.out HW_.out (by kernel_rfl)) (fun _ _ _ h => h) (Or.inl ⟨by rfl, ?_⟩) hHeld ?_ ?_
      rotate_left
      ·rintro w' ⟨s0, s1, s2, s3, s4, s5, s6, s7, s8⟩
       go_simp
       with_reducible rfl
      rotate_left
      ·simp only [Act.put, List.setIfInBounds_toArray, List.set_cons_zero, List.set_cons_succ, i64_w, i32_w]
       rfl
      refine pure_ (i := 10) (N := some 24) (v := ?_) (a' := ?_) #[true, true, true, true, true, true, true, true, true, true, true, false, false] rfl rfl (any_of HT_.out (by kernel_rfl)) (fun _ _ _ h => h) (Or.inl ⟨by rfl, ?_⟩) ?_ ?_
      rotate_left
      ·intro w'
       go_simp
       with_reducible rfl
      rotate_left
      ·simp only [Act.put, List.setIfInBounds_toArray, List.set_cons_zero, List.set_cons_succ, i64_w, i32_w]
       rfl
      refine pure_ (i := 11) (N := some 25) (v := ?_) (a' := ?_) #[true, true, true, true, true, true, true, true, true, true, true, true, false] rfl rfl (any_of HT_.out (by kernel_rfl)) (fun _ _ _ h => h) (Or.inl ⟨by rfl, ?_⟩) ?_ ?_
      rotate_left
      ·intro w'
       go_simp
       with_reducible rfl
      rotate_left
      ·simp only [Act.put, List.setIfInBounds_toArray, List.set_cons_zero, List.set_cons_succ, i64_w, i32_w]
       rfl
      refine pure_ (i := 12) (N := some 26) (v := ?_) (a' := ?_) #[true, true, true, true, true, true, true, true, true, true, true, true, true] rfl rfl (any_of HT_.out (by kernel_rfl)) (fun _ _ _ h => h) (Or.inl ⟨by rfl, ?_⟩) ?_ ?_
      rotate_left
      ·intro w'
       go_simp
       with_reducible rfl
      rotate_left
      ·simp only [Act.put, List.setIfInBounds_toArray, List.set_cons_zero, List.set_cons_succ, i64_w, i32_w]
       rfl
      refine done_ (done_of HT_.out (by kernel_rfl)) ?_
      try go_wp2
      go_ret
      exact ⟨by first | rfl | (simp [errW_none, errW_some] <;> rfl) | (simp [*, errW_none, errW_some] <;> rfl), by repeat (first | (with_reducible first | exact HB.out | apply below_alloc | apply pw_below_drewN | apply below_drew1 | refine below_set ?_ GE1129.out) | exact HB.out)⟩
     ·rw [if_neg c14] at H
      have c14b0 : decide ((l0_6.length : Int) ≤ (rd l2 0)) = false := decide_eq_false c14
      clear c14
      by_cases c19 : 0 ≤ (rd l2 0)
      ·rw [if_pos c19] at H
       have c19b0 : decide (0 ≤ (rd l2 0)) = true := decide_eq_true c19
       clear c19
       by_cases c20 : (rd l2 0) < (l0_6.length : Int)
       ·rw [if_pos c20] at H
        have c20b0 : decide ((rd l2 0) < (l0_6.length : Int)) = true := decide_eq_true c20
        clear c20
        by_cases c21 : 1 ≤ (l2.length : Int)
        ·rw [if_pos c21] at H
         have c21b0 := eq_true c21
         have c21b1 : decide (1 ≤ (l2.length : Int)) = true := decide_eq_true c21
         clear c21
         replace H := Option.bind_eq_some_iff.mp H
         obtain ⟨t1136, A220, H⟩ := H
         replace H : (some (wrap64 (1 + t1136))) = some r := H
         have A22 := Aside0.mk A220
         clear A220
         obtain rfl := Option.some.inj H
         go_enter Try.func101, Try.ntmps101
         try go_wp2_with (first | ((with_reducible refine gate_dst (N := 3) rfl ?_); (try (refine gate_guard (by rfl) ?_; dsimp only)); refine box_event ?hg (N := 3) ?hd (cs := #[.int .u8 a0_0, .int .i64 a0_1, .int .i64 a0_2, .int .i64 a0_3, .int .i64 a0_4, .int .i64 a0_5, .slice A0_6 l0_6.length c0_6]) (t := 26) ?hr ?_; (case hd => rfl); (case hg => rfl); (case hr => first | (go_simp; done) | (go_simp; rfl)); intro gb1129 hg w23 hbox hb; have n0_ := Aside0.mk (below_step (by repeat (first | (with_reducible first | exact HB.out | apply below_alloc | apply pw_below_drewN | apply below_drew1) | exact HB.out)) hb); have n1_ := Aside0.mk (hbox); have n2_ := Aside0.mk ((by rw [hg]; exact (below_size (by repeat (first | (with_reducible first | exact HB.out | apply below_alloc | apply pw_below_drewN | apply below_drew1) | exact HB.out))) : w.heap.size ≤ gb1129)); have n3_ := Aside0.mk ((by rw [hg]; exact (below_size (by repeat (first | (with_reducible first | exact HB.out | apply below_alloc | apply pw_below_drewN | apply below_drew1) | exact HB.out))) : w.heap.size ≤ gb1129)); clear HB; have HB := n0_; have BK1129 := n1_; have GW1129 := n2_; have GE1129 := n3_; clear n0_ n1_ n2_ n3_; clear hb hbox hg; have hcz24_0 : w23.cell? ⟨gb1129, 0, none⟩ = some (.int .u8 a0_0) := (blk_cell BK1129.out 0).trans rfl; have hcz24_1 : w23.cell? ⟨gb1129, 1, none⟩ = some (.int .i64 a0_1) := (blk_cell BK1129.out 1).trans rfl; have hcz24_2 : w23.cell? ⟨gb1129, 2, none⟩ = some (.int .i64 a0_2) := (blk_cell BK1129.out 2).trans rfl; have hcz24_3 : w23.cell? ⟨gb1129, 3, none⟩ = some (.int .i64 a0_3) := (blk_cell BK1129.out 3).trans rfl; have hcz24_4 : w23.cell? ⟨gb1129, 4, none⟩ = some (.int .i64 a0_4) := (blk_cell BK1129.out 4).trans rfl; have hcz24_5 : w23.cell? ⟨gb1129, 5, none⟩ = some (.int .i64 a0_5) := (blk_cell BK1129.out 5).trans rfl; have hcz24_6 : w23.cell? ⟨gb1129, 6, none⟩ = some (.slice A0_6 l0_6.length c0_6) := (blk_cell BK1129.out 6).trans rfl; have hfz24_0 := blk_frozen BK1129.out 0; have hfz24_1 := blk_frozen BK1129.out 1; have hfz24_2 := blk_frozen BK1129.out 2; have hfz24_3 := blk_frozen BK1129.out 3; have hfz24_4 := blk_frozen BK1129.out 4; have hfz24_5 := blk_frozen BK1129.out 5; have hfz24_6 := blk_frozen BK1129.out 6) | ((with_reducible refine gate_callee (f := 88) rfl ?_); refine goesL_ (some 13) rfl rfl Try.func88 (by kernel_rfl) rfl #[.agg #[.int .u8 a0_0, .int .i64 a0_1, .int .i64 a0_2, .int .i64 a0_3, .int .i64 a0_4, .int .i64 a0_5, .slice A0_6 l0_6.length c0_6], .int .u8 a1] rfl (by (try simp only [List.map_toArray, List.map_cons, List.map_nil]); first | done | rfl | (simp only [List.length_drop, List.length_take]; rfl)) ?_; (with_reducible refine (sashref08_Along.calls a0_0 a0_1 a0_2 a0_3 a0_4 a0_5 _ _ l0_6 a1 true _ ?side1 ?side2 A6.out).mono ?_); (case side1 => repeat (first | exact (Kd.C_below HR0_6.out HB.out) | (with_reducible refine Kd.C_alloc ?_ _) | (with_reducible refine Kd.C_drewN ?_ _) | (with_reducible refine Kd.C_drew ?_))); (case side2 => exact HC0_6.out); rintro e w25 ⟨rfl, hb⟩; refine ⟨_, rfl, ?_⟩; have n0_ := Aside0.mk (blk_below (g := gb1129) (o := .cells #[.int .u8 a0_0, .int .i64 a0_1, .int .i64 a0_2, .int .i64 a0_3, .int .i64 a0_4, .int .i64 a0_5, .slice A0_6 l0_6.length c0_6] 26 (0, 0)) (by (with_reducible repeat (first | refine blk_drewN ?_ _ | refine blk_drew ?_ | refine blk_alloc ?_ _)); exact BK1129.out) hb); have n1_ := Aside0.mk (below_step (by repeat (first | (with_reducible first | exact HB.out | apply below_alloc | apply pw_below_drewN | apply below_drew1 | refine below_set ?_ GE1129.out) | exact HB.out)) hb); clear BK1129; clear HB; have BK1129 := n0_; have HB := n1_; clear n0_ n1_; (try clear hb); (try clear hb2); (try clear hk); (try clear hi)))
         have n0_ := Aside0.mk (blk_drew BK1129.out)
         have n1_ := Aside0.mk (below_drew1 HB.out)
         clear BK1129
         clear HB
         have BK1129 := n0_
         have HB := n1_
         clear n0_ n1_
         have p1131 : 0 ≤ (0 : Int) := (by omega)
         have q1131 : 0 < (l2.length : Int) := of_decide_eq_true (by first | (with_reducible assumption) | assumption)
         obtain ⟨ad1131, e1131, hx1131_0⟩ := Kd.at_int HR2.out 0 p1131 q1131
         have hw1131_0 := hx1131_0
         (try rw [show ((0 : Int)).toNat = 0 from rfl] at hw1131_0)
         (try rw [show 0 * 1 = 0 from rfl] at hw1131_0)
         (try rw [Addr.add_zero'] at hw1131_0)
         cases e1131
         have qi1131 : (0 < l2.length) = True := eq_true (by omega)
         (try rw [show ((0 : Int)).toNat = 0 from rfl] at hx1131_0)
         (try rw [Addr.add_zero'] at hx1131_0)
         replace hx1131_0 := (HB.out.cell (World.block_lt_of_cell? w _ hx1131_0)).trans hx1131_0
         replace p1131 := eq_true p1131
         replace q1131 := eq_true q1131
         have p1132 : 0 ≤ (0 : Int) := (by omega)
         have q1132 : 0 < (l2.length : Int) := of_decide_eq_true (by first | (with_reducible assumption) | assumption)
         obtain ⟨ad1132, e1132, hx1132_0⟩ := Kd.at_int HR2.out 0 p1132 q1132
         have hw1132_0 := hx1132_0
         (try rw [show ((0 : Int)).toNat = 0 from rfl] at hw1132_0)
         (try rw [show 0 * 1 = 0 from rfl] at hw1132_0)
         (try rw [Addr.add_zero'] at hw1132_0)
         obtain rfl : ad1131 = ad1132 := (by injection e1132)
         have qi1132 : (0 < l2.length) = True := eq_true (by omega)
         (try rw [show ((0 : Int)).toNat = 0 from rfl] at hx1132_0)
         (try rw [Addr.add_zero'] at hx1132_0)
         replace hx1132_0 := (HB.out.cell (World.block_lt_of_cell? w _ hx1132_0)).trans hx1132_0
         replace p1132 := eq_true p1132
         replace q1132 := eq_true q1132
         refine start_ (n := 13) (S := fun w' => w'.cell? ⟨gb1129, 0, none⟩ = some (.int .u8 a0_0) ∧ w'.cell? ⟨gb1129, 1, none⟩ = some (.int .i64 a0_1) ∧ w'.cell? ⟨gb1129, 2, none⟩ = some (.int .i64 a0_2) ∧ w'.cell? ⟨gb1129, 3, none⟩ = some (.int .i64 a0_3) ∧ w'.cell? ⟨gb1129, 4, none⟩ = some (.int .i64 a0_4) ∧ w'.cell? ⟨gb1129, 5, none⟩ = some (.int .i64 a0_5) ∧ w'.cell? ⟨gb1129, 6, none⟩ = some (.slice A0_6 l0_6.length c0_6) ∧ w'.cell? ad1131 = some (.int .i64 (rd l2 0)) ∧ w'.cell? ad1131 = some (.int .i64 (rd l2 0))) (ds := []) #[false, false, false, false, false, false, false, false, false, false, false, false, false] (by kernel_rfl) rfl rfl ⟨(blk_cell BK1129.out 0).trans rfl, (blk_cell BK1129.out 1).trans rfl, (blk_cell BK1129.out 2).trans rfl, (blk_cell BK1129.out 3).trans rfl, (blk_cell BK1129.out 4).trans rfl, (blk_cell BK1129.out 5).trans rfl, (blk_cell BK1129.out 6).trans rfl, ((HB.out.cell (World.block_lt_of_cell? w _ hw1131_0)).trans hw1131_0), ((HB.out.cell (World.block_lt_of_cell? w _ hw1132_0)).trans hw1132_0)⟩ (fun hHeld => ?_); refine with_tabW sashref08_Path.tab6 sashref08_Path.bits6 (fun HT_ HW_ => ?_)
         generalize w25.drew = w26 at BK1129 HB hx1131_0 hx1132_0 hHeld ⊢
         refine pure_ (i := 0) (N := some 14) (v := ?_) (a' := ?_) #[true, false, false, false, false, false, false, false, false, false, false, false, false] rfl rfl (any_of HT_.out (by kernel_rfl)) (fun _ _ _ h => h) (Or.inl ⟨by rfl, ?_⟩) ?_ ?_
         rotate_left
         ·intro w'
          go_simp
          with_reducible rfl
         rotate_left
         ·simp only [Act.put, List.setIfInBounds_toArray, List.set_cons_zero, List.set_cons_succ, i64_w, i32_w]
          rfl
         refine pure_ (i := 1) (N := some 15) (v := ?_) (a' := ?_) #[true, true, false, false, false, false, false, false, false, false, false, false, false] rfl rfl (any_of HT_.out (by kernel_rfl)) (fun _ _ _ h => h) (Or.inl ⟨by rfl, ?_⟩) ?_ ?_
         rotate_left
         ·intro w'
          go_simp
          with_reducible rfl
         rotate_left
         ·simp only [Act.put, List.setIfInBounds_toArray, List.set_cons_zero, List.set_cons_succ, i64_w, i32_w]
          rfl
         refine take_ (i := 2) (N := some 16) (v := ?_) (a' := ?_) #[true, true, true, false, false, false, false, false, false, false, false, false, false] rfl rfl (take_ofW HT_.out HW_.out (by kernel_rfl)) (fun _ _ _ h => h) (Or.inl ⟨by rfl, ?_⟩) hHeld ?_ ?_
         rotate_left
         ·rintro w' ⟨s0, s1, s2, s3, s4, s5, s6, s7, s8⟩
          go_simp
          with_reducible rfl
         rotate_left
         ·simp only [Act.put, List.setIfInBounds_toArray, List.set_cons_zero, List.set_cons_succ, i64_w, i32_w]
          rfl
         refine pure_ (i := 3) (N := some 17) (v := ?_) (a' := ?_) #[true, true, true, true, false, false, false, false, false, false, false, false, false] rfl rfl (any_of HT_.out (by kernel_rfl)) (fun _ _ _ h => h) (Or.inl ⟨by rfl, ?_⟩) ?_ ?_
         rotate_left
         ·intro w'
          go_simp
          with_reducible rfl
         rotate_left
         ·simp only [Act.put, List.setIfInBounds_toArray, List.set_cons_zero, List.set_cons_succ, i64_w, i32_w]
          rfl
         refine pure_ (i := 4) (N := some 18) (v := ?_) (a' := ?_) #[true, true, true, true, true, false, false, false, false, false, false, false, false] rfl rfl (any_of HT_.out (by kernel_rfl)) (fun _ _ _ h => h) (Or.inl ⟨by rfl, ?_⟩) ?_ ?_
         rotate_left
         ·intro w'
          go_simp
          with_reducible rfl
         rotate_left
         ·simp only [Act.put, List.setIfInBounds_toArray, List.set_cons_zero, List.set_cons_succ, i64_w, i32_w]
          rfl
         refine pure_ (i := 5) (N := some 19) (v := ?_) (a' := ?_) #[true, true, true, true, true, true, false, false, false, false, false, false, false] rfl rfl (any_of HT_.out (by kernel_rfl)) (fun _ _ _ h => h) (Or.inl ⟨by rfl, ?_⟩) ?_ ?_
         rotate_left
         ·intro w'
          go_simp
          with_reducible rfl
         rotate_left
         ·simp only [Act.put, List.setIfInBounds_toArray, List.set_cons_zero, List.set_cons_succ, i64_w, i32_w]
          rfl
         refine pure_ (i := 6) (N := some 20) (v := ?_) (a' := ?_) #[true, true, true, true, true, true, true, false, false, false, false, false, false] rfl rfl (any_of HT_.out (by kernel_rfl)) (fun _ _ _ h => h) (Or.inl ⟨by rfl, ?_⟩) ?_ ?_
         rotate_left
         ·intro w'
          go_simp
          with_reducible rfl
         rotate_left
         ·simp only [Act.put, List.setIfInBounds_toArray, List.set_cons_zero, List.set_cons_succ, i64_w, i32_w]
          rfl
         refine pure_ (i := 8) (N := some 22) (v := ?_) (a' := ?_) #[true, true, true, true, true, true, true, false, true, false, false, false, false] rfl rfl (any_of HT_.out (by kernel_rfl)) (fun _ _ _ h => h) (Or.inl ⟨by rfl, ?_⟩) ?_ ?_
         rotate_left
         ·intro w'
          go_simp
          with_reducible rfl
         rotate_left
         ·simp only [Act.put, List.setIfInBounds_toArray, List.set_cons_zero, List.set_cons_succ, i64_w, i32_w]
          rfl
         refine take_ (i := 7) (N := some 21) (v := ?_) (a' := ?_) #[true, true, true, true, true, true, true, true, true, false, false, false, false] rfl rfl (take_ofW HT_.out HW_.out (by kernel_rfl)) (fun _ _ _ h => h) (Or.inl ⟨by rfl, ?_⟩) hHeld ?_ ?_
         rotate_left
         ·rintro w' ⟨s0, s1, s2, s3, s4, s5, s6, s7, s8⟩
          go_simp
          with_reducible rfl
         rotate_left
         ·simp only [Act.put, List.setIfInBounds_toArray, List.set_cons_zero, List.set_cons_succ, i64_w, i32_w]
          rfl
         refine take_ (i := 9) (N := some 23) (v := ?_) (a' := ?_) #[true, true, true, true, true, true, true, true, true, true, false, false, false] rfl rfl (take_ofW HT_.out HW_.out (by kernel_rfl)) (fun _ _ _ h => h) (Or.inl ⟨by rfl, ?_⟩) hHeld ?_ ?_
         rotate_left
         ·rintro w' ⟨s0, s1, s2, s3, s4, s5, s6, s7, s8⟩
          go_simp
          with_reducible rfl
         rotate_left
         ·simp only [Act.put, List.setIfInBounds_toArray, List.set_cons_zero, List.set_cons_succ, i64_w, i32_w]
          rfl
         refine pure_ (i := 10) (N := some 24) (v := ?_) (a' := ?_) #[true, true, true, true, true, true, true, true, true, true, true, false, false] rfl rfl (any_of HT_.out (by kernel_rfl)) (fun _ _ _ h => h) (Or.inl ⟨by rfl, ?_⟩) ?_ ?_
         rotate_left
         ·intro w'
          go_simp
          with_reducible rfl
         rotate_left
         ·simp only [Act.put, List.setIfInBounds_toArray, List.set_cons_zero, List.set_cons_succ, i64_w, i32_w]
          rfl
         refine pure_ (i := 11) (N := some 25) (v := ?_) (a' := ?_) #[true, true, true, true, true, true, true, true, true, true, true, true, false] rfl rfl (any_of HT_.out (by kernel_rfl)) (fun _ _ _ h => h) (Or.inl ⟨by rfl, ?_⟩) ?_ ?_
         rotate_left
         ·intro w'
          go_simp
          with_reducible rfl
         rotate_left
         ·simp only [Act.put, List.setIfInBounds_toArray, List.set_cons_zero, List.set_cons_succ, i64_w, i32_w]
          rfl
         refine pure_ (i := 12) (N := some 26) (v := ?_) (a' := ?_) #[true, true, true, true, true, true, true, true, true, true, true, true, true] rfl rfl (any_of HT_.out (by kernel_rfl)) (fun _ _ _ h => h) (Or.inl ⟨by rfl, ?_⟩) ?_ ?_
         rotate_left
         ·intro w'
          go_simp
          with_reducible rfl
         rotate_left
         ·simp only [Act.put, List.setIfInBounds_toArray, List.set_cons_zero, List.set_cons_succ, i64_w, i32_w]
          rfl
         refine done_ (done_of HT_.out (by kernel_rfl)) ?_
         try go_wp2
         have n0_ := Aside0.mk (blk_drew BK1129.out)
         have n1_ := Aside0.mk (below_drew1 HB.out)
         clear BK1129
         clear HB
         have BK1129 := n0_
         have HB := n1_
         clear n0_ n1_
         have p1133 : 0 ≤ (0 : Int) := (by omega)
         have q1133 : 0 < (l2.length : Int) := of_decide_eq_true (by first | (with_reducible assumption) | assumption)
         obtain ⟨ad1133, e1133, hx1133_0⟩ := Kd.at_int HR2.out 0 p1133 q1133
         have hw1133_0 := hx1133_0
         (try rw [show ((0 : Int)).toNat = 0 from rfl] at hw1133_0)
         (try rw [show 0 * 1 = 0 from rfl] at hw1133_0)
         (try rw [Addr.add_zero'] at hw1133_0)
         obtain rfl : ad1131 = ad1133 := (by injection e1133)
         have qi1133 : (0 < l2.length) = True := eq_true (by omega)
         (try rw [show ((0 : Int)).toNat = 0 from rfl] at hx1133_0)
         (try rw [Addr.add_zero'] at hx1133_0)
         replace hx1133_0 := (HB.out.cell (World.block_lt_of_cell? w _ hx1133_0)).trans hx1133_0
         replace p1133 := eq_true p1133
         replace q1133 := eq_true q1133
         have p1134 : 0 ≤ ((rd l2 0) : Int) := of_decide_eq_true (by first | (with_reducible assumption) | assumption)
         have q1134 : (rd l2 0) < (l0_6.length : Int) := of_decide_eq_true (by first | (with_reducible assumption) | assumption)
         obtain ⟨ad1134, A1134_6, c1134_6, e1134, hx1134_0, hx1134_1, hx1134_2, hx1134_3, hx1134_4, hx1134_5, hx1134_6, hl1134_6, hi1134_6⟩ := at_T26 HR0_6.out (rd l2 0) p1134 q1134
         have hw1134_6 := hx1134_6
         have hw1134_5 := hx1134_5
         have hw1134_4 := hx1134_4
         have hw1134_3 := hx1134_3
         have hw1134_2 := hx1134_2
         have hw1134_1 := hx1134_1
         have hw1134_0 := hx1134_0
         cases e1134
         replace hx1134_0 := (HB.out.cell (World.block_lt_of_cell? w _ hx1134_0)).trans hx1134_0
         replace hx1134_1 := (HB.out.cell (World.block_lt_of_cell? w _ hx1134_1)).trans hx1134_1
         replace hx1134_2 := (HB.out.cell (World.block_lt_of_cell? w _ hx1134_2)).trans hx1134_2
         replace hx1134_3 := (HB.out.cell (World.block_lt_of_cell? w _ hx1134_3)).trans hx1134_3
         replace hx1134_4 := (HB.out.cell (World.block_lt_of_cell? w _ hx1134_4)).trans hx1134_4
         replace hx1134_5 := (HB.out.cell (World.block_lt_of_cell? w _ hx1134_5)).trans hx1134_5
         replace hx1134_6 := (HB.out.cell (World.block_lt_of_cell? w _ hx1134_6)).trans hx1134_6
         have HR1134_6 := Aside0.mk hi1134_6
         have HC1134_6 := Aside0.mk hl1134_6
         clear hi1134_6 hl1134_6
         replace p1134 := eq_true p1134
         replace q1134 := eq_true q1134
         obtain ⟨i028, hi028, _, hsz28, _⟩ := info_parts info3
         obtain ⟨A28, hcut28, hA28, hC28⟩ := print_drop_of (P := Try.prog) (Value.int .i64) 0 41 3 .i64 Try.underlying41 hi028 hsz28 (some ad1131) c2 l2 1 (by omega) (of_decide_eq_true (by first | (with_reducible assumption) | assumption)) HC2.out
         have HR1135 := Aside0.mk (Kd.C_of_reads (h1 := fun _ => rfl) (hA28 _ (Kd.reads_of_C HR2.out)))
         have HC1135 := Aside0.mk hC28
         clear hA28 hC28 hi028 hsz28
         refine start_ (n := 14) (S := fun w' => w'.cell? ⟨gb1129, 0, none⟩ = some (.int .u8 a0_0) ∧ w'.cell? ⟨gb1129, 1, none⟩ = some (.int .i64 a0_1) ∧ w'.cell? ⟨gb1129, 2, none⟩ = some (.int .i64 a0_2) ∧ w'.cell? ⟨gb1129, 3, none⟩ = some (.int .i64 a0_3) ∧ w'.cell? ⟨gb1129, 4, none⟩ = some (.int .i64 a0_4) ∧ w'.cell? ⟨gb1129, 5, none⟩ = some (.int .i64 a0_5) ∧ w'.cell? ⟨gb1129, 6, none⟩ = some (.slice (some ad1134) l0_6.length c0_6) ∧ w'.cell? ad1131 = some (.int .i64 (rd l2 0)) ∧ w'.cell? (ad1134.add (((rd l2 0)).toNat * 7)) = some (.int .u8 ((rd_T26 l0_6 (rd l2 0)).f0)) ∧ w'.cell? ⟨(ad1134.add (((rd l2 0)).toNat * 7)).block, (ad1134.add (((rd l2 0)).toNat * 7)).off + 1, none⟩ = some (.int .i64 ((rd_T26 l0_6 (rd l2 0)).f1.f0)) ∧ w'.cell? ⟨(ad1134.add (((rd l2 0)).toNat * 7)).block, (ad1134.add (((rd l2 0)).toNat * 7)).off + 2, none⟩ = some (.int .i64 ((rd_T26 l0_6 (rd l2 0)).f1.f1)) ∧ w'.cell? ⟨(ad1134.add (((rd l2 0)).toNat * 7)).block, (ad1134.add (((rd l2 0)).toNat * 7)).off + 3, none⟩ = some (.int .i64 ((rd_T26 l0_6 (rd l2 0)).f1.f2)) ∧ w'.cell? ⟨(ad1134.add (((rd l2 0)).toNat * 7)).block, (ad1134.add (((rd l2 0)).toNat * 7)).off + 4, none⟩ = some (.int .i64 ((rd_T26 l0_6 (rd l2 0)).f1.f3)) ∧ w'.cell? ⟨(ad1134.add (((rd l2 0)).toNat * 7)).block, (ad1134.add (((rd l2 0)).toNat * 7)).off + 5, none⟩ = some (.int .i64 ((rd_T26 l0_6 (rd l2 0)).f2)) ∧ w'.cell? ⟨(ad1134.add (((rd l2 0)).toNat * 7)).block, (ad1134.add (((rd l2 0)).toNat * 7)).off + 6, none⟩ = some (.slice A1134_6 ((rd_T26 l0_6 (rd l2 0)).f3).length c1134_6)) (ds := []) #[false, false, false, false, false, false, false, false, false, false, false, false, false, false] (by kernel_rfl) rfl rfl ⟨(blk_cell BK1129.out 0).trans rfl, (blk_cell BK1129.out 1).trans rfl, (blk_cell BK1129.out 2).trans rfl, (blk_cell BK1129.out 3).trans rfl, (blk_cell BK1129.out 4).trans rfl, (blk_cell BK1129.out 5).trans rfl, (blk_cell BK1129.out 6).trans rfl, ((HB.out.cell (World.block_lt_of_cell? w _ hw1133_0)).trans hw1133_0), ((HB.out.cell (World.block_lt_of_cell? w _ hw1134_0)).trans hw1134_0), ((HB.out.cell (World.block_lt_of_cell? w _ hw1134_1)).trans hw1134_1), ((HB.out.cell (World.block_lt_of_cell? w _ hw1134_2)).trans hw1134_2), ((HB.out.cell (World.block_lt_of_cell? w _ hw1134_3)).trans hw1134_3), ((HB.out.cell (World.block_lt_of_cell? w _ hw1134_4)).trans hw1134_4), ((HB.out.cell (World.block_lt_of_cell? w _ hw1134_5)).trans hw1134_5), ((HB.out.cell (World.block_lt_of_cell? w _ hw1134_6)).trans hw1134_6)⟩ (fun hHeld => ?_); refine with_tabW sashref08_Path.tab8 sashref08_Path.bits8 (fun HT_ HW_ => ?_)
         generalize w26.drew = w27 at BK1129 HB HR1134_6 HR1135 hx1133_0 hx1134_0 hx1134_1 hx1134_2 hx1134_3 hx1134_4 hx1134_5 hx1134_6 hHeld ⊢
         refine pure_ (i := 0) (N := some 28) (v := ?_) (a' := ?_) #[true, false, false, false, false, false, false, false, false, false, false, false, false, false] rfl rfl (any_of HT_.out (by kernel_rfl)) (fun _ _ _ h => h) (Or.inl ⟨by rfl, ?_⟩) ?_ ?_
         rotate_left
         ·intro w'
          go_simp
          with_reducible rfl
         rotate_left
         ·simp only [Act.put, List.setIfInBounds_toArray, List.set_cons_zero, List.set_cons_succ, i64_w, i32_w]
          rfl
         refine pure_ (i := 1) (N := some 29) (v := ?_) (a' := ?_) #[true, true, false, false, false, false, false, false, false, false, false, false, false, false] rfl rfl (any_of HT_.out (by kernel_rfl)) (fun _ _ _ h => h) (Or.inl ⟨by rfl, ?_⟩) ?_ ?_
         rotate_left
         ·intro w'
          go_simp
          with_reducible rfl
         rotate_left
         ·simp only [Act.put, List.setIfInBounds_toArray, List.set_cons_zero, List.set_cons_succ, i64_w, i32_w]
          rfl
         refine pure_ (i := 3) (N := some 31) (v := ?_) (a' := ?_) #[true, true, false, true, false, false, false, false, false, false, false, false, false, false] rfl rfl (any_of HT_.out (by kernel_rfl)) (fun _ _ _ h => h) (Or.inl ⟨by rfl, ?_⟩) ?_ ?_
         rotate_left
         ·intro w'
          go_simp
          with_reducible rfl
         rotate_left
         ·simp only [Act.put, List.setIfInBounds_toArray, List.set_cons_zero, List.set_cons_succ, i64_w, i32_w]
          rfl
         refine pure_ (i := 4) (N := some 32) (v := ?_) (a' := ?_) #[true, true, false, true, true, false, false, false, false, false, false, false, false, false] rfl rfl (any_of HT_.out (by kernel_rfl)) (fun _ _ _ h => h) (Or.inl ⟨by rfl, ?_⟩) ?_ ?_
         rotate_left
         ·intro w'
          go_simp
          with_reducible rfl
         rotate_left
         ·simp only [Act.put, List.setIfInBounds_toArray, List.set_cons_zero, List.set_cons_succ, i64_w, i32_w]
          rfl
         refine pure_ (i := 8) (N := some 36) (v := ?_) (a' := ?_) #[true, true, false, true, true, false, false, false, true, false, false, false, false, false] rfl rfl (any_of HT_.out (by kernel_rfl)) (fun _ _ _ h => h) (Or.inl ⟨by rfl, ?_⟩) ?_ ?_
         rotate_left
         ·intro w'
          go_simp
          with_reducible rfl
         rotate_left
         ·simp only [Act.put, List.setIfInBounds_toArray, List.set_cons_zero, List.set_cons_succ, i64_w, i32_w]
          rfl
         refine pure_ (i := 9) (N := some 37) (v := ?_) (a' := ?_) #[true, true, false, true, true, false, false, false, true, true, false, false, false, false] rfl rfl (any_of HT_.out (by kernel_rfl)) (fun _ _ _ h => h) (Or.inl ⟨by rfl, ?_⟩) ?_ ?_
         rotate_left
         ·intro w'
          go_simp
          with_reducible rfl
         rotate_left
         ·simp only [Act.put, List.setIfInBounds_toArray, List.set_cons_zero, List.set_cons_succ, i64_w, i32_w]
          rfl
         refine pure_ (i := 10) (N := some 38) (v := ?_) (a' := ?_) #[true, true, false, true, true, false, false, false, true, true, true, false, false, false] rfl rfl (any_of HT_.out (by kernel_rfl)) (fun _ _ _ h => h) (Or.inl ⟨by rfl, ?_⟩) ?_ ?_
         rotate_left
         ·intro w'
          go_simp
          with_reducible rfl
         rotate_left
         ·simp only [Act.put, List.setIfInBounds_toArray, List.set_cons_zero, List.set_cons_succ, i64_w, i32_w]
          rfl
         refine take_ (i := 2) (N := some 30) (v := ?_) (a' := ?_) #[true, true, true, true, true, false, false, false, true, true, true, false, false, false] rfl rfl (take_ofW HT_.out HW_.out (by kernel_rfl)) (fun _ _ _ h => h) (Or.inl ⟨by rfl, ?_⟩) hHeld ?_ ?_
         rotate_left
         ·rintro w' ⟨s0, s1, s2, s3, s4, s5, s6, s7, s8, s9, s10, s11, s12, s13, s14⟩
          go_simp
          with_reducible rfl
         rotate_left
         ·simp only [Act.put, List.setIfInBounds_toArray, List.set_cons_zero, List.set_cons_succ, i64_w, i32_w]
          rfl
         refine take_ (i := 5) (N := some 33) (v := ?_) (a' := ?_) #[true, true, true, true, true, true, false, false, true, true, true, false, false, false] rfl rfl (take_ofW HT_.out HW_.out (by kernel_rfl)) (fun _ _ _ h => h) (Or.inl ⟨by rfl, ?_⟩) hHeld ?_ ?_
         rotate_left
         ·rintro w' ⟨s0, s1, s2, s3, s4, s5, s6, s7, s8, s9, s10, s11, s12, s13, s14⟩
          go_simp
          with_reducible rfl
         rotate_left
         ·simp only [Act.put, List.setIfInBounds_toArray, List.set_cons_zero, List.set_cons_succ, i64_w, i32_w]
          rfl
         refine pure_ (i := 6) (N := some 34) (v := ?_) (a' := ?_) #[true, true, true, true, true, true, true, false, true, true, true, false, false, false] rfl rfl (any_of HT_.out (by kernel_rfl)) (fun _ _ _ h => h) (Or.inl ⟨by rfl, ?_⟩) ?_ ?_
         rotate_left
         ·intro w'
          go_simp
          with_reducible rfl
         rotate_left
         ·simp only [Act.put, List.setIfInBounds_toArray, List.set_cons_zero, List.set_cons_succ, i64_w, i32_w]
          rfl
         refine take_ (i := 7) (N := some 35) (v := ?_) (a' := ?_) #[true, true, true, true, true, true, true, true, true, true, true, false, false, false] rfl rfl (take_ofW HT_.out HW_.out (by kernel_rfl)) (fun _ _ _ h => h) (Or.inl ⟨by rfl, ?_⟩) hHeld ?_ ?_
         rotate_left
         ·rintro w' ⟨s0, s1, s2, s3, s4, s5, s6, s7, s8, s9, s10, s11, s12, s13, s14⟩
          go_simp
          with_reducible rfl
         rotate_left
         ·simp only [Act.put, List.setIfInBounds_toArray, List.set_cons_zero, List.set_cons_succ, i64_w, i32_w]
          rfl
         refine one_ (i := 11) (N := some 39) #[true, true, true, true, true, true, true, true, true, true, true, true, false, false] rfl rfl (one_of HT_.out (by kernel_rfl)) (by decide) (fun K hK => ?_)
         refine goes_ Try.func101 (by kernel_rfl) rfl #[.agg #[.int .u8 ((rd_T26 l0_6 (rd l2 0)).f0), .int .i64 ((rd_T26 l0_6 (rd l2 0)).f1.f0), .int .i64 ((rd_T26 l0_6 (rd l2 0)).f1.f1), .int .i64 ((rd_T26 l0_6 (rd l2 0)).f1.f2), .int .i64 ((rd_T26 l0_6 (rd l2 0)).f1.f3), .int .i64 ((rd_T26 l0_6 (rd l2 0)).f2), .slice A1134_6 ((rd_T26 l0_6 (rd l2 0)).f3).length c1134_6], .int .u8 a1, .slice A28 (l2.drop 1).length (c2 - 1)] (by rfl) rfl rfl (by (try simp only [List.map_toArray, List.map_cons, List.map_nil]); first | done | (rw [show (l2.drop 1).length = (l2.length - 1) from List.length_drop] <;> rfl) | rfl | (simp only [List.length_drop, List.length_take]; rfl)) ?_
         with_reducible refine (ih k (by omega) ((rd_T26 l0_6 (rd l2 0)).f0) ((rd_T26 l0_6 (rd l2 0)).f1.f0) ((rd_T26 l0_6 (rd l2 0)).f1.f1) ((rd_T26 l0_6 (rd l2 0)).f1.f2) ((rd_T26 l0_6 (rd l2 0)).f1.f3) ((rd_T26 l0_6 (rd l2 0)).f2) _ _ ((rd_T26 l0_6 (rd l2 0)).f3) a1 _ _ (l2.drop 1) t1136 _ ?side1 ?side2 ?side3 ?side4 A22.out).mono ?_
         (case side1 => repeat (first | exact (Kd.C_below HR1134_6.out HB.out) | (with_reducible refine Kd.C_alloc ?_ _) | (with_reducible refine Kd.C_drewN ?_ _) | (with_reducible refine Kd.C_drew ?_)))
         (case side2 => exact HC1134_6.out)
         (case side3 => repeat (first | exact (Kd.C_below HR1135.out HB.out) | (with_reducible refine Kd.C_alloc ?_ _) | (with_reducible refine Kd.C_drewN ?_ _) | (with_reducible refine Kd.C_drew ?_)))
         (case side4 => exact HC1135.out)
         rintro e w29 ⟨rfl, hb⟩
         refine ⟨_, rfl, ?_⟩
         have n0_ := Aside0.mk (blk_below (g := gb1129) (o := .cells #[.int .u8 a0_0, .int .i64 a0_1, .int .i64 a0_2, .int .i64 a0_3, .int .i64 a0_4, .int .i64 a0_5, .slice (some ad1134) l0_6.length c0_6] 26 (0, 0)) (by (with_reducible repeat (first | refine blk_drewN ?_ _ | refine blk_drew ?_ | refine blk_alloc ?_ _)); exact BK1129.out) hb)
         have n1_ := Aside0.mk (below_step (by repeat (first | (with_reducible first | exact HB.out | apply below_alloc | apply pw_below_drewN | apply below_drew1 | refine below_set ?_ GE1129.out) | exact HB.out)) hb)
         clear BK1129
         clear HB
         have BK1129 := n0_
         have HB := n1_
         clear n0_ n1_
         (try clear hb)
         (try clear hb2)
         (try clear hk)
         (try clear hi)
         refine hK.out _ _ ⟨(blk_cell BK1129.out 0).trans rfl, (blk_cell BK1129.out 1).trans rfl, (blk_cell BK1129.out 2).trans rfl, (blk_cell BK1129.out 3).trans rfl, (blk_cell BK1129.out 4).trans rfl, (blk_cell BK1129.out 5).trans rfl, (blk_cell BK1129.out 6).trans rfl, ((HB.out.cell (World.block_lt_of_cell? w _ hw1133_0)).trans hw1133_0), ((HB.out.cell (World.block_lt_of_cell? w _ hw1134_0)).trans hw1134_0), ((HB.out.cell (World.block_lt_of_cell? w _ hw1134_1)).trans hw1134_1), ((HB.out.cell (World.block_lt_of_cell? w _ hw1134_2)).trans hw1134_2), ((HB.out.cell (World.block_lt_of_cell? w _ hw1134_3)).trans hw1134_3), ((HB.out.cell (World.block_lt_of_cell? w _ hw1134_4)).trans hw1134_4), ((HB.out.cell (World.block_lt_of_cell? w _ hw1134_5)).trans hw1134_5), ((HB.out.cell (World.block_lt_of_cell? w _ hw1134_6)).trans hw1134_6)⟩ (fun hHeld => ?_)
         clear hK K
         refine norm_ (a' := ?_) ?_ ?_
         rotate_left
         ·show Act.put _ (some 39) _ = _
          simp only [Act.put, List.setIfInBounds_toArray, List.set_cons_zero, List.set_cons_succ, i64_w, i32_w]
          rfl
         refine pure_ (i := 12) (N := some 40) (v := ?_) (a' := ?_) #[true, true, true, true, true, true, true, true, true, true, true, true, true, false] rfl rfl (any_of HT_.out (by kernel_rfl)) (fun _ _ _ h => h) (Or.inl ⟨by rfl, ?_⟩) ?_ ?_
         rotate_left
         ·intro w'
          go_simp
          with_reducible rfl
         rotate_left
         ·simp only [Act.put, List.setIfInBounds_toArray, List.set_cons_zero, List.set_cons_succ, i64_w, i32_w]
          rfl
         refine pure_ (i := 13) (N := some 6) (v := ?_) (a' := ?_) #[true, true, true, true, true, true, true, true, true, true, true, true, true, true] rfl rfl (any_of HT_.out (by kernel_rfl)) (fun _ _ _ h => h) (Or.inl ⟨by rfl, ?_⟩) ?_ ?_
         rotate_left
         ·intro w'
          go_simp
          with_reducible rfl
         rotate_left
         ·simp only [Act.put, List.setIfInBounds_toArray, List.set_cons_zero, List.set_cons_succ, i64_w, i32_w]
          rfl
         refine done_ (done_of HT_.out (by kernel_rfl)) ?_
         try go_wp2
         go_ret
         exact ⟨by first | rfl | (simp [errW_none, errW_some] <;> rfl) | (simp [*, errW_none, errW_some] <;> rfl), by repeat (first | (with_reducible first | exact HB.out | apply below_alloc | apply pw_below_drewN | apply below_drew1 | refine below_set ?_ GE1129.out) | exact HB.out)⟩
        ·rw [if_neg c21] at H
         exact absurd H (by simp)
       ·rw [if_neg c20] at H
        exact absurd H (by simp)
      ·rw [if_neg c19] at H
       exact absurd H (by simp)
   ·rw [if_neg c8] at H
    exact absurd H (by simp)
  ·replace c7 := Bool.eq_false_iff.mpr c7
   subst c7
   have H1 : (if 0 < (l2.length : Int) then (if (rd l2 0) < 0 then (some 0) else (if (rd l2 0) ≥ (l0_6.length : Int) then (some 0) else (if 0 ≤ (rd l2 0) then (if (rd l2 0) < (l0_6.length : Int) then (if 1 ≤ (l2.length : Int) then ((sashref08_Path.f k ((rd_T26 l0_6 (rd l2 0)).f0) ((rd_T26 l0_6 (rd l2 0)).f1.f0) ((rd_T26 l0_6 (rd l2 0)).f1.f1) ((rd_T26 l0_6 (rd l2 0)).f1.f2) ((rd_T26 l0_6 (rd l2 0)).f1.f3) ((rd_T26 l0_6 (rd l2 0)).f2) ((rd_T26 l0_6 (rd l2 0)).f3) a1 (l2.drop 1)).bind fun t1142 => (some (wrap64 (0 + t1142)))) else (none)) else (none)) else (none)))) else (none)) = some r := by rw [if_neg (show ¬ (false = true) by decide)] at H; exact H
   clear H
   have H := H1
   clear H1
   by_cases c30 : 0 < (l2.length : Int)
   ·rw [if_pos c30] at H
    have c30b0 : decide (0 < (l2.length : Int)) = true := decide_eq_true c30
    have c30b1 : decide (0 < l2.length) = true := decide_eq_true (by omega)
    clear c30
    by_cases c31 : (rd l2 0) < 0
    ·rw [if_pos c31] at H
     have c31b0 : decide ((rd l2 0) < 0) = true := decide_eq_true c31
     clear c31
     obtain rfl := Option.some.inj H
     go_enter Try.func101, Try.ntmps101
     try go_wp2_with (first | ((with_reducible refine gate_dst (N := 3) rfl ?_); (try (refine gate_guard (by rfl) ?_; dsimp only)); refine box_event ?hg (N := 3) ?hd (cs := #[.int .u8 a0_0, .int .i64 a0_1, .int .i64 a0_2, .int .i64 a0_3, .int .i64 a0_4, .int .i64 a0_5, .slice A0_6 l0_6.length c0_6]) (t := 26) ?hr ?_; (case hd => rfl); (case hg => rfl); (case hr => first | (go_simp; done) | (go_simp; rfl)); intro gb1129 hg w32 hbox hb; have n0_ := Aside0.mk (below_step (by repeat (first | (with_reducible first | exact HB.out | apply below_alloc | apply pw_below_drewN | apply below_drew1) | exact HB.out)) hb); have n1_ := Aside0.mk (hbox); have n2_ := Aside0.mk ((by rw [hg]; exact (below_size (by repeat (first | (with_reducible first | exact HB.out | apply below_alloc | apply pw_below_drewN | apply below_drew1) | exact HB.out))) : w.heap.size ≤ gb1129)); have n3_ := Aside0.mk ((by rw [hg]; exact (below_size (by repeat (first | (with_reducible first | exact HB.out | apply below_alloc | apply pw_below_drewN | apply below_drew1) | exact HB.out))) : w.heap.size ≤ gb1129)); clear HB; have HB := n0_; have BK1129 := n1_; have GW1129 := n2_; have GE1129 := n3_; clear n0_ n1_ n2_ n3_; clear hb hbox hg; have hcz33_0 : w32.cell? ⟨gb1129, 0, none⟩ = some (.int .u8 a0_0) := (blk_cell BK1129.out 0).trans rfl; have hcz33_1 : w32.cell? ⟨gb1129, 1, none⟩ = some (.int .i64 a0_1) := (blk_cell BK1129.out 1).trans rfl; have hcz33_2 : w32.cell? ⟨gb1129, 2, none⟩ = some (.int .i64 a0_2) := (blk_cell BK1129.out 2).trans rfl; have hcz33_3 : w32.cell? ⟨gb1129, 3, none⟩ = some (.int .i64 a0_3) := (blk_cell BK1129.out 3).trans rfl; have hcz33_4 : w32.cell? ⟨gb1129, 4, none⟩ = some (.int .i64 a0_4) := (blk_cell BK1129.out 4).trans rfl; have hcz33_5 : w32.cell? ⟨gb1129, 5, none⟩ = some (.int .i64 a0_5) := (blk_cell BK1129.out 5).trans rfl; have hcz33_6 : w32.cell? ⟨gb1129, 6, none⟩ = some (.slice A0_6 l0_6.length c0_6) := (blk_cell BK1129.out 6).trans rfl; have hfz33_0 := blk_frozen BK1129.out 0; have hfz33_1 := blk_frozen BK1129.out 1; have hfz33_2 := blk_frozen BK1129.out 2; have hfz33_3 := blk_frozen BK1129.out 3; have hfz33_4 := blk_frozen BK1129.out 4; have hfz33_5 := blk_frozen BK1129.out 5; have hfz33_6 := blk_frozen BK1129.out 6) | ((with_reducible refine gate_callee (f := 88) rfl ?_); refine goesL_ (some 13) rfl rfl Try.func88 (by kernel_rfl) rfl #[.agg #[.int .u8 a0_0, .int .i64 a0_1, .int .i64 a0_2, .int .i64 a0_3, .int .i64 a0_4, .int .i64 a0_5, .slice A0_6 l0_6.length c0_6], .int .u8 a1] rfl (by (try simp only [List.map_toArray, List.map_cons, List.map_nil]); first | done | rfl | (simp only [List.length_drop, List.length_take]; rfl)) ?_; (with_reducible refine (sashref08_Along.calls a0_0 a0_1 a0_2 a0_3 a0_4 a0_5 _ _ l0_6 a1 false _ ?side1 ?side2 A6.out).mono ?_); (case side1 => repeat (first | exact (Kd.C_below HR0_6.out HB.out) | (with_reducible refine Kd.C_alloc ?_ _) | (with_reducible refine Kd.C_drewN ?_ _) | (with_reducible refine Kd.C_drew ?_))); (case side2 => exact HC0_6.out); rintro e w34 ⟨rfl, hb⟩; refine ⟨_, rfl, ?_⟩; have n0_ := Aside0.mk (blk_below (g := gb1129) (o := .cells #[.int .u8 a0_0, .int .i64 a0_1, .int .i64 a0_2, .int .i64 a0_3, .int .i64 a0_4, .int .i64 a0_5, .slice A0_6 l0_6.length c0_6] 26 (0, 0)) (by (with_reducible repeat (first | refine blk_drewN ?_ _ | refine blk_drew ?_ | refine blk_alloc ?_ _)); exact BK1129.out) hb); have n1_ := Aside0.mk (below_step (by repeat (first | (with_reducible first | exact HB.out | apply below_alloc | apply pw_below_drewN | apply below_drew1 | refine below_set ?_ GE1129.out) | exact HB.out)) hb); clear BK1129; clear HB; have BK1129 := n0_; have HB := n1_; clear n0_ n1_; (try clear hb); (try clear hb2); (try clear hk); (try clear hi)))
     have n0_ := Aside0.mk (blk_drew BK1129.out)
     have n1_ := Aside0.mk (below_drew1 HB.out)
     clear BK1129
     clear HB
     have BK1129 := n0_
     have HB := n1_
     clear n0_ n1_
     have p1137 : 0 ≤ (0 : Int) := (by omega)
     have q1137 : 0 < (l2.length : Int) := of_decide_eq_true (by first | (with_reducible assumption) | assumption)
     obtain ⟨ad1137, e1137, hx1137_0⟩ := Kd.at_int HR2.out 0 p1137 q1137
     have hw1137_0 := hx1137_0
     (try rw [show ((0 : Int)).toNat = 0 from rfl] at hw1137_0)
     (try rw [show 0 * 1 = 0 from rfl] at hw1137_0)
     (try rw [Addr.add_zero'] at hw1137_0)
     cases e1137
     have qi1137 : (0 < l2.length) = True := eq_true (by omega)
     (try rw [show ((0 : Int)).toNat = 0 from rfl] at hx1137_0)
     (try rw [Addr.add_zero'] at hx1137_0)
     replace hx1137_0 := (HB.out.cell (World.block_lt_of_cell? w _ hx1137_0)).trans hx1137_0
     replace p1137 := eq_true p1137
     replace q1137 := eq_true q1137
     refine start_ (n := 13) (S := fun w' => w'.cell? ad1137 = some (.int .i64 (rd l2 0))) (ds := []) #[false, false, false, false, false, false, false, false, false, false, false, false, false] (by kernel_rfl) rfl rfl (((HB.out.cell (World.block_lt_of_cell? w _ hw1137_0)).trans hw1137_0)) (fun hHeld => ?_); refine with_tabW sashref08_Path.tab6 sashref08_Path.bits6 (fun HT_ HW_ => ?_)
     generalize w34.drew = w35 at BK1129 HB hx1137_0 hHeld ⊢
     refine pure_ (i := 0) (N := some 14) (v := ?_) (a' := ?_) #[true, false, false, false, false, false, false, false, false, false, false, false, false] rfl rfl (any_of HT_.out (by kernel_rfl)) (fun _ _ _ h => h) (Or.inl ⟨by rfl, ?_⟩) ?_ ?_
     rotate_left
     ·intro w'
      go_simp
      with_reducible rfl
     rotate_left
     ·simp only [Act.put, List.setIfInBounds_toArray, List.set_cons_zero, List.set_cons_succ, i64_w, i32_w]
      rfl
     refine pure_ (i := 1) (N := some 15) (v := ?_) (a' := ?_) #[true, true, false, false, false, false, false, false, false, false, false, false, false] rfl rfl (any_of HT_.out (by kernel_rfl)) (fun _ _ _ h => h) (Or.inl ⟨by rfl, ?_⟩) ?_ ?_
     rotate_left
     ·intro w'
      go_simp
      with_reducible rfl
     rotate_left
     ·simp only [Act.put, List.setIfInBounds_toArray, List.set_cons_zero, List.set_cons_succ, i64_w, i32_w]
      rfl
     refine take_ (i := 2) (N := some 16) (v := ?_) (a' := ?_) #[true, true, true, false, false, false, false, false, false, false, false, false, false] rfl rfl (take_ofW HT_.out HW_.out (by kernel_rfl)) (fun _ _ _ h => h) (Or.inl ⟨by rfl, ?_⟩) hHeld ?_ ?_
     rotate_left
     ·intro w' s0
      go_simp
      with_reducible rfl
     rotate_left
     ·simp only [Act.put, List.setIfInBounds_toArray, List.set_cons_zero, List.set_cons_succ, i64_w, i32_w]
      rfl
     refine pure_ (i := 3) (N := some 17) (v := ?_) (a' := ?_) #[true, true, true, true, false, false, false, false, false, false, false, false, false] rfl rfl (any_of HT_.out (by kernel_rfl)) (fun _ _ _ h => h) (Or.inl ⟨by rfl, ?_⟩) ?_ ?_
     rotate_left
     ·intro w'
      go_simp
      with_reducible rfl
     rotate_left
     ·simp only [Act.put, List.setIfInBounds_toArray, List.set_cons_zero, List.set_cons_succ, i64_w, i32_w]
      rfl
     refine pure_ (i := 4) (N := some 18) (v := ?_) (a' := ?_) #[true, true, true, true, true, false, false, false, false, false, false, false, false] rfl rfl (any_of HT_.out (by kernel_rfl)) (fun _ _ _ h => h) (Or.inl ⟨by rfl, ?_⟩) ?_ ?_
     rotate_left
     ·intro w'
      go_simp
      with_reducible rfl
     rotate_left
     ·simp only [Act.put, List.setIfInBounds_toArray, List.set_cons_zero, List.set_cons_succ, i64_w, i32_w]
      rfl
     refine pure_ (i := 5) (N := some 19) (v := undef) (a' := ?_) #[true, true, true, true, true, true, false, false, false, false, false, false, false] rfl rfl (any_of HT_.out (by kernel_rfl)) (fun _ _ _ h => h) (Or.inr ⟨by rfl, rfl⟩) ?_ ?_
     rotate_left
     ·simp only [Act.put, List.setIfInBounds_toArray, List.set_cons_zero, List.set_cons_succ, i64_w, i32_w]
      rfl
     refine pure_ (i := 6) (N := some 20) (v := undef) (a' := ?_) #[true, true, true, true, true, true, true, false, false, false, false, false, false] rfl rfl (any_of HT_.out (by kernel_rfl)) (fun _ _ _ h => h) (Or.inr ⟨by rfl, rfl⟩) ?_ ?_
     rotate_left
     ·simp only [Act.put, List.setIfInBounds_toArray, List.set_cons_zero, List.set_cons_succ, i64_w, i32_w]
      rfl
     refine pure_ (i := 7) (N := some 21) (v := undef) (a' := ?_) #[true, true, true, true, true, true, true, true, false, false, false, false, false] rfl rfl (any_of HT_.out (by kernel_rfl)) (fun _ _ _ h => h) (Or.inr ⟨by rfl, rfl⟩) ?_ ?_
     rotate_left
     ·simp only [Act.put, List.setIfInBounds_toArray, List.set_cons_zero, List.set_cons_succ, i64_w, i32_w]
      rfl
     refine pure_ (i := 8) (N := some 22) (v := undef) (a' := ?_) #[true, true, true, true, true, true, true, true, true, false, false, false, false] rfl rfl (any_of HT_.out (by kernel_rfl)) (fun _ _ _ h => h) (Or.inr ⟨by rfl, rfl⟩) ?_ ?_
     rotate_left
     ·simp only [Act.put, List.setIfInBounds_toArray, List.set_cons_zero, List.set_cons_succ, i64_w, i32_w]
      rfl
     refine pure_ (i := 9) (N := some 23) (v := undef) (a' := ?_) #[true, true, true, true, true, true, true, true, true, true, false, false, false] rfl rfl (any_of HT_.out (by kernel_rfl)) (fun _ _ _ h => h) (Or.inr ⟨by rfl, rfl⟩) ?_ ?_
     rotate_left
     ·simp only [Act.put, List.setIfInBounds_toArray, List.set_cons_zero, List.set_cons_succ, i64_w, i32_w]
      rfl
     refine pure_ (i := 10) (N := some 24) (v := undef) (a' := ?_) #[true, true, true, true, true, true, true, true, true, true, true, false, false] rfl rfl (any_of HT_.out (by kernel_rfl)) (fun _ _ _ h => h) (Or.inr ⟨by rfl, rfl⟩) ?_ ?_
     rotate_left
     ·simp only [Act.put, List.setIfInBounds_toArray, List.set_cons_zero, List.set_cons_succ, i64_w, i32_w]
      rfl
     refine pure_ (i := 11) (N := some 25) (v := undef) (a' := ?_) #[true, true, true, true, true, true, true, true, true, true, true, true, false] rfl rfl (any_of HT_.out (by kernel_rfl)) (fun _ _ _ h => h) (Or.inr ⟨by rfl, rfl⟩) ?_ ?_
     rotate_left
     ·simp only [Act.put, List.setIfInBounds_toArray, List.set_cons_zero, List.set_cons_succ, i64_w, i32_w]
      rfl
     refine pure_ (i := 12) (N := some 26) (v := ?_) (a' := ?_) #[true, true, true, true, true, true, true, true, true, true, true, true, true] rfl rfl (any_of HT_.out (by kernel_rfl)) (fun _ _ _ h => h) (Or.inl ⟨by rfl, ?_⟩) ?_ ?_
     rotate_left
     ·intro w'
      go_simp
      with_reducible rfl
     rotate_left
     ·simp only [Act.put, List.setIfInBounds_toArray, List.set_cons_zero, List.set_cons_succ, i64_w, i32_w]
      rfl
     refine done_ (done_of HT_.out (by kernel_rfl)) ?_
     try go_wp2
     go_ret
     exact ⟨by first | rfl | (simp [errW_none, errW_some] <;> rfl) | (simp [*, errW_none, errW_some] <;> rfl), by repeat (first | (with_reducible first | exact HB.out | apply below_alloc | apply pw_below_drewN | apply below_drew1 | refine below_set ?_ GE1129.out) | exact HB.out)⟩
    ·rw [if_neg c31] at H
     have c31b0 : decide ((rd l2 0) < 0) = false := decide_eq_false c31
     clear c31
     by_cases c36 : (rd l2 0) ≥ (l0_6.length : Int)
     ·rw [if_pos c36] at H
      have c36b0 : decide ((l0_6.length : Int) ≤ (rd l2 0)) = true := decide_eq_true c36
      clear c36
      obtain rfl := Option.some.inj H
      go_enter Try.func101, Try.ntmps101
      try go_wp2_with (first | ((with_reducible refine gate_dst (N := 3) rfl ?_); (try (refine gate_guard (by rfl) ?_; dsimp only)); refine box_event ?hg (N := 3) ?hd (cs := #[.int .u8 a0_0, .int .i64 a0_1, .int .i64 a0_2, .int .i64 a0_3, .int .i64 a0_4, .int .i64 a0_5, .slice A0_6 l0_6.length c0_6]) (t := 26) ?hr ?_; (case hd => rfl); (case hg => rfl); (case hr => first | (go_simp; done) | (go_simp; rfl)); intro gb1129 hg w37 hbox hb; have n0_ := Aside0.mk (below_step (by repeat (first | (with_reducible first | exact HB.out | apply below_alloc | apply pw_below_drewN | apply below_drew1) | exact HB.out)) hb); have n1_ := Aside0.mk (hbox); have n2_ := Aside0.mk ((by rw [hg]; exact (below_size (by repeat (first | (with_reducible first | exact HB.out | apply below_alloc | apply pw_below_drewN | apply below_drew1) | exact HB.out))) : w.heap.size ≤ gb1129)); have n3_ := Aside0.mk ((by rw [hg]; exact (below_size (by repeat (first | (with_reducible first | exact HB.out | apply below_alloc | apply pw_below_drewN | apply below_drew1) | exact HB.out))) : w.heap.size ≤ gb1129)); clear HB; have HB := n0_; have BK1129 := n1_; have GW1129 := n2_; have GE1129 := n3_; clear n0_ n1_ n2_ n3_; clear hb hbox hg; have hcz38_0 : w37.cell? ⟨gb1129, 0, none⟩ = some (.int .u8 a0_0) := (blk_cell BK1129.out 0).trans rfl; have hcz38_1 : w37.cell? ⟨gb1129, 1, none⟩ = some (.int .i64 a0_1) := (blk_cell BK1129.out 1).trans rfl; have hcz38_2 : w37.cell? ⟨gb1129, 2, none⟩ = some (.int .i64 a0_2) := (blk_cell BK1129.out 2).trans rfl; have hcz38_3 : w37.cell? ⟨gb1129, 3, none⟩ = some (.int .i64 a0_3) := (blk_cell BK1129.out 3).trans rfl; have hcz38_4 : w37.cell? ⟨gb1129, 4, none⟩ = some (.int .i64 a0_4) := (blk_cell BK1129.out 4).trans rfl; have hcz38_5 : w37.cell? ⟨gb1129, 5, none⟩ = some (.int .i64 a0_5) := (blk_cell BK1129.out 5).trans rfl; have hcz38_6 : w37.cell? ⟨gb1129, 6, none⟩ = some (.slice A0_6 l0_6.length c0_6) := (blk_cell BK1129.out 6).trans rfl; have hfz38_0 := blk_frozen BK1129.out 0; have hfz38_1 := blk_frozen BK1129.out 1; have hfz38_2 := blk_frozen BK1129.out 2; have hfz38_3 := blk_frozen BK1129.out 3; have hfz38_4 := blk_frozen BK1129.out 4; have hfz38_5 := blk_frozen BK1129.out 5; have hfz38_6 := blk_frozen BK1129.out 6) | ((with_reducible refine gate_callee (f := 88) rfl ?_); refine goesL_ (some 13) rfl rfl Try.func88 (by kernel_rfl) rfl #[.agg #[.int .u8 a0_0, .int .i64 a0_1, .int .i64 a0_2, .int .i64 a0_3, .int .i64 a0_4, .int .i64 a0_5, .slice A0_6 l0_6.length c0_6], .int .u8 a1] rfl (by (try simp only [List.map_toArray, List.map_cons, List.map_nil]); first | done | rfl | (simp only [List.length_drop, List.length_take]; rfl)) ?_; (with_reducible refine (sashref08_Along.calls a0_0 a0_1 a0_2 a0_3 a0_4 a0_5 _ _ l0_6 a1 false _ ?side1 ?side2 A6.out).mono ?_); (case side1 => repeat (first | exact (Kd.C_below HR0_6.out HB.out) | (with_reducible refine Kd.C_alloc ?_ _) | (with_reducible refine Kd.C_drewN ?_ _) | (with_reducible refine Kd.C_drew ?_))); (case side2 => exact HC0_6.out); rintro e w39 ⟨rfl, hb⟩; refine ⟨_, rfl, ?_⟩; have n0_ := Aside0.mk (blk_below (g := gb1129) (o := .cells #[.int .u8 a0_0, .int .i64 a0_1, .int .i64 a0_2, .int .i64 a0_3, .int .i64 a0_4, .int .i64 a0_5, .slice A0_6 l0_6.length c0_6] 26 (0, 0)) (by (with_reducible repeat (first | refine blk_drewN ?_ _ | refine blk_drew ?_ | refine blk_alloc ?_ _)); exact BK1129.out) hb); have n1_ := Aside0.mk (below_step (by repeat (first | (with_reducible first | exact HB.out | apply below_alloc | apply pw_below_drewN | apply below_drew1 | refine below_set ?_ GE1129.out) | exact HB.out)) hb); clear BK1129; clear HB; have BK1129 := n0_; have HB := n1_; clear n0_ n1_; (try clear hb); (try clear hb2); (try clear hk); (try clear hi)))
      have n0_ := Aside0.mk (blk_drew BK1129.out)
      have n1_ := Aside0.mk (below_drew1 HB.out)
      clear BK1129
      clear HB
      have BK1129 := n0_
      have HB := n1_
      clear n0_ n1_
      have p1137 : 0 ≤ (0 : Int) := (by omega)
      have q1137 : 0 < (l2.length : Int) := of_decide_eq_true (by first | (with_reducible assumption) | assumption)
      obtain ⟨ad1137, e1137, hx1137_0⟩ := Kd.at_int HR2.out 0 p1137 q1137
      have hw1137_0 := hx1137_0
      (try rw [show ((0 : Int)).toNat = 0 from rfl] at hw1137_0)
      (try rw [show 0 * 1 = 0 from rfl] at hw1137_0)
      (try rw [Addr.add_zero'] at hw1137_0)
      cases e1137
      have qi1137 : (0 < l2.length) = True := eq_true (by omega)
      (try rw [show ((0 : Int)).toNat = 0 from rfl] at hx1137_0)
      (try rw [Addr.add_zero'] at hx1137_0)
      replace hx1137_0 := (HB.out.cell (World.block_lt_of_cell? w _ hx1137_0)).trans hx1137_0
      replace p1137 := eq_true p1137
      replace q1137 := eq_true q1137
      have p1138 : 0 ≤ (0 : Int) := (by omega)
      have q1138 : 0 < (l2.length : Int) := of_decide_eq_true (by first | (with_reducible assumption) | assumption)
      obtain ⟨ad1138, e1138, hx1138_0⟩ := Kd.at_int HR2.out 0 p1138 q1138
      have hw1138_0 := hx1138_0
      (try rw [show ((0 : Int)).toNat = 0 from rfl] at hw1138_0)
      (try rw [show 0 * 1 = 0 from rfl] at hw1138_0)
      (try rw [Addr.add_zero'] at hw1138_0)
      obtain rfl : ad1137 = ad1138 := (by injection e1138)
      have qi1138 : (0 < l2.length) = True := eq_true (by omega)
      (try rw [show ((0 : Int)).toNat = 0 from rfl] at hx1138_0)
      (try rw [Addr.add_zero'] at hx1138_0)
      replace hx1138_0 := (HB.out.cell (World.block_lt_of_cell? w _ hx1138_0)).trans hx1138_0
      replace p1138 := eq_true p1138
      replace q1138 := eq_true q1138
      refine start_ (n := 13) (S := fun w' => w'.cell? ⟨gb1129, 0, none⟩ = some (.int .u8 a0_0) ∧ w'.cell? ⟨gb1129, 1, none⟩ = some (.int .i64 a0_1) ∧ w'.cell? ⟨gb1129, 2, none⟩ = some (.int .i64 a0_2) ∧ w'.cell? ⟨gb1129, 3, none⟩ = some (.int .i64 a0_3) ∧ w'.cell? ⟨gb1129, 4, none⟩ = some (.int .i64 a0_4) ∧ w'.cell? ⟨gb1129, 5, none⟩ = some (.int .i64 a0_5) ∧ w'.cell? ⟨gb1129, 6, none⟩ = some (.slice A0_6 l0_6.length c0_6) ∧ w'.cell? ad1137 = some (.int .i64 (rd l2 0)) ∧ w'.cell? ad1137 = some (.int .i64 (rd l2 0))) (ds := []) #[false, false, false, false, false, false, false, false, false, false, false, false, false] (by kernel_rfl) rfl rfl ⟨(blk_cell BK1129.out 0).trans rfl, (blk_cell BK1129.out 1).trans rfl, (blk_cell BK1129.out 2).trans rfl, (blk_cell BK1129.out 3).trans rfl, (blk_cell BK1129.out 4).trans rfl, (blk_cell BK1129.out 5).trans rfl, (blk_cell BK1129.out 6).trans rfl, ((HB.out.cell (World.block_lt_of_cell? w _ hw1137_0)).trans hw1137_0), ((HB.out.cell (World.block_lt_of_cell? w _ hw1138_0)).trans hw1138_0)⟩ (fun hHeld => ?_); refine with_tabW sashref08_Path.tab6 sashref08_Path.bits6 (fun HT_ HW_ => ?_)
      generalize w39.drew = w40 at BK1129 HB hx1137_0 hx1138_0 hHeld ⊢
      refine pure_ (i := 0) (N := some 14) (v := ?_) (a' := ?_) #[true, false, false, false, false, false, false, false, false, false, false, false, false] rfl rfl (any_of HT_.out (by kernel_rfl)) (fun _ _ _ h => h) (Or.inl ⟨by rfl, ?_⟩) ?_ ?_
      rotate_left
      ·intro w'
       go_simp
       with_reducible rfl
      rotate_left
      ·simp only [Act.put, List.setIfInBounds_toArray, List.set_cons_zero, List.set_cons_succ, i64_w, i32_w]
       rfl
      refine pure_ (i := 1) (N := some 15) (v := ?_) (a' := ?_) #[true, true, false, false, false, false, false, false, false, false, false, false, false] rfl rfl (any_of HT_.out (by kernel_rfl)) (fun _ _ _ h => h) (Or.inl ⟨by rfl, ?_⟩) ?_ ?_
      rotate_left
      ·intro w'
       go_simp
       with_reducible rfl
      rotate_left
      ·simp only [Act.put, List.setIfInBounds_toArray, List.set_cons_zero, List.set_cons_succ, i64_w, i32_w]
       rfl
      refine take_ (i := 2) (N := some 16) (v := ?_) (a' := ?_) #[true, true, true, false, false, false, false, false, false, false, false, false, false] rfl rfl (take_ofW HT_.out HW_.out (by kernel_rfl)) (fun _ _ _ h => h) (Or.inl ⟨by rfl, ?_⟩) hHeld ?_ ?_
      rotate_left
      ·rintro w' ⟨s0, s1, s2, s3, s4, s5, s6, s7, s8⟩
       go_simp
       with_reducible rfl
      rotate_left
      ·simp only [Act.put, List.setIfInBounds_toArray, List.set_cons_zero, List.set_cons_succ, i64_w, i32_w]
       rfl
      refine pure_ (i := 3) (N := some 17) (v := ?_) (a' := ?_) #[true, true, true, true, false, false, false, false, false, false, false, false, false] rfl rfl (any_of HT_.out (by kernel_rfl)) (fun _ _ _ h => h) (Or.inl ⟨by rfl, ?_⟩) ?_ ?_
      rotate_left
      ·intro w'
       go_simp
       with_reducible rfl
      rotate_left
      ·simp only [Act.put, List.setIfInBounds_toArray, List.set_cons_zero, List.set_cons_succ, i64_w, i32_w]
       rfl
      refine pure_ (i := 4) (N := some 18) (v := ?_) (a' := ?_) #[true, true, true, true, true, false, false, false, false, false, false, false, false] rfl rfl (any_of HT_.out (by kernel_rfl)) (fun _ _ _ h => h) (Or.inl ⟨by rfl, ?_⟩) ?_ ?_
      rotate_left
      ·intro w'
       go_simp
       with_reducible rfl
      rotate_left
      ·simp only [Act.put, List.setIfInBounds_toArray, List.set_cons_zero, List.set_cons_succ, i64_w, i32_w]
       rfl
      refine pure_ (i := 5) (N := some 19) (v := ?_) (a' := ?_) #[true, true, true, true, true, true, false, false, false, false, false, false, false] rfl rfl (any_of HT_.out (by kernel_rfl)) (fun _ _ _ h => h) (Or.inl ⟨by rfl, ?_⟩) ?_ ?_
      rotate_left
      ·intro w'
       go_simp
       with_reducible rfl
      rotate_left
      ·simp only [Act.put, List.setIfInBounds_toArray, List.set_cons_zero, List.set_cons_succ, i64_w, i32_w]
       rfl
      refine pure_ (i := 6) (N := some 20) (v := ?_) (a' := ?_) #[true, true, true, true, true, true, true, false, false, false, false, false, false] rfl rfl (any_of HT_.out (by kernel_rfl)) (fun _ _ _ h => h) (Or.inl ⟨by rfl, ?_⟩) ?_ ?_
      rotate_left
      ·intro w'
       go_simp
       with_reducible rfl
      rotate_left
      ·simp only [Act.put, List.setIfInBounds_toArray, List.set_cons_zero, List.set_cons_succ, i64_w, i32_w]
       rfl
      refine pure_ (i := 8) (N := some 22) (v := ?_) (a' := ?_) #[true, true, true, true, true, true, true, false, true, false, false, false, false] rfl rfl (any_of HT_.out (by kernel_rfl)) (fun _ _ _ h => h) (Or.inl ⟨by rfl, ?_⟩) ?_ ?_
      rotate_left
      ·intro w'
       go_simp
       with_reducible rfl
      rotate_left
      ·simp only [Act.put, List.setIfInBounds_toArray, List.set_cons_zero, List.set_cons_succ, i64_w, i32_w]
       rfl
      refine take_ (i := 7) (N := some 21) (v := ?_) (a' := ?_) #[true, true, true, true, true, true, true, true, true, false, false, false, false] rfl rfl (take_ofW HT_.out HW_.out (by kernel_rfl)) (fun _ _ _ h => h) (Or.inl ⟨by rfl, ?_⟩) hHeld ?_ ?_
      rotate_left
      ·rintro w' ⟨s0, s1, s2, s3, s4, s5, s6, s7, s8⟩
       go_simp
       with_reducible rfl
      rotate_left
      ·simp only [Act.put, List.setIfInBounds_toArray, List.set_cons_zero, List.set_cons_succ, i64_w, i32_w]
       rfl
      refine take_ (i := 9) (N := some 23) (v := ?_) (a' := ?_) #[true, true, true, true, true, true, true, true, true, true, false, false, false] rfl rfl (take_ofW HT_.out HW_.out (by kernel_rfl)) (fun _ _ _ h => h) (Or.inl ⟨by rfl, ?_⟩) hHeld ?_ ?_
      rotate_left
      ·rintro w' ⟨s0, s1, s2, s3, s4, s5, s6, s7, s8⟩
       go_simp
       with_reducible rfl
      rotate_left
      ·simp only [Act.put, List.setIfInBounds_toArray, List.set_cons_zero, List.set_cons_succ, i64_w, i32_w]
       rfl
      refine pure_ (i := 10) (N := some 24) (v := ?_) (a' := ?_) #[true, true, true, true, true, true, true, true, true, true, true, false, false] rfl rfl (any_of HT_.out (by kernel_rfl)) (fun _ _ _ h => h) (Or.inl ⟨by rfl, ?_⟩) ?_ ?_
      rotate_left
      ·intro w'
       go_simp
       with_reducible rfl
      rotate_left
      ·simp only [Act.put, List.setIfInBounds_toArray, List.set_cons_zero, List.set_cons_succ, i64_w, i32_w]
       rfl
      refine pure_ (i := 11) (N := some 25) (v := ?_) (a' := ?_) #[true, true, true, true, true, true, true, true, true, true, true, true, false] rfl rfl (any_of HT_.out (by kernel_rfl)) (fun _ _ _ h => h) (Or.inl ⟨by rfl, ?_⟩) ?_ ?_
      rotate_left
      ·intro w'
       go_simp
       with_reducible rfl
      rotate_left
      ·simp only [Act.put, List.setIfInBounds_toArray, List.set_cons_zero, List.set_cons_succ, i64_w, i32_w]
       rfl
      refine pure_ (i := 12) (N := some 26) (v := ?_) (a' := ?_) #[true, true, true, true, true, true, true, true, true, true, true, true, true] rfl rfl (any_of HT_.out (by kernel_rfl)) (fun _ _ _ h => h) (Or.inl ⟨by rfl, ?_⟩) ?_ ?_
      rotate_left
      ·intro w'
       go_simp
       with_reducible rfl
      rotate_left
      ·simp only [Act.put, List.setIfInBounds_toArray, List.set_cons_zero, List.set_cons_succ, i64_w, i32_w]
       rfl
      refine done_ (done_of HT_.out (by kernel_rfl)) ?_
      try go_wp2
      go_ret
      exact ⟨by first | rfl | (simp [errW_none, errW_some] <;> rfl) | (simp [*, errW_none, errW_some] <;> rfl), by repeat (first | (with_reducible first | exact HB.out | apply below_alloc | apply pw_below_drewN | apply below_drew1 | refine below_set ?_ GE1129.out) | exact HB.out)⟩
     ·rw [if_neg c36] at H
      have c36b0 : decide ((l0_6.length : Int) ≤ (rd l2 0)) = false := decide_eq_false c36
      clear c36
      by_cases c41 : 0 ≤ (rd l2 0)
      ·rw [if_pos c41] at H
       have c41b0 : decide (0 ≤ (rd l2 0)) = true := decide_eq_true c41
       clear c41
       by_cases c42 : (rd l2 0) < (l0_6.length : Int)
       ·rw [if_pos c42] at H
        have c42b0 : decide ((rd l2 0) < (l0_6.length : Int)) = true := decide_eq_true c42
        clear c42
        by_cases c43 : 1 ≤ (l2.length : Int)
        ·rw [if_pos c43] at H
         have c43b0 := eq_true c43
         have c43b1 : decide (1 ≤ (l2.length : Int)) = true := decide_eq_true c43
         clear c43
         replace H := Option.bind_eq_some_iff.mp H
         obtain ⟨t1142, A440, H⟩ := H
         replace H : (some (wrap64 (0 + t1142))) = some r := H
         have A44 := Aside0.mk A440
         clear A440
         obtain rfl := Option.some.inj H
         go_enter Try.func101, Try.ntmps101
         try go_wp2_with (first | ((with_reducible refine gate_dst (N := 3) rfl ?_); (try (refine gate_guard (by rfl) ?_; dsimp only)); refine box_event ?hg (N := 3) ?hd (cs := #[.int .u8 a0_0, .int .i64 a0_1, .int .i64 a0_2, .int .i64 a0_3, .int .i64 a0_4, .int .i64 a0_5, .slice A0_6 l0_6.length c0_6]) (t := 26) ?hr ?_; (case hd => rfl); (case hg => rfl); (case hr => first | (go_simp; done) | (go_simp; rfl)); intro gb1129 hg w45 hbox hb; have n0_ := Aside0.mk (below_step (by repeat (first | (with_reducible first | exact HB.out | apply below_alloc | apply pw_below_drewN | apply below_drew1) | exact HB.out)) hb); have n1_ := Aside0.mk (hbox); have n2_ := Aside0.mk ((by rw [hg]; exact (below_size (by repeat (first | (with_reducible first | exact HB.out | apply below_alloc | apply pw_below_drewN | apply below_drew1) | exact HB.out))) : w.heap.size ≤ gb1129)); have n3_ := Aside0.mk ((by rw [hg]; exact (below_size (by repeat (first | (with_reducible first | exact HB.out | apply below_alloc | apply pw_below_drewN | apply below_drew1) | exact HB.out))) : w.heap.size ≤ gb1129)); clear HB; have HB := n0_; have BK1129 := n1_; have GW1129 := n2_; have GE1129 := n3_; clear n0_ n1_ n2_ n3_; clear hb hbox hg; have hcz46_0 : w45.cell? ⟨gb1129, 0, none⟩ = some (.int .u8 a0_0) := (blk_cell BK1129.out 0).trans rfl; have hcz46_1 : w45.cell? ⟨gb1129, 1, none⟩ = some (.int .i64 a0_1) := (blk_cell BK1129.out 1).trans rfl; have hcz46_2 : w45.cell? ⟨gb1129, 2, none⟩ = some (.int .i64 a0_2) := (blk_cell BK1129.out 2).trans rfl; have hcz46_3 : w45.cell? ⟨gb1129, 3, none⟩ = some (.int .i64 a0_3) := (blk_cell BK1129.out 3).trans rfl; have hcz46_4 : w45.cell? ⟨gb1129, 4, none⟩ = some (.int .i64 a0_4) := (blk_cell BK1129.out 4).trans rfl; have hcz46_5 : w45.cell? ⟨gb1129, 5, none⟩ = some (.int .i64 a0_5) := (blk_cell BK1129.out 5).trans rfl; have hcz46_6 : w45.cell? ⟨gb1129, 6, none⟩ = some (.slice A0_6 l0_6.length c0_6) := (blk_cell BK1129.out 6).trans rfl; have hfz46_0 := blk_frozen BK1129.out 0; have hfz46_1 := blk_frozen BK1129.out 1; have hfz46_2 := blk_frozen BK1129.out 2; have hfz46_3 := blk_frozen BK1129.out 3; have hfz46_4 := blk_frozen BK1129.out 4; have hfz46_5 := blk_frozen BK1129.out 5; have hfz46_6 := blk_frozen BK1129.out 6) | ((with_reducible refine gate_callee (f := 88) rfl ?_); refine goesL_ (some 13) rfl rfl Try.func88 (by kernel_rfl) rfl #[.agg #[.int .u8 a0_0, .int .i64 a0_1, .int .i64 a0_2, .int .i64 a0_3, .int .i64 a0_4, .int .i64 a0_5, .slice A0_6 l0_6.length c0_6], .int .u8 a1] rfl (by (try simp only [List.map_toArray, List.map_cons, List.map_nil]); first | done | rfl | (simp only [List.length_drop, List.length_take]; rfl)) ?_; (with_reducible refine (sashref08_Along.calls a0_0 a0_1 a0_2 a0_3 a0_4 a0_5 _ _ l0_6 a1 false _ ?side1 ?side2 A6.out).mono ?_); (case side1 => repeat (first | exact (Kd.C_below HR0_6.out HB.out) | (with_reducible refine Kd.C_alloc ?_ _) | (with_reducible refine Kd.C_drewN ?_ _) | (with_reducible refine Kd.C_drew ?_))); (case side2 => exact HC0_6.out); rintro e w47 ⟨rfl, hb⟩; refine ⟨_, rfl, ?_⟩; have n0_ := Aside0.mk (blk_below (g := gb1129) (o := .cells #[.int .u8 a0_0, .int .i64 a0_1, .int .i64 a0_2, .int .i64 a0_3, .int .i64 a0_4, .int .i64 a0_5, .slice A0_6 l0_6.length c0_6] 26 (0, 0)) (by (with_reducible repeat (first | refine blk_drewN ?_ _ | refine blk_drew ?_ | refine blk_alloc ?_ _)); exact BK1129.out) hb); have n1_ := Aside0.mk (below_step (by repeat (first | (with_reducible first | exact HB.out | apply below_alloc | apply pw_below_drewN | apply below_drew1 | refine below_set ?_ GE1129.out) | exact HB.out)) hb); clear BK1129; clear HB; have BK1129 := n0_; have HB := n1_; clear n0_ n1_; (try clear hb); (try clear hb2); (try clear hk); (try clear hi)))
         have n0_ := Aside0.mk (blk_drew BK1129.out)
         have n1_ := Aside0.mk (below_drew1 HB.out)
         clear BK1129
         clear HB
         have BK1129 := n0_
         have HB := n1_
         clear n0_ n1_
         have p1137 : 0 ≤ (0 : Int) := (by omega)
         have q1137 : 0 < (l2.length : Int) := of_decide_eq_true (by first | (with_reducible assumption) | assumption)
         obtain ⟨ad1137, e1137, hx1137_0⟩ := Kd.at_int HR2.out 0 p1137 q1137
         have hw1137_0 := hx1137_0
         (try rw [show ((0 : Int)).toNat = 0 from rfl] at hw1137_0)
         (try rw [show 0 * 1 = 0 from rfl] at hw1137_0)
         (try rw [Addr.add_zero'] at hw1137_0)
         cases e1137
         have qi1137 : (0 < l2.length) = True := eq_true (by omega)
         (try rw [show ((0 : Int)).toNat = 0 from rfl] at hx1137_0)
         (try rw [Addr.add_zero'] at hx1137_0)
         replace hx1137_0 := (HB.out.cell (World.block_lt_of_cell? w _ hx1137_0)).trans hx1137_0
         replace p1137 := eq_true p1137
         replace q1137 := eq_true q1137
         have p1138 : 0 ≤ (0 : Int) := (by omega)
         have q1138 : 0 < (l2.length : Int) := of_decide_eq_true (by first | (with_reducible assumption) | assumption)
         obtain ⟨ad1138, e1138, hx1138_0⟩ := Kd.at_int HR2.out 0 p1138 q1138
         have hw1138_0 := hx1138_0
         (try rw [show ((0 : Int)).toNat = 0 from rfl] at hw1138_0)
         (try rw [show 0 * 1 = 0 from rfl] at hw1138_0)
         (try rw [Addr.add_zero'] at hw1138_0)
         obtain rfl : ad1137 = ad1138 := (by injection e1138)
         have qi1138 : (0 < l2.length) = True := eq_true (by omega)
         (try rw [show ((0 : Int)).toNat = 0 from rfl] at hx1138_0)
         (try rw [Addr.add_zero'] at hx1138_0)
         replace hx1138_0 := (HB.out.cell (World.block_lt_of_cell? w _ hx1138_0)).trans hx1138_0
         replace p1138 := eq_true p1138
         replace q1138 := eq_true q1138
         refine start_ (n := 13) (S := fun w' => w'.cell? ⟨gb1129, 0, none⟩ = some (.int .u8 a0_0) ∧ w'.cell? ⟨gb1129, 1, none⟩ = some (.int .i64 a0_1) ∧ w'.cell? ⟨gb1129, 2, none⟩ = some (.int .i64 a0_2) ∧ w'.cell? ⟨gb1129, 3, none⟩ = some (.int .i64 a0_3) ∧ w'.cell? ⟨gb1129, 4, none⟩ = some (.int .i64 a0_4) ∧ w'.cell? ⟨gb1129, 5, none⟩ = some (.int .i64 a0_5) ∧ w'.cell? ⟨gb1129, 6, none⟩ = some (.slice A0_6 l0_6.length c0_6) ∧ w'.cell? ad1137 = some (.int .i64 (rd l2 0)) ∧ w'.cell? ad1137 = some (.int .i64 (rd l2 0))) (ds := []) #[false, false, false, false, false, false, false, false, false, false, false, false, false] (by kernel_rfl) rfl rfl ⟨(blk_cell BK1129.out 0).trans rfl, (blk_cell BK1129.out 1).trans rfl, (blk_cell BK1129.out 2).trans rfl, (blk_cell BK1129.out 3).trans rfl, (blk_cell BK1129.out 4).trans rfl, (blk_cell BK1129.out 5).trans rfl, (blk_cell BK1129.out 6).trans rfl, ((HB.out.cell (World.block_lt_of_cell? w _ hw1137_0)).trans hw1137_0), ((HB.out.cell (World.block_lt_of_cell? w _ hw1138_0)).trans hw1138_0)⟩ (fun hHeld => ?_); refine with_tabW sashref08_Path.tab6 sashref08_Path.bits6 (fun HT_ HW_ => ?_)
         generalize w47.drew = w48 at BK1129 HB hx1137_0 hx1138_0 hHeld ⊢
         refine pure_ (i := 0) (N := some 14) (v := ?_) (a' := ?_) #[true, false, false, false, false, false, false, false, false, false, false, false, false] rfl rfl (any_of HT_.out (by kernel_rfl)) (fun _ _ _ h => h) (Or.inl ⟨by rfl, ?_⟩) ?_ ?_
         rotate_left
         ·intro w'
          go_simp
          with_reducible rfl
         rotate_left
         ·simp only [Act.put, List.setIfInBounds_toArray, List.set_cons_zero, List.set_cons_succ, i64_w, i32_w]
          rfl
         refine pure_ (i := 1) (N := some 15) (v := ?_) (a' := ?_) #[true, true, false, false, false, false, false, false, false, false, false, false, false] rfl rfl (any_of HT_.out (by kernel_rfl)) (fun _ _ _ h => h) (Or.inl ⟨by rfl, ?_⟩) ?_ ?_
         rotate_left
         ·intro w'
          go_simp
          with_reducible rfl
         rotate_left
         ·simp only [Act.put, List.setIfInBounds_toArray, List.set_cons_zero, List.set_cons_succ, i64_w, i32_w]
          rfl
         refine take_ (i := 2) (N := some 16) (v := ?_) (a' := ?_) #[true, true, true, false, false, false, false, false, false, false, false, false, false] rfl rfl (take_ofW HT_.out HW_.out (by kernel_rfl)) (fun _ _ _ h => h) (Or.inl ⟨by rfl, ?_⟩) hHeld ?_ ?_
         rotate_left
         ·rintro w' ⟨s0, s1, s2, s3, s4, s5, s6, s7, s8⟩
          go_simp
          with_reducible rfl
         rotate_left
         ·simp only [Act.put, List.setIfInBounds_toArray, List.set_cons_zero, List.set_cons_succ, i64_w, i32_w]
          rfl
         refine pure_ (i := 3) (N := some 17) (v := ?_) (a' := ?_) #[true, true, true, true, false, false, false, false, false, false, false, false, false] rfl rfl (any_of HT_.out (by kernel_rfl)) (fun _ _ _ h => h) (Or.inl ⟨by rfl, ?_⟩) ?_ ?_
         rotate_left
         ·intro w'
          go_simp
          with_reducible rfl
         rotate_left
         ·simp only [Act.put, List.setIfInBounds_toArray, List.set_cons_zero, List.set_cons_succ, i64_w, i32_w]
          rfl
         refine pure_ (i := 4) (N := some 18) (v := ?_) (a' := ?_) #[true, true, true, true, true, false, false, false, false, false, false, false, false] rfl rfl (any_of HT_.out (by kernel_rfl)) (fun _ _ _ h => h) (Or.inl ⟨by rfl, ?_⟩) ?_ ?_
         rotate_left
         ·intro w'
          go_simp
          with_reducible rfl
         rotate_left
         ·simp only [Act.put, List.setIfInBounds_toArray, List.set_cons_zero, List.set_cons_succ, i64_w, i32_w]
          rfl
         refine pure_ (i := 5) (N := some 19) (v := ?_) (a' := ?_) #[true, true, true, true, true, true, false, false, false, false, false, false, false] rfl rfl (any_of HT_.out (by kernel_rfl)) (fun _ _ _ h => h) (Or.inl ⟨by rfl, ?_⟩) ?_ ?_
         rotate_left
         ·intro w'
          go_simp
          with_reducible rfl
         rotate_left
         ·simp only [Act.put, List.setIfInBounds_toArray, List.set_cons_zero, List.set_cons_succ, i64_w, i32_w]
          rfl
         refine pure_ (i := 6) (N := some 20) (v := ?_) (a' := ?_) #[true, true, true, true, true, true, true, false, false, false, false, false, false] rfl rfl (any_of HT_.out (by kernel_rfl)) (fun _ _ _ h => h) (Or.inl ⟨by rfl, ?_⟩) ?_ ?_
         rotate_left
         ·intro w'
          go_simp
          with_reducible rfl
         rotate_left
         ·simp only [Act.put, List.setIfInBounds_toArray, List.set_cons_zero, List.set_cons_succ, i64_w, i32_w]
          rfl
         refine pure_ (i := 8) (N := some 22) (v := ?_) (a' := ?_) #[true, true, true, true, true, true, true, false, true, false, false, false, false] rfl rfl (any_of HT_.out (by kernel_rfl)) (fun _ _ _ h => h) (Or.inl ⟨by rfl, ?_⟩) ?_ ?_
         rotate_left
         ·intro w'
          go_simp
          with_reducible rfl
         rotate_left
         ·simp only [Act.put, List.setIfInBounds_toArray, List.set_cons_zero, List.set_cons_succ, i64_w, i32_w]
          rfl
         refine take_ (i := 7) (N := some 21) (v := ?_) (a' := ?_) #[true, true, true, true, true, true, true, true, true, false, false, false, false] rfl rfl (take_ofW HT_.out HW_.out (by kernel_rfl)) (fun _ _ _ h => h) (Or.inl ⟨by rfl, ?_⟩) hHeld ?_ ?_
         rotate_left
         ·rintro w' ⟨s0, s1, s2, s3, s4, s5, s6, s7, s8⟩
          go_simp
          with_reducible rfl
         rotate_left
         ·simp only [Act.put, List.setIfInBounds_toArray, List.set_cons_zero, List.set_cons_succ, i64_w, i32_w]
          rfl
         refine take_ (i := 9) (N := some 23) (v := ?_) (a' := ?_) #[true, true, true, true, true, true, true, true, true, true, false, false, false] rfl rfl (take_ofW HT_.out HW_.out (by kernel_rfl)) (fun _ _ _ h => h) (Or.inl ⟨by rfl, ?_⟩) hHeld ?_ ?_
         rotate_left
         ·rintro w' ⟨s0, s1, s2, s3, s4, s5, s6, s7, s8⟩
          go_simp
          with_reducible rfl
         rotate_left
         ·simp only [Act.put, List.setIfInBounds_toArray, List.set_cons_zero, List.set_cons_succ, i64_w, i32_w]
          rfl
         refine pure_ (i := 10) (N := some 24) (v := ?_) (a' := ?_) #[true, true, true, true, true, true, true, true, true, true, true, false, false] rfl rfl (any_of HT_.out (by kernel_rfl)) (fun _ _ _ h => h) (Or.inl ⟨by rfl, ?_⟩) ?_ ?_
         rotate_left
         ·intro w'
          go_simp
          with_reducible rfl
         rotate_left
         ·simp only [Act.put, List.setIfInBounds_toArray, List.set_cons_zero, List.set_cons_succ, i64_w, i32_w]
          rfl
         refine pure_ (i := 11) (N := some 25) (v := ?_) (a' := ?_) #[true, true, true, true, true, true, true, true, true, true, true, true, false] rfl rfl (any_of HT_.out (by kernel_rfl)) (fun _ _ _ h => h) (Or.inl ⟨by rfl, ?_⟩) ?_ ?_
         rotate_left
         ·intro w'
          go_simp
          with_reducible rfl
         rotate_left
         ·simp only [Act.put, List.setIfInBounds_toArray, List.set_cons_zero, List.set_cons_succ, i64_w, i32_w]
          rfl
         refine pure_ (i := 12) (N := some 26) (v := ?_) (a' := ?_) #[true, true, true, true, true, true, true, true, true, true, true, true, true] rfl rfl (any_of HT_.out (by kernel_rfl)) (fun _ _ _ h => h) (Or.inl ⟨by rfl, ?_⟩) ?_ ?_
         rotate_left
         ·intro w'
          go_simp
          with_reducible rfl
         rotate_left
         ·simp only [Act.put, List.setIfInBounds_toArray, List.set_cons_zero, List.set_cons_succ, i64_w, i32_w]
          rfl
         refine done_ (done_of HT_.out (by kernel_rfl)) ?_
         try go_wp2
         have n0_ := Aside0.mk (blk_drew BK1129.out)
         have n1_ := Aside0.mk (below_drew1 HB.out)
         clear BK1129
         clear HB
         have BK1129 := n0_
         have HB := n1_
         clear n0_ n1_
         have p1139 : 0 ≤ (0 : Int) := (by omega)
         have q1139 : 0 < (l2.length : Int) := of_decide_eq_true (by first | (with_reducible assumption) | assumption)
         obtain ⟨ad1139, e1139, hx1139_0⟩ := Kd.at_int HR2.out 0 p1139 q1139
         have hw1139_0 := hx1139_0
         (try rw [show ((0 : Int)).toNat = 0 from rfl] at hw1139_0)
         (try rw [show 0 * 1 = 0 from rfl] at hw1139_0)
         (try rw [Addr.add_zero'] at hw1139_0)
         obtain rfl : ad1137 = ad1139 := (by injection e1139)
         have qi1139 : (0 < l2.length) = True := eq_true (by omega)
         (try rw [show ((0 : Int)).toNat = 0 from rfl] at hx1139_0)
         (try rw [Addr.add_zero'] at hx1139_0)
         replace hx1139_0 := (HB.out.cell (World.block_lt_of_cell? w _ hx1139_0)).trans hx1139_0
         replace p1139 := eq_true p1139
         replace q1139 := eq_true q1139
         have p1140 : 0 ≤ ((rd l2 0) : Int) := of_decide_eq_true (by first | (with_reducible assumption) | assumption)
         have q1140 : (rd l2 0) < (l0_6.length : Int) := of_decide_eq_true (by first | (with_reducible assumption) | assumption)
         obtain ⟨ad1140, A1140_6, c1140_6, e1140, hx1140_0, hx1140_1, hx1140_2, hx1140_3, hx1140_4, hx1140_5, hx1140_6, hl1140_6, hi1140_6⟩ := at_T26 HR0_6.out (rd l2 0) p1140 q1140
         have hw1140_6 := hx1140_6
         have hw1140_5 := hx1140_5
         have hw1140_4 := hx1140_4
         have hw1140_3 := hx1140_3
         have hw1140_2 := hx1140_2
         have hw1140_1 := hx1140_1
         have hw1140_0 := hx1140_0
         cases e1140
         replace hx1140_0 := (HB.out.cell (World.block_lt_of_cell? w _ hx1140_0)).trans hx1140_0
         replace hx1140_1 := (HB.out.cell (World.block_lt_of_cell? w _ hx1140_1)).trans hx1140_1
         replace hx1140_2 := (HB.out.cell (World.block_lt_of_cell? w _ hx1140_2)).trans hx1140_2
         replace hx1140_3 := (HB.out.cell (World.block_lt_of_cell? w _ hx1140_3)).trans hx1140_3
         replace hx1140_4 := (HB.out.cell (World.block_lt_of_cell? w _ hx1140_4)).trans hx1140_4
         replace hx1140_5 := (HB.out.cell (World.block_lt_of_cell? w _ hx1140_5)).trans hx1140_5
         replace hx1140_6 := (HB.out.cell (World.block_lt_of_cell? w _ hx1140_6)).trans hx1140_6
         have HR1140_6 := Aside0.mk hi1140_6
         have HC1140_6 := Aside0.mk hl1140_6
         clear hi1140_6 hl1140_6
         replace p1140 := eq_true p1140
         replace q1140 := eq_true q1140
         obtain ⟨i050, hi050, _, hsz50, _⟩ := info_parts info3
         obtain ⟨A50, hcut50, hA50, hC50⟩ := print_drop_of (P := Try.prog) (Value.int .i64) 0 41 3 .i64 Try.underlying41 hi050 hsz50 (some ad1137) c2 l2 1 (by omega) (of_decide_eq_true (by first | (with_reducible assumption) | assumption)) HC2.out
         have HR1141 := Aside0.mk (Kd.C_of_reads (h1 := fun _ => rfl) (hA50 _ (Kd.reads_of_C HR2.out)))
         have HC1141 := Aside0.mk hC50
         clear hA50 hC50 hi050 hsz50
         refine start_ (n := 14) (S := fun w' => w'.cell? ⟨gb1129, 0, none⟩ = some (.int .u8 a0_0) ∧ w'.cell? ⟨gb1129, 1, none⟩ = some (.int .i64 a0_1) ∧ w'.cell? ⟨gb1129, 2, none⟩ = some (.int .i64 a0_2) ∧ w'.cell? ⟨gb1129, 3, none⟩ = some (.int .i64 a0_3) ∧ w'.cell? ⟨gb1129, 4, none⟩ = some (.int .i64 a0_4) ∧ w'.cell? ⟨gb1129, 5, none⟩ = some (.int .i64 a0_5) ∧ w'.cell? ⟨gb1129, 6, none⟩ = some (.slice (some ad1140) l0_6.length c0_6) ∧ w'.cell? ad1137 = some (.int .i64 (rd l2 0)) ∧ w'.cell? (ad1140.add (((rd l2 0)).toNat * 7)) = some (.int .u8 ((rd_T26 l0_6 (rd l2 0)).f0)) ∧ w'.cell? ⟨(ad1140.add (((rd l2 0)).toNat * 7)).block, (ad1140.add (((rd l2 0)).toNat * 7)).off + 1, none⟩ = some (.int .i64 ((rd_T26 l0_6 (rd l2 0)).f1.f0)) ∧ w'.cell? ⟨(ad1140.add (((rd l2 0)).toNat * 7)).block, (ad1140.add (((rd l2 0)).toNat * 7)).off + 2, none⟩ = some (.int .i64 ((rd_T26 l0_6 (rd l2 0)).f1.f1)) ∧ w'.cell? ⟨(ad1140.add (((rd l2 0)).toNat * 7)).block, (ad1140.add (((rd l2 0)).toNat * 7)).off + 3, none⟩ = some (.int .i64 ((rd_T26 l0_6 (rd l2 0)).f1.f2)) ∧ w'.cell? ⟨(ad1140.add (((rd l2 0)).toNat * 7)).block, (ad1140.add (((rd l2 0)).toNat * 7)).off + 4, none⟩ = some (.int .i64 ((rd_T26 l0_6 (rd l2 0)).f1.f3)) ∧ w'.cell? ⟨(ad1140.add (((rd l2 0)).toNat * 7)).block, (ad1140.add (((rd l2 0)).toNat * 7)).off + 5, none⟩ = some (.int .i64 ((rd_T26 l0_6 (rd l2 0)).f2)) ∧ w'.cell? ⟨(ad1140.add (((rd l2 0)).toNat * 7)).block, (ad1140.add (((rd l2 0)).toNat * 7)).off + 6, none⟩ = some (.slice A1140_6 ((rd_T26 l0_6 (rd l2 0)).f3).length c1140_6)) (ds := []) #[false, false, false, false, false, false, false, false, false, false, false, false, false, false] (by kernel_rfl) rfl rfl ⟨(blk_cell BK1129.out 0).trans rfl, (blk_cell BK1129.out 1).trans rfl, (blk_cell BK1129.out 2).trans rfl, (blk_cell BK1129.out 3).trans rfl, (blk_cell BK1129.out 4).trans rfl, (blk_cell BK1129.out 5).trans rfl, (blk_cell BK1129.out 6).trans rfl, ((HB.out.cell (World.block_lt_of_cell? w _ hw1139_0)).trans hw1139_0), ((HB.out.cell (World.block_lt_of_cell? w _ hw1140_0)).trans hw1140_0), ((HB.out.cell (World.block_lt_of_cell? w _ hw1140_1)).trans hw1140_1), ((HB.out.cell (World.block_lt_of_cell? w _ hw1140_2)).trans hw1140_2), ((HB.out.cell (World.block_lt_of_cell? w _ hw1140_3)).trans hw1140_3), ((HB.out.cell (World.block_lt_of_cell? w _ hw1140_4)).trans hw1140_4), ((HB.out.cell (World.block_lt_of_cell? w _ hw1140_5)).trans hw1140_5), ((HB.out.cell (World.block_lt_of_cell? w _ hw1140_6)).trans hw1140_6)⟩ (fun hHeld => ?_); refine with_tabW sashref08_Path.tab8 sashref08_Path.bits8 (fun HT_ HW_ => ?_)
         generalize w48.drew = w49 at BK1129 HB HR1140_6 HR1141 hx1139_0 hx1140_0 hx1140_1 hx1140_2 hx1140_3 hx1140_4 hx1140_5 hx1140_6 hHeld ⊢
         refine pure_ (i := 0) (N := some 28) (v := ?_) (a' := ?_) #[true, false, false, false, false, false, false, false, false, false, false, false, false, false] rfl rfl (any_of HT_.out (by kernel_rfl)) (fun _ _ _ h => h) (Or.inl ⟨by rfl, ?_⟩) ?_ ?_
         rotate_left
         ·intro w'
          go_simp
          with_reducible rfl
         rotate_left
         ·simp only [Act.put, List.setIfInBounds_toArray, List.set_cons_zero, List.set_cons_succ, i64_w, i32_w]
          rfl
         refine pure_ (i := 1) (N := some 29) (v := ?_) (a' := ?_) #[true, true, false, false, false, false, false, false, false, false, false, false, false, false] rfl rfl (any_of HT_.out (by kernel_rfl)) (fun _ _ _ h => h) (Or.inl ⟨by rfl, ?_⟩) ?_ ?_
         rotate_left
         ·intro w'
          go_simp
          with_reducible rfl
         rotate_left
         ·simp only [Act.put, List.setIfInBounds_toArray, List.set_cons_zero, List.set_cons_succ, i64_w, i32_w]
          rfl
         refine pure_ (i := 3) (N := some 31) (v := ?_) (a' := ?_) #[true, true, false, true, false, false, false, false, false, false, false, false, false, false] rfl rfl (any_of HT_.out (by kernel_rfl)) (fun _ _ _ h => h) (Or.inl ⟨by rfl, ?_⟩) ?_ ?_
         rotate_left
         ·intro w'
          go_simp
          with_reducible rfl
         rotate_left
         ·simp only [Act.put, List.setIfInBounds_toArray, List.set_cons_zero, List.set_cons_succ, i64_w, i32_w]
          rfl
         refine pure_ (i := 4) (N := some 32) (v := ?_) (a' := ?_) #[true, true, false, true, true, false, false, false, false, false, false, false, false, false] rfl rfl (any_of HT_.out (by kernel_rfl)) (fun _ _ _ h => h) (Or.inl ⟨by rfl, ?_⟩) ?_ ?_
         rotate_left
         ·intro w'
          go_simp
          with_reducible rfl
         rotate_left
         ·simp only [Act.put, List.setIfInBounds_toArray, List.set_cons_zero, List.set_cons_succ, i64_w, i32_w]
          rfl
         refine pure_ (i := 8) (N := some 36) (v := ?_) (a' := ?_) #[true, true, false, true, true, false, false, false, true, false, false, false, false, false] rfl rfl (any_of HT_.out (by kernel_rfl)) (fun _ _ _ h => h) (Or.inl ⟨by rfl, ?_⟩) ?_ ?_
         rotate_left
         ·intro w'
          go_simp
          with_reducible rfl
         rotate_left
         ·simp only [Act.put, List.setIfInBounds_toArray, List.set_cons_zero, List.set_cons_succ, i64_w, i32_w]
          rfl
         refine pure_ (i := 9) (N := some 37) (v := ?_) (a' := ?_) #[true, true, false, true, true, false, false, false, true, true, false, false, false, false] rfl rfl (any_of HT_.out (by kernel_rfl)) (fun _ _ _ h => h) (Or.inl ⟨by rfl, ?_⟩) ?_ ?_
         rotate_left
         ·intro w'
          go_simp
          with_reducible rfl
         rotate_left
         ·simp only [Act.put, List.setIfInBounds_toArray, List.set_cons_zero, List.set_cons_succ, i64_w, i32_w]
          rfl
         refine pure_ (i := 10) (N := some 38) (v := ?_) (a' := ?_) #[true, true, false, true, true, false, false, false, true, true, true, false, false, false] rfl rfl (any_of HT_.out (by kernel_rfl)) (fun _ _ _ h => h) (Or.inl ⟨by rfl, ?_⟩) ?_ ?_
         rotate_left
         ·intro w'
          go_simp
          with_reducible rfl
         rotate_left
         ·simp only [Act.put, List.setIfInBounds_toArray, List.set_cons_zero, List.set_cons_succ, i64_w, i32_w]
          rfl
         refine take_ (i := 2) (N := some 30) (v := ?_) (a' := ?_) #[true, true, true, true, true, false, false, false, true, true, true, false, false, false] rfl rfl (take_ofW HT_.out HW_.out (by kernel_rfl)) (fun _ _ _ h => h) (Or.inl ⟨by rfl, ?_⟩) hHeld ?_ ?_
         rotate_left
         ·rintro w' ⟨s0, s1, s2, s3, s4, s5, s6, s7, s8, s9, s10, s11, s12, s13, s14⟩
          go_simp
          with_reducible rfl
         rotate_left
         ·simp only [Act.put, List.setIfInBounds_toArray, List.set_cons_zero, List.set_cons_succ, i64_w, i32_w]
          rfl
         refine take_ (i := 5) (N := some 33) (v := ?_) (a' := ?_) #[true, true, true, true, true, true, false, false, true, true, true, false, false, false] rfl rfl (take_ofW HT_.out HW_.out (by kernel_rfl)) (fun _ _ _ h => h) (Or.inl ⟨by rfl, ?_⟩) hHeld ?_ ?_
         rotate_left
         ·rintro w' ⟨s0, s1, s2, s3, s4, s5, s6, s7, s8, s9, s10, s11, s12, s13, s14⟩
          go_simp
          with_reducible rfl
         rotate_left
         ·simp only [Act.put, List.setIfInBounds_toArray, List.set_cons_zero, List.set_cons_succ, i64_w, i32_w]
          rfl
         refine pure_ (i := 6) (N := some 34) (v := ?_) (a' := ?_) #[true, true, true, true, true, true, true, false, true, true, true, false, false, false] rfl rfl (any_of HT_.out (by kernel_rfl)) (fun _ _ _ h => h) (Or.inl ⟨by rfl, ?_⟩) ?_ ?_
         rotate_left
         ·intro w'
          go_simp
          with_reducible rfl
         rotate_left
         ·simp only [Act.put, List.setIfInBounds_toArray, List.set_cons_zero, List.set_cons_succ, i64_w, i32_w]
          rfl
         refine take_ (i := 7) (N := some 35) (v := ?_) (a' := ?_) #[true, true, true, true, true, true, true, true, true, true, true, false, false, false] rfl rfl (take_ofW HT_.out HW_.out (by kernel_rfl)) (fun _ _ _ h => h) (Or.inl ⟨by rfl, ?_⟩) hHeld ?_ ?_
         rotate_left
         ·rintro w' ⟨s0, s1, s2, s3, s4, s5, s6, s7, s8, s9, s10, s11, s12, s13, s14⟩
          go_simp
          with_reducible rfl
         rotate_left
         ·simp only [Act.put, List.setIfInBounds_toArray, List.set_cons_zero, List.set_cons_succ, i64_w, i32_w]
          rfl
         refine one_ (i := 11) (N := some 39) #[true, true, true, true, true, true, true, true, true, true, true, true, false, false] rfl rfl (one_of HT_.out (by kernel_rfl)) (by decide) (fun K hK => ?_)
         refine goes_ Try.func101 (by kernel_rfl) rfl #[.agg #[.int .u8 ((rd_T26 l0_6 (rd l2 0)).f0), .int .i64 ((rd_T26 l0_6 (rd l2 0)).f1.f0), .int .i64 ((rd_T26 l0_6 (rd l2 0)).f1.f1), .int .i64 ((rd_T26 l0_6 (rd l2 0)).f1.f2), .int .i64 ((rd_T26 l0_6 (rd l2 0)).f1.f3), .int .i64 ((rd_T26 l0_6 (rd l2 0)).f2), .slice A1140_6 ((rd_T26 l0_6 (rd l2 0)).f3).length c1140_6], .int .u8 a1, .slice A50 (l2.drop 1).length (c2 - 1)] (by rfl) rfl rfl (by (try simp only [List.map_toArray, List.map_cons, List.map_nil]); first | done | (rw [show (l2.drop 1).length = (l2.length - 1) from List.length_drop] <;> rfl) | rfl | (simp only [List.length_drop, List.length_take]; rfl)) ?_
         with_reducible refine (ih k (by omega) ((rd_T26 l0_6 (rd l2 0)).f0) ((rd_T26 l0_6 (rd l2 0)).f1.f0) ((rd_T26 l0_6 (rd l2 0)).f1.f1) ((rd_T26 l0_6 (rd l2 0)).f1.f2) ((rd_T26 l0_6 (rd l2 0)).f1.f3) ((rd_T26 l0_6 (rd l2 0)).f2) _ _ ((rd_T26 l0_6 (rd l2 0)).f3) a1 _ _ (l2.drop 1) t1142 _ ?side1 ?side2 ?side3 ?side4 A44.out).mono ?_
         (case side1 => repeat (first | exact (Kd.C_below HR1140_6.out HB.out) | (with_reducible refine Kd.C_alloc ?_ _) | (with_reducible refine Kd.C_drewN ?_ _) | (with_reducible refine Kd.C_drew ?_)))
         (case side2 => exact HC1140_6.out)
         (case side3 => repeat (first | exact (Kd.C_below HR1141.out HB.out) | (with_reducible refine Kd.C_alloc ?_ _) | (with_reducible refine Kd.C_drewN ?_ _) | (with_reducible refine Kd.C_drew ?_)))
         (case side4 => exact HC1141.out)
         rintro e w51 ⟨rfl, hb⟩
         refine ⟨_, rfl, ?_⟩
         have n0_ := Aside0.mk (blk_below (g := gb1129) (o := .cells #[.int .u8 a0_0, .int .i64 a0_1, .int .i64 a0_2, .int .i64 a0_3, .int .i64 a0_4, .int .i64 a0_5, .slice (some ad1140) l0_6.length c0_6] 26 (0, 0)) (by (with_reducible repeat (first | refine blk_drewN ?_ _ | refine blk_drew ?_ | refine blk_alloc ?_ _)); exact BK1129.out) hb)
         have n1_ := Aside0.mk (below_step (by repeat (first | (with_reducible first | exact HB.out | apply below_alloc | apply pw_below_drewN | apply below_drew1 | refine below_set ?_ GE1129.out) | exact HB.out)) hb)
         clear BK1129
         clear HB
         have BK1129 := n0_
         have HB := n1_
         clear n0_ n1_
         (try clear hb)
         (try clear hb2)
         (try clear hk)
         (try clear hi)
         refine hK.out _ _ ⟨(blk_cell BK1129.out 0).trans rfl, (blk_cell BK1129.out 1).trans rfl, (blk_cell BK1129.out 2).trans rfl, (blk_cell BK1129.out 3).trans rfl, (blk_cell BK1129.out 4).trans rfl, (blk_cell BK1129.out 5).trans rfl, (blk_cell BK1129.out 6).trans rfl, ((HB.out.cell (World.block_lt_of_cell? w _ hw1139_0)).trans hw1139_0), ((HB.out.cell (World.block_lt_of_cell? w _ hw1140_0)).trans hw1140_0), ((HB.out.cell (World.block_lt_of_cell? w _ hw1140_1)).trans hw1140_1), ((HB.out.cell (World.block_lt_of_cell? w _ hw1140_2)).trans hw1140_2), ((HB.out.cell (World.block_lt_of_cell? w _ hw1140_3)).trans hw1140_3), ((HB.out.cell (World.block_lt_of_cell? w _ hw1140_4)).trans hw1140_4), ((HB.out.cell (World.block_lt_of_cell? w _ hw1140_5)).trans hw1140_5), ((HB.out.cell (World.block_lt_of_cell? w _ hw1140_6)).trans hw1140_6)⟩ (fun hHeld => ?_)
         clear hK K
         refine norm_ (a' := ?_) ?_ ?_
         rotate_left
         ·show Act.put _ (some 39) _ = _
          simp only [Act.put, List.setIfInBounds_toArray, List.set_cons_zero, List.set_cons_succ, i64_w, i32_w]
          rfl
         refine pure_ (i := 12) (N := some 40) (v := ?_) (a' := ?_) #[true, true, true, true, true, true, true, true, true, true, true, true, true, false] rfl rfl (any_of HT_.out (by kernel_rfl)) (fun _ _ _ h => h) (Or.inl ⟨by rfl, ?_⟩) ?_ ?_
         rotate_left
         ·intro w'
          go_simp
          with_reducible rfl
         rotate_left
         ·simp only [Act.put, List.setIfInBounds_toArray, List.set_cons_zero, List.set_cons_succ, i64_w, i32_w]
          rfl
         refine pure_ (i := 13) (N := some 6) (v := ?_) (a' := ?_) #[true, true, true, true, true, true, true, true, true, true, true, true, true, true] rfl rfl (any_of HT_.out (by kernel_rfl)) (fun _ _ _ h => h) (Or.inl ⟨by rfl, ?_⟩) ?_ ?_
         rotate_left
         ·intro w'
          go_simp
          with_reducible rfl
         rotate_left
         ·simp only [Act.put, List.setIfInBounds_toArray, List.set_cons_zero, List.set_cons_succ, i64_w, i32_w]
          rfl
         refine done_ (done_of HT_.out (by kernel_rfl)) ?_
         try go_wp2
         go_ret
         exact ⟨by first | rfl | (simp [errW_none, errW_some] <;> rfl) | (simp [*, errW_none, errW_some] <;> rfl), by repeat (first | (with_reducible first | exact HB.out | apply below_alloc | apply pw_below_drewN | apply below_drew1 | refine below_set ?_ GE1129.out) | exact HB.out)⟩
        ·rw [if_neg c43] at H
         exact absurd H (by simp)
       ·rw [if_neg c42] at H
        exact absurd H (by simp)
      ·rw [if_neg c41] at H
       exact absurd H (by simp)
   ·rw [if_neg c30] at H
    exact absurd H (by simp)

end Go.Proofs.Ytfdmfgaiblfbhaa.P
