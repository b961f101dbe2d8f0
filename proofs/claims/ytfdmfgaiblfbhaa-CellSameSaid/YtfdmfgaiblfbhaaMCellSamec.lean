/- CellSame: part 3 of 5 of this claim's texts, one behind the other. The words of the kit's printer stand in it cut down, by a program, to those that are used. -/
import Derived.Test.YtfdmfgaiblfbhaaProg
import Derived.Below
import Derived.Deep.Draws
import Derived.Deep.AppendLies
import Derived.Maps.AppendAt
import Derived.OwnWalk
import Derived.Laws.BytesArg
import Derived.Laws.MakeOwn
import Derived.Laws.OwnMore
import Derived.Deep.OwnRows
import Derived.Tactics
import Derived.Lib.ConvBytes
import Derived.Laws.Slices
import Derived.WalkKit
import Derived.KernelRfl
import Derived.RowKit3
import Derived.Deep.LoopGhost
import Derived.Deep.QuietTactic
import Derived.BigQuiet
import Derived.WideLaws
import Derived.Deep.DeepCutAuto
import Derived.Deep.CutBlock
import Derived.Deep.RegionHeld3
import Derived.Laws.Rows
import Derived.Lib.AppendStr
import Derived.ArgAppend
import Derived.Laws.IdiomCopy
import Derived.OrdersHeld
import Derived.Laws.BitsLemmas
import Derived.RowKit
import Derived.Test.YtfdmfgaiblfbhaaMCellSamea
import Derived.Test.YtfdmfgaiblfbhaaMCellSameb
import Derived.Shelf.Spec.SlicesInsert
import Derived.Shelf.Spec.SlicesInsertGrow
import Derived.Lib.Hide
namespace Go.Proofs.Ytfdmfgaiblfbhaa.P
open Go.RowKit Go.Proofs.YtfdmfgaiblfbhaaW.PrintWords Go.Proofs.YtfdmfgaiblfbhaaW.PrintLast Go.Proofs.YtfdmfgaiblfbhaaW.PrintMore
attribute [local go_sem] max2_int min2_int max_two min_two max_three min_three max_four min_four   -- for this text's walks alone
set_option linter.unusedVariables false
set_option linter.unusedSimpArgs false



def errW : Option Int → Value
  | none => .nilIface
  | some c => .iface 0 (.int .i64 c)
theorem errW_none : errW none = .nilIface := rfl
theorem errW_some (c : Int) : errW (some c) = .iface 0 (.int .i64 c) := rfl

theorem info26 : (Try.prog.info? 26).map (fun i => (i.zero, i.size, i.bytes)) = some (some (.agg #[(.int .u8 0), (.int .i64 0), (.int .i64 0), (.int .i64 0), (.int .i64 0), (.int .i64 0), (.slice none 0 0)]), 7, 72) := by kernel_rfl
-- the values' own types
/-! #### struct type 23 -/
structure S23 where
  f0 : Int
  f1 : Int
  f2 : Int
  f3 : Int
def z23 : S23 := ⟨(0 : Int), (0 : Int), (0 : Int), (0 : Int)⟩
def k23 : Kd S23 := Kd.iso (Kd.pair (Kd.int .i64) (Kd.pair (Kd.int .i64) (Kd.pair (Kd.int .i64) (Kd.int .i64)))) (fun x : S23 => (x.f0, x.f1, x.f2, x.f3))
theorem k23_heap : Kd.Heap k23 := Kd.heap_iso _ (Kd.heap_pair (Kd.heap_int .i64) (Kd.heap_pair (Kd.heap_int .i64) (Kd.heap_pair (Kd.heap_int .i64) (Kd.heap_int .i64))))
theorem k23_open {w : World} {x : S23} {cs : List Value} (h : k23.K w x cs) : cs = [.int .i64 x.f0, .int .i64 x.f1, .int .i64 x.f2, .int .i64 x.f3] := by
  obtain ⟨_, _, rfl, rfl, ⟨_, _, rfl, rfl, ⟨_, _, rfl, rfl, rfl⟩⟩⟩ := h
  exact rfl
theorem k23_mk (w : World) (x : S23)  : k23.K w x [.int .i64 x.f0, .int .i64 x.f1, .int .i64 x.f2, .int .i64 x.f3] := ⟨[.int .i64 x.f0], [.int .i64 x.f1, .int .i64 x.f2, .int .i64 x.f3], rfl, rfl, ⟨[.int .i64 x.f1], [.int .i64 x.f2, .int .i64 x.f3], rfl, rfl, ⟨[.int .i64 x.f2], [.int .i64 x.f3], rfl, rfl, rfl⟩⟩⟩
theorem k23_mkM (w : World) (base : Nat) (ok : Nat → Prop) (x : S23)  : k23.M w base ok x [.int .i64 x.f0, .int .i64 x.f1, .int .i64 x.f2, .int .i64 x.f3] := ⟨[.int .i64 x.f0], [.int .i64 x.f1, .int .i64 x.f2, .int .i64 x.f3], rfl, rfl, ⟨[.int .i64 x.f1], [.int .i64 x.f2, .int .i64 x.f3], rfl, rfl, ⟨[.int .i64 x.f2], [.int .i64 x.f3], rfl, rfl, rfl⟩⟩⟩
def rd_T23 (xs : List S23) (i : Int) : S23 := xs.getD i.toNat z23
theorem at_T23 {w : World} {A : Option Addr} {n : Nat} {xs : List S23} (h : Kd.C k23 w A n xs) (i : Int) (h0 : 0 ≤ i) (h1 : i < n) : ∃ ad , A = some ad ∧ w.cell? (ad.add (i.toNat * 4)) = some (.int .i64 (rd_T23 xs i).f0) ∧ w.cell? ⟨(ad.add (i.toNat * 4)).block, (ad.add (i.toNat * 4)).off + 1, none⟩ = some (.int .i64 (rd_T23 xs i).f1) ∧ w.cell? ⟨(ad.add (i.toNat * 4)).block, (ad.add (i.toNat * 4)).off + 2, none⟩ = some (.int .i64 (rd_T23 xs i).f2) ∧ w.cell? ⟨(ad.add (i.toNat * 4)).block, (ad.add (i.toNat * 4)).off + 3, none⟩ = some (.int .i64 (rd_T23 xs i).f3) := by
  obtain ⟨ad, c, e, _, hK, hc0⟩ := Kd.C_get h z23 i h0 h1
  have hc : ∀ j u, c[j]? = some u → w.cell? (ad.add (i.toNat * 4 + j)) = some u := hc0
  obtain rfl := k23_open hK
  exact ⟨ad, e, hc 0 _ rfl, by rw [← add_field _ _ 1 (by omega)]; exact hc 1 _ rfl, by rw [← add_field _ _ 2 (by omega)]; exact hc 2 _ rfl, by rw [← add_field _ _ 3 (by omega)]; exact hc 3 _ rfl⟩

/-! #### struct type 26, nested in itself -/
structure S26 where
  f0 : Int
  f1 : S23
  f2 : Int
  f3 : (List S26)
def z26 : S26 := ⟨(0 : Int), z23, (0 : Int), ([] : List S26)⟩
def F26 (d : Kd S26) : Kd S26 := Kd.iso (Kd.pair (Kd.int .u8) (Kd.pair k23 (Kd.pair (Kd.int .i64) (Kd.slice 26 d)))) (fun x : S26 => (x.f0, x.f1, x.f2, x.f3))
theorem mono26 : Kd.Mono F26 := Kd.mono_iso _ (Kd.mono_pair (Kd.mono_const _) (Kd.mono_pair (Kd.mono_const _) (Kd.mono_pair (Kd.mono_const _) (Kd.mono_slice 26 Kd.mono_id))))
theorem sub26 : Kd.Sub F26 [26] := Kd.sub_iso _ (Kd.sub_pair (Kd.sub_const _ (by decide)) (Kd.sub_pair (Kd.sub_const _ (by decide)) (Kd.sub_pair (Kd.sub_const _ (by decide)) (Kd.sub_slice 26 (by decide) Kd.sub_id))))
theorem sz26 : ∀ n, (Kd.upto F26 7 [26] n).sz = 7 := Kd.upto_sz (fun _ => rfl)
def k26 : Kd S26 := Kd.fix F26 7 [26] sz26 (Kd.upto_E sub26)
theorem k26_heap : Kd.Heap k26 := Kd.heap_fix (fun _ h_ => Kd.heap_iso _ (Kd.heap_pair (Kd.heap_int .u8) (Kd.heap_pair k23_heap (Kd.heap_pair (Kd.heap_int .i64) (Kd.heap_slice 26 h_)))))
theorem k26_open {w : World} {x : S26} {cs : List Value} (h : k26.K w x cs) : ∃ A6 c6, cs = [.int .u8 x.f0, .int .i64 x.f1.f0, .int .i64 x.f1.f1, .int .i64 x.f1.f2, .int .i64 x.f1.f3, .int .i64 x.f2, .slice A6 x.f3.length c6] ∧ x.f3.length ≤ c6 ∧ k26.C w A6 x.f3.length x.f3 := by
  obtain ⟨n, h⟩ := h
  cases n with
  | zero => exact h.elim
  | succ n =>
    obtain ⟨_, _, rfl, rfl, ⟨_, _, rfl, s1, ⟨_, _, rfl, rfl, ⟨A6, c6, rfl, l6, g6⟩⟩⟩⟩ := h
    obtain rfl := k23_open s1
    exact ⟨A6, c6, rfl, l6, Kd.fix_C g6⟩
theorem k26_mk (w : World) (x : S26) {A6 : Option Addr} {c6 : Nat} (l6 : x.f3.length ≤ c6) (g6 : k26.C w A6 x.f3.length x.f3) : k26.K w x [.int .u8 x.f0, .int .i64 x.f1.f0, .int .i64 x.f1.f1, .int .i64 x.f1.f2, .int .i64 x.f1.f3, .int .i64 x.f2, .slice A6 x.f3.length c6] := by
  obtain ⟨n6, q6⟩ := Kd.fix_C_back mono26 g6
  have r6 := Kd.upto_C_le mono26 sz26 (show n6 ≤ n6 by omega) q6
  exact ⟨n6 + 1, ⟨[.int .u8 x.f0], [.int .i64 x.f1.f0, .int .i64 x.f1.f1, .int .i64 x.f1.f2, .int .i64 x.f1.f3, .int .i64 x.f2, .slice A6 x.f3.length c6], rfl, rfl, ⟨[.int .i64 x.f1.f0, .int .i64 x.f1.f1, .int .i64 x.f1.f2, .int .i64 x.f1.f3], [.int .i64 x.f2, .slice A6 x.f3.length c6], rfl, (k23_mk w x.f1 ), ⟨[.int .i64 x.f2], [.slice A6 x.f3.length c6], rfl, rfl, ⟨A6, c6, rfl, l6, r6⟩⟩⟩⟩⟩
theorem k26_openF {W : World} {ok : Nat → Prop} {x : S26} {cs : List Value} (h : Kd.FK k26 W ok x cs) : ∃ A6 c6, cs = [.int .u8 x.f0, .int .i64 x.f1.f0, .int .i64 x.f1.f1, .int .i64 x.f1.f2, .int .i64 x.f1.f3, .int .i64 x.f2, .slice A6 x.f3.length c6] ∧ x.f3.length ≤ c6 ∧ Kd.F k26 W ok A6 x.f3.length x.f3 := by
  obtain ⟨A6, c6, rfl, l6, _⟩ := k26_open (Kd.FK_now h)
  exact ⟨A6, c6, rfl, l6, (fun W' hW => by obtain ⟨A6_, c6_, he, l6_, g6_⟩ := k26_open (h W' hW); injection (Option.some.inj (show some (Value.slice A6 x.f3.length c6) = some (Value.slice A6_ x.f3.length c6_) from congrArg (fun l => l[6]?) he)) with ha_ _ _; rw [ha_]; exact g6_)⟩
theorem k26_mkF (W : World) (ok : Nat → Prop) (x : S26) {A6 : Option Addr} {c6 : Nat} (l6 : x.f3.length ≤ c6) (g6 : Kd.F k26 W ok A6 x.f3.length x.f3) : Kd.FK k26 W ok x [.int .u8 x.f0, .int .i64 x.f1.f0, .int .i64 x.f1.f1, .int .i64 x.f1.f2, .int .i64 x.f1.f3, .int .i64 x.f2, .slice A6 x.f3.length c6] := fun W2 hW => k26_mk W2 x l6 (g6 W2 hW)
def rd_T26 (xs : List S26) (i : Int) : S26 := xs.getD i.toNat z26
theorem at_T26 {w : World} {A : Option Addr} {n : Nat} {xs : List S26} (h : Kd.C k26 w A n xs) (i : Int) (h0 : 0 ≤ i) (h1 : i < n) : ∃ ad A6 c6, A = some ad ∧ w.cell? (ad.add (i.toNat * 7)) = some (.int .u8 (rd_T26 xs i).f0) ∧ w.cell? ⟨(ad.add (i.toNat * 7)).block, (ad.add (i.toNat * 7)).off + 1, none⟩ = some (.int .i64 (rd_T26 xs i).f1.f0) ∧ w.cell? ⟨(ad.add (i.toNat * 7)).block, (ad.add (i.toNat * 7)).off + 2, none⟩ = some (.int .i64 (rd_T26 xs i).f1.f1) ∧ w.cell? ⟨(ad.add (i.toNat * 7)).block, (ad.add (i.toNat * 7)).off + 3, none⟩ = some (.int .i64 (rd_T26 xs i).f1.f2) ∧ w.cell? ⟨(ad.add (i.toNat * 7)).block, (ad.add (i.toNat * 7)).off + 4, none⟩ = some (.int .i64 (rd_T26 xs i).f1.f3) ∧ w.cell? ⟨(ad.add (i.toNat * 7)).block, (ad.add (i.toNat * 7)).off + 5, none⟩ = some (.int .i64 (rd_T26 xs i).f2) ∧ w.cell? ⟨(ad.add (i.toNat * 7)).block, (ad.add (i.toNat * 7)).off + 6, none⟩ = some (.slice A6 (rd_T26 xs i).f3.length c6) ∧ (rd_T26 xs i).f3.length ≤ c6 ∧ k26.C w A6 (rd_T26 xs i).f3.length (rd_T26 xs i).f3 := by
  obtain ⟨ad, c, e, _, hK, hc0⟩ := Kd.C_get h z26 i h0 h1
  have hc : ∀ j u, c[j]? = some u → w.cell? (ad.add (i.toNat * 7 + j)) = some u := hc0
  obtain ⟨A6, c6, rfl, l6, g6⟩ := k26_open hK
  exact ⟨ad, A6, c6, e, hc 0 _ rfl, by rw [← add_field _ _ 1 (by omega)]; exact hc 1 _ rfl, by rw [← add_field _ _ 2 (by omega)]; exact hc 2 _ rfl, by rw [← add_field _ _ 3 (by omega)]; exact hc 3 _ rfl, by rw [← add_field _ _ 4 (by omega)]; exact hc 4 _ rfl, by rw [← add_field _ _ 5 (by omega)]; exact hc 5 _ rfl, by rw [← add_field _ _ 6 (by omega)]; exact hc 6 _ rfl, l6, g6⟩

/-! #### struct type 35 -/
structure S35 where
  f0 : Int
  f1 : S23
def z35 : S35 := ⟨(0 : Int), z23⟩
def k35 : Kd S35 := Kd.iso (Kd.pair (Kd.int .i64) k23) (fun x : S35 => (x.f0, x.f1))
def rd_T35 (xs : List S35) (i : Int) : S35 := xs.getD i.toNat z35
def rd_L5 (xs : List (List S35)) (i : Int) : (List S35) := xs.getD i.toNat ([] : List S35)
def rd_L6 (xs : List (List Int)) (i : Int) : (List Int) := xs.getD i.toNat ([] : List Int)
def rd_L8 (xs : List (List S23)) (i : Int) : (List S23) := xs.getD i.toNat ([] : List S23)
def rd_L9 (xs : List (List S26)) (i : Int) : (List S26) := xs.getD i.toNat ([] : List S26)
end Go.Proofs.Ytfdmfgaiblfbhaa.P
namespace Go.Proofs.Ytfdmfgaiblfbhaa.P
open Go.RowKit Go.Proofs.YtfdmfgaiblfbhaaW.PrintWords Go.Proofs.YtfdmfgaiblfbhaaW.PrintLast Go.Proofs.YtfdmfgaiblfbhaaW.PrintMore
attribute [local go_sem] max2_int min2_int max_two min_two max_three min_three max_four min_four   -- for this text's walks alone
set_option linter.unusedVariables false
set_option linter.unusedSimpArgs false

/-! ### sashref05_count: function 124 -/
mutual
def sashref05_count.l0 : Nat → Int → Int → Int → Int → Int → Int → Int → Int → Int → Int → List (S26) → Option (Int)
  | 0, _, _, _, _, _, _, _, _, _, _, _ => none
  | k + 1, x1, x5, x9, x10, x102000, x102001, x102002, x102003, x102004, x102005, x102006 => if x10 < x9 then (if x5 > x1 then (some x5) else (if 0 ≤ x10 then (if x10 < (x102006.length : Int) then ((sashref05_count.f k ((rd_T26 x102006 x10).f0) ((rd_T26 x102006 x10).f1.f0) ((rd_T26 x102006 x10).f1.f1) ((rd_T26 x102006 x10).f1.f2) ((rd_T26 x102006 x10).f1.f3) ((rd_T26 x102006 x10).f2) ((rd_T26 x102006 x10).f3) x1).bind fun t103 => (sashref05_count.l0 k x1 (wrap64 (x5 + t103)) x9 (wrap64 (x10 + 1)) x102000 x102001 x102002 x102003 x102004 x102005 x102006)) else (none)) else (none))) else (some x5)
def sashref05_count.f : Nat → Int → Int → Int → Int → Int → Int → List (S26) → Int → Option (Int)
  | 0, _, _, _, _, _, _, _, _ => none
  | k + 1, a0_0, a0_1, a0_2, a0_3, a0_4, a0_5, l0_6, a1 => sashref05_count.l0 k a1 1 (l0_6.length : Int) 0 a0_0 a0_1 a0_2 a0_3 a0_4 a0_5 l0_6
end
theorem sashref05_count.mono_l : ∀ k, (∀ y0 y1 y2 y3 y4 y5 y6 y7, LeO (sashref05_count.f k y0 y1 y2 y3 y4 y5 y6 y7) (sashref05_count.f (k + 1) y0 y1 y2 y3 y4 y5 y6 y7)) ∧ (∀ y0 y1 y2 y3 y4 y5 y6 y7 y8 y9 y10, LeO (sashref05_count.l0 k y0 y1 y2 y3 y4 y5 y6 y7 y8 y9 y10) (sashref05_count.l0 (k + 1) y0 y1 y2 y3 y4 y5 y6 y7 y8 y9 y10))
  | 0 => ⟨fun _ _ _ _ _ _ _ _ r h => by simp [sashref05_count.f] at h, fun _ _ _ _ _ _ _ _ _ _ _ r h => by simp [sashref05_count.l0] at h⟩
  | k + 1 => by
    obtain ⟨ih0, ih1⟩ := sashref05_count.mono_l k
    refine ⟨?_, ?_⟩
    · intro y0 y1 y2 y3 y4 y5 y6 y7
      unfold sashref05_count.f
      repeat' first
      | (with_reducible exact ih0 _ _ _ _ _ _ _ _)
      | (with_reducible exact ih1 _ _ _ _ _ _ _ _ _ _ _)
      | (with_reducible exact LeO.refl _)
      | (with_reducible exact LeO.none _)
      | (with_reducible refine LeO.ite ?_ ?_)
      | (with_reducible refine LeO.bind ?_ (fun _ => ?_))
      | exact ih0 _ _ _ _ _ _ _ _
      | exact ih1 _ _ _ _ _ _ _ _ _ _ _
      | exact LeO.none _
      | refine LeO.ite ?_ ?_
      | refine LeO.bind ?_ (fun _ => ?_)
    · intro y0 y1 y2 y3 y4 y5 y6 y7 y8 y9 y10
      unfold sashref05_count.l0
      repeat' first
      | (with_reducible exact ih0 _ _ _ _ _ _ _ _)
      | (with_reducible exact ih1 _ _ _ _ _ _ _ _ _ _ _)
      | (with_reducible exact LeO.refl _)
      | (with_reducible exact LeO.none _)
      | (with_reducible refine LeO.ite ?_ ?_)
      | (with_reducible refine LeO.bind ?_ (fun _ => ?_))
      | exact ih0 _ _ _ _ _ _ _ _
      | exact ih1 _ _ _ _ _ _ _ _ _ _ _
      | exact LeO.none _
      | refine LeO.ite ?_ ?_
      | refine LeO.bind ?_ (fun _ => ?_)
theorem sashref05_count.mono : ∀ a0 a1 a2 a3 a4 a5 a6 a7 k, LeO (sashref05_count.f k a0 a1 a2 a3 a4 a5 a6 a7) (sashref05_count.f (k + 1) a0 a1 a2 a3 a4 a5 a6 a7) := by
  intro a0 a1 a2 a3 a4 a5 a6 a7 k
  obtain ⟨ih0, ih1⟩ := sashref05_count.mono_l k
  exact ih0 a0 a1 a2 a3 a4 a5 a6 a7
set_option maxHeartbeats 8000000 in
set_option maxRecDepth 100000 in
theorem sashref05_count.calls (k : Nat) : ∀ (a0_0 : Int) (a0_1 : Int) (a0_2 : Int) (a0_3 : Int) (a0_4 : Int) (a0_5 : Int) (A0_6 : Option Addr) (c0_6 : Nat) (l0_6 : List (S26)) (a1 : Int) (r : Int) (w : World) (hr0_6 : Kd.C k26 w A0_6 l0_6.length l0_6) (hc0_6 : l0_6.length ≤ c0_6) (h : sashref05_count.f k a0_0 a0_1 a0_2 a0_3 a0_4 a0_5 l0_6 a1 = some r),
    Calls Try.prog 124 #[.agg #[.int .u8 a0_0, .int .i64 a0_1, .int .i64 a0_2, .int .i64 a0_3, .int .i64 a0_4, .int .i64 a0_5, .slice A0_6 l0_6.length c0_6], .int .i64 a1] w fun e w' => e = .returned (.int .i64 r) ∧ Below w.heap.size w w' := by
  induction k using Nat.strongRecOn with
  | _ k ih =>
  intro a0_0 a0_1 a0_2 a0_3 a0_4 a0_5 A0_6 c0_6 l0_6 a1 r w hr0_6 hc0_6 h
  cases k with
  | zero => exact absurd h (by simp [sashref05_count.f])
  | succ k =>
  simp only [sashref05_count.f] at h
  have hu26 := Try.underlying26
  have HR0_6 := Aside0.mk hr0_6
  have HC0_6 := Aside0.mk hc0_6
  clear hr0_6 hc0_6
  have HB := Aside0.mk (Below.refl w.heap.size w)
  have H : (sashref05_count.l0 k a1 1 (l0_6.length : Int) 0 a0_0 a0_1 a0_2 a0_3 a0_4 a0_5 l0_6) = some r := h
  clear h
  have H' := Aside0.mk H
  clear H
  go_enter Try.func124, Try.ntmps124
  go_wp2_with (first | ((with_reducible refine gate_dst (N := 2) rfl ?_); refine box_event ?hg (N := 2) ?hd (cs := #[.int .u8 a0_0, .int .i64 a0_1, .int .i64 a0_2, .int .i64 a0_3, .int .i64 a0_4, .int .i64 a0_5, .slice A0_6 l0_6.length c0_6]) (t := 26) ?hr ?_; (case hd => rfl); (case hg => rfl); (case hr => first | (go_simp; done) | (go_simp; rfl)); intro gb101 hg w3 hbox hb; have n0_ := Aside0.mk (below_step (by repeat (first | (with_reducible first | exact HB.out | apply below_alloc | apply pw_below_drewN | apply below_drew1) | exact HB.out)) hb); have n1_ := Aside0.mk (hbox); have n2_ := Aside0.mk ((by rw [hg]; exact (below_size (by repeat (first | (with_reducible first | exact HB.out | apply below_alloc | apply pw_below_drewN | apply below_drew1) | exact HB.out))) : w.heap.size ≤ gb101)); have n3_ := Aside0.mk ((by rw [hg]; exact (below_size (by repeat (first | (with_reducible first | exact HB.out | apply below_alloc | apply pw_below_drewN | apply below_drew1) | exact HB.out))) : w.heap.size ≤ gb101)); clear HB; have HB := n0_; have BK101 := n1_; have GW101 := n2_; have GE101 := n3_; clear n0_ n1_ n2_ n3_; clear hb hbox hg; have hcz4_0 : w3.cell? ⟨gb101, 0, none⟩ = some (.int .u8 a0_0) := (blk_cell BK101.out 0).trans rfl; have hcz4_1 : w3.cell? ⟨gb101, 1, none⟩ = some (.int .i64 a0_1) := (blk_cell BK101.out 1).trans rfl; have hcz4_2 : w3.cell? ⟨gb101, 2, none⟩ = some (.int .i64 a0_2) := (blk_cell BK101.out 2).trans rfl; have hcz4_3 : w3.cell? ⟨gb101, 3, none⟩ = some (.int .i64 a0_3) := (blk_cell BK101.out 3).trans rfl; have hcz4_4 : w3.cell? ⟨gb101, 4, none⟩ = some (.int .i64 a0_4) := (blk_cell BK101.out 4).trans rfl; have hcz4_5 : w3.cell? ⟨gb101, 5, none⟩ = some (.int .i64 a0_5) := (blk_cell BK101.out 5).trans rfl; have hcz4_6 : w3.cell? ⟨gb101, 6, none⟩ = some (.slice A0_6 l0_6.length c0_6) := (blk_cell BK101.out 6).trans rfl; have hfz4_0 := blk_frozen BK101.out 0; have hfz4_1 := blk_frozen BK101.out 1; have hfz4_2 := blk_frozen BK101.out 2; have hfz4_3 := blk_frozen BK101.out 3; have hfz4_4 := blk_frozen BK101.out 4; have hfz4_5 := blk_frozen BK101.out 5; have hfz4_6 := blk_frozen BK101.out 6))
  go_loopg [5, 10] k (fun kq v5 v10 w' => ∃ (x5_1 : Int) (x10_1 : Int), v5 = .int .i64 x5_1 ∧ v10 = .int .i64 x10_1 ∧ Aside0 (sashref05_count.l0 kq a1 x5_1 (l0_6.length : Int) x10_1 a0_0 a0_1 a0_2 a0_3 a0_4 a0_5 l0_6 = some r) ∧ Aside0 (kq ≤ k) ∧ Aside0 (w'.heap[gb101]? = some (.cells #[.int .u8 a0_0, .int .i64 a0_1, .int .i64 a0_2, .int .i64 a0_3, .int .i64 a0_4, .int .i64 a0_5, (.slice A0_6 l0_6.length c0_6)] 26 (0, 0))) ∧ Aside0 (Below w.heap.size w w'))
  case atStart => exact ⟨(1), (0), (by first | rfl | (simp; done) | (simp [*]; done)), (by first | rfl | (simp; done) | (simp [*]; done)), H', ⟨Nat.le_refl _⟩, ⟨by (with_reducible repeat (first | refine blk_drewN ?_ _ | refine blk_drew ?_ | refine blk_alloc ?_ _)); exact BK101.out⟩, ⟨by repeat (first | (with_reducible first | exact HB.out | apply below_alloc | apply pw_below_drewN | apply below_drew1 | refine below_set ?_ GE101.out) | exact HB.out)⟩⟩
  case round =>
    clear H'
    try clear c1
    try clear p2
    try clear hcz4_0
    try clear hcz4_1
    try clear hcz4_2
    try clear hcz4_3
    try clear hcz4_4
    try clear hcz4_5
    try clear hcz4_6
    try clear hfz4_0
    try clear hfz4_1
    try clear hfz4_2
    try clear hfz4_3
    try clear hfz4_4
    try clear hfz4_5
    try clear hfz4_6
    obtain ⟨x5_1, x10_1, rfl, rfl, HA, HK1, BK101, HB⟩ := hrel
    cases gk with
    | zero => exact absurd HA.out (by simp [sashref05_count.l0])
    | succ k1 =>
      have H := HA.out
      clear HA
      simp only [sashref05_count.l0] at H
      by_cases c5 : x10_1 < (l0_6.length : Int)
      · rw [if_pos c5] at H
        have c5b0 : decide (x10_1 < (l0_6.length : Int)) = true := decide_eq_true c5
        clear c5
        by_cases c6 : x5_1 > a1
        · rw [if_pos c6] at H
          have c6b0 : decide (a1 < x5_1) = true := decide_eq_true c6
          clear c6
          obtain rfl := Option.some.inj H
          go_wp2
          go_ret
          exact ⟨by first | rfl | (simp [errW_none, errW_some] <;> rfl) | (simp [*, errW_none, errW_some] <;> rfl), by repeat (first | (with_reducible first | exact HB.out | apply below_alloc | apply pw_below_drewN | apply below_drew1 | refine below_set ?_ GE101.out) | exact HB.out)⟩
        · rw [if_neg c6] at H
          have c6b0 : decide (a1 < x5_1) = false := decide_eq_false c6
          clear c6
          by_cases c7 : 0 ≤ x10_1
          · rw [if_pos c7] at H
            have c7b0 : decide (0 ≤ x10_1) = true := decide_eq_true c7
            clear c7
            by_cases c8 : x10_1 < (l0_6.length : Int)
            · rw [if_pos c8] at H
              have c8b0 : decide (x10_1 < (l0_6.length : Int)) = true := decide_eq_true c8
              clear c8
              replace H := Option.bind_eq_some_iff.mp H
              obtain ⟨t103, A90, H⟩ := H
              replace H : (sashref05_count.l0 k1 a1 (wrap64 (x5_1 + t103)) (l0_6.length : Int) (wrap64 (x10_1 + 1)) a0_0 a0_1 a0_2 a0_3 a0_4 a0_5 l0_6) = some r := H
              have A9 := Aside0.mk A90
              clear A90
              have H' := Aside0.mk H
              clear H
              have hcz10_0 : wr.cell? ⟨gb101, 0, none⟩ = some (.int .u8 a0_0) := (blk_cell BK101.out 0).trans rfl
              have hcz10_1 : wr.cell? ⟨gb101, 1, none⟩ = some (.int .i64 a0_1) := (blk_cell BK101.out 1).trans rfl
              have hcz10_2 : wr.cell? ⟨gb101, 2, none⟩ = some (.int .i64 a0_2) := (blk_cell BK101.out 2).trans rfl
              have hcz10_3 : wr.cell? ⟨gb101, 3, none⟩ = some (.int .i64 a0_3) := (blk_cell BK101.out 3).trans rfl
              have hcz10_4 : wr.cell? ⟨gb101, 4, none⟩ = some (.int .i64 a0_4) := (blk_cell BK101.out 4).trans rfl
              have hcz10_5 : wr.cell? ⟨gb101, 5, none⟩ = some (.int .i64 a0_5) := (blk_cell BK101.out 5).trans rfl
              have hcz10_6 : wr.cell? ⟨gb101, 6, none⟩ = some (.slice A0_6 l0_6.length c0_6) := (blk_cell BK101.out 6).trans rfl
              have hfz10_0 := blk_frozen BK101.out 0
              have hfz10_1 := blk_frozen BK101.out 1
              have hfz10_2 := blk_frozen BK101.out 2
              have hfz10_3 := blk_frozen BK101.out 3
              have hfz10_4 := blk_frozen BK101.out 4
              have hfz10_5 := blk_frozen BK101.out 5
              have hfz10_6 := blk_frozen BK101.out 6
              have p102 : 0 ≤ (x10_1 : Int) := of_decide_eq_true (by first | (with_reducible assumption) | assumption)
              have q102 : x10_1 < (l0_6.length : Int) := of_decide_eq_true (by first | (with_reducible assumption) | assumption)
              obtain ⟨ad102, A102_6, c102_6, e102, hx102_0, hx102_1, hx102_2, hx102_3, hx102_4, hx102_5, hx102_6, hl102_6, hi102_6⟩ := at_T26 HR0_6.out x10_1 p102 q102
              cases e102
              replace hx102_0 := (HB.out.cell (World.block_lt_of_cell? w _ hx102_0)).trans hx102_0
              replace hx102_1 := (HB.out.cell (World.block_lt_of_cell? w _ hx102_1)).trans hx102_1
              replace hx102_2 := (HB.out.cell (World.block_lt_of_cell? w _ hx102_2)).trans hx102_2
              replace hx102_3 := (HB.out.cell (World.block_lt_of_cell? w _ hx102_3)).trans hx102_3
              replace hx102_4 := (HB.out.cell (World.block_lt_of_cell? w _ hx102_4)).trans hx102_4
              replace hx102_5 := (HB.out.cell (World.block_lt_of_cell? w _ hx102_5)).trans hx102_5
              replace hx102_6 := (HB.out.cell (World.block_lt_of_cell? w _ hx102_6)).trans hx102_6
              have HR102_6 := Aside0.mk hi102_6
              have HC102_6 := Aside0.mk hl102_6
              clear hi102_6 hl102_6
              replace p102 := eq_true p102
              replace q102 := eq_true q102
              go_wp2_with (first | ((with_reducible refine gate_callee (f := 124) rfl ?_); refine goesL_ (some 24) rfl rfl Try.func124 (by kernel_rfl) rfl #[.agg #[.int .u8 ((rd_T26 l0_6 x10_1).f0), .int .i64 ((rd_T26 l0_6 x10_1).f1.f0), .int .i64 ((rd_T26 l0_6 x10_1).f1.f1), .int .i64 ((rd_T26 l0_6 x10_1).f1.f2), .int .i64 ((rd_T26 l0_6 x10_1).f1.f3), .int .i64 ((rd_T26 l0_6 x10_1).f2), .slice A102_6 ((rd_T26 l0_6 x10_1).f3).length c102_6], .int .i64 a1] rfl (by (try simp only [List.map_toArray, List.map_cons, List.map_nil]); first | done | rfl | (simp only [List.length_drop, List.length_take]; rfl)) ?_; (with_reducible refine (ih k1 (by have := HK1.out; omega) ((rd_T26 l0_6 x10_1).f0) ((rd_T26 l0_6 x10_1).f1.f0) ((rd_T26 l0_6 x10_1).f1.f1) ((rd_T26 l0_6 x10_1).f1.f2) ((rd_T26 l0_6 x10_1).f1.f3) ((rd_T26 l0_6 x10_1).f2) _ _ ((rd_T26 l0_6 x10_1).f3) a1 t103 _ ?side1 ?side2 A9.out).mono ?_); (case side1 => repeat (first | exact (Kd.C_below HR102_6.out HB.out) | (with_reducible refine Kd.C_alloc ?_ _) | (with_reducible refine Kd.C_drewN ?_ _) | (with_reducible refine Kd.C_drew ?_))); (case side2 => exact HC102_6.out); rintro e w11 ⟨rfl, hb⟩; refine ⟨_, rfl, ?_⟩; have n0_ := Aside0.mk (blk_below (g := gb101) (o := .cells #[.int .u8 a0_0, .int .i64 a0_1, .int .i64 a0_2, .int .i64 a0_3, .int .i64 a0_4, .int .i64 a0_5, .slice (some ad102) l0_6.length c0_6] 26 (0, 0)) (by (with_reducible repeat (first | refine blk_drewN ?_ _ | refine blk_drew ?_ | refine blk_alloc ?_ _)); exact BK101.out) hb); have n1_ := Aside0.mk (below_step (by repeat (first | (with_reducible first | exact HB.out | apply below_alloc | apply pw_below_drewN | apply below_drew1 | refine below_set ?_ GE101.out) | exact HB.out)) hb); clear BK101; clear HB; have BK101 := n0_; have HB := n1_; clear n0_ n1_; (try clear hb); (try clear hb2); (try clear hk); (try clear hi)))
              go_roundg k1
              case measure => have := HK1.out; omega
              case rel => exact ⟨(wrap64 (x5_1 + t103)), (wrap64 (x10_1 + 1)), (by first | rfl | (simp; done) | (simp [*]; done)), (by first | rfl | (simp; done) | (simp [*]; done)), H', ⟨by have := HK1.out; omega⟩, ⟨by (with_reducible repeat (first | refine blk_drewN ?_ _ | refine blk_drew ?_ | refine blk_alloc ?_ _)); exact BK101.out⟩, ⟨by repeat (first | (with_reducible first | exact HB.out | apply below_alloc | apply pw_below_drewN | apply below_drew1 | refine below_set ?_ GE101.out) | exact HB.out)⟩⟩
            · rw [if_neg c8] at H
              exact absurd H (by simp)
          · rw [if_neg c7] at H
            exact absurd H (by simp)
      · rw [if_neg c5] at H
        have c5b0 : decide (x10_1 < (l0_6.length : Int)) = false := decide_eq_false c5
        clear c5
        obtain rfl := Option.some.inj H
        go_wp2
        go_ret
        exact ⟨by first | rfl | (simp [errW_none, errW_some] <;> rfl) | (simp [*, errW_none, errW_some] <;> rfl), by repeat (first | (with_reducible first | exact HB.out | apply below_alloc | apply pw_below_drewN | apply below_drew1 | refine below_set ?_ GE101.out) | exact HB.out)⟩

end Go.Proofs.Ytfdmfgaiblfbhaa.P
namespace Go.Proofs.Ytfdmfgaiblfbhaa.P
open Go.RowKit Go.Proofs.YtfdmfgaiblfbhaaW.PrintWords Go.Proofs.YtfdmfgaiblfbhaaW.PrintLast Go.Proofs.YtfdmfgaiblfbhaaW.PrintMore
attribute [local go_sem] max2_int min2_int max_two min_two max_three min_three max_four min_four   -- for this text's walks alone
set_option linter.unusedVariables false
set_option linter.unusedSimpArgs false

/-! ### sashref05_Great: function 34 -/
def sashref05_Great.f (k : Nat) (a0_0 : Int) (a0_1 : Int) (a0_2 : Int) (a0_3 : Int) (a0_4 : Int) (a0_5 : Int) (l0_6 : List (S26)) : Option (Bool) := (sashref05_count.f k a0_0 a0_1 a0_2 a0_3 a0_4 a0_5 l0_6 200).bind fun t105 => (some (decide (t105 > 200)))
theorem sashref05_Great.mono : ∀ a0 a1 a2 a3 a4 a5 a6 k, LeO (sashref05_Great.f k a0 a1 a2 a3 a4 a5 a6) (sashref05_Great.f (k + 1) a0 a1 a2 a3 a4 a5 a6) := by
  intro a0 a1 a2 a3 a4 a5 a6 k
  unfold sashref05_Great.f
  repeat' first
      | (with_reducible exact sashref05_count.mono _ _ _ _ _ _ _ _ _)
      | (with_reducible exact LeO.refl _)
      | (with_reducible exact LeO.none _)
      | (with_reducible refine LeO.ite ?_ ?_)
      | (with_reducible refine LeO.bind ?_ (fun _ => ?_))
      | exact sashref05_count.mono _ _ _ _ _ _ _ _ _
      | exact LeO.none _
      | refine LeO.ite ?_ ?_
      | refine LeO.bind ?_ (fun _ => ?_)
set_option maxHeartbeats 8000000 in
set_option maxRecDepth 100000 in
theorem sashref05_Great.calls (k : Nat) (a0_0 : Int) (a0_1 : Int) (a0_2 : Int) (a0_3 : Int) (a0_4 : Int) (a0_5 : Int) (A0_6 : Option Addr) (c0_6 : Nat) (l0_6 : List (S26)) (r : Bool) (w : World) (hr0_6 : Kd.C k26 w A0_6 l0_6.length l0_6) (hc0_6 : l0_6.length ≤ c0_6) (h : sashref05_Great.f k a0_0 a0_1 a0_2 a0_3 a0_4 a0_5 l0_6 = some r) :
    Calls Try.prog 34 #[.agg #[.int .u8 a0_0, .int .i64 a0_1, .int .i64 a0_2, .int .i64 a0_3, .int .i64 a0_4, .int .i64 a0_5, .slice A0_6 l0_6.length c0_6]] w fun e w' => e = .returned (.bool r) ∧ Below w.heap.size w w' := by
  have hu26 := Try.underlying26
  have HR0_6 := Aside0.mk hr0_6
  have HC0_6 := Aside0.mk hc0_6
  clear hr0_6 hc0_6
  have HB := Aside0.mk (Below.refl w.heap.size w)
  have H : ((sashref05_count.f k a0_0 a0_1 a0_2 a0_3 a0_4 a0_5 l0_6 200).bind fun t105 => (some (decide (t105 > 200)))) = some r := h
  clear h
  replace H := Option.bind_eq_some_iff.mp H
  obtain ⟨t105, A20, H⟩ := H
  replace H : (some (decide (t105 > 200))) = some r := H
  have A2 := Aside0.mk A20
  clear A20
  obtain rfl := Option.some.inj H
  go_enter Try.func34, Try.ntmps34
  go_wp2_with (first | ((with_reducible refine gate_dst (N := 1) rfl ?_); refine box_event ?hg (N := 1) ?hd (cs := #[.int .u8 a0_0, .int .i64 a0_1, .int .i64 a0_2, .int .i64 a0_3, .int .i64 a0_4, .int .i64 a0_5, .slice A0_6 l0_6.length c0_6]) (t := 26) ?hr ?_; (case hd => rfl); (case hg => rfl); (case hr => first | (go_simp; done) | (go_simp; rfl)); intro gb104 hg w3 hbox hb; have n0_ := Aside0.mk (below_step (by repeat (first | (with_reducible first | exact HB.out | apply below_alloc | apply pw_below_drewN | apply below_drew1) | exact HB.out)) hb); have n1_ := Aside0.mk (hbox); have n2_ := Aside0.mk ((by rw [hg]; exact (below_size (by repeat (first | (with_reducible first | exact HB.out | apply below_alloc | apply pw_below_drewN | apply below_drew1) | exact HB.out))) : w.heap.size ≤ gb104)); have n3_ := Aside0.mk ((by rw [hg]; exact (below_size (by repeat (first | (with_reducible first | exact HB.out | apply below_alloc | apply pw_below_drewN | apply below_drew1) | exact HB.out))) : w.heap.size ≤ gb104)); clear HB; have HB := n0_; have BK104 := n1_; have GW104 := n2_; have GE104 := n3_; clear n0_ n1_ n2_ n3_; clear hb hbox hg; have hcz4_0 : w3.cell? ⟨gb104, 0, none⟩ = some (.int .u8 a0_0) := (blk_cell BK104.out 0).trans rfl; have hcz4_1 : w3.cell? ⟨gb104, 1, none⟩ = some (.int .i64 a0_1) := (blk_cell BK104.out 1).trans rfl; have hcz4_2 : w3.cell? ⟨gb104, 2, none⟩ = some (.int .i64 a0_2) := (blk_cell BK104.out 2).trans rfl; have hcz4_3 : w3.cell? ⟨gb104, 3, none⟩ = some (.int .i64 a0_3) := (blk_cell BK104.out 3).trans rfl; have hcz4_4 : w3.cell? ⟨gb104, 4, none⟩ = some (.int .i64 a0_4) := (blk_cell BK104.out 4).trans rfl; have hcz4_5 : w3.cell? ⟨gb104, 5, none⟩ = some (.int .i64 a0_5) := (blk_cell BK104.out 5).trans rfl; have hcz4_6 : w3.cell? ⟨gb104, 6, none⟩ = some (.slice A0_6 l0_6.length c0_6) := (blk_cell BK104.out 6).trans rfl; have hfz4_0 := blk_frozen BK104.out 0; have hfz4_1 := blk_frozen BK104.out 1; have hfz4_2 := blk_frozen BK104.out 2; have hfz4_3 := blk_frozen BK104.out 3; have hfz4_4 := blk_frozen BK104.out 4; have hfz4_5 := blk_frozen BK104.out 5; have hfz4_6 := blk_frozen BK104.out 6) | ((with_reducible refine gate_callee (f := 124) rfl ?_); refine goesL_ (some 4) rfl rfl Try.func124 (by kernel_rfl) rfl #[.agg #[.int .u8 a0_0, .int .i64 a0_1, .int .i64 a0_2, .int .i64 a0_3, .int .i64 a0_4, .int .i64 a0_5, .slice A0_6 l0_6.length c0_6], .int .i64 200] rfl (by (try simp only [List.map_toArray, List.map_cons, List.map_nil]); first | done | rfl | (simp only [List.length_drop, List.length_take]; rfl)) ?_; (with_reducible refine (sashref05_count.calls k a0_0 a0_1 a0_2 a0_3 a0_4 a0_5 _ _ l0_6 200 t105 _ ?side1 ?side2 A2.out).mono ?_); (case side1 => repeat (first | exact (Kd.C_below HR0_6.out HB.out) | (with_reducible refine Kd.C_alloc ?_ _) | (with_reducible refine Kd.C_drewN ?_ _) | (with_reducible refine Kd.C_drew ?_))); (case side2 => exact HC0_6.out); rintro e w5 ⟨rfl, hb⟩; refine ⟨_, rfl, ?_⟩; have n0_ := Aside0.mk (blk_below (g := gb104) (o := .cells #[.int .u8 a0_0, .int .i64 a0_1, .int .i64 a0_2, .int .i64 a0_3, .int .i64 a0_4, .int .i64 a0_5, .slice A0_6 l0_6.length c0_6] 26 (0, 0)) (by (with_reducible repeat (first | refine blk_drewN ?_ _ | refine blk_drew ?_ | refine blk_alloc ?_ _)); exact BK104.out) hb); have n1_ := Aside0.mk (below_step (by repeat (first | (with_reducible first | exact HB.out | apply below_alloc | apply pw_below_drewN | apply below_drew1 | refine below_set ?_ GE104.out) | exact HB.out)) hb); clear BK104; clear HB; have BK104 := n0_; have HB := n1_; clear n0_ n1_; (try clear hb); (try clear hb2); (try clear hk); (try clear hi)))
  go_ret
  exact ⟨by first | rfl | (simp [errW_none, errW_some] <;> rfl) | (simp [*, errW_none, errW_some] <;> rfl), by repeat (first | (with_reducible first | exact HB.out | apply below_alloc | apply pw_below_drewN | apply below_drew1 | refine below_set ?_ GE104.out) | exact HB.out)⟩

end Go.Proofs.Ytfdmfgaiblfbhaa.P
namespace Go.Proofs.Ytfdmfgaiblfbhaa.P
open Go.RowKit Go.Proofs.YtfdmfgaiblfbhaaW.PrintWords Go.Proofs.YtfdmfgaiblfbhaaW.PrintLast Go.Proofs.YtfdmfgaiblfbhaaW.PrintMore
attribute [local go_sem] max2_int min2_int max_two min_two max_three min_three max_four min_four   -- for this text's walks alone
set_option linter.unusedVariables false
set_option linter.unusedSimpArgs false

theorem eqA23 (d : Nat) (w : World) (x0 y0 : Int) (x1 y1 : Int) (x2 y2 : Int) (x3 y3 : Int) :
    (Op.equalIn (d + 2) 23 (.agg #[.int .i64 x0, .int .i64 x1, .int .i64 x2, .int .i64 x3]) (.agg #[.int .i64 y0, .int .i64 y1, .int .i64 y2, .int .i64 y3])).run Try.prog w = .ok (x0 == y0 && (x1 == y1 && (x2 == y2 && (x3 == y3)))) w := by
  refine eqA_of Try.underlying23 (by kernel_rfl) ?_
  refine eqf_cons (by rfl) (by go_simp; rfl) (by go_simp; rfl) (by go_simp) ?_
  refine eqf_cons (by rfl) (by go_simp; rfl) (by go_simp; rfl) (by go_simp) ?_
  refine eqf_cons (by rfl) (by go_simp; rfl) (by go_simp; rfl) (by go_simp) ?_
  exact eqf_last (by rfl) (by go_simp; rfl) (by go_simp; rfl) (by go_simp)
end Go.Proofs.Ytfdmfgaiblfbhaa.P
namespace Go.Proofs.Ytfdmfgaiblfbhaa.P
open Go.RowKit Go.Proofs.YtfdmfgaiblfbhaaW.PrintWords Go.Proofs.YtfdmfgaiblfbhaaW.PrintLast Go.Proofs.YtfdmfgaiblfbhaaW.PrintMore
attribute [local go_sem] max2_int min2_int max_two min_two max_three min_three max_four min_four   -- for this text's walks alone
set_option linter.unusedVariables false
set_option linter.unusedSimpArgs false

attribute [local go_sem high] eqA23
/-! ### sashref05_Same: function 64 -/
mutual
def sashref05_Same.j0 : Nat → Bool → Int → Int → Int → Int → Int → Int → List (S26) → Int → Int → Int → Int → Int → Int → List (S26) → Option (Bool)
  | 0, _, _, _, _, _, _, _, _, _, _, _, _, _, _, _ => none
  | k + 1, x33, x601000, x601001, x601002, x601003, x601004, x601005, x601006, x602000, x602001, x602002, x602003, x602004, x602005, x602006 => if x33 = true then (some false) else (sashref05_Same.l0 k (x601006.length : Int) 0 x601000 x601001 x601002 x601003 x601004 x601005 x601006 x602000 x602001 x602002 x602003 x602004 x602005 x602006)
def sashref05_Same.l0 : Nat → Int → Int → Int → Int → Int → Int → Int → Int → List (S26) → Int → Int → Int → Int → Int → Int → List (S26) → Option (Bool)
  | 0, _, _, _, _, _, _, _, _, _, _, _, _, _, _, _, _ => none
  | k + 1, x36, x37, x601000, x601001, x601002, x601003, x601004, x601005, x601006, x602000, x602001, x602002, x602003, x602004, x602005, x602006 => if x37 < x36 then (if 0 ≤ x37 then (if x37 < (x601006.length : Int) then (if x37 < (x602006.length : Int) then ((sashref05_Same.f k ((rd_T26 x601006 x37).f0) ((rd_T26 x601006 x37).f1.f0) ((rd_T26 x601006 x37).f1.f1) ((rd_T26 x601006 x37).f1.f2) ((rd_T26 x601006 x37).f1.f3) ((rd_T26 x601006 x37).f2) ((rd_T26 x601006 x37).f3) ((rd_T26 x602006 x37).f0) ((rd_T26 x602006 x37).f1.f0) ((rd_T26 x602006 x37).f1.f1) ((rd_T26 x602006 x37).f1.f2) ((rd_T26 x602006 x37).f1.f3) ((rd_T26 x602006 x37).f2) ((rd_T26 x602006 x37).f3)).bind fun t604 => (if t604 = true then (sashref05_Same.l0 k x36 (wrap64 (x37 + 1)) x601000 x601001 x601002 x601003 x601004 x601005 x601006 x602000 x602001 x602002 x602003 x602004 x602005 x602006) else (some false))) else (none)) else (none)) else (none)) else (some true)
def sashref05_Same.f : Nat → Int → Int → Int → Int → Int → Int → List (S26) → Int → Int → Int → Int → Int → Int → List (S26) → Option (Bool)
  | 0, _, _, _, _, _, _, _, _, _, _, _, _, _, _ => none
  | k + 1, a0_0, a0_1, a0_2, a0_3, a0_4, a0_5, l0_6, a1_0, a1_1, a1_2, a1_3, a1_4, a1_5, l1_6 => if a0_0 = a1_0 then (if (!(a0_1 == a1_1) || (!(a0_2 == a1_2) || (!(a0_3 == a1_3) || (!(a0_4 == a1_4))))) = true then (sashref05_Same.j0 k true a0_0 a0_1 a0_2 a0_3 a0_4 a0_5 l0_6 a1_0 a1_1 a1_2 a1_3 a1_4 a1_5 l1_6) else (if a0_5 = a1_5 then (sashref05_Same.j0 k ((l0_6.length : Int) != (l1_6.length : Int)) a0_0 a0_1 a0_2 a0_3 a0_4 a0_5 l0_6 a1_0 a1_1 a1_2 a1_3 a1_4 a1_5 l1_6) else (sashref05_Same.j0 k true a0_0 a0_1 a0_2 a0_3 a0_4 a0_5 l0_6 a1_0 a1_1 a1_2 a1_3 a1_4 a1_5 l1_6))) else (sashref05_Same.j0 k true a0_0 a0_1 a0_2 a0_3 a0_4 a0_5 l0_6 a1_0 a1_1 a1_2 a1_3 a1_4 a1_5 l1_6)
end
theorem sashref05_Same.mono_l : ∀ k, (∀ y0 y1 y2 y3 y4 y5 y6 y7 y8 y9 y10 y11 y12 y13, LeO (sashref05_Same.f k y0 y1 y2 y3 y4 y5 y6 y7 y8 y9 y10 y11 y12 y13) (sashref05_Same.f (k + 1) y0 y1 y2 y3 y4 y5 y6 y7 y8 y9 y10 y11 y12 y13)) ∧ (∀ y0 y1 y2 y3 y4 y5 y6 y7 y8 y9 y10 y11 y12 y13 y14, LeO (sashref05_Same.j0 k y0 y1 y2 y3 y4 y5 y6 y7 y8 y9 y10 y11 y12 y13 y14) (sashref05_Same.j0 (k + 1) y0 y1 y2 y3 y4 y5 y6 y7 y8 y9 y10 y11 y12 y13 y14)) ∧ (∀ y0 y1 y2 y3 y4 y5 y6 y7 y8 y9 y10 y11 y12 y13 y14 y15, LeO (sashref05_Same.l0 k y0 y1 y2 y3 y4 y5 y6 y7 y8 y9 y10 y11 y12 y13 y14 y15) (sashref05_Same.l0 (k + 1) y0 y1 y2 y3 y4 y5 y6 y7 y8 y9 y10 y11 y12 y13 y14 y15))
  | 0 => ⟨fun _ _ _ _ _ _ _ _ _ _ _ _ _ _ r h => by simp [sashref05_Same.f] at h, fun _ _ _ _ _ _ _ _ _ _ _ _ _ _ _ r h => by simp [sashref05_Same.j0] at h, fun _ _ _ _ _ _ _ _ _ _ _ _ _ _ _ _ r h => by simp [sashref05_Same.l0] at h⟩
  | k + 1 => by
    obtain ⟨ih0, ih1, ih2⟩ := sashref05_Same.mono_l k
    refine ⟨?_, ?_, ?_⟩
    · intro y0 y1 y2 y3 y4 y5 y6 y7 y8 y9 y10 y11 y12 y13
      unfold sashref05_Same.f
      repeat' first
      | (with_reducible exact ih0 _ _ _ _ _ _ _ _ _ _ _ _ _ _)
      | (with_reducible exact ih1 _ _ _ _ _ _ _ _ _ _ _ _ _ _ _)
      | (with_reducible exact ih2 _ _ _ _ _ _ _ _ _ _ _ _ _ _ _ _)
      | (with_reducible exact LeO.refl _)
      | (with_reducible exact LeO.none _)
      | (with_reducible refine LeO.ite ?_ ?_)
      | (with_reducible refine LeO.bind ?_ (fun _ => ?_))
      | exact ih0 _ _ _ _ _ _ _ _ _ _ _ _ _ _
      | exact ih1 _ _ _ _ _ _ _ _ _ _ _ _ _ _ _
      | exact ih2 _ _ _ _ _ _ _ _ _ _ _ _ _ _ _ _
      | exact LeO.none _
      | refine LeO.ite ?_ ?_
      | refine LeO.bind ?_ (fun _ => ?_)
    · intro y0 y1 y2 y3 y4 y5 y6 y7 y8 y9 y10 y11 y12 y13 y14
      unfold sashref05_Same.j0
      repeat' first
      | (with_reducible exact ih0 _ _ _ _ _ _ _ _ _ _ _ _ _ _)
      | (with_reducible exact ih1 _ _ _ _ _ _ _ _ _ _ _ _ _ _ _)
      | (with_reducible exact ih2 _ _ _ _ _ _ _ _ _ _ _ _ _ _ _ _)
      | (with_reducible exact LeO.refl _)
      | (with_reducible exact LeO.none _)
      | (with_reducible refine LeO.ite ?_ ?_)
      | (with_reducible refine LeO.bind ?_ (fun _ => ?_))
      | exact ih0 _ _ _ _ _ _ _ _ _ _ _ _ _ _
      | exact ih1 _ _ _ _ _ _ _ _ _ _ _ _ _ _ _
      | exact ih2 _ _ _ _ _ _ _ _ _ _ _ _ _ _ _ _
      | exact LeO.none _
      | refine LeO.ite ?_ ?_
      | refine LeO.bind ?_ (fun _ => ?_)
    · intro y0 y1 y2 y3 y4 y5 y6 y7 y8 y9 y10 y11 y12 y13 y14 y15
      unfold sashref05_Same.l0
      repeat' first
      | (with_reducible exact ih0 _ _ _ _ _ _ _ _ _ _ _ _ _ _)
      | (with_reducible exact ih1 _ _ _ _ _ _ _ _ _ _ _ _ _ _ _)
      | (with_reducible exact ih2 _ _ _ _ _ _ _ _ _ _ _ _ _ _ _ _)
      | (with_reducible exact LeO.refl _)
      | (with_reducible exact LeO.none _)
      | (with_reducible refine LeO.ite ?_ ?_)
      | (with_reducible refine LeO.bind ?_ (fun _ => ?_))
      | exact ih0 _ _ _ _ _ _ _ _ _ _ _ _ _ _
      | exact ih1 _ _ _ _ _ _ _ _ _ _ _ _ _ _ _
      | exact ih2 _ _ _ _ _ _ _ _ _ _ _ _ _ _ _ _
      | exact LeO.none _
      | refine LeO.ite ?_ ?_
      | refine LeO.bind ?_ (fun _ => ?_)
theorem sashref05_Same.mono : ∀ a0 a1 a2 a3 a4 a5 a6 a7 a8 a9 a10 a11 a12 a13 k, LeO (sashref05_Same.f k a0 a1 a2 a3 a4 a5 a6 a7 a8 a9 a10 a11 a12 a13) (sashref05_Same.f (k + 1) a0 a1 a2 a3 a4 a5 a6 a7 a8 a9 a10 a11 a12 a13) := by
  intro a0 a1 a2 a3 a4 a5 a6 a7 a8 a9 a10 a11 a12 a13 k
  obtain ⟨ih0, ih1, ih2⟩ := sashref05_Same.mono_l k
  exact ih0 a0 a1 a2 a3 a4 a5 a6 a7 a8 a9 a10 a11 a12 a13
def sashref05_Same.T6 : Bool × List (List Nat × List Nat) := (true, [([], []), ([0], [0]), ([], []), ([1, 2], [1, 2]), ([3], [3]), ([], []), ([5], [5]), ([], []), ([6, 7], [6, 7]), ([8], [8]), ([4, 9], [4, 9]), ([10], [10])])
def sashref05_Same.B6 : List Nat := [0, 1, 0, 7, 15, 0, 32, 0, 224, 480, 1023, 2047]
theorem sashref05_Same.tab6 : rtab .any (opsOf Try.f64 6) = sashref05_Same.T6 := by kernel_rfl
theorem sashref05_Same.bits6 : waitsOk sashref05_Same.T6.2 sashref05_Same.B6 = true := by kernel_rfl
set_option maxHeartbeats 8000000 in
set_option maxRecDepth 100000 in
theorem sashref05_Same.calls (k : Nat) : ∀ (a0_0 : Int) (a0_1 : Int) (a0_2 : Int) (a0_3 : Int) (a0_4 : Int) (a0_5 : Int) (A0_6 : Option Addr) (c0_6 : Nat) (l0_6 : List (S26)) (a1_0 : Int) (a1_1 : Int) (a1_2 : Int) (a1_3 : Int) (a1_4 : Int) (a1_5 : Int) (A1_6 : Option Addr) (c1_6 : Nat) (l1_6 : List (S26)) (r : Bool) (w : World) (hr0_6 : Kd.C k26 w A0_6 l0_6.length l0_6) (hc0_6 : l0_6.length ≤ c0_6) (hr1_6 : Kd.C k26 w A1_6 l1_6.length l1_6) (hc1_6 : l1_6.length ≤ c1_6) (h : sashref05_Same.f k a0_0 a0_1 a0_2 a0_3 a0_4 a0_5 l0_6 a1_0 a1_1 a1_2 a1_3 a1_4 a1_5 l1_6 = some r),
    Calls Try.prog 64 #[.agg #[.int .u8 a0_0, .int .i64 a0_1, .int .i64 a0_2, .int .i64 a0_3, .int .i64 a0_4, .int .i64 a0_5, .slice A0_6 l0_6.length c0_6], .agg #[.int .u8 a1_0, .int .i64 a1_1, .int .i64 a1_2, .int .i64 a1_3, .int .i64 a1_4, .int .i64 a1_5, .slice A1_6 l1_6.length c1_6]] w fun e w' => e = .returned (.bool r) ∧ Below w.heap.size w w' := by
  induction k using Nat.strongRecOn with
  | _ k ih =>
  intro a0_0 a0_1 a0_2 a0_3 a0_4 a0_5 A0_6 c0_6 l0_6 a1_0 a1_1 a1_2 a1_3 a1_4 a1_5 A1_6 c1_6 l1_6 r w hr0_6 hc0_6 hr1_6 hc1_6 h
  cases k with
  | zero => exact absurd h (by simp [sashref05_Same.f])
  | succ k =>
  simp only [sashref05_Same.f] at h
  have hu26 := Try.underlying26
  have hu23 := Try.underlying23
  have HR0_6 := Aside0.mk hr0_6
  have HC0_6 := Aside0.mk hc0_6
  clear hr0_6 hc0_6
  have HR1_6 := Aside0.mk hr1_6
  have HC1_6 := Aside0.mk hc1_6
  clear hr1_6 hc1_6
  have HB := Aside0.mk (Below.refl w.heap.size w)
  have H : (if a0_0 = a1_0 then (if (!(a0_1 == a1_1) || (!(a0_2 == a1_2) || (!(a0_3 == a1_3) || (!(a0_4 == a1_4))))) = true then (sashref05_Same.j0 k true a0_0 a0_1 a0_2 a0_3 a0_4 a0_5 l0_6 a1_0 a1_1 a1_2 a1_3 a1_4 a1_5 l1_6) else (if a0_5 = a1_5 then (sashref05_Same.j0 k ((l0_6.length : Int) != (l1_6.length : Int)) a0_0 a0_1 a0_2 a0_3 a0_4 a0_5 l0_6 a1_0 a1_1 a1_2 a1_3 a1_4 a1_5 l1_6) else (sashref05_Same.j0 k true a0_0 a0_1 a0_2 a0_3 a0_4 a0_5 l0_6 a1_0 a1_1 a1_2 a1_3 a1_4 a1_5 l1_6))) else (sashref05_Same.j0 k true a0_0 a0_1 a0_2 a0_3 a0_4 a0_5 l0_6 a1_0 a1_1 a1_2 a1_3 a1_4 a1_5 l1_6)) = some r := h
  clear h
  have HC3 := Aside0.mk H
  clear H
  go_enter Try.func64, Try.ntmps64
  go_upto_region 1 with (first | ((with_reducible refine gate_dst (N := 2) rfl ?_); (try (refine gate_guard (by rfl) ?_; dsimp only)); refine box_event ?hg (N := 2) ?hd (cs := #[.int .u8 a0_0, .int .i64 a0_1, .int .i64 a0_2, .int .i64 a0_3, .int .i64 a0_4, .int .i64 a0_5, .slice A0_6 l0_6.length c0_6]) (t := 26) ?hr ?_; (case hd => rfl); (case hg => rfl); (case hr => first | (go_simp; done) | (go_simp; rfl)); intro gb600 hg w4 hbox hb; have n0_ := Aside0.mk (below_step (by repeat (first | (with_reducible first | exact HB.out | apply below_alloc | apply pw_below_drewN | apply below_drew1) | exact HB.out)) hb); have n1_ := Aside0.mk (hbox); have n2_ := Aside0.mk ((by rw [hg]; exact (below_size (by repeat (first | (with_reducible first | exact HB.out | apply below_alloc | apply pw_below_drewN | apply below_drew1) | exact HB.out))) : w.heap.size ≤ gb600)); have n3_ := Aside0.mk ((by rw [hg]; exact (below_size (by repeat (first | (with_reducible first | exact HB.out | apply below_alloc | apply pw_below_drewN | apply below_drew1) | exact HB.out))) : w.heap.size ≤ gb600)); clear HB; have HB := n0_; have BK600 := n1_; have GW600 := n2_; have GE600 := n3_; clear n0_ n1_ n2_ n3_; clear hb hbox hg) | ((with_reducible refine gate_dst (N := 3) rfl ?_); (try (refine gate_guard (by rfl) ?_; dsimp only)); refine box_event ?hg (N := 3) ?hd (cs := #[.int .u8 a1_0, .int .i64 a1_1, .int .i64 a1_2, .int .i64 a1_3, .int .i64 a1_4, .int .i64 a1_5, .slice A1_6 l1_6.length c1_6]) (t := 26) ?hr ?_; (case hd => rfl); (case hg => rfl); (case hr => first | (go_simp; done) | (go_simp; rfl)); intro gb601 hg w5 hbox hb; have n0_ := Aside0.mk (blk_below (g := gb600) (o := .cells #[.int .u8 a0_0, .int .i64 a0_1, .int .i64 a0_2, .int .i64 a0_3, .int .i64 a0_4, .int .i64 a0_5, .slice A0_6 l0_6.length c0_6] 26 (0, 0)) (by (with_reducible repeat (first | refine blk_drewN ?_ _ | refine blk_drew ?_ | refine blk_alloc ?_ _)); exact BK600.out) hb); have n1_ := Aside0.mk (below_step (by repeat (first | (with_reducible first | exact HB.out | apply below_alloc | apply pw_below_drewN | apply below_drew1 | refine below_set ?_ GE600.out) | exact HB.out)) hb); have n2_ := Aside0.mk (hbox); have n3_ := Aside0.mk ((by rw [hg]; exact (below_size (by repeat (first | (with_reducible first | exact HB.out | apply below_alloc | apply pw_below_drewN | apply below_drew1 | refine below_set ?_ GE600.out) | exact HB.out))) : w.heap.size ≤ gb601)); have n4_ := Aside0.mk ((by rw [hg]; exact (below_size (by repeat (first | (with_reducible first | exact HB.out | apply below_alloc | apply pw_below_drewN | apply below_drew1 | refine below_set ?_ GE600.out) | exact HB.out))) : w.heap.size ≤ gb601)); have n5_ := Aside0.mk ((by rw [hg]; exact Nat.ne_of_lt (blk_lt (g := gb600) (o := .cells #[.int .u8 a0_0, .int .i64 a0_1, .int .i64 a0_2, .int .i64 a0_3, .int .i64 a0_4, .int .i64 a0_5, .slice A0_6 l0_6.length c0_6] 26 (0, 0)) (by (with_reducible repeat (first | refine blk_drewN ?_ _ | refine blk_drew ?_ | refine blk_alloc ?_ _)); exact BK600.out)) : gb600 ≠ gb601)); have n6_ := Aside0.mk ((by rw [hg]; exact Nat.ne_of_gt (blk_lt (g := gb600) (o := .cells #[.int .u8 a0_0, .int .i64 a0_1, .int .i64 a0_2, .int .i64 a0_3, .int .i64 a0_4, .int .i64 a0_5, .slice A0_6 l0_6.length c0_6] 26 (0, 0)) (by (with_reducible repeat (first | refine blk_drewN ?_ _ | refine blk_drew ?_ | refine blk_alloc ?_ _)); exact BK600.out)) : gb601 ≠ gb600)); clear BK600; clear HB; have BK600 := n0_; have HB := n1_; have BK601 := n2_; have GW601 := n3_; have GE601 := n4_; have NB600_601 := n5_; have NB601_600 := n6_; clear n0_ n1_ n2_ n3_ n4_ n5_ n6_; clear hb hbox hg))
  (try simp only [Act.put, List.setIfInBounds_toArray, List.set_cons_zero, List.set_cons_succ])
  go_cut [33] (fun v33 wc => ∃ (kq : Nat) (x33_2 : Bool), v33 = .bool x33_2 ∧ Aside0 (sashref05_Same.j0 kq x33_2 a0_0 a0_1 a0_2 a0_3 a0_4 a0_5 l0_6 a1_0 a1_1 a1_2 a1_3 a1_4 a1_5 l1_6 = some r) ∧ Aside0 (kq ≤ k) ∧ Aside0 (wc.heap[gb600]? = some (.cells #[.int .u8 a0_0, .int .i64 a0_1, .int .i64 a0_2, .int .i64 a0_3, .int .i64 a0_4, .int .i64 a0_5, (.slice A0_6 l0_6.length c0_6)] 26 (0, 0))) ∧ Aside0 (wc.heap[gb601]? = some (.cells #[.int .u8 a1_0, .int .i64 a1_1, .int .i64 a1_2, .int .i64 a1_3, .int .i64 a1_4, .int .i64 a1_5, (.slice A1_6 l1_6.length c1_6)] 26 (0, 0))) ∧ Aside0 (Below w.heap.size w wc))
  case first =>
    have H := HC3.out
    clear HC3
    by_cases c6 : a0_0 = a1_0
    · rw [if_pos c6] at H
      have c6b0 : (a0_0 == a1_0) = true := beq_iff_eq.mpr c6
      have c6b1 : (a0_0 != a1_0) = false := bne_eq_false_iff_eq.mpr c6
      clear c6
      (first | rw [c6b0] | (simp only [i64_w, i32_w]; rw [c6b0]) | skip)
      by_cases c7 : (!(a0_1 == a1_1) || (!(a0_2 == a1_2) || (!(a0_3 == a1_3) || (!(a0_4 == a1_4))))) = true
      · rw [if_pos c7] at H
        have c7b0 : (!(a0_1 == a1_1) || (!(a0_2 == a1_2) || (!(a0_3 == a1_3) || (!(a0_4 == a1_4))))) = true := c7
        clear c7
        have H' := Aside0.mk H
        clear H
        have hnb8 := NB600_601.out
        have hnc8 := NB601_600.out
        have hcz9_0 : w5.cell? ⟨gb600, 0, none⟩ = some (.int .u8 a0_0) := (blk_cell BK600.out 0).trans rfl
        have hcz9_1 : w5.cell? ⟨gb600, 1, none⟩ = some (.int .i64 a0_1) := (blk_cell BK600.out 1).trans rfl
        have hcz9_2 : w5.cell? ⟨gb600, 2, none⟩ = some (.int .i64 a0_2) := (blk_cell BK600.out 2).trans rfl
        have hcz9_3 : w5.cell? ⟨gb600, 3, none⟩ = some (.int .i64 a0_3) := (blk_cell BK600.out 3).trans rfl
        have hcz9_4 : w5.cell? ⟨gb600, 4, none⟩ = some (.int .i64 a0_4) := (blk_cell BK600.out 4).trans rfl
        have hcz9_5 : w5.cell? ⟨gb600, 5, none⟩ = some (.int .i64 a0_5) := (blk_cell BK600.out 5).trans rfl
        have hcz9_6 : w5.cell? ⟨gb600, 6, none⟩ = some (.slice A0_6 l0_6.length c0_6) := (blk_cell BK600.out 6).trans rfl
        have hfz9_0 := blk_frozen BK600.out 0
        have hfz9_1 := blk_frozen BK600.out 1
        have hfz9_2 := blk_frozen BK600.out 2
        have hfz9_3 := blk_frozen BK600.out 3
        have hfz9_4 := blk_frozen BK600.out 4
        have hfz9_5 := blk_frozen BK600.out 5
        have hfz9_6 := blk_frozen BK600.out 6
        have hcz10_0 : w5.cell? ⟨gb601, 0, none⟩ = some (.int .u8 a1_0) := (blk_cell BK601.out 0).trans rfl
        have hcz10_1 : w5.cell? ⟨gb601, 1, none⟩ = some (.int .i64 a1_1) := (blk_cell BK601.out 1).trans rfl
        have hcz10_2 : w5.cell? ⟨gb601, 2, none⟩ = some (.int .i64 a1_2) := (blk_cell BK601.out 2).trans rfl
        have hcz10_3 : w5.cell? ⟨gb601, 3, none⟩ = some (.int .i64 a1_3) := (blk_cell BK601.out 3).trans rfl
        have hcz10_4 : w5.cell? ⟨gb601, 4, none⟩ = some (.int .i64 a1_4) := (blk_cell BK601.out 4).trans rfl
        have hcz10_5 : w5.cell? ⟨gb601, 5, none⟩ = some (.int .i64 a1_5) := (blk_cell BK601.out 5).trans rfl
        have hcz10_6 : w5.cell? ⟨gb601, 6, none⟩ = some (.slice A1_6 l1_6.length c1_6) := (blk_cell BK601.out 6).trans rfl
        have hfz10_0 := blk_frozen BK601.out 0
        have hfz10_1 := blk_frozen BK601.out 1
        have hfz10_2 := blk_frozen BK601.out 2
        have hfz10_3 := blk_frozen BK601.out 3
        have hfz10_4 := blk_frozen BK601.out 4
        have hfz10_5 := blk_frozen BK601.out 5
        have hfz10_6 := blk_frozen BK601.out 6
        go_wp2
        go_meet
        case rel => exact ⟨_, (true), (by first | rfl | (simp; done) | (simp [*]; done)), H', ⟨by first | omega | exact Nat.le_refl _⟩, ⟨by (with_reducible repeat (first | refine blk_drewN ?_ _ | refine blk_drew ?_ | refine blk_alloc ?_ _)); exact BK600.out⟩, ⟨by (with_reducible repeat (first | refine blk_drewN ?_ _ | refine blk_drew ?_ | refine blk_alloc ?_ _)); exact BK601.out⟩, ⟨by repeat (first | (with_reducible first | exact HB.out | apply below_alloc | apply pw_below_drewN | apply below_drew1 | refine below_set ?_ GE600.out | refine below_set ?_ GE601.out) | exact HB.out)⟩⟩
      · rw [if_neg c7] at H
        have c7b0 : (!(a0_1 == a1_1) || (!(a0_2 == a1_2) || (!(a0_3 == a1_3) || (!(a0_4 == a1_4))))) = false := by simpa using c7
        clear c7
        by_cases c11 : a0_5 = a1_5
        · rw [if_pos c11] at H
          have c11b0 : (a0_5 == a1_5) = true := beq_iff_eq.mpr c11
          have c11b1 : (a0_5 != a1_5) = false := bne_eq_false_iff_eq.mpr c11
          clear c11
          have H' := Aside0.mk H
          clear H
          have hnb12 := NB600_601.out
          have hnc12 := NB601_600.out
          have hcz13_0 : w5.cell? ⟨gb600, 0, none⟩ = some (.int .u8 a0_0) := (blk_cell BK600.out 0).trans rfl
          have hcz13_1 : w5.cell? ⟨gb600, 1, none⟩ = some (.int .i64 a0_1) := (blk_cell BK600.out 1).trans rfl
          have hcz13_2 : w5.cell? ⟨gb600, 2, none⟩ = some (.int .i64 a0_2) := (blk_cell BK600.out 2).trans rfl
          have hcz13_3 : w5.cell? ⟨gb600, 3, none⟩ = some (.int .i64 a0_3) := (blk_cell BK600.out 3).trans rfl
          have hcz13_4 : w5.cell? ⟨gb600, 4, none⟩ = some (.int .i64 a0_4) := (blk_cell BK600.out 4).trans rfl
          have hcz13_5 : w5.cell? ⟨gb600, 5, none⟩ = some (.int .i64 a0_5) := (blk_cell BK600.out 5).trans rfl
          have hcz13_6 : w5.cell? ⟨gb600, 6, none⟩ = some (.slice A0_6 l0_6.length c0_6) := (blk_cell BK600.out 6).trans rfl
          have hfz13_0 := blk_frozen BK600.out 0
          have hfz13_1 := blk_frozen BK600.out 1
          have hfz13_2 := blk_frozen BK600.out 2
          have hfz13_3 := blk_frozen BK600.out 3
          have hfz13_4 := blk_frozen BK600.out 4
          have hfz13_5 := blk_frozen BK600.out 5
          have hfz13_6 := blk_frozen BK600.out 6
          have hcz14_0 : w5.cell? ⟨gb601, 0, none⟩ = some (.int .u8 a1_0) := (blk_cell BK601.out 0).trans rfl
          have hcz14_1 : w5.cell? ⟨gb601, 1, none⟩ = some (.int .i64 a1_1) := (blk_cell BK601.out 1).trans rfl
          have hcz14_2 : w5.cell? ⟨gb601, 2, none⟩ = some (.int .i64 a1_2) := (blk_cell BK601.out 2).trans rfl
          have hcz14_3 : w5.cell? ⟨gb601, 3, none⟩ = some (.int .i64 a1_3) := (blk_cell BK601.out 3).trans rfl
          have hcz14_4 : w5.cell? ⟨gb601, 4, none⟩ = some (.int .i64 a1_4) := (blk_cell BK601.out 4).trans rfl
          have hcz14_5 : w5.cell? ⟨gb601, 5, none⟩ = some (.int .i64 a1_5) := (blk_cell BK601.out 5).trans rfl
          have hcz14_6 : w5.cell? ⟨gb601, 6, none⟩ = some (.slice A1_6 l1_6.length c1_6) := (blk_cell BK601.out 6).trans rfl
          have hfz14_0 := blk_frozen BK601.out 0
          have hfz14_1 := blk_frozen BK601.out 1
          have hfz14_2 := blk_frozen BK601.out 2
          have hfz14_3 := blk_frozen BK601.out 3
          have hfz14_4 := blk_frozen BK601.out 4
          have hfz14_5 := blk_frozen BK601.out 5
          have hfz14_6 := blk_frozen BK601.out 6
          go_wp2
          go_meet
          case rel => exact ⟨_, (((l0_6.length : Int) != (l1_6.length : Int))), (by first | rfl | (simp; done) | (simp [*]; done)), H', ⟨by first | omega | exact Nat.le_refl _⟩, ⟨by (with_reducible repeat (first | refine blk_drewN ?_ _ | refine blk_drew ?_ | refine blk_alloc ?_ _)); exact BK600.out⟩, ⟨by (with_reducible repeat (first | refine blk_drewN ?_ _ | refine blk_drew ?_ | refine blk_alloc ?_ _)); exact BK601.out⟩, ⟨by repeat (first | (with_reducible first | exact HB.out | apply below_alloc | apply pw_below_drewN | apply below_drew1 | refine below_set ?_ GE600.out | refine below_set ?_ GE601.out) | exact HB.out)⟩⟩
        · rw [if_neg c11] at H
          have c11b0 : (a0_5 == a1_5) = false := beq_eq_false_iff_ne.mpr c11
          have c11b1 : (a0_5 != a1_5) = true := bne_iff_ne.mpr c11
          have H' := Aside0.mk H
          clear H
          have hnb15 := NB600_601.out
          have hnc15 := NB601_600.out
          have hcz16_0 : w5.cell? ⟨gb600, 0, none⟩ = some (.int .u8 a0_0) := (blk_cell BK600.out 0).trans rfl
          have hcz16_1 : w5.cell? ⟨gb600, 1, none⟩ = some (.int .i64 a0_1) := (blk_cell BK600.out 1).trans rfl
          have hcz16_2 : w5.cell? ⟨gb600, 2, none⟩ = some (.int .i64 a0_2) := (blk_cell BK600.out 2).trans rfl
          have hcz16_3 : w5.cell? ⟨gb600, 3, none⟩ = some (.int .i64 a0_3) := (blk_cell BK600.out 3).trans rfl
          have hcz16_4 : w5.cell? ⟨gb600, 4, none⟩ = some (.int .i64 a0_4) := (blk_cell BK600.out 4).trans rfl
          have hcz16_5 : w5.cell? ⟨gb600, 5, none⟩ = some (.int .i64 a0_5) := (blk_cell BK600.out 5).trans rfl
          have hcz16_6 : w5.cell? ⟨gb600, 6, none⟩ = some (.slice A0_6 l0_6.length c0_6) := (blk_cell BK600.out 6).trans rfl
          have hfz16_0 := blk_frozen BK600.out 0
          have hfz16_1 := blk_frozen BK600.out 1
          have hfz16_2 := blk_frozen BK600.out 2
          have hfz16_3 := blk_frozen BK600.out 3
          have hfz16_4 := blk_frozen BK600.out 4
          have hfz16_5 := blk_frozen BK600.out 5
          have hfz16_6 := blk_frozen BK600.out 6
          have hcz17_0 : w5.cell? ⟨gb601, 0, none⟩ = some (.int .u8 a1_0) := (blk_cell BK601.out 0).trans rfl
          have hcz17_1 : w5.cell? ⟨gb601, 1, none⟩ = some (.int .i64 a1_1) := (blk_cell BK601.out 1).trans rfl
          have hcz17_2 : w5.cell? ⟨gb601, 2, none⟩ = some (.int .i64 a1_2) := (blk_cell BK601.out 2).trans rfl
          have hcz17_3 : w5.cell? ⟨gb601, 3, none⟩ = some (.int .i64 a1_3) := (blk_cell BK601.out 3).trans rfl
          have hcz17_4 : w5.cell? ⟨gb601, 4, none⟩ = some (.int .i64 a1_4) := (blk_cell BK601.out 4).trans rfl
          have hcz17_5 : w5.cell? ⟨gb601, 5, none⟩ = some (.int .i64 a1_5) := (blk_cell BK601.out 5).trans rfl
          have hcz17_6 : w5.cell? ⟨gb601, 6, none⟩ = some (.slice A1_6 l1_6.length c1_6) := (blk_cell BK601.out 6).trans rfl
          have hfz17_0 := blk_frozen BK601.out 0
          have hfz17_1 := blk_frozen BK601.out 1
          have hfz17_2 := blk_frozen BK601.out 2
          have hfz17_3 := blk_frozen BK601.out 3
          have hfz17_4 := blk_frozen BK601.out 4
          have hfz17_5 := blk_frozen BK601.out 5
          have hfz17_6 := blk_frozen BK601.out 6
          go_wp2
          go_meet
          case rel => exact ⟨_, (true), (by first | rfl | (simp; done) | (simp [*]; done)), H', ⟨by first | omega | exact Nat.le_refl _⟩, ⟨by (with_reducible repeat (first | refine blk_drewN ?_ _ | refine blk_drew ?_ | refine blk_alloc ?_ _)); exact BK600.out⟩, ⟨by (with_reducible repeat (first | refine blk_drewN ?_ _ | refine blk_drew ?_ | refine blk_alloc ?_ _)); exact BK601.out⟩, ⟨by repeat (first | (with_reducible first | exact HB.out | apply below_alloc | apply pw_below_drewN | apply below_drew1 | refine below_set ?_ GE600.out | refine below_set ?_ GE601.out) | exact HB.out)⟩⟩
    · rw [if_neg c6] at H
      have c6b0 : (a0_0 == a1_0) = false := beq_eq_false_iff_ne.mpr c6
      have c6b1 : (a0_0 != a1_0) = true := bne_iff_ne.mpr c6
      (first | rw [c6b0] | (simp only [i64_w, i32_w]; rw [c6b0]) | skip)
      have H' := Aside0.mk H
      clear H
      have hnb18 := NB600_601.out
      have hnc18 := NB601_600.out
      have hcz19_0 : w5.cell? ⟨gb600, 0, none⟩ = some (.int .u8 a0_0) := (blk_cell BK600.out 0).trans rfl
      have hcz19_1 : w5.cell? ⟨gb600, 1, none⟩ = some (.int .i64 a0_1) := (blk_cell BK600.out 1).trans rfl
      have hcz19_2 : w5.cell? ⟨gb600, 2, none⟩ = some (.int .i64 a0_2) := (blk_cell BK600.out 2).trans rfl
      have hcz19_3 : w5.cell? ⟨gb600, 3, none⟩ = some (.int .i64 a0_3) := (blk_cell BK600.out 3).trans rfl
      have hcz19_4 : w5.cell? ⟨gb600, 4, none⟩ = some (.int .i64 a0_4) := (blk_cell BK600.out 4).trans rfl
      have hcz19_5 : w5.cell? ⟨gb600, 5, none⟩ = some (.int .i64 a0_5) := (blk_cell BK600.out 5).trans rfl
      have hcz19_6 : w5.cell? ⟨gb600, 6, none⟩ = some (.slice A0_6 l0_6.length c0_6) := (blk_cell BK600.out 6).trans rfl
      have hfz19_0 := blk_frozen BK600.out 0
      have hfz19_1 := blk_frozen BK600.out 1
      have hfz19_2 := blk_frozen BK600.out 2
      have hfz19_3 := blk_frozen BK600.out 3
      have hfz19_4 := blk_frozen BK600.out 4
      have hfz19_5 := blk_frozen BK600.out 5
      have hfz19_6 := blk_frozen BK600.out 6
      have hcz20_0 : w5.cell? ⟨gb601, 0, none⟩ = some (.int .u8 a1_0) := (blk_cell BK601.out 0).trans rfl
      have hcz20_1 : w5.cell? ⟨gb601, 1, none⟩ = some (.int .i64 a1_1) := (blk_cell BK601.out 1).trans rfl
      have hcz20_2 : w5.cell? ⟨gb601, 2, none⟩ = some (.int .i64 a1_2) := (blk_cell BK601.out 2).trans rfl
      have hcz20_3 : w5.cell? ⟨gb601, 3, none⟩ = some (.int .i64 a1_3) := (blk_cell BK601.out 3).trans rfl
      have hcz20_4 : w5.cell? ⟨gb601, 4, none⟩ = some (.int .i64 a1_4) := (blk_cell BK601.out 4).trans rfl
      have hcz20_5 : w5.cell? ⟨gb601, 5, none⟩ = some (.int .i64 a1_5) := (blk_cell BK601.out 5).trans rfl
      have hcz20_6 : w5.cell? ⟨gb601, 6, none⟩ = some (.slice A1_6 l1_6.length c1_6) := (blk_cell BK601.out 6).trans rfl
      have hfz20_0 := blk_frozen BK601.out 0
      have hfz20_1 := blk_frozen BK601.out 1
      have hfz20_2 := blk_frozen BK601.out 2
      have hfz20_3 := blk_frozen BK601.out 3
      have hfz20_4 := blk_frozen BK601.out 4
      have hfz20_5 := blk_frozen BK601.out 5
      have hfz20_6 := blk_frozen BK601.out 6
      go_wp2
      go_meet
      case rel => exact ⟨_, (true), (by first | rfl | (simp; done) | (simp [*]; done)), H', ⟨by first | omega | exact Nat.le_refl _⟩, ⟨by (with_reducible repeat (first | refine blk_drewN ?_ _ | refine blk_drew ?_ | refine blk_alloc ?_ _)); exact BK600.out⟩, ⟨by (with_reducible repeat (first | refine blk_drewN ?_ _ | refine blk_drew ?_ | refine blk_alloc ?_ _)); exact BK601.out⟩, ⟨by repeat (first | (with_reducible first | exact HB.out | apply below_alloc | apply pw_below_drewN | apply below_drew1 | refine below_set ?_ GE600.out | refine below_set ?_ GE601.out) | exact HB.out)⟩⟩
  case rest =>
    clear HC3
    try clear c1
    try clear p2
    try clear c6
    try clear c6b0
    try clear c6b1
    try clear c7
    try clear c7b0
    try clear c8
    try clear c11
    try clear c11b0
    try clear c11b1
    try clear c12
    try clear c15
    try clear c18
    try clear hcz10_0
    try clear hcz10_1
    try clear hcz10_2
    try clear hcz10_3
    try clear hcz10_4
    try clear hcz10_5
    try clear hcz10_6
    try clear hcz13_0
    try clear hcz13_1
    try clear hcz13_2
    try clear hcz13_3
    try clear hcz13_4
    try clear hcz13_5
    try clear hcz13_6
    try clear hcz14_0
    try clear hcz14_1
    try clear hcz14_2
    try clear hcz14_3
    try clear hcz14_4
    try clear hcz14_5
    try clear hcz14_6
    try clear hcz16_0
    try clear hcz16_1
    try clear hcz16_2
    try clear hcz16_3
    try clear hcz16_4
    try clear hcz16_5
    try clear hcz16_6
    try clear hcz17_0
    try clear hcz17_1
    try clear hcz17_2
    try clear hcz17_3
    try clear hcz17_4
    try clear hcz17_5
    try clear hcz17_6
    try clear hcz19_0
    try clear hcz19_1
    try clear hcz19_2
    try clear hcz19_3
    try clear hcz19_4
    try clear hcz19_5
    try clear hcz19_6
    try clear hcz20_0
    try clear hcz20_1
    try clear hcz20_2
    try clear hcz20_3
    try clear hcz20_4
    try clear hcz20_5
    try clear hcz20_6
    try clear hcz9_0
    try clear hcz9_1
    try clear hcz9_2
    try clear hcz9_3
    try clear hcz9_4
    try clear hcz9_5
    try clear hcz9_6
    try clear hfz10_0
    try clear hfz10_1
    try clear hfz10_2
    try clear hfz10_3
    try clear hfz10_4
    try clear hfz10_5
    try clear hfz10_6
    try clear hfz13_0
    try clear hfz13_1
    try clear hfz13_2
    try clear hfz13_3
    try clear hfz13_4
    try clear hfz13_5
    try clear hfz13_6
    try clear hfz14_0
    try clear hfz14_1
    try clear hfz14_2
    try clear hfz14_3
    try clear hfz14_4
    try clear hfz14_5
    try clear hfz14_6
    try clear hfz16_0
    try clear hfz16_1
    try clear hfz16_2
    try clear hfz16_3
    try clear hfz16_4
    try clear hfz16_5
    try clear hfz16_6
    try clear hfz17_0
    try clear hfz17_1
    try clear hfz17_2
    try clear hfz17_3
    try clear hfz17_4
    try clear hfz17_5
    try clear hfz17_6
    try clear hfz19_0
    try clear hfz19_1
    try clear hfz19_2
    try clear hfz19_3
    try clear hfz19_4
    try clear hfz19_5
    try clear hfz19_6
    try clear hfz20_0
    try clear hfz20_1
    try clear hfz20_2
    try clear hfz20_3
    try clear hfz20_4
    try clear hfz20_5
    try clear hfz20_6
    try clear hfz9_0
    try clear hfz9_1
    try clear hfz9_2
    try clear hfz9_3
    try clear hfz9_4
    try clear hfz9_5
    try clear hfz9_6
    obtain ⟨kq, x33_2, rfl, HA, HJ2, BK600, BK601, HB⟩ := hcut
    cases kq with
    | zero => exact absurd HA.out (by simp [sashref05_Same.j0])
    | succ kj2 =>
      have H := HA.out
      clear HA
      simp only [sashref05_Same.j0] at H
      by_cases c21 : x33_2 = true
      · subst c21
        have H1 : (some false) = some r := by rw [if_pos rfl] at H; exact H
        clear H
        have H := H1
        clear H1
        obtain rfl := Option.some.inj H
        go_wp2
        go_ret
        exact ⟨by first | rfl | (simp [errW_none, errW_some] <;> rfl) | (simp [*, errW_none, errW_some] <;> rfl), by repeat (first | (with_reducible first | exact HB.out | apply below_alloc | apply pw_below_drewN | apply below_drew1 | refine below_set ?_ GE600.out | refine below_set ?_ GE601.out) | exact HB.out)⟩
      · replace c21 := Bool.eq_false_iff.mpr c21
        subst c21
        have H1 : (sashref05_Same.l0 kj2 (l0_6.length : Int) 0 a0_0 a0_1 a0_2 a0_3 a0_4 a0_5 l0_6 a1_0 a1_1 a1_2 a1_3 a1_4 a1_5 l1_6) = some r := by rw [if_neg (show ¬ (false = true) by decide)] at H; exact H
        clear H
        have H := H1
        clear H1
        have H' := Aside0.mk H
        clear H
        have hnb22 := NB600_601.out
        have hnc22 := NB601_600.out
        have hcz23_0 : wc.cell? ⟨gb600, 0, none⟩ = some (.int .u8 a0_0) := (blk_cell BK600.out 0).trans rfl
        have hcz23_1 : wc.cell? ⟨gb600, 1, none⟩ = some (.int .i64 a0_1) := (blk_cell BK600.out 1).trans rfl
        have hcz23_2 : wc.cell? ⟨gb600, 2, none⟩ = some (.int .i64 a0_2) := (blk_cell BK600.out 2).trans rfl
        have hcz23_3 : wc.cell? ⟨gb600, 3, none⟩ = some (.int .i64 a0_3) := (blk_cell BK600.out 3).trans rfl
        have hcz23_4 : wc.cell? ⟨gb600, 4, none⟩ = some (.int .i64 a0_4) := (blk_cell BK600.out 4).trans rfl
        have hcz23_5 : wc.cell? ⟨gb600, 5, none⟩ = some (.int .i64 a0_5) := (blk_cell BK600.out 5).trans rfl
        have hcz23_6 : wc.cell? ⟨gb600, 6, none⟩ = some (.slice A0_6 l0_6.length c0_6) := (blk_cell BK600.out 6).trans rfl
        have hfz23_0 := blk_frozen BK600.out 0
        have hfz23_1 := blk_frozen BK600.out 1
        have hfz23_2 := blk_frozen BK600.out 2
        have hfz23_3 := blk_frozen BK600.out 3
        have hfz23_4 := blk_frozen BK600.out 4
        have hfz23_5 := blk_frozen BK600.out 5
        have hfz23_6 := blk_frozen BK600.out 6
        go_wp2
        go_loopg [37] kj2 (fun kq v37 w' => ∃ (x37_2 : Int), v37 = .int .i64 x37_2 ∧ Aside0 (sashref05_Same.l0 kq (l0_6.length : Int) x37_2 a0_0 a0_1 a0_2 a0_3 a0_4 a0_5 l0_6 a1_0 a1_1 a1_2 a1_3 a1_4 a1_5 l1_6 = some r) ∧ Aside0 (kq ≤ kj2) ∧ Aside0 (w'.heap[gb600]? = some (.cells #[.int .u8 a0_0, .int .i64 a0_1, .int .i64 a0_2, .int .i64 a0_3, .int .i64 a0_4, .int .i64 a0_5, (.slice A0_6 l0_6.length c0_6)] 26 (0, 0))) ∧ Aside0 (w'.heap[gb601]? = some (.cells #[.int .u8 a1_0, .int .i64 a1_1, .int .i64 a1_2, .int .i64 a1_3, .int .i64 a1_4, .int .i64 a1_5, (.slice A1_6 l1_6.length c1_6)] 26 (0, 0))) ∧ Aside0 (Below w.heap.size w w'))
        case atStart => exact ⟨(0), (by first | rfl | (simp; done) | (simp [*]; done)), H', ⟨Nat.le_refl _⟩, ⟨by (with_reducible repeat (first | refine blk_drewN ?_ _ | refine blk_drew ?_ | refine blk_alloc ?_ _)); exact BK600.out⟩, ⟨by (with_reducible repeat (first | refine blk_drewN ?_ _ | refine blk_drew ?_ | refine blk_alloc ?_ _)); exact BK601.out⟩, ⟨by repeat (first | (with_reducible first | exact HB.out | apply below_alloc | apply pw_below_drewN | apply below_drew1 | refine below_set ?_ GE600.out | refine below_set ?_ GE601.out) | exact HB.out)⟩⟩
        case round =>
          clear H'
          try clear c1
          try clear c2
          try clear p2
          try clear c6
          try clear c6b0
          try clear c6b1
          try clear c7
          try clear c7b0
          try clear c8
          try clear c11
          try clear c11b0
          try clear c11b1
          try clear c12
          try clear c15
          try clear c18
          try clear c21
          try clear c22
          try clear hcz10_0
          try clear hcz10_1
          try clear hcz10_2
          try clear hcz10_3
          try clear hcz10_4
          try clear hcz10_5
          try clear hcz10_6
          try clear hcz13_0
          try clear hcz13_1
          try clear hcz13_2
          try clear hcz13_3
          try clear hcz13_4
          try clear hcz13_5
          try clear hcz13_6
          try clear hcz14_0
          try clear hcz14_1
          try clear hcz14_2
          try clear hcz14_3
          try clear hcz14_4
          try clear hcz14_5
          try clear hcz14_6
          try clear hcz16_0
          try clear hcz16_1
          try clear hcz16_2
          try clear hcz16_3
          try clear hcz16_4
          try clear hcz16_5
          try clear hcz16_6
          try clear hcz17_0
          try clear hcz17_1
          try clear hcz17_2
          try clear hcz17_3
          try clear hcz17_4
          try clear hcz17_5
          try clear hcz17_6
          try clear hcz19_0
          try clear hcz19_1
          try clear hcz19_2
          try clear hcz19_3
          try clear hcz19_4
          try clear hcz19_5
          try clear hcz19_6
          try clear hcz20_0
          try clear hcz20_1
          try clear hcz20_2
          try clear hcz20_3
          try clear hcz20_4
          try clear hcz20_5
          try clear hcz20_6
          try clear hcz23_0
          try clear hcz23_1
          try clear hcz23_2
          try clear hcz23_3
          try clear hcz23_4
          try clear hcz23_5
          try clear hcz23_6
          try clear hcz9_0
          try clear hcz9_1
          try clear hcz9_2
          try clear hcz9_3
          try clear hcz9_4
          try clear hcz9_5
          try clear hcz9_6
          try clear hfz10_0
          try clear hfz10_1
          try clear hfz10_2
          try clear hfz10_3
          try clear hfz10_4
          try clear hfz10_5
          try clear hfz10_6
          try clear hfz13_0
          try clear hfz13_1
          try clear hfz13_2
          try clear hfz13_3
          try clear hfz13_4
          try clear hfz13_5
          try clear hfz13_6
          try clear hfz14_0
          try clear hfz14_1
          try clear hfz14_2
          try clear hfz14_3
          try clear hfz14_4
          try clear hfz14_5
          try clear hfz14_6
          try clear hfz16_0
          try clear hfz16_1
          try clear hfz16_2
          try clear hfz16_3
          try clear hfz16_4
          try clear hfz16_5
          try clear hfz16_6
          try clear hfz17_0
          try clear hfz17_1
          try clear hfz17_2
          try clear hfz17_3
          try clear hfz17_4
          try clear hfz17_5
          try clear hfz17_6
          try clear hfz19_0
          try clear hfz19_1
          try clear hfz19_2
          try clear hfz19_3
          try clear hfz19_4
          try clear hfz19_5
          try clear hfz19_6
          try clear hfz20_0
          try clear hfz20_1
          try clear hfz20_2
          try clear hfz20_3
          try clear hfz20_4
          try clear hfz20_5
          try clear hfz20_6
          try clear hfz23_0
          try clear hfz23_1
          try clear hfz23_2
          try clear hfz23_3
          try clear hfz23_4
          try clear hfz23_5
          try clear hfz23_6
          try clear hfz9_0
          try clear hfz9_1
          try clear hfz9_2
          try clear hfz9_3
          try clear hfz9_4
          try clear hfz9_5
          try clear hfz9_6
          try clear p2
          obtain ⟨x37_2, rfl, HA, HK2, BK600, BK601, HB⟩ := hrel
          cases gk with
          | zero => exact absurd HA.out (by simp [sashref05_Same.l0])
          | succ k2 =>
            have H := HA.out
            clear HA
            simp only [sashref05_Same.l0] at H
            by_cases c24 : x37_2 < (l0_6.length : Int)
            · rw [if_pos c24] at H
              have c24b0 : decide (x37_2 < (l0_6.length : Int)) = true := decide_eq_true c24
              clear c24
              by_cases c25 : 0 ≤ x37_2
              · rw [if_pos c25] at H
                have c25b0 : decide (0 ≤ x37_2) = true := decide_eq_true c25
                clear c25
                by_cases c26 : x37_2 < (l0_6.length : Int)
                · rw [if_pos c26] at H
                  have c26b0 : decide (x37_2 < (l0_6.length : Int)) = true := decide_eq_true c26
                  clear c26
                  by_cases c27 : x37_2 < (l1_6.length : Int)
                  · rw [if_pos c27] at H
                    have c27b0 : decide (x37_2 < (l1_6.length : Int)) = true := decide_eq_true c27
                    clear c27
                    replace H := Option.bind_eq_some_iff.mp H
                    obtain ⟨t604, A280, H⟩ := H
                    replace H : (if t604 = true then (sashref05_Same.l0 k2 (l0_6.length : Int) (wrap64 (x37_2 + 1)) a0_0 a0_1 a0_2 a0_3 a0_4 a0_5 l0_6 a1_0 a1_1 a1_2 a1_3 a1_4 a1_5 l1_6) else (some false)) = some r := H
                    have A28 := Aside0.mk A280
                    clear A280
                    by_cases c29 : t604 = true
                    · subst c29
                      have H1 : (sashref05_Same.l0 k2 (l0_6.length : Int) (wrap64 (x37_2 + 1)) a0_0 a0_1 a0_2 a0_3 a0_4 a0_5 l0_6 a1_0 a1_1 a1_2 a1_3 a1_4 a1_5 l1_6) = some r := by rw [if_pos rfl] at H; exact H
                      clear H
                      have H := H1
                      clear H1
                      have H' := Aside0.mk H
                      clear H
                      try go_wp2
                      have n0_ := Aside0.mk (blk_drew BK600.out)
                      have n1_ := Aside0.mk (blk_drew BK601.out)
                      have n2_ := Aside0.mk (below_drew1 HB.out)
                      clear BK600
                      clear BK601
                      clear HB
                      have BK600 := n0_
                      have BK601 := n1_
                      have HB := n2_
                      clear n0_ n1_ n2_
                      have p602 : 0 ≤ (x37_2 : Int) := of_decide_eq_true (by first | (with_reducible assumption) | assumption)
                      have q602 : x37_2 < (l0_6.length : Int) := of_decide_eq_true (by first | (with_reducible assumption) | assumption)
                      obtain ⟨ad602, A602_6, c602_6, e602, hx602_0, hx602_1, hx602_2, hx602_3, hx602_4, hx602_5, hx602_6, hl602_6, hi602_6⟩ := at_T26 HR0_6.out x37_2 p602 q602
                      have hw602_6 := hx602_6
                      have hw602_5 := hx602_5
                      have hw602_4 := hx602_4
                      have hw602_3 := hx602_3
                      have hw602_2 := hx602_2
                      have hw602_1 := hx602_1
                      have hw602_0 := hx602_0
                      cases e602
                      replace hx602_0 := (HB.out.cell (World.block_lt_of_cell? w _ hx602_0)).trans hx602_0
                      replace hx602_1 := (HB.out.cell (World.block_lt_of_cell? w _ hx602_1)).trans hx602_1
                      replace hx602_2 := (HB.out.cell (World.block_lt_of_cell? w _ hx602_2)).trans hx602_2
                      replace hx602_3 := (HB.out.cell (World.block_lt_of_cell? w _ hx602_3)).trans hx602_3
                      replace hx602_4 := (HB.out.cell (World.block_lt_of_cell? w _ hx602_4)).trans hx602_4
                      replace hx602_5 := (HB.out.cell (World.block_lt_of_cell? w _ hx602_5)).trans hx602_5
                      replace hx602_6 := (HB.out.cell (World.block_lt_of_cell? w _ hx602_6)).trans hx602_6
                      have HR602_6 := Aside0.mk hi602_6
                      have HC602_6 := Aside0.mk hl602_6
                      clear hi602_6 hl602_6
                      replace p602 := eq_true p602
                      replace q602 := eq_true q602
                      have p603 : 0 ≤ (x37_2 : Int) := of_decide_eq_true (by first | (with_reducible assumption) | assumption)
                      have q603 : x37_2 < (l1_6.length : Int) := of_decide_eq_true (by first | (with_reducible assumption) | assumption)
                      obtain ⟨ad603, A603_6, c603_6, e603, hx603_0, hx603_1, hx603_2, hx603_3, hx603_4, hx603_5, hx603_6, hl603_6, hi603_6⟩ := at_T26 HR1_6.out x37_2 p603 q603
                      have hw603_6 := hx603_6
                      have hw603_5 := hx603_5
                      have hw603_4 := hx603_4
                      have hw603_3 := hx603_3
                      have hw603_2 := hx603_2
                      have hw603_1 := hx603_1
                      have hw603_0 := hx603_0
                      cases e603
                      replace hx603_0 := (HB.out.cell (World.block_lt_of_cell? w _ hx603_0)).trans hx603_0
                      replace hx603_1 := (HB.out.cell (World.block_lt_of_cell? w _ hx603_1)).trans hx603_1
                      replace hx603_2 := (HB.out.cell (World.block_lt_of_cell? w _ hx603_2)).trans hx603_2
                      replace hx603_3 := (HB.out.cell (World.block_lt_of_cell? w _ hx603_3)).trans hx603_3
                      replace hx603_4 := (HB.out.cell (World.block_lt_of_cell? w _ hx603_4)).trans hx603_4
                      replace hx603_5 := (HB.out.cell (World.block_lt_of_cell? w _ hx603_5)).trans hx603_5
                      replace hx603_6 := (HB.out.cell (World.block_lt_of_cell? w _ hx603_6)).trans hx603_6
                      have HR603_6 := Aside0.mk hi603_6
                      have HC603_6 := Aside0.mk hl603_6
                      clear hi603_6 hl603_6
                      replace p603 := eq_true p603
                      replace q603 := eq_true q603
                      refine start_ (n := 12) (S := fun w' => w'.cell? ⟨gb600, 0, none⟩ = some (.int .u8 a0_0) ∧ w'.cell? ⟨gb600, 1, none⟩ = some (.int .i64 a0_1) ∧ w'.cell? ⟨gb600, 2, none⟩ = some (.int .i64 a0_2) ∧ w'.cell? ⟨gb600, 3, none⟩ = some (.int .i64 a0_3) ∧ w'.cell? ⟨gb600, 4, none⟩ = some (.int .i64 a0_4) ∧ w'.cell? ⟨gb600, 5, none⟩ = some (.int .i64 a0_5) ∧ w'.cell? ⟨gb600, 6, none⟩ = some (.slice (some ad602) l0_6.length c0_6) ∧ w'.cell? ⟨gb601, 0, none⟩ = some (.int .u8 a1_0) ∧ w'.cell? ⟨gb601, 1, none⟩ = some (.int .i64 a1_1) ∧ w'.cell? ⟨gb601, 2, none⟩ = some (.int .i64 a1_2) ∧ w'.cell? ⟨gb601, 3, none⟩ = some (.int .i64 a1_3) ∧ w'.cell? ⟨gb601, 4, none⟩ = some (.int .i64 a1_4) ∧ w'.cell? ⟨gb601, 5, none⟩ = some (.int .i64 a1_5) ∧ w'.cell? ⟨gb601, 6, none⟩ = some (.slice (some ad603) l1_6.length c1_6) ∧ w'.cell? (ad602.add ((x37_2).toNat * 7)) = some (.int .u8 ((rd_T26 l0_6 x37_2).f0)) ∧ w'.cell? ⟨(ad602.add ((x37_2).toNat * 7)).block, (ad602.add ((x37_2).toNat * 7)).off + 1, none⟩ = some (.int .i64 ((rd_T26 l0_6 x37_2).f1.f0)) ∧ w'.cell? ⟨(ad602.add ((x37_2).toNat * 7)).block, (ad602.add ((x37_2).toNat * 7)).off + 2, none⟩ = some (.int .i64 ((rd_T26 l0_6 x37_2).f1.f1)) ∧ w'.cell? ⟨(ad602.add ((x37_2).toNat * 7)).block, (ad602.add ((x37_2).toNat * 7)).off + 3, none⟩ = some (.int .i64 ((rd_T26 l0_6 x37_2).f1.f2)) ∧ w'.cell? ⟨(ad602.add ((x37_2).toNat * 7)).block, (ad602.add ((x37_2).toNat * 7)).off + 4, none⟩ = some (.int .i64 ((rd_T26 l0_6 x37_2).f1.f3)) ∧ w'.cell? ⟨(ad602.add ((x37_2).toNat * 7)).block, (ad602.add ((x37_2).toNat * 7)).off + 5, none⟩ = some (.int .i64 ((rd_T26 l0_6 x37_2).f2)) ∧ w'.cell? ⟨(ad602.add ((x37_2).toNat * 7)).block, (ad602.add ((x37_2).toNat * 7)).off + 6, none⟩ = some (.slice A602_6 ((rd_T26 l0_6 x37_2).f3).length c602_6) ∧ w'.cell? (ad603.add ((x37_2).toNat * 7)) = some (.int .u8 ((rd_T26 l1_6 x37_2).f0)) ∧ w'.cell? ⟨(ad603.add ((x37_2).toNat * 7)).block, (ad603.add ((x37_2).toNat * 7)).off + 1, none⟩ = some (.int .i64 ((rd_T26 l1_6 x37_2).f1.f0)) ∧ w'.cell? ⟨(ad603.add ((x37_2).toNat * 7)).block, (ad603.add ((x37_2).toNat * 7)).off + 2, none⟩ = some (.int .i64 ((rd_T26 l1_6 x37_2).f1.f1)) ∧ w'.cell? ⟨(ad603.add ((x37_2).toNat * 7)).block, (ad603.add ((x37_2).toNat * 7)).off + 3, none⟩ = some (.int .i64 ((rd_T26 l1_6 x37_2).f1.f2)) ∧ w'.cell? ⟨(ad603.add ((x37_2).toNat * 7)).block, (ad603.add ((x37_2).toNat * 7)).off + 4, none⟩ = some (.int .i64 ((rd_T26 l1_6 x37_2).f1.f3)) ∧ w'.cell? ⟨(ad603.add ((x37_2).toNat * 7)).block, (ad603.add ((x37_2).toNat * 7)).off + 5, none⟩ = some (.int .i64 ((rd_T26 l1_6 x37_2).f2)) ∧ w'.cell? ⟨(ad603.add ((x37_2).toNat * 7)).block, (ad603.add ((x37_2).toNat * 7)).off + 6, none⟩ = some (.slice A603_6 ((rd_T26 l1_6 x37_2).f3).length c603_6)) (ds := []) #[false, false, false, false, false, false, false, false, false, false, false, false] (by kernel_rfl) rfl rfl ⟨(blk_cell BK600.out 0).trans rfl, (blk_cell BK600.out 1).trans rfl, (blk_cell BK600.out 2).trans rfl, (blk_cell BK600.out 3).trans rfl, (blk_cell BK600.out 4).trans rfl, (blk_cell BK600.out 5).trans rfl, (blk_cell BK600.out 6).trans rfl, (blk_cell BK601.out 0).trans rfl, (blk_cell BK601.out 1).trans rfl, (blk_cell BK601.out 2).trans rfl, (blk_cell BK601.out 3).trans rfl, (blk_cell BK601.out 4).trans rfl, (blk_cell BK601.out 5).trans rfl, (blk_cell BK601.out 6).trans rfl, ((HB.out.cell (World.block_lt_of_cell? w _ hw602_0)).trans hw602_0), ((HB.out.cell (World.block_lt_of_cell? w _ hw602_1)).trans hw602_1), ((HB.out.cell (World.block_lt_of_cell? w _ hw602_2)).trans hw602_2), ((HB.out.cell (World.block_lt_of_cell? w _ hw602_3)).trans hw602_3), ((HB.out.cell (World.block_lt_of_cell? w _ hw602_4)).trans hw602_4), ((HB.out.cell (World.block_lt_of_cell? w _ hw602_5)).trans hw602_5), ((HB.out.cell (World.block_lt_of_cell? w _ hw602_6)).trans hw602_6), ((HB.out.cell (World.block_lt_of_cell? w _ hw603_0)).trans hw603_0), ((HB.out.cell (World.block_lt_of_cell? w _ hw603_1)).trans hw603_1), ((HB.out.cell (World.block_lt_of_cell? w _ hw603_2)).trans hw603_2), ((HB.out.cell (World.block_lt_of_cell? w _ hw603_3)).trans hw603_3), ((HB.out.cell (World.block_lt_of_cell? w _ hw603_4)).trans hw603_4), ((HB.out.cell (World.block_lt_of_cell? w _ hw603_5)).trans hw603_5), ((HB.out.cell (World.block_lt_of_cell? w _ hw603_6)).trans hw603_6)⟩ (fun hHeld => ?_); refine with_tabW sashref05_Same.tab6 sashref05_Same.bits6 (fun HT_ HW_ => ?_)
                      generalize wr.drew = w30 at BK600 BK601 HB HR602_6 HR603_6 hx602_0 hx602_1 hx602_2 hx602_3 hx602_4 hx602_5 hx602_6 hx603_0 hx603_1 hx603_2 hx603_3 hx603_4 hx603_5 hx603_6 hHeld ⊢
                      refine pure_ (i := 0) (N := some 40) (v := ?_) (a' := ?_) #[true, false, false, false, false, false, false, false, false, false, false, false] rfl rfl (any_of HT_.out (by kernel_rfl)) (fun _ _ _ h => h) (Or.inl ⟨by rfl, ?_⟩) ?_ ?_
                      rotate_left
                      · intro w'
                        go_simp
                        with_reducible rfl
                      rotate_left
                      · simp only [Act.put, List.setIfInBounds_toArray, List.set_cons_zero, List.set_cons_succ, i64_w, i32_w]
                        rfl
                      refine pure_ (i := 2) (N := some 42) (v := ?_) (a' := ?_) #[true, false, true, false, false, false, false, false, false, false, false, false] rfl rfl (any_of HT_.out (by kernel_rfl)) (fun _ _ _ h => h) (Or.inl ⟨by rfl, ?_⟩) ?_ ?_
                      rotate_left
                      · intro w'
                        go_simp
                        with_reducible rfl
                      rotate_left
                      · simp only [Act.put, List.setIfInBounds_toArray, List.set_cons_zero, List.set_cons_succ, i64_w, i32_w]
                        rfl
                      refine pure_ (i := 5) (N := some 45) (v := ?_) (a' := ?_) #[true, false, true, false, false, true, false, false, false, false, false, false] rfl rfl (any_of HT_.out (by kernel_rfl)) (fun _ _ _ h => h) (Or.inl ⟨by rfl, ?_⟩) ?_ ?_
                      rotate_left
                      · intro w'
                        go_simp
                        with_reducible rfl
                      rotate_left
                      · simp only [Act.put, List.setIfInBounds_toArray, List.set_cons_zero, List.set_cons_succ, i64_w, i32_w]
                        rfl
                      refine pure_ (i := 7) (N := some 47) (v := ?_) (a' := ?_) #[true, false, true, false, false, true, false, true, false, false, false, false] rfl rfl (any_of HT_.out (by kernel_rfl)) (fun _ _ _ h => h) (Or.inl ⟨by rfl, ?_⟩) ?_ ?_
                      rotate_left
                      · intro w'
                        go_simp
                        with_reducible rfl
                      rotate_left
                      · simp only [Act.put, List.setIfInBounds_toArray, List.set_cons_zero, List.set_cons_succ, i64_w, i32_w]
                        rfl
                      refine take_ (i := 1) (N := some 41) (v := ?_) (a' := ?_) #[true, true, true, false, false, true, false, true, false, false, false, false] rfl rfl (take_ofW HT_.out HW_.out (by kernel_rfl)) (fun _ _ _ h => h) (Or.inl ⟨by rfl, ?_⟩) hHeld ?_ ?_
                      rotate_left
                      · rintro w' ⟨s0, s1, s2, s3, s4, s5, s6, s7, s8, s9, s10, s11, s12, s13, s14, s15, s16, s17, s18, s19, s20, s21, s22, s23, s24, s25, s26, s27⟩
                        go_simp
                        with_reducible rfl
                      rotate_left
                      · simp only [Act.put, List.setIfInBounds_toArray, List.set_cons_zero, List.set_cons_succ, i64_w, i32_w]
                        rfl
                      refine pure_ (i := 3) (N := some 43) (v := ?_) (a' := ?_) #[true, true, true, true, false, true, false, true, false, false, false, false] rfl rfl (any_of HT_.out (by kernel_rfl)) (fun _ _ _ h => h) (Or.inl ⟨by rfl, ?_⟩) ?_ ?_
                      rotate_left
                      · intro w'
                        go_simp
                        with_reducible rfl
                      rotate_left
                      · simp only [Act.put, List.setIfInBounds_toArray, List.set_cons_zero, List.set_cons_succ, i64_w, i32_w]
                        rfl
                      refine take_ (i := 4) (N := some 44) (v := ?_) (a' := ?_) #[true, true, true, true, true, true, false, true, false, false, false, false] rfl rfl (take_ofW HT_.out HW_.out (by kernel_rfl)) (fun _ _ _ h => h) (Or.inl ⟨by rfl, ?_⟩) hHeld ?_ ?_
                      rotate_left
                      · rintro w' ⟨s0, s1, s2, s3, s4, s5, s6, s7, s8, s9, s10, s11, s12, s13, s14, s15, s16, s17, s18, s19, s20, s21, s22, s23, s24, s25, s26, s27⟩
                        go_simp
                        with_reducible rfl
                      rotate_left
                      · simp only [Act.put, List.setIfInBounds_toArray, List.set_cons_zero, List.set_cons_succ, i64_w, i32_w]
                        rfl
                      refine take_ (i := 6) (N := some 46) (v := ?_) (a' := ?_) #[true, true, true, true, true, true, true, true, false, false, false, false] rfl rfl (take_ofW HT_.out HW_.out (by kernel_rfl)) (fun _ _ _ h => h) (Or.inl ⟨by rfl, ?_⟩) hHeld ?_ ?_
                      rotate_left
                      · rintro w' ⟨s0, s1, s2, s3, s4, s5, s6, s7, s8, s9, s10, s11, s12, s13, s14, s15, s16, s17, s18, s19, s20, s21, s22, s23, s24, s25, s26, s27⟩
                        go_simp
                        with_reducible rfl
                      rotate_left
                      · simp only [Act.put, List.setIfInBounds_toArray, List.set_cons_zero, List.set_cons_succ, i64_w, i32_w]
                        rfl
                      refine pure_ (i := 8) (N := some 48) (v := ?_) (a' := ?_) #[true, true, true, true, true, true, true, true, true, false, false, false] rfl rfl (any_of HT_.out (by kernel_rfl)) (fun _ _ _ h => h) (Or.inl ⟨by rfl, ?_⟩) ?_ ?_
                      rotate_left
                      · intro w'
                        go_simp
                        with_reducible rfl
                      rotate_left
                      · simp only [Act.put, List.setIfInBounds_toArray, List.set_cons_zero, List.set_cons_succ, i64_w, i32_w]
                        rfl
                      refine take_ (i := 9) (N := some 49) (v := ?_) (a' := ?_) #[true, true, true, true, true, true, true, true, true, true, false, false] rfl rfl (take_ofW HT_.out HW_.out (by kernel_rfl)) (fun _ _ _ h => h) (Or.inl ⟨by rfl, ?_⟩) hHeld ?_ ?_
                      rotate_left
                      · rintro w' ⟨s0, s1, s2, s3, s4, s5, s6, s7, s8, s9, s10, s11, s12, s13, s14, s15, s16, s17, s18, s19, s20, s21, s22, s23, s24, s25, s26, s27⟩
                        go_simp
                        with_reducible rfl
                      rotate_left
                      · simp only [Act.put, List.setIfInBounds_toArray, List.set_cons_zero, List.set_cons_succ, i64_w, i32_w]
                        rfl
                      refine one_ (i := 10) (N := some 50) #[true, true, true, true, true, true, true, true, true, true, true, false] rfl rfl (one_of HT_.out (by kernel_rfl)) (by decide) (fun K hK => ?_)
                      refine goes_ Try.func64 (by kernel_rfl) rfl #[.agg #[.int .u8 ((rd_T26 l0_6 x37_2).f0), .int .i64 ((rd_T26 l0_6 x37_2).f1.f0), .int .i64 ((rd_T26 l0_6 x37_2).f1.f1), .int .i64 ((rd_T26 l0_6 x37_2).f1.f2), .int .i64 ((rd_T26 l0_6 x37_2).f1.f3), .int .i64 ((rd_T26 l0_6 x37_2).f2), .slice A602_6 ((rd_T26 l0_6 x37_2).f3).length c602_6], .agg #[.int .u8 ((rd_T26 l1_6 x37_2).f0), .int .i64 ((rd_T26 l1_6 x37_2).f1.f0), .int .i64 ((rd_T26 l1_6 x37_2).f1.f1), .int .i64 ((rd_T26 l1_6 x37_2).f1.f2), .int .i64 ((rd_T26 l1_6 x37_2).f1.f3), .int .i64 ((rd_T26 l1_6 x37_2).f2), .slice A603_6 ((rd_T26 l1_6 x37_2).f3).length c603_6]] (by rfl) rfl rfl (by (try simp only [List.map_toArray, List.map_cons, List.map_nil]); first | done | rfl | (simp only [List.length_drop, List.length_take]; rfl)) ?_
                      with_reducible refine (ih k2 (by have := HJ2.out; have := HK2.out; omega) ((rd_T26 l0_6 x37_2).f0) ((rd_T26 l0_6 x37_2).f1.f0) ((rd_T26 l0_6 x37_2).f1.f1) ((rd_T26 l0_6 x37_2).f1.f2) ((rd_T26 l0_6 x37_2).f1.f3) ((rd_T26 l0_6 x37_2).f2) _ _ ((rd_T26 l0_6 x37_2).f3) ((rd_T26 l1_6 x37_2).f0) ((rd_T26 l1_6 x37_2).f1.f0) ((rd_T26 l1_6 x37_2).f1.f1) ((rd_T26 l1_6 x37_2).f1.f2) ((rd_T26 l1_6 x37_2).f1.f3) ((rd_T26 l1_6 x37_2).f2) _ _ ((rd_T26 l1_6 x37_2).f3) true _ ?side1 ?side2 ?side3 ?side4 A28.out).mono ?_
                      (case side1 => repeat (first | exact (Kd.C_below HR602_6.out HB.out) | (with_reducible refine Kd.C_alloc ?_ _) | (with_reducible refine Kd.C_drewN ?_ _) | (with_reducible refine Kd.C_drew ?_)))
                      (case side2 => exact HC602_6.out)
                      (case side3 => repeat (first | exact (Kd.C_below HR603_6.out HB.out) | (with_reducible refine Kd.C_alloc ?_ _) | (with_reducible refine Kd.C_drewN ?_ _) | (with_reducible refine Kd.C_drew ?_)))
                      (case side4 => exact HC603_6.out)
                      rintro e w31 ⟨rfl, hb⟩
                      refine ⟨_, rfl, ?_⟩
                      have n0_ := Aside0.mk (blk_below (g := gb600) (o := .cells #[.int .u8 a0_0, .int .i64 a0_1, .int .i64 a0_2, .int .i64 a0_3, .int .i64 a0_4, .int .i64 a0_5, .slice (some ad602) l0_6.length c0_6] 26 (0, 0)) (by (with_reducible repeat (first | refine blk_drewN ?_ _ | refine blk_drew ?_ | refine blk_alloc ?_ _)); exact BK600.out) hb)
                      have n1_ := Aside0.mk (blk_below (g := gb601) (o := .cells #[.int .u8 a1_0, .int .i64 a1_1, .int .i64 a1_2, .int .i64 a1_3, .int .i64 a1_4, .int .i64 a1_5, .slice (some ad603) l1_6.length c1_6] 26 (0, 0)) (by (with_reducible repeat (first | refine blk_drewN ?_ _ | refine blk_drew ?_ | refine blk_alloc ?_ _)); exact BK601.out) hb)
                      have n2_ := Aside0.mk (below_step (by repeat (first | (with_reducible first | exact HB.out | apply below_alloc | apply pw_below_drewN | apply below_drew1 | refine below_set ?_ GE600.out | refine below_set ?_ GE601.out) | exact HB.out)) hb)
                      clear BK600
                      clear BK601
                      clear HB
                      have BK600 := n0_
                      have BK601 := n1_
                      have HB := n2_
                      clear n0_ n1_ n2_
                      (try clear hb)
                      (try clear hb2)
                      (try clear hk)
                      (try clear hi)
                      refine hK.out _ _ ⟨(blk_cell BK600.out 0).trans rfl, (blk_cell BK600.out 1).trans rfl, (blk_cell BK600.out 2).trans rfl, (blk_cell BK600.out 3).trans rfl, (blk_cell BK600.out 4).trans rfl, (blk_cell BK600.out 5).trans rfl, (blk_cell BK600.out 6).trans rfl, (blk_cell BK601.out 0).trans rfl, (blk_cell BK601.out 1).trans rfl, (blk_cell BK601.out 2).trans rfl, (blk_cell BK601.out 3).trans rfl, (blk_cell BK601.out 4).trans rfl, (blk_cell BK601.out 5).trans rfl, (blk_cell BK601.out 6).trans rfl, ((HB.out.cell (World.block_lt_of_cell? w _ hw602_0)).trans hw602_0), ((HB.out.cell (World.block_lt_of_cell? w _ hw602_1)).trans hw602_1), ((HB.out.cell (World.block_lt_of_cell? w _ hw602_2)).trans hw602_2), ((HB.out.cell (World.block_lt_of_cell? w _ hw602_3)).trans hw602_3), ((HB.out.cell (World.block_lt_of_cell? w _ hw602_4)).trans hw602_4), ((HB.out.cell (World.block_lt_of_cell? w _ hw602_5)).trans hw602_5), ((HB.out.cell (World.block_lt_of_cell? w _ hw602_6)).trans hw602_6), ((HB.out.cell (World.block_lt_of_cell? w _ hw603_0)).trans hw603_0), ((HB.out.cell (World.block_lt_of_cell? w _ hw603_1)).trans hw603_1), ((HB.out.cell (World.block_lt_of_cell? w _ hw603_2)).trans hw603_2), ((HB.out.cell (World.block_lt_of_cell? w _ hw603_3)).trans hw603_3), ((HB.out.cell (World.block_lt_of_cell? w _ hw603_4)).trans hw603_4), ((HB.out.cell (World.block_lt_of_cell? w _ hw603_5)).trans hw603_5), ((HB.out.cell (World.block_lt_of_cell? w _ hw603_6)).trans hw603_6)⟩ (fun hHeld => ?_)
                      clear hK K
                      refine norm_ (a' := ?_) ?_ ?_
                      rotate_left
                      · show Act.put _ (some 50) _ = _
                        simp only [Act.put, List.setIfInBounds_toArray, List.set_cons_zero, List.set_cons_succ, i64_w, i32_w]
                        rfl
                      refine pure_ (i := 11) (N := some 51) (v := ?_) (a' := ?_) #[true, true, true, true, true, true, true, true, true, true, true, true] rfl rfl (any_of HT_.out (by kernel_rfl)) (fun _ _ _ h => h) (Or.inl ⟨by rfl, ?_⟩) ?_ ?_
                      rotate_left
                      · intro w'
                        go_simp
                        with_reducible rfl
                      rotate_left
                      · simp only [Act.put, List.setIfInBounds_toArray, List.set_cons_zero, List.set_cons_succ, i64_w, i32_w]
                        rfl
                      refine done_ (done_of HT_.out (by kernel_rfl)) ?_
                      try go_wp2
                      go_roundg k2
                      case measure => have := HJ2.out; have := HK2.out; omega
                      case rel => exact ⟨(wrap64 (x37_2 + 1)), (by first | rfl | (simp; done) | (simp [*]; done)), H', ⟨by have := HJ2.out; have := HK2.out; omega⟩, ⟨by (with_reducible repeat (first | refine blk_drewN ?_ _ | refine blk_drew ?_ | refine blk_alloc ?_ _)); exact BK600.out⟩, ⟨by (with_reducible repeat (first | refine blk_drewN ?_ _ | refine blk_drew ?_ | refine blk_alloc ?_ _)); exact BK601.out⟩, ⟨by repeat (first | (with_reducible first | exact HB.out | apply below_alloc | apply pw_below_drewN | apply below_drew1 | refine below_set ?_ GE600.out | refine below_set ?_ GE601.out) | exact HB.out)⟩⟩
                    · replace c29 := Bool.eq_false_iff.mpr c29
                      subst c29
                      have H1 : (some false) = some r := by rw [if_neg (show ¬ (false = true) by decide)] at H; exact H
                      clear H
                      have H := H1
                      clear H1
                      obtain rfl := Option.some.inj H
                      try go_wp2
                      have n0_ := Aside0.mk (blk_drew BK600.out)
                      have n1_ := Aside0.mk (blk_drew BK601.out)
                      have n2_ := Aside0.mk (below_drew1 HB.out)
                      clear BK600
                      clear BK601
                      clear HB
                      have BK600 := n0_
                      have BK601 := n1_
                      have HB := n2_
                      clear n0_ n1_ n2_
                      have p602 : 0 ≤ (x37_2 : Int) := of_decide_eq_true (by first | (with_reducible assumption) | assumption)
                      have q602 : x37_2 < (l0_6.length : Int) := of_decide_eq_true (by first | (with_reducible assumption) | assumption)
                      obtain ⟨ad602, A602_6, c602_6, e602, hx602_0, hx602_1, hx602_2, hx602_3, hx602_4, hx602_5, hx602_6, hl602_6, hi602_6⟩ := at_T26 HR0_6.out x37_2 p602 q602
                      have hw602_6 := hx602_6
                      have hw602_5 := hx602_5
                      have hw602_4 := hx602_4
                      have hw602_3 := hx602_3
                      have hw602_2 := hx602_2
                      have hw602_1 := hx602_1
                      have hw602_0 := hx602_0
                      cases e602
                      replace hx602_0 := (HB.out.cell (World.block_lt_of_cell? w _ hx602_0)).trans hx602_0
                      replace hx602_1 := (HB.out.cell (World.block_lt_of_cell? w _ hx602_1)).trans hx602_1
                      replace hx602_2 := (HB.out.cell (World.block_lt_of_cell? w _ hx602_2)).trans hx602_2
                      replace hx602_3 := (HB.out.cell (World.block_lt_of_cell? w _ hx602_3)).trans hx602_3
                      replace hx602_4 := (HB.out.cell (World.block_lt_of_cell? w _ hx602_4)).trans hx602_4
                      replace hx602_5 := (HB.out.cell (World.block_lt_of_cell? w _ hx602_5)).trans hx602_5
                      replace hx602_6 := (HB.out.cell (World.block_lt_of_cell? w _ hx602_6)).trans hx602_6
                      have HR602_6 := Aside0.mk hi602_6
                      have HC602_6 := Aside0.mk hl602_6
                      clear hi602_6 hl602_6
                      replace p602 := eq_true p602
                      replace q602 := eq_true q602
                      have p603 : 0 ≤ (x37_2 : Int) := of_decide_eq_true (by first | (with_reducible assumption) | assumption)
                      have q603 : x37_2 < (l1_6.length : Int) := of_decide_eq_true (by first | (with_reducible assumption) | assumption)
                      obtain ⟨ad603, A603_6, c603_6, e603, hx603_0, hx603_1, hx603_2, hx603_3, hx603_4, hx603_5, hx603_6, hl603_6, hi603_6⟩ := at_T26 HR1_6.out x37_2 p603 q603
                      have hw603_6 := hx603_6
                      have hw603_5 := hx603_5
                      have hw603_4 := hx603_4
                      have hw603_3 := hx603_3
                      have hw603_2 := hx603_2
                      have hw603_1 := hx603_1
                      have hw603_0 := hx603_0
                      cases e603
                      replace hx603_0 := (HB.out.cell (World.block_lt_of_cell? w _ hx603_0)).trans hx603_0
                      replace hx603_1 := (HB.out.cell (World.block_lt_of_cell? w _ hx603_1)).trans hx603_1
                      replace hx603_2 := (HB.out.cell (World.block_lt_of_cell? w _ hx603_2)).trans hx603_2
                      replace hx603_3 := (HB.out.cell (World.block_lt_of_cell? w _ hx603_3)).trans hx603_3
                      replace hx603_4 := (HB.out.cell (World.block_lt_of_cell? w _ hx603_4)).trans hx603_4
                      replace hx603_5 := (HB.out.cell (World.block_lt_of_cell? w _ hx603_5)).trans hx603_5
                      replace hx603_6 := (HB.out.cell (World.block_lt_of_cell? w _ hx603_6)).trans hx603_6
                      have HR603_6 := Aside0.mk hi603_6
                      have HC603_6 := Aside0.mk hl603_6
                      clear hi603_6 hl603_6
                      replace p603 := eq_true p603
                      replace q603 := eq_true q603
                      refine start_ (n := 12) (S := fun w' => w'.cell? ⟨gb600, 0, none⟩ = some (.int .u8 a0_0) ∧ w'.cell? ⟨gb600, 1, none⟩ = some (.int .i64 a0_1) ∧ w'.cell? ⟨gb600, 2, none⟩ = some (.int .i64 a0_2) ∧ w'.cell? ⟨gb600, 3, none⟩ = some (.int .i64 a0_3) ∧ w'.cell? ⟨gb600, 4, none⟩ = some (.int .i64 a0_4) ∧ w'.cell? ⟨gb600, 5, none⟩ = some (.int .i64 a0_5) ∧ w'.cell? ⟨gb600, 6, none⟩ = some (.slice (some ad602) l0_6.length c0_6) ∧ w'.cell? ⟨gb601, 0, none⟩ = some (.int .u8 a1_0) ∧ w'.cell? ⟨gb601, 1, none⟩ = some (.int .i64 a1_1) ∧ w'.cell? ⟨gb601, 2, none⟩ = some (.int .i64 a1_2) ∧ w'.cell? ⟨gb601, 3, none⟩ = some (.int .i64 a1_3) ∧ w'.cell? ⟨gb601, 4, none⟩ = some (.int .i64 a1_4) ∧ w'.cell? ⟨gb601, 5, none⟩ = some (.int .i64 a1_5) ∧ w'.cell? ⟨gb601, 6, none⟩ = some (.slice (some ad603) l1_6.length c1_6) ∧ w'.cell? (ad602.add ((x37_2).toNat * 7)) = some (.int .u8 ((rd_T26 l0_6 x37_2).f0)) ∧ w'.cell? ⟨(ad602.add ((x37_2).toNat * 7)).block, (ad602.add ((x37_2).toNat * 7)).off + 1, none⟩ = some (.int .i64 ((rd_T26 l0_6 x37_2).f1.f0)) ∧ w'.cell? ⟨(ad602.add ((x37_2).toNat * 7)).block, (ad602.add ((x37_2).toNat * 7)).off + 2, none⟩ = some (.int .i64 ((rd_T26 l0_6 x37_2).f1.f1)) ∧ w'.cell? ⟨(ad602.add ((x37_2).toNat * 7)).block, (ad602.add ((x37_2).toNat * 7)).off + 3, none⟩ = some (.int .i64 ((rd_T26 l0_6 x37_2).f1.f2)) ∧ w'.cell? ⟨(ad602.add ((x37_2).toNat * 7)).block, (ad602.add ((x37_2).toNat * 7)).off + 4, none⟩ = some (.int .i64 ((rd_T26 l0_6 x37_2).f1.f3)) ∧ w'.cell? ⟨(ad602.add ((x37_2).toNat * 7)).block, (ad602.add ((x37_2).toNat * 7)).off + 5, none⟩ = some (.int .i64 ((rd_T26 l0_6 x37_2).f2)) ∧ w'.cell? ⟨(ad602.add ((x37_2).toNat * 7)).block, (ad602.add ((x37_2).toNat * 7)).off + 6, none⟩ = some (.slice A602_6 ((rd_T26 l0_6 x37_2).f3).length c602_6) ∧ w'.cell? (ad603.add ((x37_2).toNat * 7)) = some (.int .u8 ((rd_T26 l1_6 x37_2).f0)) ∧ w'.cell? ⟨(ad603.add ((x37_2).toNat * 7)).block, (ad603.add ((x37_2).toNat * 7)).off + 1, none⟩ = some (.int .i64 ((rd_T26 l1_6 x37_2).f1.f0)) ∧ w'.cell? ⟨(ad603.add ((x37_2).toNat * 7)).block, (ad603.add ((x37_2).toNat * 7)).off + 2, none⟩ = some (.int .i64 ((rd_T26 l1_6 x37_2).f1.f1)) ∧ w'.cell? ⟨(ad603.add ((x37_2).toNat * 7)).block, (ad603.add ((x37_2).toNat * 7)).off + 3, none⟩ = some (.int .i64 ((rd_T26 l1_6 x37_2).f1.f2)) ∧ w'.cell? ⟨(ad603.add ((x37_2).toNat * 7)).block, (ad603.add ((x37_2).toNat * 7)).off + 4, none⟩ = some (.int .i64 ((rd_T26 l1_6 x37_2).f1.f3)) ∧ w'.cell? ⟨(ad603.add ((x37_2).toNat * 7)).block, (ad603.add ((x37_2).toNat * 7)).off + 5, none⟩ = some (.int .i64 ((rd_T26 l1_6 x37_2).f2)) ∧ w'.cell? ⟨(ad603.add ((x37_2).toNat * 7)).block, (ad603.add ((x37_2).toNat * 7)).off + 6, none⟩ = some (.slice A603_6 ((rd_T26 l1_6 x37_2).f3).length c603_6)) (ds := []) #[false, false, false, false, false, false, false, false, false, false, false, false] (by kernel_rfl) rfl rfl ⟨(blk_cell BK600.out 0).trans rfl, (blk_cell BK600.out 1).trans rfl, (blk_cell BK600.out 2).trans rfl, (blk_cell BK600.out 3).trans rfl, (blk_cell BK600.out 4).trans rfl, (blk_cell BK600.out 5).trans rfl, (blk_cell BK600.out 6).trans rfl, (blk_cell BK601.out 0).trans rfl, (blk_cell BK601.out 1).trans rfl, (blk_cell BK601.out 2).trans rfl, (blk_cell BK601.out 3).trans rfl, (blk_cell BK601.out 4).trans rfl, (blk_cell BK601.out 5).trans rfl, (blk_cell BK601.out 6).trans rfl, ((HB.out.cell (World.block_lt_of_cell? w _ hw602_0)).trans hw602_0), ((HB.out.cell (World.block_lt_of_cell? w _ hw602_1)).trans hw602_1), ((HB.out.cell (World.block_lt_of_cell? w _ hw602_2)).trans hw602_2), ((HB.out.cell (World.block_lt_of_cell? w _ hw602_3)).trans hw602_3), ((HB.out.cell (World.block_lt_of_cell? w _ hw602_4)).trans hw602_4), ((HB.out.cell (World.block_lt_of_cell? w _ hw602_5)).trans hw602_5), ((HB.out.cell (World.block_lt_of_cell? w _ hw602_6)).trans hw602_6), ((HB.out.cell (World.block_lt_of_cell? w _ hw603_0)).trans hw603_0), ((HB.out.cell (World.block_lt_of_cell? w _ hw603_1)).trans hw603_1), ((HB.out.cell (World.block_lt_of_cell? w _ hw603_2)).trans hw603_2), ((HB.out.cell (World.block_lt_of_cell? w _ hw603_3)).trans hw603_3), ((HB.out.cell (World.block_lt_of_cell? w _ hw603_4)).trans hw603_4), ((HB.out.cell (World.block_lt_of_cell? w _ hw603_5)).trans hw603_5), ((HB.out.cell (World.block_lt_of_cell? w _ hw603_6)).trans hw603_6)⟩ (fun hHeld => ?_); refine with_tabW sashref05_Same.tab6 sashref05_Same.bits6 (fun HT_ HW_ => ?_)
                      generalize wr.drew = w32 at BK600 BK601 HB HR602_6 HR603_6 hx602_0 hx602_1 hx602_2 hx602_3 hx602_4 hx602_5 hx602_6 hx603_0 hx603_1 hx603_2 hx603_3 hx603_4 hx603_5 hx603_6 hHeld ⊢
                      refine pure_ (i := 0) (N := some 40) (v := ?_) (a' := ?_) #[true, false, false, false, false, false, false, false, false, false, false, false] rfl rfl (any_of HT_.out (by kernel_rfl)) (fun _ _ _ h => h) (Or.inl ⟨by rfl, ?_⟩) ?_ ?_
                      rotate_left
                      · intro w'
                        go_simp
                        with_reducible rfl
                      rotate_left
                      · simp only [Act.put, List.setIfInBounds_toArray, List.set_cons_zero, List.set_cons_succ, i64_w, i32_w]
                        rfl
                      refine pure_ (i := 2) (N := some 42) (v := ?_) (a' := ?_) #[true, false, true, false, false, false, false, false, false, false, false, false] rfl rfl (any_of HT_.out (by kernel_rfl)) (fun _ _ _ h => h) (Or.inl ⟨by rfl, ?_⟩) ?_ ?_
                      rotate_left
                      · intro w'
                        go_simp
                        with_reducible rfl
                      rotate_left
                      · simp only [Act.put, List.setIfInBounds_toArray, List.set_cons_zero, List.set_cons_succ, i64_w, i32_w]
                        rfl
                      refine pure_ (i := 5) (N := some 45) (v := ?_) (a' := ?_) #[true, false, true, false, false, true, false, false, false, false, false, false] rfl rfl (any_of HT_.out (by kernel_rfl)) (fun _ _ _ h => h) (Or.inl ⟨by rfl, ?_⟩) ?_ ?_
                      rotate_left
                      · intro w'
                        go_simp
                        with_reducible rfl
                      rotate_left
                      · simp only [Act.put, List.setIfInBounds_toArray, List.set_cons_zero, List.set_cons_succ, i64_w, i32_w]
                        rfl
                      refine pure_ (i := 7) (N := some 47) (v := ?_) (a' := ?_) #[true, false, true, false, false, true, false, true, false, false, false, false] rfl rfl (any_of HT_.out (by kernel_rfl)) (fun _ _ _ h => h) (Or.inl ⟨by rfl, ?_⟩) ?_ ?_
                      rotate_left
                      · intro w'
                        go_simp
                        with_reducible rfl
                      rotate_left
                      · simp only [Act.put, List.setIfInBounds_toArray, List.set_cons_zero, List.set_cons_succ, i64_w, i32_w]
                        rfl
                      refine take_ (i := 1) (N := some 41) (v := ?_) (a' := ?_) #[true, true, true, false, false, true, false, true, false, false, false, false] rfl rfl (take_ofW HT_.out HW_.out (by kernel_rfl)) (fun _ _ _ h => h) (Or.inl ⟨by rfl, ?_⟩) hHeld ?_ ?_
                      rotate_left
                      · rintro w' ⟨s0, s1, s2, s3, s4, s5, s6, s7, s8, s9, s10, s11, s12, s13, s14, s15, s16, s17, s18, s19, s20, s21, s22, s23, s24, s25, s26, s27⟩
                        go_simp
                        with_reducible rfl
                      rotate_left
                      · simp only [Act.put, List.setIfInBounds_toArray, List.set_cons_zero, List.set_cons_succ, i64_w, i32_w]
                        rfl
                      refine pure_ (i := 3) (N := some 43) (v := ?_) (a' := ?_) #[true, true, true, true, false, true, false, true, false, false, false, false] rfl rfl (any_of HT_.out (by kernel_rfl)) (fun _ _ _ h => h) (Or.inl ⟨by rfl, ?_⟩) ?_ ?_
                      rotate_left
                      · intro w'
                        go_simp
                        with_reducible rfl
                      rotate_left
                      · simp only [Act.put, List.setIfInBounds_toArray, List.set_cons_zero, List.set_cons_succ, i64_w, i32_w]
                        rfl
                      refine take_ (i := 4) (N := some 44) (v := ?_) (a' := ?_) #[true, true, true, true, true, true, false, true, false, false, false, false] rfl rfl (take_ofW HT_.out HW_.out (by kernel_rfl)) (fun _ _ _ h => h) (Or.inl ⟨by rfl, ?_⟩) hHeld ?_ ?_
                      rotate_left
                      · rintro w' ⟨s0, s1, s2, s3, s4, s5, s6, s7, s8, s9, s10, s11, s12, s13, s14, s15, s16, s17, s18, s19, s20, s21, s22, s23, s24, s25, s26, s27⟩
                        go_simp
                        with_reducible rfl
                      rotate_left
                      · simp only [Act.put, List.setIfInBounds_toArray, List.set_cons_zero, List.set_cons_succ, i64_w, i32_w]
                        rfl
                      refine take_ (i := 6) (N := some 46) (v := ?_) (a' := ?_) #[true, true, true, true, true, true, true, true, false, false, false, false] rfl rfl (take_ofW HT_.out HW_.out (by kernel_rfl)) (fun _ _ _ h => h) (Or.inl ⟨by rfl, ?_⟩) hHeld ?_ ?_
                      rotate_left
                      · rintro w' ⟨s0, s1, s2, s3, s4, s5, s6, s7, s8, s9, s10, s11, s12, s13, s14, s15, s16, s17, s18, s19, s20, s21, s22, s23, s24, s25, s26, s27⟩
                        go_simp
                        with_reducible rfl
                      rotate_left
                      · simp only [Act.put, List.setIfInBounds_toArray, List.set_cons_zero, List.set_cons_succ, i64_w, i32_w]
                        rfl
                      refine pure_ (i := 8) (N := some 48) (v := ?_) (a' := ?_) #[true, true, true, true, true, true, true, true, true, false, false, false] rfl rfl (any_of HT_.out (by kernel_rfl)) (fun _ _ _ h => h) (Or.inl ⟨by rfl, ?_⟩) ?_ ?_
                      rotate_left
                      · intro w'
                        go_simp
                        with_reducible rfl
                      rotate_left
                      · simp only [Act.put, List.setIfInBounds_toArray, List.set_cons_zero, List.set_cons_succ, i64_w, i32_w]
                        rfl
                      refine take_ (i := 9) (N := some 49) (v := ?_) (a' := ?_) #[true, true, true, true, true, true, true, true, true, true, false, false] rfl rfl (take_ofW HT_.out HW_.out (by kernel_rfl)) (fun _ _ _ h => h) (Or.inl ⟨by rfl, ?_⟩) hHeld ?_ ?_
                      rotate_left
                      · rintro w' ⟨s0, s1, s2, s3, s4, s5, s6, s7, s8, s9, s10, s11, s12, s13, s14, s15, s16, s17, s18, s19, s20, s21, s22, s23, s24, s25, s26, s27⟩
                        go_simp
                        with_reducible rfl
                      rotate_left
                      · simp only [Act.put, List.setIfInBounds_toArray, List.set_cons_zero, List.set_cons_succ, i64_w, i32_w]
                        rfl
                      refine one_ (i := 10) (N := some 50) #[true, true, true, true, true, true, true, true, true, true, true, false] rfl rfl (one_of HT_.out (by kernel_rfl)) (by decide) (fun K hK => ?_)
                      refine goes_ Try.func64 (by kernel_rfl) rfl #[.agg #[.int .u8 ((rd_T26 l0_6 x37_2).f0), .int .i64 ((rd_T26 l0_6 x37_2).f1.f0), .int .i64 ((rd_T26 l0_6 x37_2).f1.f1), .int .i64 ((rd_T26 l0_6 x37_2).f1.f2), .int .i64 ((rd_T26 l0_6 x37_2).f1.f3), .int .i64 ((rd_T26 l0_6 x37_2).f2), .slice A602_6 ((rd_T26 l0_6 x37_2).f3).length c602_6], .agg #[.int .u8 ((rd_T26 l1_6 x37_2).f0), .int .i64 ((rd_T26 l1_6 x37_2).f1.f0), .int .i64 ((rd_T26 l1_6 x37_2).f1.f1), .int .i64 ((rd_T26 l1_6 x37_2).f1.f2), .int .i64 ((rd_T26 l1_6 x37_2).f1.f3), .int .i64 ((rd_T26 l1_6 x37_2).f2), .slice A603_6 ((rd_T26 l1_6 x37_2).f3).length c603_6]] (by rfl) rfl rfl (by (try simp only [List.map_toArray, List.map_cons, List.map_nil]); first | done | rfl | (simp only [List.length_drop, List.length_take]; rfl)) ?_
                      with_reducible refine (ih k2 (by have := HJ2.out; have := HK2.out; omega) ((rd_T26 l0_6 x37_2).f0) ((rd_T26 l0_6 x37_2).f1.f0) ((rd_T26 l0_6 x37_2).f1.f1) ((rd_T26 l0_6 x37_2).f1.f2) ((rd_T26 l0_6 x37_2).f1.f3) ((rd_T26 l0_6 x37_2).f2) _ _ ((rd_T26 l0_6 x37_2).f3) ((rd_T26 l1_6 x37_2).f0) ((rd_T26 l1_6 x37_2).f1.f0) ((rd_T26 l1_6 x37_2).f1.f1) ((rd_T26 l1_6 x37_2).f1.f2) ((rd_T26 l1_6 x37_2).f1.f3) ((rd_T26 l1_6 x37_2).f2) _ _ ((rd_T26 l1_6 x37_2).f3) false _ ?side1 ?side2 ?side3 ?side4 A28.out).mono ?_
                      (case side1 => repeat (first | exact (Kd.C_below HR602_6.out HB.out) | (with_reducible refine Kd.C_alloc ?_ _) | (with_reducible refine Kd.C_drewN ?_ _) | (with_reducible refine Kd.C_drew ?_)))
                      (case side2 => exact HC602_6.out)
                      (case side3 => repeat (first | exact (Kd.C_below HR603_6.out HB.out) | (with_reducible refine Kd.C_alloc ?_ _) | (with_reducible refine Kd.C_drewN ?_ _) | (with_reducible refine Kd.C_drew ?_)))
                      (case side4 => exact HC603_6.out)
                      rintro e w33 ⟨rfl, hb⟩
                      refine ⟨_, rfl, ?_⟩
                      have n0_ := Aside0.mk (blk_below (g := gb600) (o := .cells #[.int .u8 a0_0, .int .i64 a0_1, .int .i64 a0_2, .int .i64 a0_3, .int .i64 a0_4, .int .i64 a0_5, .slice (some ad602) l0_6.length c0_6] 26 (0, 0)) (by (with_reducible repeat (first | refine blk_drewN ?_ _ | refine blk_drew ?_ | refine blk_alloc ?_ _)); exact BK600.out) hb)
                      have n1_ := Aside0.mk (blk_below (g := gb601) (o := .cells #[.int .u8 a1_0, .int .i64 a1_1, .int .i64 a1_2, .int .i64 a1_3, .int .i64 a1_4, .int .i64 a1_5, .slice (some ad603) l1_6.length c1_6] 26 (0, 0)) (by (with_reducible repeat (first | refine blk_drewN ?_ _ | refine blk_drew ?_ | refine blk_alloc ?_ _)); exact BK601.out) hb)
                      have n2_ := Aside0.mk (below_step (by repeat (first | (with_reducible first | exact HB.out | apply below_alloc | apply pw_below_drewN | apply below_drew1 | refine below_set ?_ GE600.out | refine below_set ?_ GE601.out) | exact HB.out)) hb)
                      clear BK600
                      clear BK601
                      clear HB
                      have BK600 := n0_
                      have BK601 := n1_
                      have HB := n2_
                      clear n0_ n1_ n2_
                      (try clear hb)
                      (try clear hb2)
                      (try clear hk)
                      (try clear hi)
                      refine hK.out _ _ ⟨(blk_cell BK600.out 0).trans rfl, (blk_cell BK600.out 1).trans rfl, (blk_cell BK600.out 2).trans rfl, (blk_cell BK600.out 3).trans rfl, (blk_cell BK600.out 4).trans rfl, (blk_cell BK600.out 5).trans rfl, (blk_cell BK600.out 6).trans rfl, (blk_cell BK601.out 0).trans rfl, (blk_cell BK601.out 1).trans rfl, (blk_cell BK601.out 2).trans rfl, (blk_cell BK601.out 3).trans rfl, (blk_cell BK601.out 4).trans rfl, (blk_cell BK601.out 5).trans rfl, (blk_cell BK601.out 6).trans rfl, ((HB.out.cell (World.block_lt_of_cell? w _ hw602_0)).trans hw602_0), ((HB.out.cell (World.block_lt_of_cell? w _ hw602_1)).trans hw602_1), ((HB.out.cell (World.block_lt_of_cell? w _ hw602_2)).trans hw602_2), ((HB.out.cell (World.block_lt_of_cell? w _ hw602_3)).trans hw602_3), ((HB.out.cell (World.block_lt_of_cell? w _ hw602_4)).trans hw602_4), ((HB.out.cell (World.block_lt_of_cell? w _ hw602_5)).trans hw602_5), ((HB.out.cell (World.block_lt_of_cell? w _ hw602_6)).trans hw602_6), ((HB.out.cell (World.block_lt_of_cell? w _ hw603_0)).trans hw603_0), ((HB.out.cell (World.block_lt_of_cell? w _ hw603_1)).trans hw603_1), ((HB.out.cell (World.block_lt_of_cell? w _ hw603_2)).trans hw603_2), ((HB.out.cell (World.block_lt_of_cell? w _ hw603_3)).trans hw603_3), ((HB.out.cell (World.block_lt_of_cell? w _ hw603_4)).trans hw603_4), ((HB.out.cell (World.block_lt_of_cell? w _ hw603_5)).trans hw603_5), ((HB.out.cell (World.block_lt_of_cell? w _ hw603_6)).trans hw603_6)⟩ (fun hHeld => ?_)
                      clear hK K
                      refine norm_ (a' := ?_) ?_ ?_
                      rotate_left
                      · show Act.put _ (some 50) _ = _
                        simp only [Act.put, List.setIfInBounds_toArray, List.set_cons_zero, List.set_cons_succ, i64_w, i32_w]
                        rfl
                      refine pure_ (i := 11) (N := some 51) (v := ?_) (a' := ?_) #[true, true, true, true, true, true, true, true, true, true, true, true] rfl rfl (any_of HT_.out (by kernel_rfl)) (fun _ _ _ h => h) (Or.inl ⟨by rfl, ?_⟩) ?_ ?_
                      rotate_left
                      · intro w'
                        go_simp
                        with_reducible rfl
                      rotate_left
                      · simp only [Act.put, List.setIfInBounds_toArray, List.set_cons_zero, List.set_cons_succ, i64_w, i32_w]
                        rfl
                      refine done_ (done_of HT_.out (by kernel_rfl)) ?_
                      try go_wp2
                      go_ret
                      exact ⟨by first | rfl | (simp [errW_none, errW_some] <;> rfl) | (simp [*, errW_none, errW_some] <;> rfl), by repeat (first | (with_reducible first | exact HB.out | apply below_alloc | apply pw_below_drewN | apply below_drew1 | refine below_set ?_ GE600.out | refine below_set ?_ GE601.out) | exact HB.out)⟩
                  · rw [if_neg c27] at H
                    exact absurd H (by simp)
                · rw [if_neg c26] at H
                  exact absurd H (by simp)
              · rw [if_neg c25] at H
                exact absurd H (by simp)
            · rw [if_neg c24] at H
              have c24b0 : decide (x37_2 < (l0_6.length : Int)) = false := decide_eq_false c24
              clear c24
              obtain rfl := Option.some.inj H
              go_wp2
              go_ret
              exact ⟨by first | rfl | (simp [errW_none, errW_some] <;> rfl) | (simp [*, errW_none, errW_some] <;> rfl), by repeat (first | (with_reducible first | exact HB.out | apply below_alloc | apply pw_below_drewN | apply below_drew1 | refine below_set ?_ GE600.out | refine below_set ?_ GE601.out) | exact HB.out)⟩

end Go.Proofs.Ytfdmfgaiblfbhaa.P
namespace Go.Proofs.Ytfdmfgaiblfbhaa.P
open Go.RowKit Go.Proofs.YtfdmfgaiblfbhaaW.PrintWords Go.Proofs.YtfdmfgaiblfbhaaW.PrintLast Go.Proofs.YtfdmfgaiblfbhaaW.PrintMore
attribute [local go_sem] max2_int min2_int max_two min_two max_three min_three max_four min_four   -- for this text's walks alone
set_option linter.unusedVariables false
set_option linter.unusedSimpArgs false

/-! ### cell_Leaf: function 78 -/
def cell_Leaf.f (a0_0 : Int) (a0_1 : Int) (a0_2 : Int) (a0_3 : Int) (a1 : Int) : Option (Int × Int × Int × Int × Int × Int × (List (S26))) := some (1, a0_0, a0_1, a0_2, a0_3, a1, ([] : List (S26)))
set_option maxHeartbeats 8000000 in
set_option maxRecDepth 100000 in
theorem cell_Leaf.calls (a0_0 : Int) (a0_1 : Int) (a0_2 : Int) (a0_3 : Int) (a1 : Int) (r1 : Int) (r2 : Int) (r3 : Int) (r4 : Int) (r5 : Int) (r6 : Int) (r7 : List (S26)) (w : World) (h : cell_Leaf.f a0_0 a0_1 a0_2 a0_3 a1 = some (r1, r2, r3, r4, r5, r6, r7)) :
    Calls Try.prog 78 #[.agg #[.int .i64 a0_0, .int .i64 a0_1, .int .i64 a0_2, .int .i64 a0_3], .int .i64 a1] w fun e w' => ∃ v6_ : Value, e = .returned (.agg #[.int .u8 r1, .int .i64 r2, .int .i64 r3, .int .i64 r4, .int .i64 r5, .int .i64 r6, v6_]) ∧ Kd.R k26 26 w' w.heap.size (fun _ => True) v6_ r7 ∧ Below w.heap.size w w' := by
  have hu23 := Try.underlying23
  have hu26 := Try.underlying26
  have HB := Aside0.mk (Below.refl w.heap.size w)
  have H : (some (1, a0_0, a0_1, a0_2, a0_3, a1, ([] : List (S26)))) = some (r1, r2, r3, r4, r5, r6, r7) := h
  clear h
  simp only [Option.some.injEq, Prod.mk.injEq] at H
  obtain ⟨rfl, rfl, rfl, rfl, rfl, rfl, rfl⟩ := H
  go_enter Try.func78, Try.ntmps78
  go_wp2_with (first | ((with_reducible refine gate_dst (N := 2) rfl ?_); refine box_event ?hg (N := 2) ?hd (cs := #[.int .i64 a0_0, .int .i64 a0_1, .int .i64 a0_2, .int .i64 a0_3]) (t := 23) ?hr ?_; (case hd => rfl); (case hg => rfl); (case hr => first | (go_simp; done) | (go_simp; rfl)); intro gb826 hg w3 hbox hb; have n0_ := Aside0.mk (below_step (by repeat (first | (with_reducible first | exact HB.out | apply below_alloc | apply pw_below_drewN | apply below_drew1) | exact HB.out)) hb); have n1_ := Aside0.mk (hbox); have n2_ := Aside0.mk ((by rw [hg]; exact (below_size (by repeat (first | (with_reducible first | exact HB.out | apply below_alloc | apply pw_below_drewN | apply below_drew1) | exact HB.out))) : w.heap.size ≤ gb826)); have n3_ := Aside0.mk ((by rw [hg]; exact (below_size (by repeat (first | (with_reducible first | exact HB.out | apply below_alloc | apply pw_below_drewN | apply below_drew1) | exact HB.out))) : w.heap.size ≤ gb826)); clear HB; have HB := n0_; have BK826 := n1_; have GW826 := n2_; have GE826 := n3_; clear n0_ n1_ n2_ n3_; clear hb hbox hg) | ((with_reducible refine gate_dst (N := 4) rfl ?_); refine box_event ?hg (N := 4) ?hd (cs := #[.int .u8 0, .int .i64 0, .int .i64 0, .int .i64 0, .int .i64 0, .int .i64 0, .slice none 0 0]) (t := 26) ?hr ?_; (case hd => rfl); (case hg => rfl); (case hr => first | (go_simp; done) | (go_simp; rfl)); intro gb827 hg w4 hbox hb; have n0_ := Aside0.mk (blk_below (g := gb826) (o := .cells #[.int .i64 a0_0, .int .i64 a0_1, .int .i64 a0_2, .int .i64 a0_3] 23 (0, 0)) (by (with_reducible repeat (first | refine blk_drewN ?_ _ | refine blk_drew ?_ | refine blk_alloc ?_ _)); exact BK826.out) hb); have n1_ := Aside0.mk (below_step (by repeat (first | (with_reducible first | exact HB.out | apply below_alloc | apply pw_below_drewN | apply below_drew1 | refine below_set ?_ GE826.out) | exact HB.out)) hb); have n2_ := Aside0.mk (hbox); have n3_ := Aside0.mk ((by rw [hg]; exact (below_size (by repeat (first | (with_reducible first | exact HB.out | apply below_alloc | apply pw_below_drewN | apply below_drew1 | refine below_set ?_ GE826.out) | exact HB.out))) : w.heap.size ≤ gb827)); have n4_ := Aside0.mk ((by rw [hg]; exact (below_size (by repeat (first | (with_reducible first | exact HB.out | apply below_alloc | apply pw_below_drewN | apply below_drew1 | refine below_set ?_ GE826.out) | exact HB.out))) : w.heap.size ≤ gb827)); have n5_ := Aside0.mk ((by rw [hg]; exact Nat.ne_of_lt (blk_lt (g := gb826) (o := .cells #[.int .i64 a0_0, .int .i64 a0_1, .int .i64 a0_2, .int .i64 a0_3] 23 (0, 0)) (by (with_reducible repeat (first | refine blk_drewN ?_ _ | refine blk_drew ?_ | refine blk_alloc ?_ _)); exact BK826.out)) : gb826 ≠ gb827)); have n6_ := Aside0.mk ((by rw [hg]; exact Nat.ne_of_gt (blk_lt (g := gb826) (o := .cells #[.int .i64 a0_0, .int .i64 a0_1, .int .i64 a0_2, .int .i64 a0_3] 23 (0, 0)) (by (with_reducible repeat (first | refine blk_drewN ?_ _ | refine blk_drew ?_ | refine blk_alloc ?_ _)); exact BK826.out)) : gb827 ≠ gb826)); clear BK826; clear HB; have BK826 := n0_; have HB := n1_; have BK827 := n2_; have GW827 := n3_; have GE827 := n4_; have NB826_827 := n5_; have NB827_826 := n6_; clear n0_ n1_ n2_ n3_ n4_ n5_ n6_; clear hb hbox hg; have hnb5 := NB826_827.out; have hnc5 := NB827_826.out; have hcz6_0 : w4.cell? ⟨gb826, 0, none⟩ = some (.int .i64 a0_0) := (blk_cell BK826.out 0).trans rfl; have hcz6_1 : w4.cell? ⟨gb826, 1, none⟩ = some (.int .i64 a0_1) := (blk_cell BK826.out 1).trans rfl; have hcz6_2 : w4.cell? ⟨gb826, 2, none⟩ = some (.int .i64 a0_2) := (blk_cell BK826.out 2).trans rfl; have hcz6_3 : w4.cell? ⟨gb826, 3, none⟩ = some (.int .i64 a0_3) := (blk_cell BK826.out 3).trans rfl; have hfz6_0 := blk_frozen BK826.out 0; have hfz6_1 := blk_frozen BK826.out 1; have hfz6_2 := blk_frozen BK826.out 2; have hfz6_3 := blk_frozen BK826.out 3; have hcz7_0 : w4.cell? ⟨gb827, 0, none⟩ = some (.int .u8 0) := (blk_cell BK827.out 0).trans rfl; have hcz7_1 : w4.cell? ⟨gb827, 1, none⟩ = some (.int .i64 0) := (blk_cell BK827.out 1).trans rfl; have hcz7_2 : w4.cell? ⟨gb827, 2, none⟩ = some (.int .i64 0) := (blk_cell BK827.out 2).trans rfl; have hcz7_3 : w4.cell? ⟨gb827, 3, none⟩ = some (.int .i64 0) := (blk_cell BK827.out 3).trans rfl; have hcz7_4 : w4.cell? ⟨gb827, 4, none⟩ = some (.int .i64 0) := (blk_cell BK827.out 4).trans rfl; have hcz7_5 : w4.cell? ⟨gb827, 5, none⟩ = some (.int .i64 0) := (blk_cell BK827.out 5).trans rfl; have hcz7_6 : w4.cell? ⟨gb827, 6, none⟩ = some (.slice none 0 0) := (blk_cell BK827.out 6).trans rfl; have hfz7_0 := blk_frozen BK827.out 0; have hfz7_1 := blk_frozen BK827.out 1; have hfz7_2 := blk_frozen BK827.out 2; have hfz7_3 := blk_frozen BK827.out 3; have hfz7_4 := blk_frozen BK827.out 4; have hfz7_5 := blk_frozen BK827.out 5; have hfz7_6 := blk_frozen BK827.out 6))
  refine bodyPost_ret (results_cell_row rfl _ _ gb827 26 #[.int .u8 1, .int .i64 a0_0, .int .i64 a0_1, .int .i64 a0_2, .int .i64 a0_3, .int .i64 a1, .slice none 0 0] (0, 0) _ rfl (by (with_reducible repeat (first | refine blk_drewN ?_ _ | refine blk_drew ?_ | refine blk_alloc ?_ _)); refine blk_put (cs := #[.int .u8 1, .int .i64 a0_0, .int .i64 a0_1, .int .i64 a0_2, .int .i64 a0_3, .int .i64 a1, .slice none 0 0]) ?_ 6 _ rfl; (with_reducible repeat (first | refine blk_drewN ?_ _ | refine blk_drew ?_ | refine blk_alloc ?_ _)); refine blk_put (cs := #[.int .u8 1, .int .i64 a0_0, .int .i64 a0_1, .int .i64 a0_2, .int .i64 a0_3, .int .i64 0, .slice none 0 0]) ?_ 5 _ rfl; (with_reducible repeat (first | refine blk_drewN ?_ _ | refine blk_drew ?_ | refine blk_alloc ?_ _)); refine blk_put (cs := #[.int .u8 1, .int .i64 a0_0, .int .i64 a0_1, .int .i64 a0_2, .int .i64 0, .int .i64 0, .slice none 0 0]) ?_ 4 _ rfl; (with_reducible repeat (first | refine blk_drewN ?_ _ | refine blk_drew ?_ | refine blk_alloc ?_ _)); refine blk_put (cs := #[.int .u8 1, .int .i64 a0_0, .int .i64 a0_1, .int .i64 0, .int .i64 0, .int .i64 0, .slice none 0 0]) ?_ 3 _ rfl; (with_reducible repeat (first | refine blk_drewN ?_ _ | refine blk_drew ?_ | refine blk_alloc ?_ _)); refine blk_put (cs := #[.int .u8 1, .int .i64 a0_0, .int .i64 0, .int .i64 0, .int .i64 0, .int .i64 0, .slice none 0 0]) ?_ 2 _ rfl; (with_reducible repeat (first | refine blk_drewN ?_ _ | refine blk_drew ?_ | refine blk_alloc ?_ _)); refine blk_put (cs := #[.int .u8 1, .int .i64 0, .int .i64 0, .int .i64 0, .int .i64 0, .int .i64 0, .slice none 0 0]) ?_ 1 _ rfl; (with_reducible repeat (first | refine blk_drewN ?_ _ | refine blk_drew ?_ | refine blk_alloc ?_ _)); refine blk_put (cs := #[.int .u8 0, .int .i64 0, .int .i64 0, .int .i64 0, .int .i64 0, .int .i64 0, .slice none 0 0]) ?_ 0 _ rfl; (with_reducible repeat (first | refine blk_drewN ?_ _ | refine blk_drew ?_ | refine blk_alloc ?_ _)); exact BK827.out) Try.underlying26 rfl (by kernel_rfl)) rfl ?_
  exact ⟨_, by first | rfl | (simp [errW_none, errW_some] <;> rfl) | (simp [*, errW_none, errW_some] <;> rfl), by first | exact Kd.R_nil _ _ _ _ _ | exact Kd.N_nil _ _ _ _ _ | exact Kd.V_nil _ _ _ _ _ | exact Kd.Q_nil _ _ _ _ _ | exact Kd.S_nil _ _ _ _ _, by repeat (first | (with_reducible first | exact HB.out | apply below_alloc | apply pw_below_drewN | apply below_drew1 | refine below_set ?_ GE826.out | refine below_set ?_ GE827.out) | exact HB.out)⟩

end Go.Proofs.Ytfdmfgaiblfbhaa.P
/- The layout of slices.Insert at []int in this program, for the library's contract. -/
namespace Go.Proofs.Ytfdmfgaiblfbhaa.P
open Go.Shelf
def ren21 : Ren := ⟨fun f => match f with | 21 => 150 | 27 => 181 | 28 => 182 | 35 => 198 | 39 => 208 | n => n, fun t => match t with | 22 => 41 | n => n, fun g => g⟩
theorem lay21 : Lays2.n21 Try.prog ren21 where
  mixed := by kernel_rfl
  f21 := Try.func150
  f27 := Try.func181
  f28 := Try.func182
  f35 := Try.func198
  f39 := Try.func208
  t0 := Try.underlying0
  a0 := fun w => by kernel_rfl
  z0 := fun w => by kernel_rfl
  v0 := fun w => by kernel_rfl
  t3 := Try.underlying3
  a3 := fun w => by kernel_rfl
  z3 := fun w => by kernel_rfl
  v3 := fun w => by kernel_rfl
  t4 := Try.underlying4
  a4 := fun w => by kernel_rfl
  z4 := fun w => by kernel_rfl
  v4 := fun w => by kernel_rfl
  t22 := Try.underlying41
  a22 := fun w => by kernel_rfl
  z22 := fun w => by kernel_rfl
  v22 := fun w => by kernel_rfl
  i3 := by kernel_rfl
end Go.Proofs.Ytfdmfgaiblfbhaa.P
/- A store into a block of one's own, as an event: the world behind it is a letter. -/
namespace Go.Proofs.Ytfdmfgaiblfbhaa.P
open Go.RowKit Go.Proofs.YtfdmfgaiblfbhaaW.PrintWords Go.Proofs.YtfdmfgaiblfbhaaW.PrintLast Go.Proofs.YtfdmfgaiblfbhaaW.PrintMore
section
variable {P : Program} {ops : Array Oper} {rest : List Oper} {o : Oper} {a : Act} {Q : Exit → Act → World → Prop}
theorem grown_below {w0 W w1 : World} {g base : Nat} (HB : Below base w0 W) (hg : W.grownBy w1 (some g)) (hbg : base ≤ g) (hs : base ≤ W.heap.size) : Below base w0 w1 := HB.trans ⟨hg.os, hg.tape, hg.output, hg.size, fun k hk => hg.block k (by omega) (fun he => by injection he with he; omega)⟩
/-- What a store into block g leaves. -/
theorem box_cells {W : World} {g j : Nat} {cs cs' : Array Value} {t0 : TypeId} {seg : List Value} (hb : W.heap[g]? = some (.cells cs t0 (0, 0))) (hj : j + seg.length ≤ cs.size) (he : cs.toList.take j ++ seg ++ cs.toList.drop (j + seg.length) = cs'.toList) :
    (W.setCells g j seg).heap[g]? = some (.cells cs' t0 (0, 0)) ∧ W.grownBy (W.setCells g j seg) (some g) := by
  obtain ⟨cur', h3, h4, h5⟩ := setCells_row seg j W cs hb hj
  obtain ⟨s1, s2, s3, s4⟩ := setCells_same g seg j W
  have hc : cur' = cs' := Array.toList_inj.1 (h5.trans he)
  subst hc
  exact ⟨h3, ⟨s1, s2, s3, by rw [s4]; exact Nat.le_refl _, fun k _ hk => setCells_far seg _ k (fun e => hk (by rw [e]))⟩⟩
theorem box_store {W w0 : World} (hN : o.dst = none) (hgd : o.guard = none) (t : TypeId) (p x : Operand) (ho : o.op = .store t p x) {g j base : Nat} {cs : Array Value} (cs' : Array Value) {t0 : TypeId} {u : Value} {seg : List Value}
    (haddr : a.eval p = .pointer (some ⟨g, j, none⟩)) (hx : a.eval x = u) (hu : u.cells.toList = seg) (ht : (P.info? t).map (·.size) = some seg.length) (h1 : ∀ q ∈ seg, q.oneCell' = true)
    (hb : W.heap[g]? = some (.cells cs t0 (0, 0))) (hj : j + seg.length ≤ cs.size) (he : cs.toList.take j ++ seg ++ cs.toList.drop (j + seg.length) = cs'.toList) (HB : Below base w0 W) (hbs : base ≤ W.heap.size) (hbg : base ≤ g)
    (h : ∀ w1, w1.heap[g]? = some (.cells cs' t0 (0, 0)) → Below base w0 w1 → W.grownBy w1 (some g) → wpList P ops Q rest a w1) : wpList P ops Q (o :: rest) a W := by
  obtain ⟨h2, h3⟩ := box_cells hb hj he
  refine wpList_plain hgd fun K hK => ?_
  have hrun := run_store_run (P := P) t u seg hb hu ht hj h1
  unfold Oper.wp execOp
  simp only [ho, haddr, hx, Sem.run_bind, Sem.run_pure, Result.andThen_ok, hrun]
  show K (a.put o.dst undef) _
  rw [hN]
  exact hK a _ (h _ h2 (grown_below HB h3 hbg hbs) h3)
theorem store_exec {W : World} (t : TypeId) (p x : Operand) (ho : o.op = .store t p x) {g j : Nat} {cs : Array Value} {t0 : TypeId} {u : Value} {seg : List Value}
    (haddr : a.eval p = .pointer (some ⟨g, j, none⟩)) (hx : a.eval x = u) (hu : u.cells.toList = seg) (ht : (P.info? t).map (·.size) = some seg.length) (h1 : ∀ q ∈ seg, q.oneCell' = true)
    (hb : W.heap[g]? = some (.cells cs t0 (0, 0))) (hj : j + seg.length ≤ cs.size) : (execOp a.eval o).run P W = .ok .skip (W.setCells g j seg) := by
  have hrun := run_store_run (P := P) t u seg hb hu ht hj h1
  unfold execOp
  simp only [ho, haddr, hx, Sem.run_bind, Sem.run_pure, Result.andThen_ok, hrun]
end
end Go.Proofs.Ytfdmfgaiblfbhaa.P
/- The contract of slices.Insert at []int, of one number ahead of a row of the call's own, by the library's own contract. Condition: at most 1000000 numbers. -/
namespace Go.Proofs.Ytfdmfgaiblfbhaa.P
open Go.RowKit Go.Shelf Go.Proofs.YtfdmfgaiblfbhaaW.PrintWords Go.Proofs.YtfdmfgaiblfbhaaW.PrintLast Go.Proofs.YtfdmfgaiblfbhaaW.PrintMore

theorem zc_size (n : Nat) : (Builtin.zeroCells (Value.int .i64 0).cells n).size = n := by simp [Builtin.zeroCells, Value.cells]
theorem drew_below {w w1 : World} {B : Nat} (h : Below B w.drew w1) : Below B w w1 := ⟨h.os, h.tape.trans rfl, h.output, h.size, h.block⟩
set_option maxHeartbeats 1000000 in
theorem ins150 (w : World) (base : Nat) (hbase : base ≤ w.heap.size) (v : Value) (xs : List Int) (x : Int) (vb vc : Nat) (hs : w.ownsRow base 3 1 v xs.length (encs (Value.int .i64) xs)) (hv : w.heap[vb]? = some (.cells #[.int .i64 x] 3 (0, 0))) (hne : v.ownBlock ≠ some vb) (hlen : xs.length ≤ 1000000) :
    Calls Try.prog 150 #[v, .int .i64 0, .slice (some ⟨vb, 0, none⟩) 1 vc] w fun e w' => ∃ v', e = .returned v' ∧ w'.ownsRow base 3 1 v' (x :: xs).length (encs (Value.int .i64) (x :: xs)) ∧ Below base w w' := by
  have hvs : ∀ j u, [Value.int .i64 x][j]? = some u → w.cell? ⟨vb, 0 + j, none⟩ = some u := by
    intro j u hj
    cases j with
    | zero => rw [blk_cell hv 0]; exact hj
    | succ j => simp at hj
  have h1v : ∀ u ∈ [Value.int .i64 x], u.oneCell' = true := by simp [Value.oneCell']
  have h1c : ∀ u ∈ encs (Value.int .i64) xs, u.oneCell' = true := by
    intro u hu
    obtain ⟨i, _, rfl⟩ := List.mem_map.1 hu
    rfl
  obtain ⟨hl, hcase⟩ := hs
  rcases hcase with ⟨rfl, h0⟩ | ⟨g, cap, cur, rfl, hbg, hh, hnc, hcm, hcs, htk⟩
  · obtain rfl : xs = [] := List.eq_nil_of_length_eq_zero h0
    refine (Any2.slices_Insert_int_end_grow lay21 none 0 0 vb 0 1 vc [] [.int .i64 x] w (by omega) (by omega) (by omega) (by omega) rfl rfl (fun _ => rfl) (fun a h => by cases h) hvs h1v).mono ?_
    rintro e w' ⟨rfl, rfl⟩
    have hg := grownCap_ge w (0 + 1) 0 3
    have hg2 := grownCap_le_maxLen w (0 + 1) 0 3 (by unfold maxLen; omega)
    refine ⟨_, rfl, ⟨rfl, .inr ⟨w.heap.size, _, _, rfl, hbase, heap_alloc_new w.drew _, hg, hg2, ?_, ?_⟩⟩, drew_below ((Below.refl base w.drew).alloc hbase _)⟩
    · rw [Array.size_append, zc_size]
      show 1 + (grownCap w (0 + 1) 0 3 - (0 + 1)) = grownCap w (0 + 1) 0 3 * 1
      omega
    · simp [encs]
  · have hcl : (encs (Value.int .i64) xs).length = xs.length := encs_length xs
    have hlt := blk_lt hh
    have hgv : vb ≠ g := fun e => hne (by rw [e]; rfl)
    have hcells : ∀ j u, (encs (Value.int .i64) xs)[j]? = some u → w.cell? ⟨g, 0 + j, none⟩ = some u := by
      intro j u hj
      rw [blk_cell hh, Nat.zero_add, ← Array.getElem?_toList]
      rw [← htk, Nat.mul_one, List.getElem?_take] at hj
      split at hj
      · exact hj
      · cases hj
    have hsp : ∀ j, j < cap → (w.cell? ⟨g, 0 + j, none⟩).isSome = true := by
      intro j hj
      rw [blk_cell hh, Nat.zero_add, Array.getElem?_eq_getElem (by omega)]
      rfl
    have hfz : ∀ j, w.frozen? ⟨g, 0 + j, none⟩ = false := fun j => blk_frozen hh _
    by_cases h0 : xs.length = 0
    · obtain rfl : xs = [] := List.eq_nil_of_length_eq_zero h0
      by_cases hr : 0 + 1 ≤ cap
      · refine (Any2.slices_Insert_int_end_room lay21 g 0 0 cap vb 0 1 vc [.int .i64 x] w (by omega) hr (by unfold maxLen at hcm; omega) rfl (fun j hj => by rw [Nat.add_assoc]; exact hsp (0 + j) (by omega)) (fun j _ => by rw [Nat.add_assoc]; exact hfz (0 + j)) hvs h1v).mono ?_
        rintro e w' ⟨rfl, rfl⟩
        obtain ⟨cur', h3, h4, h5⟩ := setCells_row [Value.int .i64 x] (0 + 0) w cur hh (by simp; omega)
        obtain ⟨_, hgr⟩ := box_cells hh (show (0 + 0) + [Value.int .i64 x].length ≤ cur.size by simp; omega) (cs' := cur') h5.symm
        refine ⟨_, rfl, ⟨rfl, .inr ⟨g, cap, cur', rfl, hbg, h3, hr, hcm, by rw [h4, hcs], ?_⟩⟩, grown_below (Below.refl base w) hgr hbg hbase⟩
        rw [h5]
        simp [encs]
      · refine (Any2.slices_Insert_int_end_grow lay21 (some ⟨g, 0, none⟩) 0 cap vb 0 1 vc [] [.int .i64 x] w (by omega) (by omega) (by omega) (by omega) rfl rfl (fun h => by cases h) (fun a h j u hj => by simp at hj) hvs h1v).mono ?_
        rintro e w' ⟨rfl, rfl⟩
        have hg := grownCap_ge w (0 + 1) cap 3
        have hg2 := grownCap_le_maxLen w (0 + 1) cap 3 (by unfold maxLen; omega)
        refine ⟨_, rfl, ⟨rfl, .inr ⟨w.heap.size, _, _, rfl, hbase, heap_alloc_new w.drew _, hg, hg2, ?_, ?_⟩⟩, drew_below ((Below.refl base w.drew).alloc hbase _)⟩
        · rw [Array.size_append, zc_size]
          show 1 + (grownCap w (0 + 1) cap 3 - (0 + 1)) = grownCap w (0 + 1) cap 3 * 1
          omega
        · simp [encs]
    · by_cases hr : xs.length + 1 ≤ cap
      · refine (Any2.slices_Insert_int_shift lay21 g 0 xs.length cap 0 vb 0 1 vc (encs (Value.int .i64) xs) [.int .i64 x] w (by omega) (by omega) hr (by unfold maxLen at hcm; omega) hgv hcl rfl hcells (fun j hj => hsp j (by omega)) (fun j _ => hfz j) hvs h1c h1v
          3 3 1 cap (by simp [World.shape?, hv]) (by simp [World.shape?, hh, hcs]) (by omega) (blk_frozen hv 0) (blk_frozen hv 1)).mono ?_
        rintro e w' ⟨rfl, rfl⟩
        have hh' : w.drew.heap[g]? = some (.cells cur 3 (0, 0)) := hh
        have e1 : 0 + (0 + 1) + ((encs (Value.int .i64) xs).drop 0).length ≤ cur.size := by rw [List.drop_zero, hcl]; omega
        obtain ⟨c1, h3, h4, h5⟩ := setCells_row ((encs (Value.int .i64) xs).drop 0) (0 + (0 + 1)) w.drew cur hh' e1
        obtain ⟨_, hgr1⟩ := box_cells hh' e1 (cs' := c1) h5.symm
        have e2 : (0 + 0) + [Value.int .i64 x].length ≤ c1.size := by simp; omega
        obtain ⟨c2, h6, h7, h8⟩ := setCells_row [Value.int .i64 x] (0 + 0) _ c1 h3 e2
        obtain ⟨_, hgr2⟩ := box_cells h3 e2 (cs' := c2) h8.symm
        refine ⟨_, rfl, ⟨by rw [encs_length, Nat.mul_one], .inr ⟨g, cap, c2, rfl, hbg, h6, hr, hcm, by rw [h7, h4, hcs], ?_⟩⟩, drew_below (grown_below (grown_below (Below.refl base w.drew) hgr1 hbg hbase) hgr2 hbg (Nat.le_trans hbase hgr1.size))⟩
        rw [h8, h5]
        have hc1 : cur.toList.length = cap := by rw [Array.length_toList]; omega
        simp only [List.drop_zero, Nat.zero_add, List.take_zero, List.nil_append, List.length_singleton, List.length_cons, List.length_nil]
        have ht : (cur.toList.take 1).length = 1 := by rw [List.length_take]; omega
        rw [List.append_assoc, List.drop_left' ht, Nat.mul_one]
        show (Value.int .i64 x :: (encs (Value.int .i64) xs ++ cur.toList.drop (1 + (encs (Value.int .i64) xs).length))).take (xs.length + 1) = encs (Value.int .i64) (x :: xs)
        rw [List.take_succ_cons, List.take_append_of_le_length (by omega), List.take_of_length_le (by omega)]
        rfl
      · refine (Any2.slices_Insert_int_grow lay21 g 0 xs.length cap 0 vb 0 1 vc (encs (Value.int .i64) xs) [.int .i64 x] w (by omega) (by omega) hnc (by omega) (by omega) hcl rfl hcells hvs h1c h1v).mono ?_
        rintro e w' ⟨rfl, rfl⟩
        have hg := grownCap_ge w (xs.length + 1) cap 3
        have hg2 := grownCap_le_maxLen w (xs.length + 1) cap 3 (by unfold maxLen; omega)
        have hh0 := heap_alloc_new w (.cells (((encs (Value.int .i64) xs).take 0).toArray ++ Builtin.zeroCells (Value.int .i64 0).cells (xs.length + 1 - 0) ++ Builtin.zeroCells (Value.int .i64 0).cells (grownCap w (xs.length + 1) cap (ren21.t 3) - (xs.length + 1))) (ren21.t 3))
        generalize hcur : ((((encs (Value.int .i64) xs).take 0).toArray ++ Builtin.zeroCells (Value.int .i64 0).cells (xs.length + 1 - 0) ++ Builtin.zeroCells (Value.int .i64 0).cells (grownCap w (xs.length + 1) cap (ren21.t 3) - (xs.length + 1)))) = cur0 at hh0 ⊢
        have hsz0 : cur0.size = grownCap w (xs.length + 1) cap 3 := by
          rw [← hcur, Array.size_append, Array.size_append, zc_size, zc_size]
          show 0 + (xs.length + 1 - 0) + (grownCap w (xs.length + 1) cap 3 - (xs.length + 1)) = _
          omega
        have hal : Below base w (w.alloc (.cells cur0 (ren21.t 3))) := (Below.refl base w).alloc hbase _
        generalize w.alloc (.cells cur0 (ren21.t 3)) = wa at hh0 hal ⊢
        have hh1 : wa.drew.heap[w.heap.size]? = some (.cells cur0 3 (0, 0)) := hh0
        have e1 : 0 + [Value.int .i64 x].length ≤ cur0.size := by rw [hsz0]; simp; omega
        obtain ⟨c1, h3, h4, h5⟩ := setCells_row [Value.int .i64 x] 0 wa.drew cur0 hh1 e1
        obtain ⟨_, hgr1⟩ := box_cells hh1 e1 (cs' := c1) h5.symm
        generalize wa.drew.setCells w.heap.size 0 [Value.int .i64 x] = wb at h3 hgr1 ⊢
        have hh2 : wb.drew.heap[w.heap.size]? = some (.cells c1 3 (0, 0)) := h3
        have e2 : (0 + 1) + ((encs (Value.int .i64) xs).drop 0).length ≤ c1.size := by rw [List.drop_zero, hcl, h4, hsz0]; omega
        obtain ⟨c2, h6, h7, h8⟩ := setCells_row ((encs (Value.int .i64) xs).drop 0) (0 + 1) wb.drew c1 hh2 e2
        obtain ⟨_, hgr2⟩ := box_cells hh2 e2 (cs' := c2) h8.symm
        have hB1 : Below base w wa.drew := below_drew1 hal
        have hB2 : Below base w wb := grown_below hB1 hgr1 hbase (Nat.le_trans hbase hB1.size)
        refine ⟨_, rfl, ⟨by rw [encs_length, Nat.mul_one], .inr ⟨w.heap.size, _, c2, rfl, hbase, h6, hg, hg2, by rw [h7, h4, hsz0]; exact (Nat.mul_one _).symm, ?_⟩⟩, grown_below (below_drew1 hB2) hgr2 hbase (Nat.le_trans hbase hB2.size)⟩
        rw [h8, h5]
        simp only [List.drop_zero, Nat.zero_add, List.take_zero, List.nil_append, List.length_singleton, List.length_cons]
        rw [List.singleton_append, List.take_succ_cons, List.take_zero, Nat.mul_one, List.append_assoc]
        show (Value.int .i64 x :: (encs (Value.int .i64) xs ++ _)).take (xs.length + 1) = encs (Value.int .i64) (x :: xs)
        rw [List.take_succ_cons, List.take_append_of_le_length (by omega), List.take_of_length_le (by omega)]
        rfl
end Go.Proofs.Ytfdmfgaiblfbhaa.P
/- A tree's cells and their number: plain data. -/
namespace Go.Proofs.Ytfdmfgaiblfbhaa.P
open Go.RowKit Go.Proofs.YtfdmfgaiblfbhaaW.PrintWords Go.Proofs.YtfdmfgaiblfbhaaW.PrintLast Go.Proofs.YtfdmfgaiblfbhaaW.PrintMore

mutual
def allC : S26 → List S26
  | ⟨a, b, d, l⟩ => ⟨a, b, d, l⟩ :: allL l
def allL : List S26 → List S26
  | [] => []
  | c :: cs => allC c ++ allL cs
end
theorem allC_eq (c : S26) : allC c = c :: allL c.f3 := by cases c; simp [allC]
theorem allL_nil : allL [] = [] := by simp [allL]
theorem allL_cons (c : S26) (cs : List S26) : allL (c :: cs) = allC c ++ allL cs := by simp [allL]
theorem allL_app (a b : List S26) : allL (a ++ b) = allL a ++ allL b := by
  induction a with
  | nil => simp [allL_nil]
  | cons x xs ih => rw [List.cons_append, allL_cons, allL_cons, ih, List.append_assoc]
def sz (c : S26) : Nat := (allC c).length
def szL (l : List S26) : Nat := (allL l).length
theorem sz_eq (c : S26) : sz c = 1 + szL c.f3 := by unfold sz szL; rw [allC_eq, List.length_cons]; omega
theorem szL_nil : szL [] = 0 := by unfold szL; rw [allL_nil]; rfl
theorem szL_cons (c : S26) (cs : List S26) : szL (c :: cs) = sz c + szL cs := by unfold szL sz; rw [allL_cons, List.length_append]
theorem szL_app (a b : List S26) : szL (a ++ b) = szL a + szL b := by unfold szL; rw [allL_app, List.length_append]
theorem szL_len (l : List S26) : l.length ≤ szL l := by
  induction l with
  | nil => simp
  | cons x xs ih => rw [szL_cons, List.length_cons, sz_eq]; omega
theorem eta26 (c : S26) : (⟨c.f0, ⟨c.f1.f0, c.f1.f1, c.f1.f2, c.f1.f3⟩, c.f2, c.f3⟩ : S26) = c := by cases c; rfl
end Go.Proofs.Ytfdmfgaiblfbhaa.P
/- The contract of cell.Find: the path to the first leaf with a number. Condition: at most 1000000 cells. -/
namespace Go.Proofs.Ytfdmfgaiblfbhaa.P
open Go.RowKit Go.Proofs.YtfdmfgaiblfbhaaW.PrintWords Go.Proofs.YtfdmfgaiblfbhaaW.PrintLast Go.Proofs.YtfdmfgaiblfbhaaW.PrintMore
set_option linter.unusedVariables false
set_option linter.unusedSimpArgs false
section
variable {P : Program} {ops : Array Oper} {rest : List Oper} {o : Oper} {a : Act} {Q : Exit → Act → World → Prop}
theorem row_event {W : World} (hgd : o.guard = none) {N : Tmp} (_hd : o.dst = some N) {cs : Array Value} {t : TypeId} {n c : Nat}
    (hrun : (execOp a.eval o).run P W = .ok (.value (.slice (some ⟨W.heap.size, 0, none⟩) n c)) (W.alloc (.cells cs t (0, 0))))
    (h : ∀ g, g = W.heap.size → ∀ w1, w1.heap[g]? = some (.cells cs t (0, 0)) → Below W.heap.size W w1 → wpList P ops Q rest (a.put o.dst (.slice (some ⟨g, 0, none⟩) n c)) w1) : wpList P ops Q (o :: rest) a W :=
  Kd.event_run hgd hrun (h _ rfl _ (blk_new W _) (below_alloc (Below.refl _ _) _))
end
mutual
def findC (id : Int) : S26 → Option (List Int)
  | ⟨a, _, d, l⟩ => if a = 1 ∧ d = id then some [] else findL id 0 l
def findL (id : Int) : Nat → List S26 → Option (List Int)
  | _, [] => none
  | i, k :: ks => match findC id k with
    | some p => some ((i : Int) :: p)
    | none => findL id (i + 1) ks
end
theorem findC_eq (id : Int) (c : S26) : findC id c = if c.f0 = 1 ∧ c.f2 = id then some [] else findL id 0 c.f3 := by cases c; simp [findC]
theorem findL_nil (id : Int) (i : Nat) : findL id i [] = none := by simp [findL]
theorem findL_cons (id : Int) (i : Nat) (k : S26) (ks : List S26) : findL id i (k :: ks) = match findC id k with | some p => some ((i : Int) :: p) | none => findL id (i + 1) ks := by simp [findL]
theorem find_len (id : Int) : ∀ (N : Nat), (∀ c : S26, sz c ≤ N → ∀ p, findC id c = some p → p.length ≤ sz c) ∧ (∀ l : List S26, szL l ≤ N → ∀ i p, findL id i l = some p → p.length ≤ 1 + szL l) := by
  intro N
  induction N with
  | zero =>
    refine ⟨fun c h => ?_, fun l h => ?_⟩
    · rw [sz_eq] at h; omega
    · cases l with
      | nil => intro i p hp; rw [findL_nil] at hp; cases hp
      | cons z zs => rw [szL_cons, sz_eq] at h; omega
  | succ N ih =>
    have hC : ∀ c : S26, sz c ≤ N + 1 → ∀ p, findC id c = some p → p.length ≤ sz c := by
      intro c h p hp
      have hs := sz_eq c
      rw [findC_eq] at hp
      split at hp
      · injection hp with hp; subst hp; simp
      · have := ih.2 c.f3 (by omega) 0 p hp
        omega
    refine ⟨hC, fun l => ?_⟩
    induction l with
    | nil => intro _ i p hp; rw [findL_nil] at hp; cases hp
    | cons z zs ihl =>
      intro h i p hp
      rw [szL_cons] at h ⊢
      rw [findL_cons] at hp
      cases hz : findC id z with
      | some q =>
        rw [hz] at hp
        injection hp with hp
        have := hC z (by omega) q hz
        rw [← hp, List.length_cons]
        omega
      | none =>
        rw [hz] at hp
        have := ihl (by omega) (i + 1) p hp
        omega
/-- What it answers. -/
def FindP (w : World) (r : Option (List Int)) (e : Ending) (w' : World) : Prop := ∃ v : Value, e = .returned (.tuple #[v, .bool r.isSome]) ∧ (Kd.int .i64).R 3 w' w.heap.size (fun _ => True) v (r.getD []) ∧ Below w.heap.size w w'
set_option maxHeartbeats 4000000 in
set_option maxRecDepth 100000 in
theorem find89 (id : Int) : ∀ (N : Nat) (c : S26), sz c ≤ N → N ≤ 1000000 → ∀ (A : Option Addr) (cc : Nat) (w : World), Kd.C k26 w A c.f3.length c.f3 → c.f3.length ≤ cc →
    Calls Try.prog 89 #[.agg #[.int .u8 c.f0, .int .i64 c.f1.f0, .int .i64 c.f1.f1, .int .i64 c.f1.f2, .int .i64 c.f1.f3, .int .i64 c.f2, .slice A c.f3.length cc], .int .i64 id] w (FindP w (findC id c)) := by
  intro N
  induction N with
  | zero => intro c h; rw [sz_eq] at h; omega
  | succ N ih =>
    intro c hc hN A cc w hr hlc
    have hsz := sz_eq c
    have hlen := szL_len c.f3
    have hkz : ∀ k : S26, k ∈ c.f3 → sz k ≤ N := by
      intro k hk
      have : sz k ≤ szL c.f3 := by
        obtain ⟨p, q, e⟩ := List.append_of_mem hk
        rw [e, szL_app, szL_cons]; omega
      omega
    have IH := Aside0.mk fun (k : S26) (hk : k ∈ c.f3) => ih k (hkz k hk) (by omega)
    have HLP := Aside0.mk fun (k : S26) (hk : k ∈ c.f3) (p : List Int) (hp : findC id k = some p) => Nat.le_trans ((find_len id (sz k)).1 k (Nat.le_refl _) p hp) (Nat.le_trans (hkz k hk) (by omega : N ≤ 1000000))
    have HR := Aside0.mk hr
    have HLC := Aside0.mk hlc
    have HL := Aside0.mk (show c.f3.length ≤ 1000000 by omega)
    have HB := Aside0.mk (Below.refl w.heap.size w)
    rw [findC_eq]
    clear ih hkz hr hlc hc hN hsz hlen
    obtain ⟨ck, ⟨cx, cy, cw, ch⟩, cid, l⟩ := c
    simp only [] at HR HLC HL IH HLP ⊢
    by_cases h1 : ck = 1
    · have h1b : (ck == 1) = true := beq_iff_eq.mpr h1
      by_cases h2 : cid = id
      · have h2b : (cid == id) = true := beq_iff_eq.mpr h2
        rw [if_pos ⟨h1, h2⟩]
        clear h1 h2
        go_enter Try.func89, Try.ntmps89
        go_wp2_with (first | ((with_reducible refine gate_dst (N := 2) rfl ?_); refine box_event ?hg (N := 2) ?hd (cs := #[.int .u8 ck, .int .i64 cx, .int .i64 cy, .int .i64 cw, .int .i64 ch, .int .i64 cid, .slice A l.length cc]) (t := 26) ?hr ?_; (case hd => rfl); (case hg => rfl); (case hr => first | (go_simp; done) | (go_simp; rfl)); intro b2 hg w2 hbox hb; have K2 := Aside0.mk hbox; have q_ := Aside0.mk (below_step HB.out hb); clear HB; have HB := q_; clear q_; clear hb hbox hg; have c0 := (blk_cell K2.out 0).trans rfl; have c1 := (blk_cell K2.out 1).trans rfl; have c2 := (blk_cell K2.out 2).trans rfl; have c3 := (blk_cell K2.out 3).trans rfl; have c4 := (blk_cell K2.out 4).trans rfl; have c5 := (blk_cell K2.out 5).trans rfl; have c6 := (blk_cell K2.out 6).trans rfl) | fail)
        go_ret2
        exact ⟨_, rfl, Kd.R_nil _ _ _ _ _, HB.out⟩
      · have h2b : (cid == id) = false := beq_eq_false_iff_ne.mpr h2
        rw [if_neg (fun h => h2 h.2)]
        clear h1 h2
        go_enter Try.func89, Try.ntmps89
        go_wp2_with (first | ((with_reducible refine gate_dst (N := 2) rfl ?_); refine box_event ?hg (N := 2) ?hd (cs := #[.int .u8 ck, .int .i64 cx, .int .i64 cy, .int .i64 cw, .int .i64 ch, .int .i64 cid, .slice A l.length cc]) (t := 26) ?hr ?_; (case hd => rfl); (case hg => rfl); (case hr => first | (go_simp; done) | (go_simp; rfl)); intro b2 hg w2 hbox hb; have K2 := Aside0.mk hbox; have q_ := Aside0.mk (below_step HB.out hb); clear HB; have HB := q_; clear q_; clear hb hbox hg; have c0 := (blk_cell K2.out 0).trans rfl; have c1 := (blk_cell K2.out 1).trans rfl; have c2 := (blk_cell K2.out 2).trans rfl; have c3 := (blk_cell K2.out 3).trans rfl; have c4 := (blk_cell K2.out 4).trans rfl; have c5 := (blk_cell K2.out 5).trans rfl; have c6 := (blk_cell K2.out 6).trans rfl) | fail)
        clear c0 c1 c2 c3 c4 c5 c6
        go_loopg [22] l.length (fun gg v22 wr => ∃ (pre rest : List S26), v22 = .int .i64 (pre.length : Int) ∧ Aside0 (pre ++ rest = l) ∧ rest.length ≤ gg ∧ Aside0 (findL id 0 l = findL id pre.length rest) ∧ Aside0 (Below w.heap.size w wr))
        case atStart => exact ⟨[], l, rfl, ⟨rfl⟩, Nat.le_refl _, ⟨rfl⟩, HB⟩
        case round =>
          clear HB K2
          obtain ⟨pre, rest, rfl, HE, hgg, HF, HB⟩ := hrel
          cases rest with
          | nil =>
            have hlt : ¬ ((pre.length : Int) < (l.length : Int)) := by have := HE.out; rw [List.append_nil] at this; rw [this]; omega
            clear hgg
            go_wp2
            go_ret2
            rw [HF.out, findL_nil]
            exact ⟨_, rfl, Kd.R_nil _ _ _ _ _, HB.out⟩
          | cons k rest =>
            have hk : k ∈ l := by rw [← HE.out]; simp
            have hlt : (pre.length : Int) < (l.length : Int) := by rw [← HE.out, List.length_append, List.length_cons]; omega
            have hw : wrap64 ((pre.length : Int) + 1) = ((pre ++ [k]).length : Int) := by rw [List.length_append, List.length_singleton]; unfold wrap64; have := HL.out; omega
            have hrd : rd_T26 l (pre.length : Int) = k := by rw [← HE.out]; simp [rd_T26, List.getD_eq_getElem?_getD]
            obtain ⟨ad, ua, uc, rfl, h0, h1, h2, h3, h4, h5, h6, hlu, hgu⟩ := at_T26 HR.out (pre.length : Int) (Int.natCast_nonneg _) hlt
            rw [hrd] at h0 h1 h2 h3 h4 h5 h6 hlu hgu
            simp only [Int.toNat_natCast] at h0 h1 h2 h3 h4 h5 h6
            replace h0 := (HB.out.cell (World.block_lt_of_cell? w _ h0)).trans h0
            replace h1 := (HB.out.cell (World.block_lt_of_cell? w _ h1)).trans h1
            replace h2 := (HB.out.cell (World.block_lt_of_cell? w _ h2)).trans h2
            replace h3 := (HB.out.cell (World.block_lt_of_cell? w _ h3)).trans h3
            replace h4 := (HB.out.cell (World.block_lt_of_cell? w _ h4)).trans h4
            replace h5 := (HB.out.cell (World.block_lt_of_cell? w _ h5)).trans h5
            replace h6 := (HB.out.cell (World.block_lt_of_cell? w _ h6)).trans h6
            have HU := Aside0.mk hgu
            have LU := Aside0.mk hlu
            have HW := Aside0.mk hw
            have HK := Aside0.mk hk
            have HG := Aside0.mk hgg
            clear hgu hlu hw hk hgg hrd
            go_wp2_with (first
              | ((with_reducible refine gate_dst (N := 7) rfl ?_); refine box_event ?hg (N := 7) ?hd (cs := #[.int .u8 0, .int .i64 0, .int .i64 0, .int .i64 0, .int .i64 0, .int .i64 0, .slice none 0 0]) (t := 26) ?hr ?_; (case hd => rfl); (case hg => rfl); (case hr => first | (go_simp; done) | (go_simp; rfl)); intro b7 hg w7 hbox hb; have K7 := Aside0.mk hbox; have G7 := Aside0.mk (show w.heap.size ≤ b7 by rw [hg]; exact HB.out.size); have q_ := Aside0.mk (below_step HB.out hb); clear HB; have HB := q_; clear q_; clear hb hbox hg)
              | ((with_reducible refine gate_ (.store 26 (.tmp 7) (.tmp 26)) rfl ?_); go_loud (refine box_store (w0 := w) rfl rfl 26 (.tmp 7) (.tmp 26) rfl (g := b7) (j := 0) (base := w.heap.size) #[.int .u8 k.f0, .int .i64 k.f1.f0, .int .i64 k.f1.f1, .int .i64 k.f1.f2, .int .i64 k.f1.f3, .int .i64 k.f2, .slice ua k.f3.length uc] (u := .agg #[.int .u8 k.f0, .int .i64 k.f1.f0, .int .i64 k.f1.f1, .int .i64 k.f1.f2, .int .i64 k.f1.f3, .int .i64 k.f2, .slice ua k.f3.length uc]) (seg := [.int .u8 k.f0, .int .i64 k.f1.f0, .int .i64 k.f1.f1, .int .i64 k.f1.f2, .int .i64 k.f1.f3, .int .i64 k.f2, .slice ua k.f3.length uc]) ?sA ?sX rfl ?sT ?s1 K7.out ?sJ rfl HB.out HB.out.size G7.out ?_; (case sA => rfl); (case sX => rfl); (case sT => rfl); (case s1 => (simp [Value.oneCell'])); (case sJ => (first | decide | simp)); intro ws hbk hbb hgg; clear K7 HB; have K7 := Aside0.mk hbk; have HB := Aside0.mk hbb; clear hbk hbb hgg h0 h1 h2 h3 h4 h5 h6; have d0 := (blk_cell K7.out 0).trans rfl; have d1 := (blk_cell K7.out 1).trans rfl; have d2 := (blk_cell K7.out 2).trans rfl; have d3 := (blk_cell K7.out 3).trans rfl; have d4 := (blk_cell K7.out 4).trans rfl; have d5 := (blk_cell K7.out 5).trans rfl; have d6 := (blk_cell K7.out 6).trans rfl))
              | fail)
            clear d0 d1 d2 d3 d4 d5 d6 K7
            refine (IH.out k HK.out ua uc _ (Kd.C_below HU.out HB.out) LU.out).mono ?_
            rintro e wk ⟨v, rfl, ho, hb⟩
            have HO := Aside0.mk (Kd.R_lower ho HB.out.size)
            have q_ := Aside0.mk (below_step HB.out hb); clear HB; have HB := q_; clear q_
            clear ho hb
            cases hf : findC id k with
            | none =>
              rw [hf] at HO
              have HF2 := Aside0.mk hf
              simp only [hf, Option.isSome_none]
              clear hf
              go_wp2
              go_roundg rest.length
              case measure => exact Nat.lt_of_lt_of_le (Nat.lt_succ_self _) HG.out
              case rel => exact ⟨pre ++ [k], rest, (by rw [HW.out]), ⟨by rw [List.append_assoc]; exact HE.out⟩, Nat.le_refl _, ⟨by rw [HF.out, findL_cons, HF2.out, List.length_append]; rfl⟩, HB⟩
            | some p =>
              rw [hf] at HO
              have HF2 := Aside0.mk hf
              have HP := Aside0.mk (HLP.out k HK.out p hf)
              simp only [hf, Option.isSome_some]
              clear hf
              obtain ⟨Ap, cp, ep⟩ := Kd.R_slice HO.out
              subst ep
              go_wp2_with (first
                | ((with_reducible refine gate_dst (N := 36) rfl ?_); refine row_event ?hg (N := 36) ?hd (cs := #[.int .i64 (pre.length : Int)]) (t := 3) (n := 1) (c := 1) ?hr ?_; (case hd => rfl); (case hg => rfl); (case hr => first | (go_simp; done) | (go_simp; rfl)); intro b9 hg w9 hbox hb; have K9 := Aside0.mk hbox; have NE := Aside0.mk (fun e_ => Nat.lt_irrefl _ (hg ▸ Kd.R_lt HO.out b9 e_) : ¬ (Value.slice Ap ((some p).getD []).length cp).ownBlock = some b9); have q1_ := Aside0.mk (Kd.R_below HO.out hb); clear HO; have HO := q1_; clear q1_; have q_ := Aside0.mk (below_step HB.out hb); clear HB; have HB := q_; clear q_; clear hb hbox hg)
                | fail)
              refine (ins150 _ w.heap.size HB.out.size _ p (pre.length : Int) b9 1 (Kd.own_of_R HO.out) K9.out NE.out HP.out).mono ?_
              rintro e wi ⟨v', rfl, ho, hb⟩
              have HO2 := Aside0.mk ho
              have HB2 := Aside0.mk (HB.out.trans hb)
              clear ho hb
              go_wp2
              go_ret2
              rw [HF.out, findL_cons, HF2.out]
              exact ⟨_, rfl, Kd.R_of_own HO2.out (fun _ _ => trivial), HB2.out⟩
    · have h1b : (ck == 1) = false := beq_eq_false_iff_ne.mpr h1
      rw [if_neg (fun h => h1 h.1)]
      clear h1
      go_enter Try.func89, Try.ntmps89
      go_wp2_with (first | ((with_reducible refine gate_dst (N := 2) rfl ?_); refine box_event ?hg (N := 2) ?hd (cs := #[.int .u8 ck, .int .i64 cx, .int .i64 cy, .int .i64 cw, .int .i64 ch, .int .i64 cid, .slice A l.length cc]) (t := 26) ?hr ?_; (case hd => rfl); (case hg => rfl); (case hr => first | (go_simp; done) | (go_simp; rfl)); intro b2 hg w2 hbox hb; have K2 := Aside0.mk hbox; have q_ := Aside0.mk (below_step HB.out hb); clear HB; have HB := q_; clear q_; clear hb hbox hg; have c0 := (blk_cell K2.out 0).trans rfl; have c1 := (blk_cell K2.out 1).trans rfl; have c2 := (blk_cell K2.out 2).trans rfl; have c3 := (blk_cell K2.out 3).trans rfl; have c4 := (blk_cell K2.out 4).trans rfl; have c5 := (blk_cell K2.out 5).trans rfl; have c6 := (blk_cell K2.out 6).trans rfl) | fail)
      clear c0 c1 c2 c3 c4 c5 c6
      go_loopg [22] l.length (fun gg v22 wr => ∃ (pre rest : List S26), v22 = .int .i64 (pre.length : Int) ∧ Aside0 (pre ++ rest = l) ∧ rest.length ≤ gg ∧ Aside0 (findL id 0 l = findL id pre.length rest) ∧ Aside0 (Below w.heap.size w wr))
      case atStart => exact ⟨[], l, rfl, ⟨rfl⟩, Nat.le_refl _, ⟨rfl⟩, HB⟩
      case round =>
        clear HB K2
        obtain ⟨pre, rest, rfl, HE, hgg, HF, HB⟩ := hrel
        cases rest with
        | nil =>
          have hlt : ¬ ((pre.length : Int) < (l.length : Int)) := by have := HE.out; rw [List.append_nil] at this; rw [this]; omega
          clear hgg
          go_wp2
          go_ret2
          rw [HF.out, findL_nil]
          exact ⟨_, rfl, Kd.R_nil _ _ _ _ _, HB.out⟩
        | cons k rest =>
          have hk : k ∈ l := by rw [← HE.out]; simp
          have hlt : (pre.length : Int) < (l.length : Int) := by rw [← HE.out, List.length_append, List.length_cons]; omega
          have hw : wrap64 ((pre.length : Int) + 1) = ((pre ++ [k]).length : Int) := by rw [List.length_append, List.length_singleton]; unfold wrap64; have := HL.out; omega
          have hrd : rd_T26 l (pre.length : Int) = k := by rw [← HE.out]; simp [rd_T26, List.getD_eq_getElem?_getD]
          obtain ⟨ad, ua, uc, rfl, h0, h1, h2, h3, h4, h5, h6, hlu, hgu⟩ := at_T26 HR.out (pre.length : Int) (Int.natCast_nonneg _) hlt
          rw [hrd] at h0 h1 h2 h3 h4 h5 h6 hlu hgu
          simp only [Int.toNat_natCast] at h0 h1 h2 h3 h4 h5 h6
          replace h0 := (HB.out.cell (World.block_lt_of_cell? w _ h0)).trans h0
          replace h1 := (HB.out.cell (World.block_lt_of_cell? w _ h1)).trans h1
          replace h2 := (HB.out.cell (World.block_lt_of_cell? w _ h2)).trans h2
          replace h3 := (HB.out.cell (World.block_lt_of_cell? w _ h3)).trans h3
          replace h4 := (HB.out.cell (World.block_lt_of_cell? w _ h4)).trans h4
          replace h5 := (HB.out.cell (World.block_lt_of_cell? w _ h5)).trans h5
          replace h6 := (HB.out.cell (World.block_lt_of_cell? w _ h6)).trans h6
          have HU := Aside0.mk hgu
          have LU := Aside0.mk hlu
          have HW := Aside0.mk hw
          have HK := Aside0.mk hk
          have HG := Aside0.mk hgg
          clear hgu hlu hw hk hgg hrd
          go_wp2_with (first
            | ((with_reducible refine gate_dst (N := 7) rfl ?_); refine box_event ?hg (N := 7) ?hd (cs := #[.int .u8 0, .int .i64 0, .int .i64 0, .int .i64 0, .int .i64 0, .int .i64 0, .slice none 0 0]) (t := 26) ?hr ?_; (case hd => rfl); (case hg => rfl); (case hr => first | (go_simp; done) | (go_simp; rfl)); intro b7 hg w7 hbox hb; have K7 := Aside0.mk hbox; have G7 := Aside0.mk (show w.heap.size ≤ b7 by rw [hg]; exact HB.out.size); have q_ := Aside0.mk (below_step HB.out hb); clear HB; have HB := q_; clear q_; clear hb hbox hg)
            | ((with_reducible refine gate_ (.store 26 (.tmp 7) (.tmp 26)) rfl ?_); go_loud (refine box_store (w0 := w) rfl rfl 26 (.tmp 7) (.tmp 26) rfl (g := b7) (j := 0) (base := w.heap.size) #[.int .u8 k.f0, .int .i64 k.f1.f0, .int .i64 k.f1.f1, .int .i64 k.f1.f2, .int .i64 k.f1.f3, .int .i64 k.f2, .slice ua k.f3.length uc] (u := .agg #[.int .u8 k.f0, .int .i64 k.f1.f0, .int .i64 k.f1.f1, .int .i64 k.f1.f2, .int .i64 k.f1.f3, .int .i64 k.f2, .slice ua k.f3.length uc]) (seg := [.int .u8 k.f0, .int .i64 k.f1.f0, .int .i64 k.f1.f1, .int .i64 k.f1.f2, .int .i64 k.f1.f3, .int .i64 k.f2, .slice ua k.f3.length uc]) ?sA ?sX rfl ?sT ?s1 K7.out ?sJ rfl HB.out HB.out.size G7.out ?_; (case sA => rfl); (case sX => rfl); (case sT => rfl); (case s1 => (simp [Value.oneCell'])); (case sJ => (first | decide | simp)); intro ws hbk hbb hgg; clear K7 HB; have K7 := Aside0.mk hbk; have HB := Aside0.mk hbb; clear hbk hbb hgg h0 h1 h2 h3 h4 h5 h6; have d0 := (blk_cell K7.out 0).trans rfl; have d1 := (blk_cell K7.out 1).trans rfl; have d2 := (blk_cell K7.out 2).trans rfl; have d3 := (blk_cell K7.out 3).trans rfl; have d4 := (blk_cell K7.out 4).trans rfl; have d5 := (blk_cell K7.out 5).trans rfl; have d6 := (blk_cell K7.out 6).trans rfl))
            | fail)
          clear d0 d1 d2 d3 d4 d5 d6 K7
          refine (IH.out k HK.out ua uc _ (Kd.C_below HU.out HB.out) LU.out).mono ?_
          rintro e wk ⟨v, rfl, ho, hb⟩
          have HO := Aside0.mk (Kd.R_lower ho HB.out.size)
          have q_ := Aside0.mk (below_step HB.out hb); clear HB; have HB := q_; clear q_
          clear ho hb
          cases hf : findC id k with
          | none =>
            rw [hf] at HO
            have HF2 := Aside0.mk hf
            simp only [hf, Option.isSome_none]
            clear hf
            go_wp2
            go_roundg rest.length
            case measure => exact Nat.lt_of_lt_of_le (Nat.lt_succ_self _) HG.out
            case rel => exact ⟨pre ++ [k], rest, (by rw [HW.out]), ⟨by rw [List.append_assoc]; exact HE.out⟩, Nat.le_refl _, ⟨by rw [HF.out, findL_cons, HF2.out, List.length_append]; rfl⟩, HB⟩
          | some p =>
            rw [hf] at HO
            have HF2 := Aside0.mk hf
            have HP := Aside0.mk (HLP.out k HK.out p hf)
            simp only [hf, Option.isSome_some]
            clear hf
            obtain ⟨Ap, cp, ep⟩ := Kd.R_slice HO.out
            subst ep
            go_wp2_with (first
              | ((with_reducible refine gate_dst (N := 36) rfl ?_); refine row_event ?hg (N := 36) ?hd (cs := #[.int .i64 (pre.length : Int)]) (t := 3) (n := 1) (c := 1) ?hr ?_; (case hd => rfl); (case hg => rfl); (case hr => first | (go_simp; done) | (go_simp; rfl)); intro b9 hg w9 hbox hb; have K9 := Aside0.mk hbox; have NE := Aside0.mk (fun e_ => Nat.lt_irrefl _ (hg ▸ Kd.R_lt HO.out b9 e_) : ¬ (Value.slice Ap ((some p).getD []).length cp).ownBlock = some b9); have q1_ := Aside0.mk (Kd.R_below HO.out hb); clear HO; have HO := q1_; clear q1_; have q_ := Aside0.mk (below_step HB.out hb); clear HB; have HB := q_; clear q_; clear hb hbox hg)
              | fail)
            refine (ins150 _ w.heap.size HB.out.size _ p (pre.length : Int) b9 1 (Kd.own_of_R HO.out) K9.out NE.out HP.out).mono ?_
            rintro e wi ⟨v', rfl, ho, hb⟩
            have HO2 := Aside0.mk ho
            have HB2 := Aside0.mk (HB.out.trans hb)
            clear ho hb
            go_wp2
            go_ret2
            rw [HF.out, findL_cons, HF2.out]
            exact ⟨_, rfl, Kd.R_of_own HO2.out (fun _ _ => trivial), HB2.out⟩
def cell_Find.f (a0 a1 a2 a3 a4 a5 : Int) (l : List S26) (id : Int) : Option (List Int × Bool) := if sz ⟨a0, ⟨a1, a2, a3, a4⟩, a5, l⟩ ≤ 1000000 then some ((findC id ⟨a0, ⟨a1, a2, a3, a4⟩, a5, l⟩).getD [], (findC id ⟨a0, ⟨a1, a2, a3, a4⟩, a5, l⟩).isSome) else none
theorem cell_Find.calls (a0_0 a0_1 a0_2 a0_3 a0_4 a0_5 : Int) (A0_6 : Option Addr) (c0_6 : Nat) (l0_6 : List S26) (a1 : Int) (r1 : List Int) (r2 : Bool) (w : World) (hr0_6 : Kd.C k26 w A0_6 l0_6.length l0_6) (hc0_6 : l0_6.length ≤ c0_6) (h : cell_Find.f a0_0 a0_1 a0_2 a0_3 a0_4 a0_5 l0_6 a1 = some (r1, r2)) :
    Calls Try.prog 89 #[.agg #[.int .u8 a0_0, .int .i64 a0_1, .int .i64 a0_2, .int .i64 a0_3, .int .i64 a0_4, .int .i64 a0_5, .slice A0_6 l0_6.length c0_6], .int .i64 a1] w fun e w' => ∃ v0_ : Value, e = .returned (.tuple #[v0_, .bool r2]) ∧ Kd.R (Kd.int .i64) 3 w' w.heap.size (fun _ => True) v0_ r1 ∧ Below w.heap.size w w' := by
  unfold cell_Find.f at h
  split at h
  · rename_i hz
    simp only [Option.some.injEq, Prod.mk.injEq] at h
    obtain ⟨rfl, rfl⟩ := h
    exact find89 a1 1000000 ⟨a0_0, ⟨a0_1, a0_2, a0_3, a0_4⟩, a0_5, l0_6⟩ hz (Nat.le_refl _) A0_6 c0_6 w hr0_6 hc0_6
  · exact absurd h (by simp)
end Go.Proofs.Ytfdmfgaiblfbhaa.P
/- A row gone through till a test says yes: plain words. -/
namespace Go.Proofs.Ytfdmfgaiblfbhaa.P
open Go.RowKit Go.Proofs.YtfdmfgaiblfbhaaW.PrintWords Go.Proofs.YtfdmfgaiblfbhaaW.PrintLast Go.Proofs.YtfdmfgaiblfbhaaW.PrintMore
/-- A call of a function that has a body enters it. -/
theorem enters_fn {P : Program} {f : FuncId} {fn : Func} (hf : P.funcs[f]? = some fn) (hname : (fn.name == "runtime.NumGoroutine") = false) (hb : fn.body.isSome = true) : ∀ args w, (callFunc f args).run P w = .ok (.enter f args) w := by
  intro args w
  obtain ⟨c, hc⟩ := Option.isSome_iff_exists.1 hb
  have h1 : fn.name ≠ "runtime.NumGoroutine" := by simpa using hname
  simp [callFunc, hf, h1, hc, mark]
section
variable {σ α : Type}
/-- Where the test first says yes (-1), and the state behind. -/
def scanI (step : σ → α → Bool × σ) : Int → σ → List α → Int × σ
  | _, s, [] => (-1, s)
  | i, s, x :: xs => if (step s x).1 = true then (i, (step s x).2) else scanI step (i + 1) (step s x).2 xs
/-- Whether it ever does. -/
def scanB (step : σ → α → Bool × σ) : σ → List α → Bool × σ
  | s, [] => (false, s)
  | s, x :: xs => if (step s x).1 = true then (true, (step s x).2) else scanB step (step s x).2 xs
theorem scanI_B (step : σ → α → Bool × σ) : ∀ (l : List α) (i : Int) (s : σ), 0 ≤ i → (scanB step s l).1 = decide (0 ≤ (scanI step i s l).1) ∧ (scanB step s l).2 = (scanI step i s l).2 := by
  intro l
  induction l with
  | nil => intro i s h; exact ⟨by simp [scanB, scanI], rfl⟩
  | cons x xs ih =>
    intro i s h
    simp only [scanB, scanI]
    split
    · exact ⟨by simp [h], rfl⟩
    · exact ih (i + 1) _ (by omega)
theorem scanB_eq (step : σ → α → Bool × σ) (s : σ) (l : List α) : scanB step s l = (decide (0 ≤ (scanI step 0 s l).1), (scanI step 0 s l).2) := by
  have h := scanI_B step l 0 s (by omega)
  exact Prod.ext h.1 h.2
theorem scan_at (step : σ → α → Bool × σ) (z : α) (l : List α) (k : Nat) (h : k < l.length) (t : σ) :
    scanI step k t (l.drop k) = if (step t (l.getD (k : Int).toNat z)).1 = true then ((k : Int), (step t (l.getD (k : Int).toNat z)).2) else scanI step ((k + 1 : Nat) : Int) (step t (l.getD (k : Int).toNat z)).2 (l.drop (k + 1)) := by
  rw [List.drop_eq_getElem_cons h]
  simp only [scanI, Int.toNat_natCast, List.getD_eq_getElem?_getD, List.getElem?_eq_getElem h, Option.getD_some]
  rfl
theorem scan_mem (z : α) (l : List α) (k : Nat) (h : k < l.length) : l.getD (k : Int).toNat z ∈ l := by
  simp only [Int.toNat_natCast, List.getD_eq_getElem?_getD, List.getElem?_eq_getElem h, Option.getD_some]
  exact List.getElem_mem h
/-- A test without a state. -/
theorem scanB_any (p : α → Bool) : ∀ (l : List α) (s : Unit), scanB (fun _ x => (p x, ())) s l = (l.any p, ()) := by
  intro l
  induction l with
  | nil => intro s; rfl
  | cons x xs ih =>
    intro s
    simp only [scanB, List.any_cons]
    cases h : p x with
    | true => simp
    | false => simp [ih]
end
end Go.Proofs.Ytfdmfgaiblfbhaa.P
/- A tree's cells gone through, as long as a test says yes: plain words. -/
namespace Go.Proofs.Ytfdmfgaiblfbhaa.P
open Go.RowKit Go.Proofs.YtfdmfgaiblfbhaaW.PrintWords Go.Proofs.YtfdmfgaiblfbhaaW.PrintLast Go.Proofs.YtfdmfgaiblfbhaaW.PrintMore
section
variable {σ : Type} (step : σ → S26 → Bool × σ)
mutual
def allS : S26 → σ → Bool × σ
  | ⟨a, b, d, l⟩, s => if (step s ⟨a, b, d, l⟩).1 = true then noneS l (step s ⟨a, b, d, l⟩).2 else (false, (step s ⟨a, b, d, l⟩).2)
def noneS : List S26 → σ → Bool × σ
  | [], s => (true, s)
  | k :: ks, s => if (allS k s).1 = true then noneS ks (allS k s).2 else (false, (allS k s).2)
end
theorem allS_eq (c : S26) (s : σ) : allS step c s = if (step s c).1 = true then noneS step c.f3 (step s c).2 else (false, (step s c).2) := by cases c; simp [allS]
theorem noneS_nil (s : σ) : noneS step [] s = (true, s) := by simp [noneS]
theorem noneS_cons (k : S26) (ks : List S26) (s : σ) : noneS step (k :: ks) s = if (allS step k s).1 = true then noneS step ks (allS step k s).2 else (false, (allS step k s).2) := by simp [noneS]
theorem scan_none : ∀ (l : List S26) (s : σ), scanB (fun s k => (!(allS step k s).1, (allS step k s).2)) s l = (!(noneS step l s).1, (noneS step l s).2) := by
  intro l
  induction l with
  | nil => intro s; rw [noneS_nil]; rfl
  | cons k ks ih =>
    intro s
    rw [noneS_cons]
    simp only [scanB]
    cases h : (allS step k s).1 with
    | true => simp [ih]
    | false => simp
/-- One cell after the other. -/
def seqS : List S26 → σ → Bool × σ
  | [], s => (true, s)
  | k :: ks, s => if (step s k).1 = true then seqS ks (step s k).2 else (false, (step s k).2)
theorem seqS_app : ∀ (a b : List S26) (s : σ), seqS step (a ++ b) s = if (seqS step a s).1 = true then seqS step b (seqS step a s).2 else (false, (seqS step a s).2) := by
  intro a
  induction a with
  | nil => intro b s; simp [seqS]
  | cons k ks ih =>
    intro b s
    simp only [List.cons_append, seqS]
    by_cases h : (step s k).1 = true
    · simp [h, ih]
    · simp [h]
theorem allS_seq : ∀ (N : Nat), (∀ c : S26, sz c ≤ N → ∀ s, allS step c s = seqS step (allC c) s) ∧ (∀ l : List S26, szL l ≤ N → ∀ s, noneS step l s = seqS step (allL l) s) := by
  intro N
  induction N with
  | zero =>
    refine ⟨fun c h => ?_, fun l h => ?_⟩
    · rw [sz_eq] at h; omega
    · cases l with
      | nil => intro s; rw [noneS_nil, allL_nil]; rfl
      | cons x xs => rw [szL_cons, sz_eq] at h; omega
  | succ N ih =>
    have hC : ∀ c : S26, sz c ≤ N + 1 → ∀ s, allS step c s = seqS step (allC c) s := by
      intro c h s
      rw [sz_eq] at h
      rw [allS_eq, allC_eq]
      simp only [seqS]
      rw [ih.2 c.f3 (by omega)]
    refine ⟨hC, fun l => ?_⟩
    induction l with
    | nil => intro _ s; rw [noneS_nil, allL_nil]; rfl
    | cons x xs ihl =>
      intro h s
      rw [szL_cons] at h
      rw [noneS_cons, allL_cons, seqS_app, hC x (by omega), ihl (by omega)]
end
end Go.Proofs.Ytfdmfgaiblfbhaa.P
namespace Go.Proofs.Ytfdmfgaiblfbhaa.P
open Go.RowKit Go.Proofs.YtfdmfgaiblfbhaaW.PrintWords Go.Proofs.YtfdmfgaiblfbhaaW.PrintLast Go.Proofs.YtfdmfgaiblfbhaaW.PrintMore
attribute [local go_sem] max2_int min2_int max_two min_two max_three min_three max_four min_four   -- for this text's walks alone
set_option linter.unusedVariables false
set_option linter.unusedSimpArgs false

/-! ### rect_may: function 128 -/
def rect_may.f (a0_0 : Int) (a0_1 : Int) (a0_2 : Int) (a0_3 : Int) : Option (Bool) := if a0_0 ≥ 0 then (if a0_2 ≥ 1 then (if a0_2 ≤ 10000 then (if a0_0 ≤ (wrap64 (10000 - a0_2)) then (if a0_1 ≥ 0 then (if a0_3 ≥ 1 then (if a0_3 ≤ 10000 then (some (decide (a0_1 ≤ (wrap64 (10000 - a0_3))))) else (some false)) else (some false)) else (some false)) else (some false)) else (some false)) else (some false)) else (some false)
set_option maxHeartbeats 8000000 in
set_option maxRecDepth 100000 in
theorem rect_may.calls (a0_0 : Int) (a0_1 : Int) (a0_2 : Int) (a0_3 : Int) (r : Bool) (w : World) (h : rect_may.f a0_0 a0_1 a0_2 a0_3 = some r) :
    Calls Try.prog 128 #[.agg #[.int .i64 a0_0, .int .i64 a0_1, .int .i64 a0_2, .int .i64 a0_3]] w fun e w' => e = .returned (.bool r) ∧ Below w.heap.size w w' := by
  have hu23 := Try.underlying23
  have HB := Aside0.mk (Below.refl w.heap.size w)
  have H : (if a0_0 ≥ 0 then (if a0_2 ≥ 1 then (if a0_2 ≤ 10000 then (if a0_0 ≤ (wrap64 (10000 - a0_2)) then (if a0_1 ≥ 0 then (if a0_3 ≥ 1 then (if a0_3 ≤ 10000 then (some (decide (a0_1 ≤ (wrap64 (10000 - a0_3))))) else (some false)) else (some false)) else (some false)) else (some false)) else (some false)) else (some false)) else (some false)) = some r := h
  clear h
  by_cases c2 : a0_0 ≥ 0
  · rw [if_pos c2] at H
    have c2b0 : decide (0 ≤ a0_0) = true := decide_eq_true c2
    clear c2
    by_cases c3 : a0_2 ≥ 1
    · rw [if_pos c3] at H
      have c3b0 : decide (1 ≤ a0_2) = true := decide_eq_true c3
      clear c3
      by_cases c4 : a0_2 ≤ 10000
      · rw [if_pos c4] at H
        have c4b0 : decide (a0_2 ≤ 10000) = true := decide_eq_true c4
        clear c4
        by_cases c5 : a0_0 ≤ (wrap64 (10000 - a0_2))
        · rw [if_pos c5] at H
          have c5b0 : decide (a0_0 ≤ (wrap64 (10000 - a0_2))) = true := decide_eq_true c5
          clear c5
          by_cases c6 : a0_1 ≥ 0
          · rw [if_pos c6] at H
            have c6b0 : decide (0 ≤ a0_1) = true := decide_eq_true c6
            clear c6
            by_cases c7 : a0_3 ≥ 1
            · rw [if_pos c7] at H
              have c7b0 : decide (1 ≤ a0_3) = true := decide_eq_true c7
              clear c7
              by_cases c8 : a0_3 ≤ 10000
              · rw [if_pos c8] at H
                have c8b0 : decide (a0_3 ≤ 10000) = true := decide_eq_true c8
                clear c8
                obtain rfl := Option.some.inj H
                go_enter Try.func128, Try.ntmps128
                go_wp2_with (first | ((with_reducible refine gate_dst (N := 1) rfl ?_); refine box_event ?hg (N := 1) ?hd (cs := #[.int .i64 a0_0, .int .i64 a0_1, .int .i64 a0_2, .int .i64 a0_3]) (t := 23) ?hr ?_; (case hd => rfl); (case hg => rfl); (case hr => first | (go_simp; done) | (go_simp; rfl)); intro gb245 hg w9 hbox hb; have n0_ := Aside0.mk (below_step (by repeat (first | (with_reducible first | exact HB.out | apply below_alloc | apply pw_below_drewN | apply below_drew1) | exact HB.out)) hb); have n1_ := Aside0.mk (hbox); have n2_ := Aside0.mk ((by rw [hg]; exact (below_size (by repeat (first | (with_reducible first | exact HB.out | apply below_alloc | apply pw_below_drewN | apply below_drew1) | exact HB.out))) : w.heap.size ≤ gb245)); have n3_ := Aside0.mk ((by rw [hg]; exact (below_size (by repeat (first | (with_reducible first | exact HB.out | apply below_alloc | apply pw_below_drewN | apply below_drew1) | exact HB.out))) : w.heap.size ≤ gb245)); clear HB; have HB := n0_; have BK245 := n1_; have GW245 := n2_; have GE245 := n3_; clear n0_ n1_ n2_ n3_; clear hb hbox hg; have hcz10_0 : w9.cell? ⟨gb245, 0, none⟩ = some (.int .i64 a0_0) := (blk_cell BK245.out 0).trans rfl; have hcz10_1 : w9.cell? ⟨gb245, 1, none⟩ = some (.int .i64 a0_1) := (blk_cell BK245.out 1).trans rfl; have hcz10_2 : w9.cell? ⟨gb245, 2, none⟩ = some (.int .i64 a0_2) := (blk_cell BK245.out 2).trans rfl; have hcz10_3 : w9.cell? ⟨gb245, 3, none⟩ = some (.int .i64 a0_3) := (blk_cell BK245.out 3).trans rfl; have hfz10_0 := blk_frozen BK245.out 0; have hfz10_1 := blk_frozen BK245.out 1; have hfz10_2 := blk_frozen BK245.out 2; have hfz10_3 := blk_frozen BK245.out 3))
                go_ret
                exact ⟨by first | rfl | (simp [errW_none, errW_some] <;> rfl) | (simp [*, errW_none, errW_some] <;> rfl), by repeat (first | (with_reducible first | exact HB.out | apply below_alloc | apply pw_below_drewN | apply below_drew1 | refine below_set ?_ GE245.out) | exact HB.out)⟩
              · rw [if_neg c8] at H
                have c8b0 : decide (a0_3 ≤ 10000) = false := decide_eq_false c8
                clear c8
                obtain rfl := Option.some.inj H
                go_enter Try.func128, Try.ntmps128
                go_wp2_with (first | ((with_reducible refine gate_dst (N := 1) rfl ?_); refine box_event ?hg (N := 1) ?hd (cs := #[.int .i64 a0_0, .int .i64 a0_1, .int .i64 a0_2, .int .i64 a0_3]) (t := 23) ?hr ?_; (case hd => rfl); (case hg => rfl); (case hr => first | (go_simp; done) | (go_simp; rfl)); intro gb245 hg w11 hbox hb; have n0_ := Aside0.mk (below_step (by repeat (first | (with_reducible first | exact HB.out | apply below_alloc | apply pw_below_drewN | apply below_drew1) | exact HB.out)) hb); have n1_ := Aside0.mk (hbox); have n2_ := Aside0.mk ((by rw [hg]; exact (below_size (by repeat (first | (with_reducible first | exact HB.out | apply below_alloc | apply pw_below_drewN | apply below_drew1) | exact HB.out))) : w.heap.size ≤ gb245)); have n3_ := Aside0.mk ((by rw [hg]; exact (below_size (by repeat (first | (with_reducible first | exact HB.out | apply below_alloc | apply pw_below_drewN | apply below_drew1) | exact HB.out))) : w.heap.size ≤ gb245)); clear HB; have HB := n0_; have BK245 := n1_; have GW245 := n2_; have GE245 := n3_; clear n0_ n1_ n2_ n3_; clear hb hbox hg; have hcz12_0 : w11.cell? ⟨gb245, 0, none⟩ = some (.int .i64 a0_0) := (blk_cell BK245.out 0).trans rfl; have hcz12_1 : w11.cell? ⟨gb245, 1, none⟩ = some (.int .i64 a0_1) := (blk_cell BK245.out 1).trans rfl; have hcz12_2 : w11.cell? ⟨gb245, 2, none⟩ = some (.int .i64 a0_2) := (blk_cell BK245.out 2).trans rfl; have hcz12_3 : w11.cell? ⟨gb245, 3, none⟩ = some (.int .i64 a0_3) := (blk_cell BK245.out 3).trans rfl; have hfz12_0 := blk_frozen BK245.out 0; have hfz12_1 := blk_frozen BK245.out 1; have hfz12_2 := blk_frozen BK245.out 2; have hfz12_3 := blk_frozen BK245.out 3))
                go_ret
                exact ⟨by first | rfl | (simp [errW_none, errW_some] <;> rfl) | (simp [*, errW_none, errW_some] <;> rfl), by repeat (first | (with_reducible first | exact HB.out | apply below_alloc | apply pw_below_drewN | apply below_drew1 | refine below_set ?_ GE245.out) | exact HB.out)⟩
            · rw [if_neg c7] at H
              have c7b0 : decide (1 ≤ a0_3) = false := decide_eq_false c7
              clear c7
              obtain rfl := Option.some.inj H
              go_enter Try.func128, Try.ntmps128
              go_wp2_with (first | ((with_reducible refine gate_dst (N := 1) rfl ?_); refine box_event ?hg (N := 1) ?hd (cs := #[.int .i64 a0_0, .int .i64 a0_1, .int .i64 a0_2, .int .i64 a0_3]) (t := 23) ?hr ?_; (case hd => rfl); (case hg => rfl); (case hr => first | (go_simp; done) | (go_simp; rfl)); intro gb245 hg w13 hbox hb; have n0_ := Aside0.mk (below_step (by repeat (first | (with_reducible first | exact HB.out | apply below_alloc | apply pw_below_drewN | apply below_drew1) | exact HB.out)) hb); have n1_ := Aside0.mk (hbox); have n2_ := Aside0.mk ((by rw [hg]; exact (below_size (by repeat (first | (with_reducible first | exact HB.out | apply below_alloc | apply pw_below_drewN | apply below_drew1) | exact HB.out))) : w.heap.size ≤ gb245)); have n3_ := Aside0.mk ((by rw [hg]; exact (below_size (by repeat (first | (with_reducible first | exact HB.out | apply below_alloc | apply pw_below_drewN | apply below_drew1) | exact HB.out))) : w.heap.size ≤ gb245)); clear HB; have HB := n0_; have BK245 := n1_; have GW245 := n2_; have GE245 := n3_; clear n0_ n1_ n2_ n3_; clear hb hbox hg; have hcz14_0 : w13.cell? ⟨gb245, 0, none⟩ = some (.int .i64 a0_0) := (blk_cell BK245.out 0).trans rfl; have hcz14_1 : w13.cell? ⟨gb245, 1, none⟩ = some (.int .i64 a0_1) := (blk_cell BK245.out 1).trans rfl; have hcz14_2 : w13.cell? ⟨gb245, 2, none⟩ = some (.int .i64 a0_2) := (blk_cell BK245.out 2).trans rfl; have hcz14_3 : w13.cell? ⟨gb245, 3, none⟩ = some (.int .i64 a0_3) := (blk_cell BK245.out 3).trans rfl; have hfz14_0 := blk_frozen BK245.out 0; have hfz14_1 := blk_frozen BK245.out 1; have hfz14_2 := blk_frozen BK245.out 2; have hfz14_3 := blk_frozen BK245.out 3))
              go_ret
              exact ⟨by first | rfl | (simp [errW_none, errW_some] <;> rfl) | (simp [*, errW_none, errW_some] <;> rfl), by repeat (first | (with_reducible first | exact HB.out | apply below_alloc | apply pw_below_drewN | apply below_drew1 | refine below_set ?_ GE245.out) | exact HB.out)⟩
          · rw [if_neg c6] at H
            have c6b0 : decide (0 ≤ a0_1) = false := decide_eq_false c6
            clear c6
            obtain rfl := Option.some.inj H
            go_enter Try.func128, Try.ntmps128
            go_wp2_with (first | ((with_reducible refine gate_dst (N := 1) rfl ?_); refine box_event ?hg (N := 1) ?hd (cs := #[.int .i64 a0_0, .int .i64 a0_1, .int .i64 a0_2, .int .i64 a0_3]) (t := 23) ?hr ?_; (case hd => rfl); (case hg => rfl); (case hr => first | (go_simp; done) | (go_simp; rfl)); intro gb245 hg w15 hbox hb; have n0_ := Aside0.mk (below_step (by repeat (first | (with_reducible first | exact HB.out | apply below_alloc | apply pw_below_drewN | apply below_drew1) | exact HB.out)) hb); have n1_ := Aside0.mk (hbox); have n2_ := Aside0.mk ((by rw [hg]; exact (below_size (by repeat (first | (with_reducible first | exact HB.out | apply below_alloc | apply pw_below_drewN | apply below_drew1) | exact HB.out))) : w.heap.size ≤ gb245)); have n3_ := Aside0.mk ((by rw [hg]; exact (below_size (by repeat (first | (with_reducible first | exact HB.out | apply below_alloc | apply pw_below_drewN | apply below_drew1) | exact HB.out))) : w.heap.size ≤ gb245)); clear HB; have HB := n0_; have BK245 := n1_; have GW245 := n2_; have GE245 := n3_; clear n0_ n1_ n2_ n3_; clear hb hbox hg; have hcz16_0 : w15.cell? ⟨gb245, 0, none⟩ = some (.int .i64 a0_0) := (blk_cell BK245.out 0).trans rfl; have hcz16_1 : w15.cell? ⟨gb245, 1, none⟩ = some (.int .i64 a0_1) := (blk_cell BK245.out 1).trans rfl; have hcz16_2 : w15.cell? ⟨gb245, 2, none⟩ = some (.int .i64 a0_2) := (blk_cell BK245.out 2).trans rfl; have hcz16_3 : w15.cell? ⟨gb245, 3, none⟩ = some (.int .i64 a0_3) := (blk_cell BK245.out 3).trans rfl; have hfz16_0 := blk_frozen BK245.out 0; have hfz16_1 := blk_frozen BK245.out 1; have hfz16_2 := blk_frozen BK245.out 2; have hfz16_3 := blk_frozen BK245.out 3))
            go_ret
            exact ⟨by first | rfl | (simp [errW_none, errW_some] <;> rfl) | (simp [*, errW_none, errW_some] <;> rfl), by repeat (first | (with_reducible first | exact HB.out | apply below_alloc | apply pw_below_drewN | apply below_drew1 | refine below_set ?_ GE245.out) | exact HB.out)⟩
        · rw [if_neg c5] at H
          have c5b0 : decide (a0_0 ≤ (wrap64 (10000 - a0_2))) = false := decide_eq_false c5
          clear c5
          obtain rfl := Option.some.inj H
          go_enter Try.func128, Try.ntmps128
          go_wp2_with (first | ((with_reducible refine gate_dst (N := 1) rfl ?_); refine box_event ?hg (N := 1) ?hd (cs := #[.int .i64 a0_0, .int .i64 a0_1, .int .i64 a0_2, .int .i64 a0_3]) (t := 23) ?hr ?_; (case hd => rfl); (case hg => rfl); (case hr => first | (go_simp; done) | (go_simp; rfl)); intro gb245 hg w17 hbox hb; have n0_ := Aside0.mk (below_step (by repeat (first | (with_reducible first | exact HB.out | apply below_alloc | apply pw_below_drewN | apply below_drew1) | exact HB.out)) hb); have n1_ := Aside0.mk (hbox); have n2_ := Aside0.mk ((by rw [hg]; exact (below_size (by repeat (first | (with_reducible first | exact HB.out | apply below_alloc | apply pw_below_drewN | apply below_drew1) | exact HB.out))) : w.heap.size ≤ gb245)); have n3_ := Aside0.mk ((by rw [hg]; exact (below_size (by repeat (first | (with_reducible first | exact HB.out | apply below_alloc | apply pw_below_drewN | apply below_drew1) | exact HB.out))) : w.heap.size ≤ gb245)); clear HB; have HB := n0_; have BK245 := n1_; have GW245 := n2_; have GE245 := n3_; clear n0_ n1_ n2_ n3_; clear hb hbox hg; have hcz18_0 : w17.cell? ⟨gb245, 0, none⟩ = some (.int .i64 a0_0) := (blk_cell BK245.out 0).trans rfl; have hcz18_1 : w17.cell? ⟨gb245, 1, none⟩ = some (.int .i64 a0_1) := (blk_cell BK245.out 1).trans rfl; have hcz18_2 : w17.cell? ⟨gb245, 2, none⟩ = some (.int .i64 a0_2) := (blk_cell BK245.out 2).trans rfl; have hcz18_3 : w17.cell? ⟨gb245, 3, none⟩ = some (.int .i64 a0_3) := (blk_cell BK245.out 3).trans rfl; have hfz18_0 := blk_frozen BK245.out 0; have hfz18_1 := blk_frozen BK245.out 1; have hfz18_2 := blk_frozen BK245.out 2; have hfz18_3 := blk_frozen BK245.out 3))
          go_ret
          exact ⟨by first | rfl | (simp [errW_none, errW_some] <;> rfl) | (simp [*, errW_none, errW_some] <;> rfl), by repeat (first | (with_reducible first | exact HB.out | apply below_alloc | apply pw_below_drewN | apply below_drew1 | refine below_set ?_ GE245.out) | exact HB.out)⟩
      · rw [if_neg c4] at H
        have c4b0 : decide (a0_2 ≤ 10000) = false := decide_eq_false c4
        clear c4
        obtain rfl := Option.some.inj H
        go_enter Try.func128, Try.ntmps128
        go_wp2_with (first | ((with_reducible refine gate_dst (N := 1) rfl ?_); refine box_event ?hg (N := 1) ?hd (cs := #[.int .i64 a0_0, .int .i64 a0_1, .int .i64 a0_2, .int .i64 a0_3]) (t := 23) ?hr ?_; (case hd => rfl); (case hg => rfl); (case hr => first | (go_simp; done) | (go_simp; rfl)); intro gb245 hg w19 hbox hb; have n0_ := Aside0.mk (below_step (by repeat (first | (with_reducible first | exact HB.out | apply below_alloc | apply pw_below_drewN | apply below_drew1) | exact HB.out)) hb); have n1_ := Aside0.mk (hbox); have n2_ := Aside0.mk ((by rw [hg]; exact (below_size (by repeat (first | (with_reducible first | exact HB.out | apply below_alloc | apply pw_below_drewN | apply below_drew1) | exact HB.out))) : w.heap.size ≤ gb245)); have n3_ := Aside0.mk ((by rw [hg]; exact (below_size (by repeat (first | (with_reducible first | exact HB.out | apply below_alloc | apply pw_below_drewN | apply below_drew1) | exact HB.out))) : w.heap.size ≤ gb245)); clear HB; have HB := n0_; have BK245 := n1_; have GW245 := n2_; have GE245 := n3_; clear n0_ n1_ n2_ n3_; clear hb hbox hg; have hcz20_0 : w19.cell? ⟨gb245, 0, none⟩ = some (.int .i64 a0_0) := (blk_cell BK245.out 0).trans rfl; have hcz20_1 : w19.cell? ⟨gb245, 1, none⟩ = some (.int .i64 a0_1) := (blk_cell BK245.out 1).trans rfl; have hcz20_2 : w19.cell? ⟨gb245, 2, none⟩ = some (.int .i64 a0_2) := (blk_cell BK245.out 2).trans rfl; have hcz20_3 : w19.cell? ⟨gb245, 3, none⟩ = some (.int .i64 a0_3) := (blk_cell BK245.out 3).trans rfl; have hfz20_0 := blk_frozen BK245.out 0; have hfz20_1 := blk_frozen BK245.out 1; have hfz20_2 := blk_frozen BK245.out 2; have hfz20_3 := blk_frozen BK245.out 3))
        go_ret
        exact ⟨by first | rfl | (simp [errW_none, errW_some] <;> rfl) | (simp [*, errW_none, errW_some] <;> rfl), by repeat (first | (with_reducible first | exact HB.out | apply below_alloc | apply pw_below_drewN | apply below_drew1 | refine below_set ?_ GE245.out) | exact HB.out)⟩
    · rw [if_neg c3] at H
      have c3b0 : decide (1 ≤ a0_2) = false := decide_eq_false c3
      clear c3
      obtain rfl := Option.some.inj H
      go_enter Try.func128, Try.ntmps128
      go_wp2_with (first | ((with_reducible refine gate_dst (N := 1) rfl ?_); refine box_event ?hg (N := 1) ?hd (cs := #[.int .i64 a0_0, .int .i64 a0_1, .int .i64 a0_2, .int .i64 a0_3]) (t := 23) ?hr ?_; (case hd => rfl); (case hg => rfl); (case hr => first | (go_simp; done) | (go_simp; rfl)); intro gb245 hg w21 hbox hb; have n0_ := Aside0.mk (below_step (by repeat (first | (with_reducible first | exact HB.out | apply below_alloc | apply pw_below_drewN | apply below_drew1) | exact HB.out)) hb); have n1_ := Aside0.mk (hbox); have n2_ := Aside0.mk ((by rw [hg]; exact (below_size (by repeat (first | (with_reducible first | exact HB.out | apply below_alloc | apply pw_below_drewN | apply below_drew1) | exact HB.out))) : w.heap.size ≤ gb245)); have n3_ := Aside0.mk ((by rw [hg]; exact (below_size (by repeat (first | (with_reducible first | exact HB.out | apply below_alloc | apply pw_below_drewN | apply below_drew1) | exact HB.out))) : w.heap.size ≤ gb245)); clear HB; have HB := n0_; have BK245 := n1_; have GW245 := n2_; have GE245 := n3_; clear n0_ n1_ n2_ n3_; clear hb hbox hg; have hcz22_0 : w21.cell? ⟨gb245, 0, none⟩ = some (.int .i64 a0_0) := (blk_cell BK245.out 0).trans rfl; have hcz22_1 : w21.cell? ⟨gb245, 1, none⟩ = some (.int .i64 a0_1) := (blk_cell BK245.out 1).trans rfl; have hcz22_2 : w21.cell? ⟨gb245, 2, none⟩ = some (.int .i64 a0_2) := (blk_cell BK245.out 2).trans rfl; have hcz22_3 : w21.cell? ⟨gb245, 3, none⟩ = some (.int .i64 a0_3) := (blk_cell BK245.out 3).trans rfl; have hfz22_0 := blk_frozen BK245.out 0; have hfz22_1 := blk_frozen BK245.out 1; have hfz22_2 := blk_frozen BK245.out 2; have hfz22_3 := blk_frozen BK245.out 3))
      go_ret
      exact ⟨by first | rfl | (simp [errW_none, errW_some] <;> rfl) | (simp [*, errW_none, errW_some] <;> rfl), by repeat (first | (with_reducible first | exact HB.out | apply below_alloc | apply pw_below_drewN | apply below_drew1 | refine below_set ?_ GE245.out) | exact HB.out)⟩
  · rw [if_neg c2] at H
    have c2b0 : decide (0 ≤ a0_0) = false := decide_eq_false c2
    clear c2
    obtain rfl := Option.some.inj H
    go_enter Try.func128, Try.ntmps128
    go_wp2_with (first | ((with_reducible refine gate_dst (N := 1) rfl ?_); refine box_event ?hg (N := 1) ?hd (cs := #[.int .i64 a0_0, .int .i64 a0_1, .int .i64 a0_2, .int .i64 a0_3]) (t := 23) ?hr ?_; (case hd => rfl); (case hg => rfl); (case hr => first | (go_simp; done) | (go_simp; rfl)); intro gb245 hg w23 hbox hb; have n0_ := Aside0.mk (below_step (by repeat (first | (with_reducible first | exact HB.out | apply below_alloc | apply pw_below_drewN | apply below_drew1) | exact HB.out)) hb); have n1_ := Aside0.mk (hbox); have n2_ := Aside0.mk ((by rw [hg]; exact (below_size (by repeat (first | (with_reducible first | exact HB.out | apply below_alloc | apply pw_below_drewN | apply below_drew1) | exact HB.out))) : w.heap.size ≤ gb245)); have n3_ := Aside0.mk ((by rw [hg]; exact (below_size (by repeat (first | (with_reducible first | exact HB.out | apply below_alloc | apply pw_below_drewN | apply below_drew1) | exact HB.out))) : w.heap.size ≤ gb245)); clear HB; have HB := n0_; have BK245 := n1_; have GW245 := n2_; have GE245 := n3_; clear n0_ n1_ n2_ n3_; clear hb hbox hg; have hcz24_0 : w23.cell? ⟨gb245, 0, none⟩ = some (.int .i64 a0_0) := (blk_cell BK245.out 0).trans rfl; have hcz24_1 : w23.cell? ⟨gb245, 1, none⟩ = some (.int .i64 a0_1) := (blk_cell BK245.out 1).trans rfl; have hcz24_2 : w23.cell? ⟨gb245, 2, none⟩ = some (.int .i64 a0_2) := (blk_cell BK245.out 2).trans rfl; have hcz24_3 : w23.cell? ⟨gb245, 3, none⟩ = some (.int .i64 a0_3) := (blk_cell BK245.out 3).trans rfl; have hfz24_0 := blk_frozen BK245.out 0; have hfz24_1 := blk_frozen BK245.out 1; have hfz24_2 := blk_frozen BK245.out 2; have hfz24_3 := blk_frozen BK245.out 3))
    go_ret
    exact ⟨by first | rfl | (simp [errW_none, errW_some] <;> rfl) | (simp [*, errW_none, errW_some] <;> rfl), by repeat (first | (with_reducible first | exact HB.out | apply below_alloc | apply pw_below_drewN | apply below_drew1 | refine below_set ?_ GE245.out) | exact HB.out)⟩

end Go.Proofs.Ytfdmfgaiblfbhaa.P
namespace Go.Proofs.Ytfdmfgaiblfbhaa.P
open Go.RowKit Go.Proofs.YtfdmfgaiblfbhaaW.PrintWords Go.Proofs.YtfdmfgaiblfbhaaW.PrintLast Go.Proofs.YtfdmfgaiblfbhaaW.PrintMore
attribute [local go_sem] max2_int min2_int max_two min_two max_three min_three max_four min_four   -- for this text's walks alone
set_option linter.unusedVariables false
set_option linter.unusedSimpArgs false

/-! ### sashref04_May: function 57 -/
def sashref04_May.f (a0_0 : Int) (a0_1 : Int) (a0_2 : Int) (a0_3 : Int) : Option (Bool) := if a0_0 < 0 then (some false) else (if a0_0 > 10000 then (some false) else (if a0_1 < 0 then (some false) else (if a0_1 > 10000 then (some false) else (if a0_2 > 0 then (if a0_2 ≤ 10000 then (if a0_3 > 0 then (if a0_3 ≤ 10000 then (if (wrap64 (a0_0 + a0_2)) ≤ 10000 then (some (decide ((wrap64 (a0_1 + a0_3)) ≤ 10000))) else (some false)) else (some false)) else (some false)) else (some false)) else (some false)))))
set_option maxHeartbeats 8000000 in
set_option maxRecDepth 100000 in
theorem sashref04_May.calls (a0_0 : Int) (a0_1 : Int) (a0_2 : Int) (a0_3 : Int) (r : Bool) (w : World) (h : sashref04_May.f a0_0 a0_1 a0_2 a0_3 = some r) :
    Calls Try.prog 57 #[.agg #[.int .i64 a0_0, .int .i64 a0_1, .int .i64 a0_2, .int .i64 a0_3]] w fun e w' => e = .returned (.bool r) ∧ Below w.heap.size w w' := by
  have hu23 := Try.underlying23
  have HB := Aside0.mk (Below.refl w.heap.size w)
  have H : (if a0_0 < 0 then (some false) else (if a0_0 > 10000 then (some false) else (if a0_1 < 0 then (some false) else (if a0_1 > 10000 then (some false) else (if a0_2 > 0 then (if a0_2 ≤ 10000 then (if a0_3 > 0 then (if a0_3 ≤ 10000 then (if (wrap64 (a0_0 + a0_2)) ≤ 10000 then (some (decide ((wrap64 (a0_1 + a0_3)) ≤ 10000))) else (some false)) else (some false)) else (some false)) else (some false)) else (some false)))))) = some r := h
  clear h
  by_cases c2 : a0_0 < 0
  · rw [if_pos c2] at H
    have c2b0 : decide (a0_0 < 0) = true := decide_eq_true c2
    clear c2
    obtain rfl := Option.some.inj H
    go_enter Try.func57, Try.ntmps57
    go_wp2_with (first | ((with_reducible refine gate_dst (N := 1) rfl ?_); refine box_event ?hg (N := 1) ?hd (cs := #[.int .i64 a0_0, .int .i64 a0_1, .int .i64 a0_2, .int .i64 a0_3]) (t := 23) ?hr ?_; (case hd => rfl); (case hg => rfl); (case hr => first | (go_simp; done) | (go_simp; rfl)); intro gb173 hg w3 hbox hb; have n0_ := Aside0.mk (below_step (by repeat (first | (with_reducible first | exact HB.out | apply below_alloc | apply pw_below_drewN | apply below_drew1) | exact HB.out)) hb); have n1_ := Aside0.mk (hbox); have n2_ := Aside0.mk ((by rw [hg]; exact (below_size (by repeat (first | (with_reducible first | exact HB.out | apply below_alloc | apply pw_below_drewN | apply below_drew1) | exact HB.out))) : w.heap.size ≤ gb173)); have n3_ := Aside0.mk ((by rw [hg]; exact (below_size (by repeat (first | (with_reducible first | exact HB.out | apply below_alloc | apply pw_below_drewN | apply below_drew1) | exact HB.out))) : w.heap.size ≤ gb173)); clear HB; have HB := n0_; have BK173 := n1_; have GW173 := n2_; have GE173 := n3_; clear n0_ n1_ n2_ n3_; clear hb hbox hg; have hcz4_0 : w3.cell? ⟨gb173, 0, none⟩ = some (.int .i64 a0_0) := (blk_cell BK173.out 0).trans rfl; have hcz4_1 : w3.cell? ⟨gb173, 1, none⟩ = some (.int .i64 a0_1) := (blk_cell BK173.out 1).trans rfl; have hcz4_2 : w3.cell? ⟨gb173, 2, none⟩ = some (.int .i64 a0_2) := (blk_cell BK173.out 2).trans rfl; have hcz4_3 : w3.cell? ⟨gb173, 3, none⟩ = some (.int .i64 a0_3) := (blk_cell BK173.out 3).trans rfl; have hfz4_0 := blk_frozen BK173.out 0; have hfz4_1 := blk_frozen BK173.out 1; have hfz4_2 := blk_frozen BK173.out 2; have hfz4_3 := blk_frozen BK173.out 3))
    go_ret
    exact ⟨by first | rfl | (simp [errW_none, errW_some] <;> rfl) | (simp [*, errW_none, errW_some] <;> rfl), by repeat (first | (with_reducible first | exact HB.out | apply below_alloc | apply pw_below_drewN | apply below_drew1 | refine below_set ?_ GE173.out) | exact HB.out)⟩
  · rw [if_neg c2] at H
    have c2b0 : decide (a0_0 < 0) = false := decide_eq_false c2
    clear c2
    by_cases c5 : a0_0 > 10000
    · rw [if_pos c5] at H
      have c5b0 : decide (10000 < a0_0) = true := decide_eq_true c5
      clear c5
      obtain rfl := Option.some.inj H
      go_enter Try.func57, Try.ntmps57
      go_wp2_with (first | ((with_reducible refine gate_dst (N := 1) rfl ?_); refine box_event ?hg (N := 1) ?hd (cs := #[.int .i64 a0_0, .int .i64 a0_1, .int .i64 a0_2, .int .i64 a0_3]) (t := 23) ?hr ?_; (case hd => rfl); (case hg => rfl); (case hr => first | (go_simp; done) | (go_simp; rfl)); intro gb173 hg w6 hbox hb; have n0_ := Aside0.mk (below_step (by repeat (first | (with_reducible first | exact HB.out | apply below_alloc | apply pw_below_drewN | apply below_drew1) | exact HB.out)) hb); have n1_ := Aside0.mk (hbox); have n2_ := Aside0.mk ((by rw [hg]; exact (below_size (by repeat (first | (with_reducible first | exact HB.out | apply below_alloc | apply pw_below_drewN | apply below_drew1) | exact HB.out))) : w.heap.size ≤ gb173)); have n3_ := Aside0.mk ((by rw [hg]; exact (below_size (by repeat (first | (with_reducible first | exact HB.out | apply below_alloc | apply pw_below_drewN | apply below_drew1) | exact HB.out))) : w.heap.size ≤ gb173)); clear HB; have HB := n0_; have BK173 := n1_; have GW173 := n2_; have GE173 := n3_; clear n0_ n1_ n2_ n3_; clear hb hbox hg; have hcz7_0 : w6.cell? ⟨gb173, 0, none⟩ = some (.int .i64 a0_0) := (blk_cell BK173.out 0).trans rfl; have hcz7_1 : w6.cell? ⟨gb173, 1, none⟩ = some (.int .i64 a0_1) := (blk_cell BK173.out 1).trans rfl; have hcz7_2 : w6.cell? ⟨gb173, 2, none⟩ = some (.int .i64 a0_2) := (blk_cell BK173.out 2).trans rfl; have hcz7_3 : w6.cell? ⟨gb173, 3, none⟩ = some (.int .i64 a0_3) := (blk_cell BK173.out 3).trans rfl; have hfz7_0 := blk_frozen BK173.out 0; have hfz7_1 := blk_frozen BK173.out 1; have hfz7_2 := blk_frozen BK173.out 2; have hfz7_3 := blk_frozen BK173.out 3))
      go_ret
      exact ⟨by first | rfl | (simp [errW_none, errW_some] <;> rfl) | (simp [*, errW_none, errW_some] <;> rfl), by repeat (first | (with_reducible first | exact HB.out | apply below_alloc | apply pw_below_drewN | apply below_drew1 | refine below_set ?_ GE173.out) | exact HB.out)⟩
    · rw [if_neg c5] at H
      have c5b0 : decide (10000 < a0_0) = false := decide_eq_false c5
      clear c5
      by_cases c8 : a0_1 < 0
      · rw [if_pos c8] at H
        have c8b0 : decide (a0_1 < 0) = true := decide_eq_true c8
        clear c8
        obtain rfl := Option.some.inj H
        go_enter Try.func57, Try.ntmps57
        go_wp2_with (first | ((with_reducible refine gate_dst (N := 1) rfl ?_); refine box_event ?hg (N := 1) ?hd (cs := #[.int .i64 a0_0, .int .i64 a0_1, .int .i64 a0_2, .int .i64 a0_3]) (t := 23) ?hr ?_; (case hd => rfl); (case hg => rfl); (case hr => first | (go_simp; done) | (go_simp; rfl)); intro gb173 hg w9 hbox hb; have n0_ := Aside0.mk (below_step (by repeat (first | (with_reducible first | exact HB.out | apply below_alloc | apply pw_below_drewN | apply below_drew1) | exact HB.out)) hb); have n1_ := Aside0.mk (hbox); have n2_ := Aside0.mk ((by rw [hg]; exact (below_size (by repeat (first | (with_reducible first | exact HB.out | apply below_alloc | apply pw_below_drewN | apply below_drew1) | exact HB.out))) : w.heap.size ≤ gb173)); have n3_ := Aside0.mk ((by rw [hg]; exact (below_size (by repeat (first | (with_reducible first | exact HB.out | apply below_alloc | apply pw_below_drewN | apply below_drew1) | exact HB.out))) : w.heap.size ≤ gb173)); clear HB; have HB := n0_; have BK173 := n1_; have GW173 := n2_; have GE173 := n3_; clear n0_ n1_ n2_ n3_; clear hb hbox hg; have hcz10_0 : w9.cell? ⟨gb173, 0, none⟩ = some (.int .i64 a0_0) := (blk_cell BK173.out 0).trans rfl; have hcz10_1 : w9.cell? ⟨gb173, 1, none⟩ = some (.int .i64 a0_1) := (blk_cell BK173.out 1).trans rfl; have hcz10_2 : w9.cell? ⟨gb173, 2, none⟩ = some (.int .i64 a0_2) := (blk_cell BK173.out 2).trans rfl; have hcz10_3 : w9.cell? ⟨gb173, 3, none⟩ = some (.int .i64 a0_3) := (blk_cell BK173.out 3).trans rfl; have hfz10_0 := blk_frozen BK173.out 0; have hfz10_1 := blk_frozen BK173.out 1; have hfz10_2 := blk_frozen BK173.out 2; have hfz10_3 := blk_frozen BK173.out 3))
        go_ret
        exact ⟨by first | rfl | (simp [errW_none, errW_some] <;> rfl) | (simp [*, errW_none, errW_some] <;> rfl), by repeat (first | (with_reducible first | exact HB.out | apply below_alloc | apply pw_below_drewN | apply below_drew1 | refine below_set ?_ GE173.out) | exact HB.out)⟩
      · rw [if_neg c8] at H
        have c8b0 : decide (a0_1 < 0) = false := decide_eq_false c8
        clear c8
        by_cases c11 : a0_1 > 10000
        · rw [if_pos c11] at H
          have c11b0 : decide (10000 < a0_1) = true := decide_eq_true c11
          clear c11
          obtain rfl := Option.some.inj H
          go_enter Try.func57, Try.ntmps57
          go_wp2_with (first | ((with_reducible refine gate_dst (N := 1) rfl ?_); refine box_event ?hg (N := 1) ?hd (cs := #[.int .i64 a0_0, .int .i64 a0_1, .int .i64 a0_2, .int .i64 a0_3]) (t := 23) ?hr ?_; (case hd => rfl); (case hg => rfl); (case hr => first | (go_simp; done) | (go_simp; rfl)); intro gb173 hg w12 hbox hb; have n0_ := Aside0.mk (below_step (by repeat (first | (with_reducible first | exact HB.out | apply below_alloc | apply pw_below_drewN | apply below_drew1) | exact HB.out)) hb); have n1_ := Aside0.mk (hbox); have n2_ := Aside0.mk ((by rw [hg]; exact (below_size (by repeat (first | (with_reducible first | exact HB.out | apply below_alloc | apply pw_below_drewN | apply below_drew1) | exact HB.out))) : w.heap.size ≤ gb173)); have n3_ := Aside0.mk ((by rw [hg]; exact (below_size (by repeat (first | (with_reducible first | exact HB.out | apply below_alloc | apply pw_below_drewN | apply below_drew1) | exact HB.out))) : w.heap.size ≤ gb173)); clear HB; have HB := n0_; have BK173 := n1_; have GW173 := n2_; have GE173 := n3_; clear n0_ n1_ n2_ n3_; clear hb hbox hg; have hcz13_0 : w12.cell? ⟨gb173, 0, none⟩ = some (.int .i64 a0_0) := (blk_cell BK173.out 0).trans rfl; have hcz13_1 : w12.cell? ⟨gb173, 1, none⟩ = some (.int .i64 a0_1) := (blk_cell BK173.out 1).trans rfl; have hcz13_2 : w12.cell? ⟨gb173, 2, none⟩ = some (.int .i64 a0_2) := (blk_cell BK173.out 2).trans rfl; have hcz13_3 : w12.cell? ⟨gb173, 3, none⟩ = some (.int .i64 a0_3) := (blk_cell BK173.out 3).trans rfl; have hfz13_0 := blk_frozen BK173.out 0; have hfz13_1 := blk_frozen BK173.out 1; have hfz13_2 := blk_frozen BK173.out 2; have hfz13_3 := blk_frozen BK173.out 3))
          go_ret
          exact ⟨by first | rfl | (simp [errW_none, errW_some] <;> rfl) | (simp [*, errW_none, errW_some] <;> rfl), by repeat (first | (with_reducible first | exact HB.out | apply below_alloc | apply pw_below_drewN | apply below_drew1 | refine below_set ?_ GE173.out) | exact HB.out)⟩
        · rw [if_neg c11] at H
          have c11b0 : decide (10000 < a0_1) = false := decide_eq_false c11
          clear c11
          by_cases c14 : a0_2 > 0
          · rw [if_pos c14] at H
            have c14b0 : decide (0 < a0_2) = true := decide_eq_true c14
            clear c14
            by_cases c15 : a0_2 ≤ 10000
            · rw [if_pos c15] at H
              have c15b0 : decide (a0_2 ≤ 10000) = true := decide_eq_true c15
              clear c15
              by_cases c16 : a0_3 > 0
              · rw [if_pos c16] at H
                have c16b0 : decide (0 < a0_3) = true := decide_eq_true c16
                clear c16
                by_cases c17 : a0_3 ≤ 10000
                · rw [if_pos c17] at H
                  have c17b0 : decide (a0_3 ≤ 10000) = true := decide_eq_true c17
                  clear c17
                  by_cases c18 : (wrap64 (a0_0 + a0_2)) ≤ 10000
                  · rw [if_pos c18] at H
                    have c18b0 : decide ((wrap64 (a0_0 + a0_2)) ≤ 10000) = true := decide_eq_true c18
                    clear c18
                    obtain rfl := Option.some.inj H
                    go_enter Try.func57, Try.ntmps57
                    go_wp2_with (first | ((with_reducible refine gate_dst (N := 1) rfl ?_); refine box_event ?hg (N := 1) ?hd (cs := #[.int .i64 a0_0, .int .i64 a0_1, .int .i64 a0_2, .int .i64 a0_3]) (t := 23) ?hr ?_; (case hd => rfl); (case hg => rfl); (case hr => first | (go_simp; done) | (go_simp; rfl)); intro gb173 hg w19 hbox hb; have n0_ := Aside0.mk (below_step (by repeat (first | (with_reducible first | exact HB.out | apply below_alloc | apply pw_below_drewN | apply below_drew1) | exact HB.out)) hb); have n1_ := Aside0.mk (hbox); have n2_ := Aside0.mk ((by rw [hg]; exact (below_size (by repeat (first | (with_reducible first | exact HB.out | apply below_alloc | apply pw_below_drewN | apply below_drew1) | exact HB.out))) : w.heap.size ≤ gb173)); have n3_ := Aside0.mk ((by rw [hg]; exact (below_size (by repeat (first | (with_reducible first | exact HB.out | apply below_alloc | apply pw_below_drewN | apply below_drew1) | exact HB.out))) : w.heap.size ≤ gb173)); clear HB; have HB := n0_; have BK173 := n1_; have GW173 := n2_; have GE173 := n3_; clear n0_ n1_ n2_ n3_; clear hb hbox hg; have hcz20_0 : w19.cell? ⟨gb173, 0, none⟩ = some (.int .i64 a0_0) := (blk_cell BK173.out 0).trans rfl; have hcz20_1 : w19.cell? ⟨gb173, 1, none⟩ = some (.int .i64 a0_1) := (blk_cell BK173.out 1).trans rfl; have hcz20_2 : w19.cell? ⟨gb173, 2, none⟩ = some (.int .i64 a0_2) := (blk_cell BK173.out 2).trans rfl; have hcz20_3 : w19.cell? ⟨gb173, 3, none⟩ = some (.int .i64 a0_3) := (blk_cell BK173.out 3).trans rfl; have hfz20_0 := blk_frozen BK173.out 0; have hfz20_1 := blk_frozen BK173.out 1; have hfz20_2 := blk_frozen BK173.out 2; have hfz20_3 := blk_frozen BK173.out 3))
                    go_ret
                    exact ⟨by first | rfl | (simp [errW_none, errW_some] <;> rfl) | (simp [*, errW_none, errW_some] <;> rfl), by repeat (first | (with_reducible first | exact HB.out | apply below_alloc | apply pw_below_drewN | apply below_drew1 | refine below_set ?_ GE173.out) | exact HB.out)⟩
                  · rw [if_neg c18] at H
                    have c18b0 : decide ((wrap64 (a0_0 + a0_2)) ≤ 10000) = false := decide_eq_false c18
                    clear c18
                    obtain rfl := Option.some.inj H
                    go_enter Try.func57, Try.ntmps57
                    go_wp2_with (first | ((with_reducible refine gate_dst (N := 1) rfl ?_); refine box_event ?hg (N := 1) ?hd (cs := #[.int .i64 a0_0, .int .i64 a0_1, .int .i64 a0_2, .int .i64 a0_3]) (t := 23) ?hr ?_; (case hd => rfl); (case hg => rfl); (case hr => first | (go_simp; done) | (go_simp; rfl)); intro gb173 hg w21 hbox hb; have n0_ := Aside0.mk (below_step (by repeat (first | (with_reducible first | exact HB.out | apply below_alloc | apply pw_below_drewN | apply below_drew1) | exact HB.out)) hb); have n1_ := Aside0.mk (hbox); have n2_ := Aside0.mk ((by rw [hg]; exact (below_size (by repeat (first | (with_reducible first | exact HB.out | apply below_alloc | apply pw_below_drewN | apply below_drew1) | exact HB.out))) : w.heap.size ≤ gb173)); have n3_ := Aside0.mk ((by rw [hg]; exact (below_size (by repeat (first | (with_reducible first | exact HB.out | apply below_alloc | apply pw_below_drewN | apply below_drew1) | exact HB.out))) : w.heap.size ≤ gb173)); clear HB; have HB := n0_; have BK173 := n1_; have GW173 := n2_; have GE173 := n3_; clear n0_ n1_ n2_ n3_; clear hb hbox hg; have hcz22_0 : w21.cell? ⟨gb173, 0, none⟩ = some (.int .i64 a0_0) := (blk_cell BK173.out 0).trans rfl; have hcz22_1 : w21.cell? ⟨gb173, 1, none⟩ = some (.int .i64 a0_1) := (blk_cell BK173.out 1).trans rfl; have hcz22_2 : w21.cell? ⟨gb173, 2, none⟩ = some (.int .i64 a0_2) := (blk_cell BK173.out 2).trans rfl; have hcz22_3 : w21.cell? ⟨gb173, 3, none⟩ = some (.int .i64 a0_3) := (blk_cell BK173.out 3).trans rfl; have hfz22_0 := blk_frozen BK173.out 0; have hfz22_1 := blk_frozen BK173.out 1; have hfz22_2 := blk_frozen BK173.out 2; have hfz22_3 := blk_frozen BK173.out 3))
                    go_ret
                    exact ⟨by first | rfl | (simp [errW_none, errW_some] <;> rfl) | (simp [*, errW_none, errW_some] <;> rfl), by repeat (first | (with_reducible first | exact HB.out | apply below_alloc | apply pw_below_drewN | apply below_drew1 | refine below_set ?_ GE173.out) | exact HB.out)⟩
                · rw [if_neg c17] at H
                  have c17b0 : decide (a0_3 ≤ 10000) = false := decide_eq_false c17
                  clear c17
                  obtain rfl := Option.some.inj H
                  go_enter Try.func57, Try.ntmps57
                  go_wp2_with (first | ((with_reducible refine gate_dst (N := 1) rfl ?_); refine box_event ?hg (N := 1) ?hd (cs := #[.int .i64 a0_0, .int .i64 a0_1, .int .i64 a0_2, .int .i64 a0_3]) (t := 23) ?hr ?_; (case hd => rfl); (case hg => rfl); (case hr => first | (go_simp; done) | (go_simp; rfl)); intro gb173 hg w23 hbox hb; have n0_ := Aside0.mk (below_step (by repeat (first | (with_reducible first | exact HB.out | apply below_alloc | apply pw_below_drewN | apply below_drew1) | exact HB.out)) hb); have n1_ := Aside0.mk (hbox); have n2_ := Aside0.mk ((by rw [hg]; exact (below_size (by repeat (first | (with_reducible first | exact HB.out | apply below_alloc | apply pw_below_drewN | apply below_drew1) | exact HB.out))) : w.heap.size ≤ gb173)); have n3_ := Aside0.mk ((by rw [hg]; exact (below_size (by repeat (first | (with_reducible first | exact HB.out | apply below_alloc | apply pw_below_drewN | apply below_drew1) | exact HB.out))) : w.heap.size ≤ gb173)); clear HB; have HB := n0_; have BK173 := n1_; have GW173 := n2_; have GE173 := n3_; clear n0_ n1_ n2_ n3_; clear hb hbox hg; have hcz24_0 : w23.cell? ⟨gb173, 0, none⟩ = some (.int .i64 a0_0) := (blk_cell BK173.out 0).trans rfl; have hcz24_1 : w23.cell? ⟨gb173, 1, none⟩ = some (.int .i64 a0_1) := (blk_cell BK173.out 1).trans rfl; have hcz24_2 : w23.cell? ⟨gb173, 2, none⟩ = some (.int .i64 a0_2) := (blk_cell BK173.out 2).trans rfl; have hcz24_3 : w23.cell? ⟨gb173, 3, none⟩ = some (.int .i64 a0_3) := (blk_cell BK173.out 3).trans rfl; have hfz24_0 := blk_frozen BK173.out 0; have hfz24_1 := blk_frozen BK173.out 1; have hfz24_2 := blk_frozen BK173.out 2; have hfz24_3 := blk_frozen BK173.out 3))
                  go_ret
                  exact ⟨by first | rfl | (simp [errW_none, errW_some] <;> rfl) | (simp [*, errW_none, errW_some] <;> rfl), by repeat (first | (with_reducible first | exact HB.out | apply below_alloc | apply pw_below_drewN | apply below_drew1 | refine below_set ?_ GE173.out) | exact HB.out)⟩
              · rw [if_neg c16] at H
                have c16b0 : decide (0 < a0_3) = false := decide_eq_false c16
                clear c16
                obtain rfl := Option.some.inj H
                go_enter Try.func57, Try.ntmps57
                go_wp2_with (first | ((with_reducible refine gate_dst (N := 1) rfl ?_); refine box_event ?hg (N := 1) ?hd (cs := #[.int .i64 a0_0, .int .i64 a0_1, .int .i64 a0_2, .int .i64 a0_3]) (t := 23) ?hr ?_; (case hd => rfl); (case hg => rfl); (case hr => first | (go_simp; done) | (go_simp; rfl)); intro gb173 hg w25 hbox hb; have n0_ := Aside0.mk (below_step (by repeat (first | (with_reducible first | exact HB.out | apply below_alloc | apply pw_below_drewN | apply below_drew1) | exact HB.out)) hb); have n1_ := Aside0.mk (hbox); have n2_ := Aside0.mk ((by rw [hg]; exact (below_size (by repeat (first | (with_reducible first | exact HB.out | apply below_alloc | apply pw_below_drewN | apply below_drew1) | exact HB.out))) : w.heap.size ≤ gb173)); have n3_ := Aside0.mk ((by rw [hg]; exact (below_size (by repeat (first | (with_reducible first | exact HB.out | apply below_alloc | apply pw_below_drewN | apply below_drew1) | exact HB.out))) : w.heap.size ≤ gb173)); clear HB; have HB := n0_; have BK173 := n1_; have GW173 := n2_; have GE173 := n3_; clear n0_ n1_ n2_ n3_; clear hb hbox hg; have hcz26_0 : w25.cell? ⟨gb173, 0, none⟩ = some (.int .i64 a0_0) := (blk_cell BK173.out 0).trans rfl; have hcz26_1 : w25.cell? ⟨gb173, 1, none⟩ = some (.int .i64 a0_1) := (blk_cell BK173.out 1).trans rfl; have hcz26_2 : w25.cell? ⟨gb173, 2, none⟩ = some (.int .i64 a0_2) := (blk_cell BK173.out 2).trans rfl; have hcz26_3 : w25.cell? ⟨gb173, 3, none⟩ = some (.int .i64 a0_3) := (blk_cell BK173.out 3).trans rfl; have hfz26_0 := blk_frozen BK173.out 0; have hfz26_1 := blk_frozen BK173.out 1; have hfz26_2 := blk_frozen BK173.out 2; have hfz26_3 := blk_frozen BK173.out 3))
                go_ret
                exact ⟨by first | rfl | (simp [errW_none, errW_some] <;> rfl) | (simp [*, errW_none, errW_some] <;> rfl), by repeat (first | (with_reducible first | exact HB.out | apply below_alloc | apply pw_below_drewN | apply below_drew1 | refine below_set ?_ GE173.out) | exact HB.out)⟩
            · rw [if_neg c15] at H
              have c15b0 : decide (a0_2 ≤ 10000) = false := decide_eq_false c15
              clear c15
              obtain rfl := Option.some.inj H
              go_enter Try.func57, Try.ntmps57
              go_wp2_with (first | ((with_reducible refine gate_dst (N := 1) rfl ?_); refine box_event ?hg (N := 1) ?hd (cs := #[.int .i64 a0_0, .int .i64 a0_1, .int .i64 a0_2, .int .i64 a0_3]) (t := 23) ?hr ?_; (case hd => rfl); (case hg => rfl); (case hr => first | (go_simp; done) | (go_simp; rfl)); intro gb173 hg w27 hbox hb; have n0_ := Aside0.mk (below_step (by repeat (first | (with_reducible first | exact HB.out | apply below_alloc | apply pw_below_drewN | apply below_drew1) | exact HB.out)) hb); have n1_ := Aside0.mk (hbox); have n2_ := Aside0.mk ((by rw [hg]; exact (below_size (by repeat (first | (with_reducible first | exact HB.out | apply below_alloc | apply pw_below_drewN | apply below_drew1) | exact HB.out))) : w.heap.size ≤ gb173)); have n3_ := Aside0.mk ((by rw [hg]; exact (below_size (by repeat (first | (with_reducible first | exact HB.out | apply below_alloc | apply pw_below_drewN | apply below_drew1) | exact HB.out))) : w.heap.size ≤ gb173)); clear HB; have HB := n0_; have BK173 := n1_; have GW173 := n2_; have GE173 := n3_; clear n0_ n1_ n2_ n3_; clear hb hbox hg; have hcz28_0 : w27.cell? ⟨gb173, 0, none⟩ = some (.int .i64 a0_0) := (blk_cell BK173.out 0).trans rfl; have hcz28_1 : w27.cell? ⟨gb173, 1, none⟩ = some (.int .i64 a0_1) := (blk_cell BK173.out 1).trans rfl; have hcz28_2 : w27.cell? ⟨gb173, 2, none⟩ = some (.int .i64 a0_2) := (blk_cell BK173.out 2).trans rfl; have hcz28_3 : w27.cell? ⟨gb173, 3, none⟩ = some (.int .i64 a0_3) := (blk_cell BK173.out 3).trans rfl; have hfz28_0 := blk_frozen BK173.out 0; have hfz28_1 := blk_frozen BK173.out 1; have hfz28_2 := blk_frozen BK173.out 2; have hfz28_3 := blk_frozen BK173.out 3))
              go_ret
              exact ⟨by first | rfl | (simp [errW_none, errW_some] <;> rfl) | (simp [*, errW_none, errW_some] <;> rfl), by repeat (first | (with_reducible first | exact HB.out | apply below_alloc | apply pw_below_drewN | apply below_drew1 | refine below_set ?_ GE173.out) | exact HB.out)⟩
          · rw [if_neg c14] at H
            have c14b0 : decide (0 < a0_2) = false := decide_eq_false c14
            clear c14
            obtain rfl := Option.some.inj H
            go_enter Try.func57, Try.ntmps57
            go_wp2_with (first | ((with_reducible refine gate_dst (N := 1) rfl ?_); refine box_event ?hg (N := 1) ?hd (cs := #[.int .i64 a0_0, .int .i64 a0_1, .int .i64 a0_2, .int .i64 a0_3]) (t := 23) ?hr ?_; (case hd => rfl); (case hg => rfl); (case hr => first | (go_simp; done) | (go_simp; rfl)); intro gb173 hg w29 hbox hb; have n0_ := Aside0.mk (below_step (by repeat (first | (with_reducible first | exact HB.out | apply below_alloc | apply pw_below_drewN | apply below_drew1) | exact HB.out)) hb); have n1_ := Aside0.mk (hbox); have n2_ := Aside0.mk ((by rw [hg]; exact (below_size (by repeat (first | (with_reducible first | exact HB.out | apply below_alloc | apply pw_below_drewN | apply below_drew1) | exact HB.out))) : w.heap.size ≤ gb173)); have n3_ := Aside0.mk ((by rw [hg]; exact (below_size (by repeat (first | (with_reducible first | exact HB.out | apply below_alloc | apply pw_below_drewN | apply below_drew1) | exact HB.out))) : w.heap.size ≤ gb173)); clear HB; have HB := n0_; have BK173 := n1_; have GW173 := n2_; have GE173 := n3_; clear n0_ n1_ n2_ n3_; clear hb hbox hg; have hcz30_0 : w29.cell? ⟨gb173, 0, none⟩ = some (.int .i64 a0_0) := (blk_cell BK173.out 0).trans rfl; have hcz30_1 : w29.cell? ⟨gb173, 1, none⟩ = some (.int .i64 a0_1) := (blk_cell BK173.out 1).trans rfl; have hcz30_2 : w29.cell? ⟨gb173, 2, none⟩ = some (.int .i64 a0_2) := (blk_cell BK173.out 2).trans rfl; have hcz30_3 : w29.cell? ⟨gb173, 3, none⟩ = some (.int .i64 a0_3) := (blk_cell BK173.out 3).trans rfl; have hfz30_0 := blk_frozen BK173.out 0; have hfz30_1 := blk_frozen BK173.out 1; have hfz30_2 := blk_frozen BK173.out 2; have hfz30_3 := blk_frozen BK173.out 3))
            go_ret
            exact ⟨by first | rfl | (simp [errW_none, errW_some] <;> rfl) | (simp [*, errW_none, errW_some] <;> rfl), by repeat (first | (with_reducible first | exact HB.out | apply below_alloc | apply pw_below_drewN | apply below_drew1 | refine below_set ?_ GE173.out) | exact HB.out)⟩

end Go.Proofs.Ytfdmfgaiblfbhaa.P
/- May a rectangle be: plain words. -/
namespace Go.Proofs.Ytfdmfgaiblfbhaa.P
open Go.RowKit Go.Proofs.YtfdmfgaiblfbhaaW.PrintWords Go.Proofs.YtfdmfgaiblfbhaaW.PrintLast Go.Proofs.YtfdmfgaiblfbhaaW.PrintMore

theorem wq {x : Int} (h0 : -9223372036854775808 ≤ x) (h1 : x ≤ 9223372036854775807) : wrap64 x = x := by unfold wrap64; omega
theorem ev_pos {α : Type} {c : Prop} [Decidable c] {g f : Nat → Option α} {r : α} (hc : c) (h : Ev g r) : Ev (fun k => if c then g k else f k) r := by simp only [if_pos hc]; exact h
theorem ev_neg {α : Type} {c : Prop} [Decidable c] {g f : Nat → Option α} {r : α} (hc : ¬c) (h : Ev f r) : Ev (fun k => if c then g k else f k) r := by simp only [if_neg hc]; exact h
/-- May a rectangle be? -/
def mayB (X Y W H : Int) : Bool := decide (0 ≤ X ∧ 1 ≤ W ∧ W ≤ 10000 ∧ X + W ≤ 10000 ∧ 0 ≤ Y ∧ 1 ≤ H ∧ H ≤ 10000 ∧ Y + H ≤ 10000)
theorem may_some (X Y W H : Int) : rect_may.f X Y W H = some (mayB X Y W H) := by
  unfold rect_may.f mayB
  by_cases h1 : X ≥ 0
  · by_cases h2 : W ≥ 1
    · by_cases h3 : W ≤ 10000
      · rw [if_pos h1, if_pos h2, if_pos h3, wq (x := 10000 - W) (by omega) (by omega)]
        by_cases h4 : X ≤ 10000 - W
        · rw [if_pos h4]
          by_cases h5 : Y ≥ 0
          · by_cases h6 : H ≥ 1
            · by_cases h7 : H ≤ 10000
              · rw [if_pos h5, if_pos h6, if_pos h7, wq (x := 10000 - H) (by omega) (by omega)]
                congr 1
                rw [decide_eq_decide]
                omega
              · rw [if_pos h5, if_pos h6, if_neg h7, decide_eq_false (by omega)]
            · rw [if_pos h5, if_neg h6, decide_eq_false (by omega)]
          · rw [if_neg h5, decide_eq_false (by omega)]
        · rw [if_neg h4, decide_eq_false (by omega)]
      · rw [if_pos h1, if_pos h2, if_neg h3, decide_eq_false (by omega)]
    · rw [if_pos h1, if_neg h2, decide_eq_false (by omega)]
  · rw [if_neg h1, decide_eq_false (by omega)]
def mayR (r : S23) : Bool := mayB r.f0 r.f1 r.f2 r.f3
end Go.Proofs.Ytfdmfgaiblfbhaa.P
namespace Go.Proofs.Ytfdmfgaiblfbhaa.P
open Go.RowKit Go.Proofs.YtfdmfgaiblfbhaaW.PrintWords Go.Proofs.YtfdmfgaiblfbhaaW.PrintLast Go.Proofs.YtfdmfgaiblfbhaaW.PrintMore
attribute [local go_sem] max2_int min2_int max_two min_two max_three min_three max_four min_four   -- for this text's walks alone
set_option linter.unusedVariables false
set_option linter.unusedSimpArgs false

/-! ### sashref05_All: function 79 -/
mutual
def sashref05_All.l0 : Nat → List (S26) → Int → Int → Int → Int → Int → Int → Int → Int → List (S26) → Option ((List (S26)))
  | 0, _, _, _, _, _, _, _, _, _, _ => none
  | k + 1, x3, x9, x10, x132000, x132001, x132002, x132003, x132004, x132005, x132006 => if x10 < x9 then (if 0 ≤ x10 then (if x10 < (x132006.length : Int) then ((sashref05_All.f k ((rd_T26 x132006 x10).f0) ((rd_T26 x132006 x10).f1.f0) ((rd_T26 x132006 x10).f1.f1) ((rd_T26 x132006 x10).f1.f2) ((rd_T26 x132006 x10).f1.f3) ((rd_T26 x132006 x10).f2) ((rd_T26 x132006 x10).f3)).bind fun t136 => (if x3.length + t136.length < 1954687338268 then (sashref05_All.l0 k (x3 ++ t136) x9 (wrap64 (x10 + 1)) x132000 x132001 x132002 x132003 x132004 x132005 x132006) else (none))) else (none)) else (none)) else (some x3)
def sashref05_All.f : Nat → Int → Int → Int → Int → Int → Int → List (S26) → Option ((List (S26)))
  | 0, _, _, _, _, _, _, _ => none
  | k + 1, a0_0, a0_1, a0_2, a0_3, a0_4, a0_5, l0_6 => sashref05_All.l0 k (([(⟨a0_0, (⟨a0_1, a0_2, a0_3, a0_4⟩ : S23), a0_5, l0_6⟩ : S26)] : List (S26))) (l0_6.length : Int) 0 a0_0 a0_1 a0_2 a0_3 a0_4 a0_5 l0_6
end
theorem sashref05_All.mono_l : ∀ k, (∀ y0 y1 y2 y3 y4 y5 y6, LeO (sashref05_All.f k y0 y1 y2 y3 y4 y5 y6) (sashref05_All.f (k + 1) y0 y1 y2 y3 y4 y5 y6)) ∧ (∀ y0 y1 y2 y3 y4 y5 y6 y7 y8 y9, LeO (sashref05_All.l0 k y0 y1 y2 y3 y4 y5 y6 y7 y8 y9) (sashref05_All.l0 (k + 1) y0 y1 y2 y3 y4 y5 y6 y7 y8 y9))
  | 0 => ⟨fun _ _ _ _ _ _ _ r h => by simp [sashref05_All.f] at h, fun _ _ _ _ _ _ _ _ _ _ r h => by simp [sashref05_All.l0] at h⟩
  | k + 1 => by
    obtain ⟨ih0, ih1⟩ := sashref05_All.mono_l k
    refine ⟨?_, ?_⟩
    · intro y0 y1 y2 y3 y4 y5 y6
      unfold sashref05_All.f
      repeat' first
      | (with_reducible exact ih0 _ _ _ _ _ _ _)
      | (with_reducible exact ih1 _ _ _ _ _ _ _ _ _ _)
      | (with_reducible exact LeO.refl _)
      | (with_reducible exact LeO.none _)
      | (with_reducible refine LeO.ite ?_ ?_)
      | (with_reducible refine LeO.bind ?_ (fun _ => ?_))
      | exact ih0 _ _ _ _ _ _ _
      | exact ih1 _ _ _ _ _ _ _ _ _ _
      | exact LeO.none _
      | refine LeO.ite ?_ ?_
      | refine LeO.bind ?_ (fun _ => ?_)
    · intro y0 y1 y2 y3 y4 y5 y6 y7 y8 y9
      unfold sashref05_All.l0
      repeat' first
      | (with_reducible exact ih0 _ _ _ _ _ _ _)
      | (with_reducible exact ih1 _ _ _ _ _ _ _ _ _ _)
      | (with_reducible exact LeO.refl _)
      | (with_reducible exact LeO.none _)
      | (with_reducible refine LeO.ite ?_ ?_)
      | (with_reducible refine LeO.bind ?_ (fun _ => ?_))
      | exact ih0 _ _ _ _ _ _ _
      | exact ih1 _ _ _ _ _ _ _ _ _ _
      | exact LeO.none _
      | refine LeO.ite ?_ ?_
      | refine LeO.bind ?_ (fun _ => ?_)
theorem sashref05_All.mono : ∀ a0 a1 a2 a3 a4 a5 a6 k, LeO (sashref05_All.f k a0 a1 a2 a3 a4 a5 a6) (sashref05_All.f (k + 1) a0 a1 a2 a3 a4 a5 a6) := by
  intro a0 a1 a2 a3 a4 a5 a6 k
  obtain ⟨ih0, ih1⟩ := sashref05_All.mono_l k
  exact ih0 a0 a1 a2 a3 a4 a5 a6
set_option maxHeartbeats 8000000 in
set_option maxRecDepth 100000 in
theorem sashref05_All.calls (k : Nat) : ∀ (a0_0 : Int) (a0_1 : Int) (a0_2 : Int) (a0_3 : Int) (a0_4 : Int) (a0_5 : Int) (P0_6_ : Nat → Prop) (A0_6 : Option Addr) (c0_6 : Nat) (l0_6 : List (S26)) (r : List (S26)) (w : World) (hs0_6 : Kd.V k26 26 w w.heap.size (fun k_ => P0_6_ k_) (.slice A0_6 l0_6.length c0_6) l0_6) (h : sashref05_All.f k a0_0 a0_1 a0_2 a0_3 a0_4 a0_5 l0_6 = some r),
    Calls Try.prog 79 #[.agg #[.int .u8 a0_0, .int .i64 a0_1, .int .i64 a0_2, .int .i64 a0_3, .int .i64 a0_4, .int .i64 a0_5, .slice A0_6 l0_6.length c0_6]] w fun e w' => ∃ v0_ : Value, e = .returned (v0_) ∧ Kd.N k26 26 w' w.heap.size (fun k_ => (P0_6_ k_ ∨ w.heap.size ≤ k_)) v0_ r ∧ Below w.heap.size w w' := by
  induction k using Nat.strongRecOn with
  | _ k ih =>
  intro a0_0 a0_1 a0_2 a0_3 a0_4 a0_5 P0_6_ A0_6 c0_6 l0_6 r w hs0_6 h
  cases k with
  | zero => exact absurd h (by simp [sashref05_All.f])
  | succ k =>
  simp only [sashref05_All.f] at h
  have hu26 := Try.underlying26
  have HO0_6 := Aside0.mk (show Kd.V k26 26 w w.heap.size (fun k_ => (P0_6_ k_ ∨ w.heap.size ≤ k_)) (.slice A0_6 l0_6.length c0_6) l0_6 from Kd.V_mono hs0_6 (fun k_ hk => .inl hk))
  have HB := Aside0.mk (Below.refl w.heap.size w)
  have H : (sashref05_All.l0 k (([(⟨a0_0, (⟨a0_1, a0_2, a0_3, a0_4⟩ : S23), a0_5, l0_6⟩ : S26)] : List (S26))) (l0_6.length : Int) 0 a0_0 a0_1 a0_2 a0_3 a0_4 a0_5 l0_6) = some r := h
  clear h
  obtain ⟨y132, hy132⟩ : ∃ y_ : List (S26), y_ = (([(⟨a0_0, (⟨a0_1, a0_2, a0_3, a0_4⟩ : S23), a0_5, l0_6⟩ : S26)] : List (S26))) := ⟨_, rfl⟩
  replace H : (sashref05_All.l0 k y132 (l0_6.length : Int) 0 a0_0 a0_1 a0_2 a0_3 a0_4 a0_5 l0_6) = some r := by first | (rw [hy132]; with_reducible exact H) | (have H2_ := (Option.bind_some _ _).symm.trans H; rw [hy132]; with_reducible exact H2_) | (have H2_ := (Option.bind_some _ _).symm.trans H; with_reducible exact H2_) | with_reducible exact H | (rw [hy132]; exact H) | exact H
  have Ny132 := Aside0.mk hy132
  clear hy132
  have H' := Aside0.mk H
  clear H
  go_enter Try.func79, Try.ntmps79
  go_wp2_with (first | ((with_reducible refine gate_dst (N := 1) rfl ?_); refine box_event ?hg (N := 1) ?hd (cs := #[.int .u8 a0_0, .int .i64 a0_1, .int .i64 a0_2, .int .i64 a0_3, .int .i64 a0_4, .int .i64 a0_5, .slice A0_6 l0_6.length c0_6]) (t := 26) ?hr ?_; (case hd => rfl); (case hg => rfl); (case hr => first | (go_simp; done) | (go_simp; rfl)); intro gb131 hg w2 hbox hb; have n0_ := Aside0.mk (Kd.V_below (Kd.V_elderB (by (with_reducible repeat (first | apply Kd.V_alloc | apply Kd.V_drewN | apply Kd.V_drew)); exact HO0_6.out) gb131 (Nat.le_of_eq hg.symm)) hb); have n1_ := Aside0.mk (below_step (by repeat (first | (with_reducible first | exact HB.out | apply below_alloc | apply pw_below_drewN | apply below_drew1) | exact HB.out)) hb); have n2_ := Aside0.mk (hbox); have n3_ := Aside0.mk ((by rw [hg]; exact (below_size (by repeat (first | (with_reducible first | exact HB.out | apply below_alloc | apply pw_below_drewN | apply below_drew1) | exact HB.out))) : w.heap.size ≤ gb131)); have n4_ := Aside0.mk ((by rw [hg]; exact (below_size (by repeat (first | (with_reducible first | exact HB.out | apply below_alloc | apply pw_below_drewN | apply below_drew1) | exact HB.out))) : w.heap.size ≤ gb131)); clear HO0_6; clear HB; have HO0_6 := n0_; have HB := n1_; have BK131 := n2_; have GW131 := n3_; have GE131 := n4_; clear n0_ n1_ n2_ n3_ n4_; clear hb hbox hg; have hcz3_0 : w2.cell? ⟨gb131, 0, none⟩ = some (.int .u8 a0_0) := (blk_cell BK131.out 0).trans rfl; have hcz3_1 : w2.cell? ⟨gb131, 1, none⟩ = some (.int .i64 a0_1) := (blk_cell BK131.out 1).trans rfl; have hcz3_2 : w2.cell? ⟨gb131, 2, none⟩ = some (.int .i64 a0_2) := (blk_cell BK131.out 2).trans rfl; have hcz3_3 : w2.cell? ⟨gb131, 3, none⟩ = some (.int .i64 a0_3) := (blk_cell BK131.out 3).trans rfl; have hcz3_4 : w2.cell? ⟨gb131, 4, none⟩ = some (.int .i64 a0_4) := (blk_cell BK131.out 4).trans rfl; have hcz3_5 : w2.cell? ⟨gb131, 5, none⟩ = some (.int .i64 a0_5) := (blk_cell BK131.out 5).trans rfl; have hcz3_6 : w2.cell? ⟨gb131, 6, none⟩ = some (.slice A0_6 l0_6.length c0_6) := (blk_cell BK131.out 6).trans rfl; have hfz3_0 := blk_frozen BK131.out 0; have hfz3_1 := blk_frozen BK131.out 1; have hfz3_2 := blk_frozen BK131.out 2; have hfz3_3 := blk_frozen BK131.out 3; have hfz3_4 := blk_frozen BK131.out 4; have hfz3_5 := blk_frozen BK131.out 5; have hfz3_6 := blk_frozen BK131.out 6) | ((with_reducible refine gate_dst (N := 6) rfl ?_); refine Kd.N_lit k26 _ 26 ?hg (N' := 6) ?hd (xs := ([(⟨a0_0, (⟨a0_1, a0_2, a0_3, a0_4⟩ : S23), a0_5, l0_6⟩ : S26)] : List (S26))) (inner := [.int .u8 a0_0, .int .i64 a0_1, .int .i64 a0_2, .int .i64 a0_3, .int .i64 a0_4, .int .i64 a0_5, .slice A0_6 l0_6.length c0_6]) (ok := (fun k_ => (P0_6_ k_ ∨ w.heap.size ≤ k_) ∧ k_ ≠ gb131)) (okp := (fun k_ => (P0_6_ k_ ∨ w.heap.size ≤ k_) ∧ k_ ≠ gb131)) ?hr ?hp (fun _ hk => hk) ((show ∀ k_, w2.heap.size ≤ k_ → (fun k_ => (P0_6_ k_ ∨ w.heap.size ≤ k_) ∧ k_ ≠ gb131) k_ from fun k_ hk => ⟨(.inr (Nat.le_trans (below_size (by repeat (first | (with_reducible first | exact HB.out | apply below_alloc | apply pw_below_drewN | apply below_drew1 | refine below_set ?_ GE131.out) | exact HB.out))) hk)), Kd.freshB (g := gb131) (o := .cells #[.int .u8 a0_0, .int .i64 a0_1, .int .i64 a0_2, .int .i64 a0_3, .int .i64 a0_4, .int .i64 a0_5, .slice A0_6 l0_6.length c0_6] 26 (0, 0)) (by (with_reducible repeat (first | refine blk_drewN ?_ _ | refine blk_drew ?_ | refine blk_alloc ?_ _)); exact BK131.out) k_ hk⟩) _ (Nat.le_refl _)) (Below.refl _ _) (Nat.le_refl _) (by simp) ?_; (case hd => rfl); (case hg => rfl); (case hr => first | (go_simp; done) | (go_simp; rfl)); (case hp => exact (Reps.c7 (show Kd.FK k26 _ _ (⟨a0_0, (⟨a0_1, a0_2, a0_3, a0_4⟩ : S23), a0_5, l0_6⟩ : S26) [.int .u8 a0_0, .int .i64 a0_1, .int .i64 a0_2, .int .i64 a0_3, .int .i64 a0_4, .int .i64 a0_5, .slice A0_6 l0_6.length c0_6] from (k26_mkF _ _ (⟨a0_0, (⟨a0_1, a0_2, a0_3, a0_4⟩ : S23), a0_5, l0_6⟩ : S26) (Kd.V_reads' (Kd.V_mono (ok' := (fun k_ => (P0_6_ k_ ∨ w.heap.size ≤ k_) ∧ k_ ≠ gb131)) (HO0_6.out) (fun k_ hk => ⟨hk.1, hk.2⟩))).2.1 (Kd.V_F (Kd.V_mono (ok' := (fun k_ => (P0_6_ k_ ∨ w.heap.size ≤ k_) ∧ k_ ≠ gb131)) (HO0_6.out) (fun k_ hk => ⟨hk.1, hk.2⟩))))) (Reps.none _ _))); intro v133 w4 ho5 hb hg_ hnew_; clear hg_ hnew_; (first | rw [← Ny132.out] at ho5 | (simp only [Int.reduceToNat] at ho5; rw [← Ny132.out] at ho5)); have n0_ := Aside0.mk (Kd.V_elder' (by (with_reducible repeat (first | apply Kd.V_alloc | apply Kd.V_drewN | apply Kd.V_drew)); exact HO0_6.out) (Kd.N_base ho5) hb); have n1_ := Aside0.mk (Kd.N_lower ho5 (below_size (by repeat (first | (with_reducible first | exact HB.out | apply below_alloc | apply pw_below_drewN | apply below_drew1 | refine below_set ?_ GE131.out) | exact HB.out)))); have n2_ := Aside0.mk (blk_below (g := gb131) (o := .cells #[.int .u8 a0_0, .int .i64 a0_1, .int .i64 a0_2, .int .i64 a0_3, .int .i64 a0_4, .int .i64 a0_5, .slice A0_6 l0_6.length c0_6] 26 (0, 0)) (by (with_reducible repeat (first | refine blk_drewN ?_ _ | refine blk_drew ?_ | refine blk_alloc ?_ _)); exact BK131.out) hb); have n3_ := Aside0.mk (below_step (by repeat (first | (with_reducible first | exact HB.out | apply below_alloc | apply pw_below_drewN | apply below_drew1 | refine below_set ?_ GE131.out) | exact HB.out)) hb); clear HO0_6; clear BK131; clear HB; have HO0_6 := n0_; have HO134 := n1_; have BK131 := n2_; have HB := n3_; clear n0_ n1_ n2_ n3_; clear hb ho5; have hcz6_0 : w4.cell? ⟨gb131, 0, none⟩ = some (.int .u8 a0_0) := (blk_cell BK131.out 0).trans rfl; have hcz6_1 : w4.cell? ⟨gb131, 1, none⟩ = some (.int .i64 a0_1) := (blk_cell BK131.out 1).trans rfl; have hcz6_2 : w4.cell? ⟨gb131, 2, none⟩ = some (.int .i64 a0_2) := (blk_cell BK131.out 2).trans rfl; have hcz6_3 : w4.cell? ⟨gb131, 3, none⟩ = some (.int .i64 a0_3) := (blk_cell BK131.out 3).trans rfl; have hcz6_4 : w4.cell? ⟨gb131, 4, none⟩ = some (.int .i64 a0_4) := (blk_cell BK131.out 4).trans rfl; have hcz6_5 : w4.cell? ⟨gb131, 5, none⟩ = some (.int .i64 a0_5) := (blk_cell BK131.out 5).trans rfl; have hcz6_6 : w4.cell? ⟨gb131, 6, none⟩ = some (.slice A0_6 l0_6.length c0_6) := (blk_cell BK131.out 6).trans rfl; have hfz6_0 := blk_frozen BK131.out 0; have hfz6_1 := blk_frozen BK131.out 1; have hfz6_2 := blk_frozen BK131.out 2; have hfz6_3 := blk_frozen BK131.out 3; have hfz6_4 := blk_frozen BK131.out 4; have hfz6_5 := blk_frozen BK131.out 5; have hfz6_6 := blk_frozen BK131.out 6))
  go_loopg [3, 10] k (fun kq v3 v10 w' => ∃ (x3_1 : List (S26)) (x10_1 : Int), v10 = .int .i64 x10_1 ∧ Aside0 (sashref05_All.l0 kq x3_1 (l0_6.length : Int) x10_1 a0_0 a0_1 a0_2 a0_3 a0_4 a0_5 l0_6 = some r) ∧ Aside0 (kq ≤ k) ∧ Aside0 (Kd.N k26 26 w' w.heap.size (fun k_ => (P0_6_ k_ ∨ w.heap.size ≤ k_) ∧ k_ ≠ gb131) v3 x3_1) ∧ Aside0 (Kd.V k26 26 w' w.heap.size (fun k_ => (P0_6_ k_ ∨ w.heap.size ≤ k_) ∧ some k_ ≠ (v3 : Value).ownBlock ∧ k_ ≠ gb131) (.slice A0_6 l0_6.length c0_6) l0_6) ∧ Aside0 (w'.heap[gb131]? = some (.cells #[.int .u8 a0_0, .int .i64 a0_1, .int .i64 a0_2, .int .i64 a0_3, .int .i64 a0_4, .int .i64 a0_5, (.slice A0_6 l0_6.length c0_6)] 26 (0, 0))) ∧ Aside0 (Below w.heap.size w w'))
  case atStart => exact ⟨(y132), (0), (by first | rfl | (simp; done) | (simp [*]; done)), H', ⟨Nat.le_refl _⟩, ⟨by (with_reducible repeat (first | apply Kd.N_alloc | apply Kd.N_drewN | apply Kd.N_drew)); exact HO134.out⟩, ⟨by (with_reducible repeat (first | apply Kd.V_alloc | apply Kd.V_drewN | apply Kd.V_drew)); exact Kd.V_mono HO0_6.out (fun _ hk => ⟨hk.1.1, ⟨hk.2, hk.1.2⟩⟩)⟩, ⟨by (with_reducible repeat (first | refine blk_drewN ?_ _ | refine blk_drew ?_ | refine blk_alloc ?_ _)); exact BK131.out⟩, ⟨by repeat (first | (with_reducible first | exact HB.out | apply below_alloc | apply pw_below_drewN | apply below_drew1 | refine below_set ?_ GE131.out) | exact HB.out)⟩⟩
  case round =>
    clear H'
    try clear p2
    try clear hcz3_0
    try clear hcz3_1
    try clear hcz3_2
    try clear hcz3_3
    try clear hcz3_4
    try clear hcz3_5
    try clear hcz3_6
    try clear hcz6_0
    try clear hcz6_1
    try clear hcz6_2
    try clear hcz6_3
    try clear hcz6_4
    try clear hcz6_5
    try clear hcz6_6
    try clear hfz3_0
    try clear hfz3_1
    try clear hfz3_2
    try clear hfz3_3
    try clear hfz3_4
    try clear hfz3_5
    try clear hfz3_6
    try clear hfz6_0
    try clear hfz6_1
    try clear hfz6_2
    try clear hfz6_3
    try clear hfz6_4
    try clear hfz6_5
    try clear hfz6_6
    obtain ⟨x3_1, x10_1, rfl, HA, HK1, HO_3, HO_132006, BK131, HB⟩ := hrel
    cases gk with
    | zero => exact absurd HA.out (by simp [sashref05_All.l0])
    | succ k1 =>
      have H := HA.out
      clear HA
      simp only [sashref05_All.l0] at H
      by_cases c7 : x10_1 < (l0_6.length : Int)
      · rw [if_pos c7] at H
        have c7b0 : decide (x10_1 < (l0_6.length : Int)) = true := decide_eq_true c7
        clear c7
        by_cases c8 : 0 ≤ x10_1
        · rw [if_pos c8] at H
          have c8b0 : decide (0 ≤ x10_1) = true := decide_eq_true c8
          clear c8
          by_cases c9 : x10_1 < (l0_6.length : Int)
          · rw [if_pos c9] at H
            have c9b0 : decide (x10_1 < (l0_6.length : Int)) = true := decide_eq_true c9
            clear c9
            replace H := Option.bind_eq_some_iff.mp H
            obtain ⟨t136, A100, H⟩ := H
            replace H : (if x3_1.length + t136.length < 1954687338268 then (sashref05_All.l0 k1 (x3_1 ++ t136) (l0_6.length : Int) (wrap64 (x10_1 + 1)) a0_0 a0_1 a0_2 a0_3 a0_4 a0_5 l0_6) else (none)) = some r := H
            have A10 := Aside0.mk A100
            clear A100
            by_cases c11 : x3_1.length + t136.length < 1954687338268
            · rw [if_pos c11] at H
              have LMc11 := Aside0.mk c11
              clear c11
              obtain ⟨y139, hy139⟩ : ∃ y_ : List (S26), y_ = (x3_1 ++ t136) := ⟨_, rfl⟩
              replace H : (sashref05_All.l0 k1 y139 (l0_6.length : Int) (wrap64 (x10_1 + 1)) a0_0 a0_1 a0_2 a0_3 a0_4 a0_5 l0_6) = some r := by first | (rw [hy139]; with_reducible exact H) | (have H2_ := (Option.bind_some _ _).symm.trans H; rw [hy139]; with_reducible exact H2_) | (have H2_ := (Option.bind_some _ _).symm.trans H; with_reducible exact H2_) | with_reducible exact H | (rw [hy139]; exact H) | exact H
              have Ny139 := Aside0.mk hy139
              clear hy139
              have H' := Aside0.mk H
              clear H
              have hcz12_0 : wr.cell? ⟨gb131, 0, none⟩ = some (.int .u8 a0_0) := (blk_cell BK131.out 0).trans rfl
              have hcz12_1 : wr.cell? ⟨gb131, 1, none⟩ = some (.int .i64 a0_1) := (blk_cell BK131.out 1).trans rfl
              have hcz12_2 : wr.cell? ⟨gb131, 2, none⟩ = some (.int .i64 a0_2) := (blk_cell BK131.out 2).trans rfl
              have hcz12_3 : wr.cell? ⟨gb131, 3, none⟩ = some (.int .i64 a0_3) := (blk_cell BK131.out 3).trans rfl
              have hcz12_4 : wr.cell? ⟨gb131, 4, none⟩ = some (.int .i64 a0_4) := (blk_cell BK131.out 4).trans rfl
              have hcz12_5 : wr.cell? ⟨gb131, 5, none⟩ = some (.int .i64 a0_5) := (blk_cell BK131.out 5).trans rfl
              have hcz12_6 : wr.cell? ⟨gb131, 6, none⟩ = some (.slice A0_6 l0_6.length c0_6) := (blk_cell BK131.out 6).trans rfl
              have hfz12_0 := blk_frozen BK131.out 0
              have hfz12_1 := blk_frozen BK131.out 1
              have hfz12_2 := blk_frozen BK131.out 2
              have hfz12_3 := blk_frozen BK131.out 3
              have hfz12_4 := blk_frozen BK131.out 4
              have hfz12_5 := blk_frozen BK131.out 5
              have hfz12_6 := blk_frozen BK131.out 6
              have p135 : 0 ≤ (x10_1 : Int) := of_decide_eq_true (by first | (with_reducible assumption) | assumption)
              have q135 : x10_1 < (l0_6.length : Int) := of_decide_eq_true (by first | (with_reducible assumption) | assumption)
              obtain ⟨ad135, A135_6, c135_6, e135, hx135_0, hx135_1, hx135_2, hx135_3, hx135_4, hx135_5, hx135_6, hl135_6, hi135_6⟩ := at_T26 (Kd.V_reads' HO_132006.out).2.2 x10_1 p135 q135
              cases e135
              obtain ⟨ce135, hce135, hMe135, hcc135⟩ := Kd.V_get HO_132006.out z26 x10_1 p135 (by first | exact q135 | exact of_decide_eq_true (by first | (with_reducible assumption) | assumption) | (have e_ := (Kd.V_reads' HO_132006.out).1; omega))
              obtain ⟨ua135_6, uc135_6, rfl, ul135_6, ge135_6⟩ := k26_openF hMe135
              have hv135_6 := hcc135 6 _ rfl
              rw [add_field _ _ 6 (by omega)] at hv135_6
              replace hv135_6 := Option.some.inj (hv135_6.symm.trans hx135_6)
              injection hv135_6 with hva_ hvn_ hvc_
              rw [hva_] at ge135_6
              rw [hvc_] at ul135_6
              have HL135_6 := Aside0.mk (show Kd.V k26 26 _ w.heap.size _ _ ((rd_T26 l0_6 x10_1).f3) from Kd.V_mk ul135_6 ge135_6)
              clear hva_ hvn_ hvc_ ge135_6 ul135_6
              clear hcc135 hce135
              have HR135_6 := Aside0.mk hi135_6
              have HC135_6 := Aside0.mk hl135_6
              clear hi135_6 hl135_6
              replace p135 := eq_true p135
              replace q135 := eq_true q135
              go_wp2_with (first | ((with_reducible refine gate_callee (f := 79) rfl ?_); refine goesL_ (some 19) rfl rfl Try.func79 (by kernel_rfl) rfl #[.agg #[.int .u8 ((rd_T26 l0_6 x10_1).f0), .int .i64 ((rd_T26 l0_6 x10_1).f1.f0), .int .i64 ((rd_T26 l0_6 x10_1).f1.f1), .int .i64 ((rd_T26 l0_6 x10_1).f1.f2), .int .i64 ((rd_T26 l0_6 x10_1).f1.f3), .int .i64 ((rd_T26 l0_6 x10_1).f2), .slice A135_6 ((rd_T26 l0_6 x10_1).f3).length c135_6]] rfl (by (try simp only [List.map_toArray, List.map_cons, List.map_nil]); first | done | rfl | (simp only [List.length_drop, List.length_take]; rfl)) ?_; (with_reducible refine (ih k1 (by have := HK1.out; omega) ((rd_T26 l0_6 x10_1).f0) ((rd_T26 l0_6 x10_1).f1.f0) ((rd_T26 l0_6 x10_1).f1.f1) ((rd_T26 l0_6 x10_1).f1.f2) ((rd_T26 l0_6 x10_1).f1.f3) ((rd_T26 l0_6 x10_1).f2) (fun k_ => ((P0_6_ k_ ∨ w.heap.size ≤ k_) ∧ (some k_ ≠ (u3 : Value).ownBlock ∧ k_ ≠ gb131))) _ _ ((rd_T26 l0_6 x10_1).f3) t136 _ ?side1 A10.out).mono ?_); (case side1 => exact HL135_6.out); rintro e w13 ⟨v137, rfl, ho0, hb⟩; refine ⟨_, rfl, ?_⟩; have n0_ := Aside0.mk (Kd.N_elder' (by (with_reducible repeat (first | apply Kd.N_alloc | apply Kd.N_drewN | apply Kd.N_drew)); exact HO_3.out) (Kd.N_base ho0) hb); have n1_ := Aside0.mk (Kd.V_elder' (by (with_reducible repeat (first | apply Kd.V_alloc | apply Kd.V_drewN | apply Kd.V_drew)); exact HO_132006.out) (Kd.N_base ho0) hb); have n2_ := Aside0.mk (Kd.V_elder' (by (with_reducible repeat (first | apply Kd.V_alloc | apply Kd.V_drewN | apply Kd.V_drew)); exact HL135_6.out) (Kd.N_base ho0) hb); have n3_ := Aside0.mk (Kd.N_lower (Kd.N_mono (ok' := fun k_ => (P0_6_ k_ ∨ w.heap.size ≤ k_) ∧ some k_ ≠ (u3 : Value).ownBlock ∧ k_ ≠ gb131) ho0 (fun k_ hk_ => ⟨Or.elim hk_ (fun hs_ => hs_.1) (fun hn_ => (.inr (Nat.le_trans (below_size (by repeat (first | (with_reducible first | exact HB.out | apply below_alloc | apply pw_below_drewN | apply below_drew1 | refine below_set ?_ GE131.out) | exact HB.out))) hn_))), Or.elim hk_ (fun hs_ => hs_.2.1) (fun hn_ => (Kd.fresh' (Kd.N_lt (by (with_reducible repeat (first | apply Kd.N_alloc | apply Kd.N_drewN | apply Kd.N_drew)); exact HO_3.out)) k_ hn_)), Or.elim hk_ (fun hs_ => hs_.2.2) (fun hn_ => (Kd.freshB (g := gb131) (o := .cells #[.int .u8 a0_0, .int .i64 a0_1, .int .i64 a0_2, .int .i64 a0_3, .int .i64 a0_4, .int .i64 a0_5, .slice (some ad135) l0_6.length c0_6] 26 (0, 0)) (by (with_reducible repeat (first | refine blk_drewN ?_ _ | refine blk_drew ?_ | refine blk_alloc ?_ _)); exact BK131.out) k_ hn_))⟩)) (below_size (by repeat (first | (with_reducible first | exact HB.out | apply below_alloc | apply pw_below_drewN | apply below_drew1 | refine below_set ?_ GE131.out) | exact HB.out)))); have n4_ := Aside0.mk (blk_below (g := gb131) (o := .cells #[.int .u8 a0_0, .int .i64 a0_1, .int .i64 a0_2, .int .i64 a0_3, .int .i64 a0_4, .int .i64 a0_5, .slice (some ad135) l0_6.length c0_6] 26 (0, 0)) (by (with_reducible repeat (first | refine blk_drewN ?_ _ | refine blk_drew ?_ | refine blk_alloc ?_ _)); exact BK131.out) hb); have n5_ := Aside0.mk (Kd.C_below (by repeat (first | (with_reducible exact HR135_6.out) | (with_reducible refine Kd.C_alloc ?_ _) | (with_reducible refine Kd.C_drewN ?_ _) | (with_reducible refine Kd.C_drew ?_) | exact HR135_6.out)) hb); have n6_ := Aside0.mk (below_step (by repeat (first | (with_reducible first | exact HB.out | apply below_alloc | apply pw_below_drewN | apply below_drew1 | refine below_set ?_ GE131.out) | exact HB.out)) hb); clear HO_3; clear HO_132006; clear HL135_6; clear BK131; clear HR135_6; clear HB; have HO_3 := n0_; have HO_132006 := n1_; have HL135_6 := n2_; have HO138 := n3_; have BK131 := n4_; have HR135_6 := n5_; have HB := n6_; clear n0_ n1_ n2_ n3_ n4_ n5_ n6_; (try clear hb); (try clear hb2); (try clear hk); (try clear hi); (try clear ho0); obtain ⟨Ao15, co15, eo15⟩ := Kd.N_slice HO138.out; subst eo15) | ((with_reducible refine gate_builtin (b := .append) (xs := #[.tmp 13, .tmp 19]) rfl ?_); at_builtin; refine Kd.N_append_rows k26 (w0 := w) w.heap.size rfl (.tmp 13) (.tmp 19) 24 26 (.agg #[(.int .u8 0), (.int .i64 0), (.int .i64 0), (.int .i64 0), (.int .i64 0), (.int .i64 0), (.slice none 0 0)]) 72 rfl Try.underlying24 info26 rfl (by decide) (by omega) u3 x3_1 t136 _ _ _ (fun k_ => (P0_6_ k_ ∨ w.heap.size ≤ k_) ∧ k_ ≠ gb131) (fun k_ => ((fun k_ => (P0_6_ k_ ∨ w.heap.size ≤ k_) ∧ k_ ≠ gb131)) k_ ∧ some k_ ≠ (u3 : Value).ownBlock) rfl rfl ?aO ?aR (fun _ hk => hk) ?aF ?aB ?aS ?aL ?_; (case aR => exact (by skip; exact Kd.N_F (Kd.N_mono (ok' := (fun k_ => ((fun k_ => (P0_6_ k_ ∨ w.heap.size ≤ k_) ∧ k_ ≠ gb131)) k_ ∧ some k_ ≠ (u3 : Value).ownBlock)) (HO138.out) (fun k_ hk => ⟨⟨hk.1, hk.2.2⟩, hk.2.1⟩)))); (case aB => exact (by repeat (first | (with_reducible first | exact HB.out | apply below_alloc | apply pw_below_drewN | apply below_drew1 | refine below_set ?_ GE131.out) | exact HB.out))); (case aF => exact (fun k_ hk => ⟨(.inr (Nat.le_trans (below_size (by repeat (first | (with_reducible first | exact HB.out | apply below_alloc | apply pw_below_drewN | apply below_drew1 | refine below_set ?_ GE131.out) | exact HB.out))) hk)), Kd.freshB (g := gb131) (o := .cells #[.int .u8 a0_0, .int .i64 a0_1, .int .i64 a0_2, .int .i64 a0_3, .int .i64 a0_4, .int .i64 a0_5, .slice (some ad135) l0_6.length c0_6] 26 (0, 0)) (by (with_reducible repeat (first | refine blk_drewN ?_ _ | refine blk_drew ?_ | refine blk_alloc ?_ _)); exact BK131.out) k_ hk⟩)); (case aO => exact (by (with_reducible repeat (first | apply Kd.N_alloc | apply Kd.N_drewN | apply Kd.N_drew)); exact Kd.N_mono HO_3.out (fun _ hk => ⟨hk.1.1, hk.1.2⟩))); (case aS => exact (below_size (by repeat (first | (with_reducible first | exact HB.out | apply below_alloc | apply pw_below_drewN | apply below_drew1 | refine below_set ?_ GE131.out) | exact HB.out)))); (case aL => have := LMc11.out; omega); intro v140 w14 ho hb hg hat; rw [← Ny139.out] at ho; have n0_ := Aside0.mk (Kd.V_afterv (ok := (fun k_ => (P0_6_ k_ ∨ w.heap.size ≤ k_) ∧ some k_ ≠ (.slice Ao15 t136.length co15 : Value).ownBlock ∧ k_ ≠ gb131)) (by (with_reducible repeat (first | apply Kd.V_alloc | apply Kd.V_drewN | apply Kd.V_drew)); exact Kd.V_mono HO_132006.out (fun _ hk => ⟨⟨hk.1.1, ⟨hk.2, hk.1.2.2⟩⟩, hk.1.2.1⟩)) hg hat); have n1_ := Aside0.mk (blk_grown (g := gb131) (o := .cells #[.int .u8 a0_0, .int .i64 a0_1, .int .i64 a0_2, .int .i64 a0_3, .int .i64 a0_4, .int .i64 a0_5, .slice (some ad135) l0_6.length c0_6] 26 (0, 0)) (by (with_reducible repeat (first | refine blk_drewN ?_ _ | refine blk_drew ?_ | refine blk_alloc ?_ _)); exact BK131.out) hg (Kd.N_away HO_3.out (fun _ hk => hk.1.2))); have n2_ := Aside0.mk (Kd.V_afterv (ok := (fun k_ => (P0_6_ k_ ∨ w.heap.size ≤ k_) ∧ some k_ ≠ (.slice Ao15 t136.length co15 : Value).ownBlock ∧ k_ ≠ gb131)) (by (with_reducible repeat (first | apply Kd.V_alloc | apply Kd.V_drewN | apply Kd.V_drew)); exact Kd.V_mono HL135_6.out (fun _ hk => ⟨⟨hk.1.1, ⟨hk.2, hk.1.2.2⟩⟩, hk.1.2.1⟩)) hg hat); have n3_ := Aside0.mk (Kd.N_afterv (ok := (fun k_ => (P0_6_ k_ ∨ w.heap.size ≤ k_) ∧ k_ ≠ gb131)) (by (with_reducible repeat (first | apply Kd.N_alloc | apply Kd.N_drewN | apply Kd.N_drew)); exact Kd.N_mono HO138.out (fun _ hk => ⟨⟨hk.1, hk.2.2⟩, hk.2.1⟩)) hg hat); have n4_ := Aside0.mk (hb); have n5_ := Aside0.mk (ho); clear HO_132006; clear BK131; clear HL135_6; clear HO138; clear HB; clear HO_3; have HO_132006 := n0_; have BK131 := n1_; have HL135_6 := n2_; have HO138 := n3_; have HB := n4_; have HO141 := n5_; clear n0_ n1_ n2_ n3_ n4_ n5_; clear ho hb hg hat))
              go_roundg k1
              case measure => have := HK1.out; omega
              case rel => exact ⟨(y139), (wrap64 (x10_1 + 1)), (by first | rfl | (simp; done) | (simp [*]; done)), H', ⟨by have := HK1.out; omega⟩, ⟨by (with_reducible repeat (first | apply Kd.N_alloc | apply Kd.N_drewN | apply Kd.N_drew)); exact HO141.out⟩, ⟨by (with_reducible repeat (first | apply Kd.V_alloc | apply Kd.V_drewN | apply Kd.V_drew)); exact Kd.V_mono HO_132006.out (fun _ hk => ⟨hk.1.1, ⟨hk.2, hk.1.2.2⟩⟩)⟩, ⟨by (with_reducible repeat (first | refine blk_drewN ?_ _ | refine blk_drew ?_ | refine blk_alloc ?_ _)); exact BK131.out⟩, ⟨by repeat (first | (with_reducible first | exact HB.out | apply below_alloc | apply pw_below_drewN | apply below_drew1 | refine below_set ?_ GE131.out) | exact HB.out)⟩⟩
            · rw [if_neg c11] at H
              exact absurd H (by simp)
          · rw [if_neg c9] at H
            exact absurd H (by simp)
        · rw [if_neg c8] at H
          exact absurd H (by simp)
      · rw [if_neg c7] at H
        have c7b0 : decide (x10_1 < (l0_6.length : Int)) = false := decide_eq_false c7
        clear c7
        obtain rfl := Option.some.inj H
        go_wp2
        go_ret
        exact ⟨_, by first | rfl | (simp [errW_none, errW_some] <;> rfl) | (simp [*, errW_none, errW_some] <;> rfl), by (with_reducible repeat (first | apply Kd.N_alloc | apply Kd.N_drewN | apply Kd.N_drew)); exact Kd.N_mono HO_3.out (fun _ hk => hk.1), by repeat (first | (with_reducible first | exact HB.out | apply below_alloc | apply pw_below_drewN | apply below_drew1 | refine below_set ?_ GE131.out) | exact HB.out)⟩

end Go.Proofs.Ytfdmfgaiblfbhaa.P
namespace Go.Proofs.Ytfdmfgaiblfbhaa.P
open Go.RowKit Go.Proofs.YtfdmfgaiblfbhaaW.PrintWords Go.Proofs.YtfdmfgaiblfbhaaW.PrintLast Go.Proofs.YtfdmfgaiblfbhaaW.PrintMore
attribute [local go_sem] max2_int min2_int max_two min_two max_three min_three max_four min_four   -- for this text's walks alone
set_option linter.unusedVariables false
set_option linter.unusedSimpArgs false

/-! ### sashref05_Leaves: function 126 -/
def sashref05_Leaves.l0 : Nat → List (S26) → List (S26) → Int → Int → Option ((List (S26)))
  | 0, _, _, _, _ => none
  | k + 1, x3, x4, x10, x11 => if x11 < x10 then (if 0 ≤ x11 then (if x11 < (x4.length : Int) then (if ((rd_T26 x4 x11).f0) = 1 then (if x3.length < 1954687338268 then (sashref05_Leaves.l0 k (x3 ++ [(⟨(rd_T26 x4 x11).f0, (⟨(rd_T26 x4 x11).f1.f0, (rd_T26 x4 x11).f1.f1, (rd_T26 x4 x11).f1.f2, (rd_T26 x4 x11).f1.f3⟩ : S23), (rd_T26 x4 x11).f2, (rd_T26 x4 x11).f3⟩ : S26)]) x4 x10 (wrap64 (x11 + 1))) else (none)) else (sashref05_Leaves.l0 k x3 x4 x10 (wrap64 (x11 + 1)))) else (none)) else (none)) else (some x3)
def sashref05_Leaves.f (k : Nat) (a0_0 : Int) (a0_1 : Int) (a0_2 : Int) (a0_3 : Int) (a0_4 : Int) (a0_5 : Int) (l0_6 : List (S26)) : Option ((List (S26))) := (sashref05_All.f k a0_0 a0_1 a0_2 a0_3 a0_4 a0_5 l0_6).bind fun t146 => (sashref05_Leaves.l0 k (([] : List (S26))) t146 (t146.length : Int) 0)
theorem sashref05_Leaves.mono_l : ∀ k, (∀ y0 y1 y2 y3, LeO (sashref05_Leaves.l0 k y0 y1 y2 y3) (sashref05_Leaves.l0 (k + 1) y0 y1 y2 y3))
  | 0 => fun _ _ _ _ r h => by simp [sashref05_Leaves.l0] at h
  | k + 1 => by
    have ih0 := sashref05_Leaves.mono_l k
    · intro y0 y1 y2 y3
      unfold sashref05_Leaves.l0
      repeat' first
      | (with_reducible exact ih0 _ _ _ _)
      | (with_reducible exact sashref05_All.mono _ _ _ _ _ _ _ _)
      | (with_reducible exact LeO.refl _)
      | (with_reducible exact LeO.none _)
      | (with_reducible refine LeO.ite ?_ ?_)
      | (with_reducible refine LeO.bind ?_ (fun _ => ?_))
      | exact ih0 _ _ _ _
      | exact sashref05_All.mono _ _ _ _ _ _ _ _
      | exact LeO.none _
      | refine LeO.ite ?_ ?_
      | refine LeO.bind ?_ (fun _ => ?_)
theorem sashref05_Leaves.mono : ∀ a0 a1 a2 a3 a4 a5 a6 k, LeO (sashref05_Leaves.f k a0 a1 a2 a3 a4 a5 a6) (sashref05_Leaves.f (k + 1) a0 a1 a2 a3 a4 a5 a6) := by
  intro a0 a1 a2 a3 a4 a5 a6 k
  have ih0 := sashref05_Leaves.mono_l k
  unfold sashref05_Leaves.f
  repeat' first
      | (with_reducible exact ih0 _ _ _ _)
      | (with_reducible exact sashref05_All.mono _ _ _ _ _ _ _ _)
      | (with_reducible exact LeO.refl _)
      | (with_reducible exact LeO.none _)
      | (with_reducible refine LeO.ite ?_ ?_)
      | (with_reducible refine LeO.bind ?_ (fun _ => ?_))
      | exact ih0 _ _ _ _
      | exact sashref05_All.mono _ _ _ _ _ _ _ _
      | exact LeO.none _
      | refine LeO.ite ?_ ?_
      | refine LeO.bind ?_ (fun _ => ?_)
set_option maxHeartbeats 8000000 in
set_option maxRecDepth 100000 in
theorem sashref05_Leaves.calls (k : Nat) (a0_0 : Int) (a0_1 : Int) (a0_2 : Int) (a0_3 : Int) (a0_4 : Int) (a0_5 : Int) (P0_6_ : Nat → Prop) (A0_6 : Option Addr) (c0_6 : Nat) (l0_6 : List (S26)) (r : List (S26)) (w : World) (hs0_6 : Kd.V k26 26 w w.heap.size (fun k_ => P0_6_ k_) (.slice A0_6 l0_6.length c0_6) l0_6) (h : sashref05_Leaves.f k a0_0 a0_1 a0_2 a0_3 a0_4 a0_5 l0_6 = some r) :
    Calls Try.prog 126 #[.agg #[.int .u8 a0_0, .int .i64 a0_1, .int .i64 a0_2, .int .i64 a0_3, .int .i64 a0_4, .int .i64 a0_5, .slice A0_6 l0_6.length c0_6]] w fun e w' => ∃ v0_ : Value, e = .returned (v0_) ∧ Kd.N k26 26 w' w.heap.size (fun k_ => (P0_6_ k_ ∨ w.heap.size ≤ k_)) v0_ r ∧ Below w.heap.size w w' := by
  have hu26 := Try.underlying26
  have HO0_6 := Aside0.mk (show Kd.V k26 26 w w.heap.size (fun k_ => (P0_6_ k_ ∨ w.heap.size ≤ k_)) (.slice A0_6 l0_6.length c0_6) l0_6 from Kd.V_mono hs0_6 (fun k_ hk => .inl hk))
  have HB := Aside0.mk (Below.refl w.heap.size w)
  have H : ((sashref05_All.f k a0_0 a0_1 a0_2 a0_3 a0_4 a0_5 l0_6).bind fun t146 => (sashref05_Leaves.l0 k (([] : List (S26))) t146 (t146.length : Int) 0)) = some r := h
  clear h
  obtain ⟨y143, hy143⟩ : ∃ y_ : List (S26), y_ = (([] : List (S26))) := ⟨_, rfl⟩
  replace H : ((sashref05_All.f k a0_0 a0_1 a0_2 a0_3 a0_4 a0_5 l0_6).bind fun t146 => (sashref05_Leaves.l0 k y143 t146 (t146.length : Int) 0)) = some r := by first | (rw [hy143]; with_reducible exact H) | (have H2_ := (Option.bind_some _ _).symm.trans H; rw [hy143]; with_reducible exact H2_) | (have H2_ := (Option.bind_some _ _).symm.trans H; with_reducible exact H2_) | with_reducible exact H | (rw [hy143]; exact H) | exact H
  have Ny143 := Aside0.mk hy143
  clear hy143
  replace H := Option.bind_eq_some_iff.mp H
  obtain ⟨t146, A20, H⟩ := H
  replace H : (sashref05_Leaves.l0 k y143 t146 (t146.length : Int) 0) = some r := H
  have A2 := Aside0.mk A20
  clear A20
  have H' := Aside0.mk H
  clear H
  go_enter Try.func126, Try.ntmps126
  go_wp2_with (first | ((with_reducible refine gate_dst (N := 1) rfl ?_); refine box_event ?hg (N := 1) ?hd (cs := #[.int .u8 a0_0, .int .i64 a0_1, .int .i64 a0_2, .int .i64 a0_3, .int .i64 a0_4, .int .i64 a0_5, .slice A0_6 l0_6.length c0_6]) (t := 26) ?hr ?_; (case hd => rfl); (case hg => rfl); (case hr => first | (go_simp; done) | (go_simp; rfl)); intro gb142 hg w3 hbox hb; have n0_ := Aside0.mk (Kd.V_below (Kd.V_elderB (by (with_reducible repeat (first | apply Kd.V_alloc | apply Kd.V_drewN | apply Kd.V_drew)); exact HO0_6.out) gb142 (Nat.le_of_eq hg.symm)) hb); have n1_ := Aside0.mk (below_step (by repeat (first | (with_reducible first | exact HB.out | apply below_alloc | apply pw_below_drewN | apply below_drew1) | exact HB.out)) hb); have n2_ := Aside0.mk (hbox); have n3_ := Aside0.mk ((by rw [hg]; exact (below_size (by repeat (first | (with_reducible first | exact HB.out | apply below_alloc | apply pw_below_drewN | apply below_drew1) | exact HB.out))) : w.heap.size ≤ gb142)); have n4_ := Aside0.mk ((by rw [hg]; exact (below_size (by repeat (first | (with_reducible first | exact HB.out | apply below_alloc | apply pw_below_drewN | apply below_drew1) | exact HB.out))) : w.heap.size ≤ gb142)); clear HO0_6; clear HB; have HO0_6 := n0_; have HB := n1_; have BK142 := n2_; have GW142 := n3_; have GE142 := n4_; clear n0_ n1_ n2_ n3_ n4_; clear hb hbox hg) | ((with_reducible refine gate_dst (N := 6) rfl ?_); refine Kd.N_lit k26 _ 26 ?hg (N' := 6) ?hd (xs := ([] : List (S26))) (inner := []) (ok := (fun k_ => (P0_6_ k_ ∨ w.heap.size ≤ k_) ∧ k_ ≠ gb142)) (okp := (fun k_ => (P0_6_ k_ ∨ w.heap.size ≤ k_) ∧ k_ ≠ gb142)) ?hr ?hp (fun _ hk => hk) ((show ∀ k_, w3.heap.size ≤ k_ → (fun k_ => (P0_6_ k_ ∨ w.heap.size ≤ k_) ∧ k_ ≠ gb142) k_ from fun k_ hk => ⟨(.inr (Nat.le_trans (below_size (by repeat (first | (with_reducible first | exact HB.out | apply below_alloc | apply pw_below_drewN | apply below_drew1 | refine below_set ?_ GE142.out) | exact HB.out))) hk)), Kd.freshB (g := gb142) (o := .cells #[.int .u8 a0_0, .int .i64 a0_1, .int .i64 a0_2, .int .i64 a0_3, .int .i64 a0_4, .int .i64 a0_5, .slice A0_6 l0_6.length c0_6] 26 (0, 0)) (by (with_reducible repeat (first | refine blk_drewN ?_ _ | refine blk_drew ?_ | refine blk_alloc ?_ _)); exact BK142.out) k_ hk⟩) _ (Nat.le_refl _)) (Below.refl _ _) (Nat.le_refl _) (by simp) ?_; (case hd => rfl); (case hg => rfl); (case hr => first | (go_simp; done) | (go_simp; rfl)); (case hp => exact (Reps.none _ _)); intro v144 w4 ho5 hb hg_ hnew_; clear hg_ hnew_; (first | rw [← Ny143.out] at ho5 | (simp only [Int.reduceToNat] at ho5; rw [← Ny143.out] at ho5)); have n0_ := Aside0.mk (Kd.V_elder' (by (with_reducible repeat (first | apply Kd.V_alloc | apply Kd.V_drewN | apply Kd.V_drew)); exact HO0_6.out) (Kd.N_base ho5) hb); have n1_ := Aside0.mk (Kd.N_lower ho5 (below_size (by repeat (first | (with_reducible first | exact HB.out | apply below_alloc | apply pw_below_drewN | apply below_drew1 | refine below_set ?_ GE142.out) | exact HB.out)))); have n2_ := Aside0.mk (blk_below (g := gb142) (o := .cells #[.int .u8 a0_0, .int .i64 a0_1, .int .i64 a0_2, .int .i64 a0_3, .int .i64 a0_4, .int .i64 a0_5, .slice A0_6 l0_6.length c0_6] 26 (0, 0)) (by (with_reducible repeat (first | refine blk_drewN ?_ _ | refine blk_drew ?_ | refine blk_alloc ?_ _)); exact BK142.out) hb); have n3_ := Aside0.mk (below_step (by repeat (first | (with_reducible first | exact HB.out | apply below_alloc | apply pw_below_drewN | apply below_drew1 | refine below_set ?_ GE142.out) | exact HB.out)) hb); clear HO0_6; clear BK142; clear HB; have HO0_6 := n0_; have HO145 := n1_; have BK142 := n2_; have HB := n3_; clear n0_ n1_ n2_ n3_; clear hb ho5; have hcz6_0 : w4.cell? ⟨gb142, 0, none⟩ = some (.int .u8 a0_0) := (blk_cell BK142.out 0).trans rfl; have hcz6_1 : w4.cell? ⟨gb142, 1, none⟩ = some (.int .i64 a0_1) := (blk_cell BK142.out 1).trans rfl; have hcz6_2 : w4.cell? ⟨gb142, 2, none⟩ = some (.int .i64 a0_2) := (blk_cell BK142.out 2).trans rfl; have hcz6_3 : w4.cell? ⟨gb142, 3, none⟩ = some (.int .i64 a0_3) := (blk_cell BK142.out 3).trans rfl; have hcz6_4 : w4.cell? ⟨gb142, 4, none⟩ = some (.int .i64 a0_4) := (blk_cell BK142.out 4).trans rfl; have hcz6_5 : w4.cell? ⟨gb142, 5, none⟩ = some (.int .i64 a0_5) := (blk_cell BK142.out 5).trans rfl; have hcz6_6 : w4.cell? ⟨gb142, 6, none⟩ = some (.slice A0_6 l0_6.length c0_6) := (blk_cell BK142.out 6).trans rfl; have hfz6_0 := blk_frozen BK142.out 0; have hfz6_1 := blk_frozen BK142.out 1; have hfz6_2 := blk_frozen BK142.out 2; have hfz6_3 := blk_frozen BK142.out 3; have hfz6_4 := blk_frozen BK142.out 4; have hfz6_5 := blk_frozen BK142.out 5; have hfz6_6 := blk_frozen BK142.out 6) | ((with_reducible refine gate_callee (f := 79) rfl ?_); refine goesL_ (some 8) rfl rfl Try.func79 (by kernel_rfl) rfl #[.agg #[.int .u8 a0_0, .int .i64 a0_1, .int .i64 a0_2, .int .i64 a0_3, .int .i64 a0_4, .int .i64 a0_5, .slice A0_6 l0_6.length c0_6]] rfl (by (try simp only [List.map_toArray, List.map_cons, List.map_nil]); first | done | rfl | (simp only [List.length_drop, List.length_take]; rfl)) ?_; (with_reducible refine (sashref05_All.calls k a0_0 a0_1 a0_2 a0_3 a0_4 a0_5 (fun k_ => (((P0_6_ k_ ∨ w.heap.size ≤ k_) ∧ k_ ≠ gb142) ∧ some k_ ≠ (v144 : Value).ownBlock)) _ _ l0_6 t146 _ ?side1 A2.out).mono ?_); (case side1 => exact HO0_6.out); rintro e w7 ⟨v147, rfl, ho0, hb⟩; refine ⟨_, rfl, ?_⟩; have n0_ := Aside0.mk (Kd.V_elder' (by (with_reducible repeat (first | apply Kd.V_alloc | apply Kd.V_drewN | apply Kd.V_drew)); exact HO0_6.out) (Kd.N_base ho0) hb); have n1_ := Aside0.mk (Kd.N_elder' (by (with_reducible repeat (first | apply Kd.N_alloc | apply Kd.N_drewN | apply Kd.N_drew)); exact HO145.out) (Kd.N_base ho0) hb); have n2_ := Aside0.mk (Kd.N_lower (Kd.N_mono (ok' := fun k_ => (P0_6_ k_ ∨ w.heap.size ≤ k_) ∧ some k_ ≠ (v144 : Value).ownBlock ∧ k_ ≠ gb142) ho0 (fun k_ hk_ => ⟨Or.elim hk_ (fun hs_ => hs_.1.1) (fun hn_ => (.inr (Nat.le_trans (below_size (by repeat (first | (with_reducible first | exact HB.out | apply below_alloc | apply pw_below_drewN | apply below_drew1 | refine below_set ?_ GE142.out) | exact HB.out))) hn_))), Or.elim hk_ (fun hs_ => hs_.2) (fun hn_ => (Kd.fresh' (Kd.N_lt (by (with_reducible repeat (first | apply Kd.N_alloc | apply Kd.N_drewN | apply Kd.N_drew)); exact HO145.out)) k_ hn_)), Or.elim hk_ (fun hs_ => hs_.1.2) (fun hn_ => (Kd.freshB (g := gb142) (o := .cells #[.int .u8 a0_0, .int .i64 a0_1, .int .i64 a0_2, .int .i64 a0_3, .int .i64 a0_4, .int .i64 a0_5, .slice A0_6 l0_6.length c0_6] 26 (0, 0)) (by (with_reducible repeat (first | refine blk_drewN ?_ _ | refine blk_drew ?_ | refine blk_alloc ?_ _)); exact BK142.out) k_ hn_))⟩)) (below_size (by repeat (first | (with_reducible first | exact HB.out | apply below_alloc | apply pw_below_drewN | apply below_drew1 | refine below_set ?_ GE142.out) | exact HB.out)))); have n3_ := Aside0.mk (blk_below (g := gb142) (o := .cells #[.int .u8 a0_0, .int .i64 a0_1, .int .i64 a0_2, .int .i64 a0_3, .int .i64 a0_4, .int .i64 a0_5, .slice A0_6 l0_6.length c0_6] 26 (0, 0)) (by (with_reducible repeat (first | refine blk_drewN ?_ _ | refine blk_drew ?_ | refine blk_alloc ?_ _)); exact BK142.out) hb); have n4_ := Aside0.mk (below_step (by repeat (first | (with_reducible first | exact HB.out | apply below_alloc | apply pw_below_drewN | apply below_drew1 | refine below_set ?_ GE142.out) | exact HB.out)) hb); clear HO0_6; clear HO145; clear BK142; clear HB; have HO0_6 := n0_; have HO145 := n1_; have HO148 := n2_; have BK142 := n3_; have HB := n4_; clear n0_ n1_ n2_ n3_ n4_; (try clear hb); (try clear hb2); (try clear hk); (try clear hi); (try clear ho0); obtain ⟨Ao8, co8, eo8⟩ := Kd.N_slice HO148.out; subst eo8))
  go_loopg [3, 11] k (fun kq v3 v11 w' => ∃ (x3_1 : List (S26)) (x11_1 : Int), v11 = .int .i64 x11_1 ∧ Aside0 (sashref05_Leaves.l0 kq x3_1 t146 (t146.length : Int) x11_1 = some r) ∧ Aside0 (kq ≤ k) ∧ Aside0 (Kd.N k26 26 w' w.heap.size (fun k_ => (P0_6_ k_ ∨ w.heap.size ≤ k_) ∧ some k_ ≠ ((.slice Ao8 t146.length co8) : Value).ownBlock ∧ k_ ≠ gb142) v3 x3_1) ∧ Aside0 (Kd.N k26 26 w' w.heap.size (fun k_ => (P0_6_ k_ ∨ w.heap.size ≤ k_) ∧ some k_ ≠ (v3 : Value).ownBlock ∧ k_ ≠ gb142) (.slice Ao8 t146.length co8) t146) ∧ Aside0 (Kd.V k26 26 w' w.heap.size (fun k_ => (P0_6_ k_ ∨ w.heap.size ≤ k_) ∧ some k_ ≠ (v3 : Value).ownBlock ∧ some k_ ≠ ((.slice Ao8 t146.length co8) : Value).ownBlock ∧ k_ ≠ gb142) (.slice A0_6 l0_6.length c0_6) l0_6) ∧ Aside0 (w'.heap[gb142]? = some (.cells #[.int .u8 a0_0, .int .i64 a0_1, .int .i64 a0_2, .int .i64 a0_3, .int .i64 a0_4, .int .i64 a0_5, (.slice A0_6 l0_6.length c0_6)] 26 (0, 0))) ∧ Aside0 (Below w.heap.size w w'))
  case atStart => exact ⟨(y143), (0), (by first | rfl | (simp; done) | (simp [*]; done)), H', ⟨Nat.le_refl _⟩, ⟨by (with_reducible repeat (first | apply Kd.N_alloc | apply Kd.N_drewN | apply Kd.N_drew)); exact Kd.N_mono HO145.out (fun _ hk => ⟨hk.1.1, ⟨hk.2, hk.1.2⟩⟩)⟩, ⟨by (with_reducible repeat (first | apply Kd.N_alloc | apply Kd.N_drewN | apply Kd.N_drew)); exact HO148.out⟩, ⟨by (with_reducible repeat (first | apply Kd.V_alloc | apply Kd.V_drewN | apply Kd.V_drew)); exact Kd.V_mono HO0_6.out (fun _ hk => ⟨hk.1.1.1, ⟨hk.1.2, ⟨hk.2, hk.1.1.2⟩⟩⟩)⟩, ⟨by (with_reducible repeat (first | refine blk_drewN ?_ _ | refine blk_drew ?_ | refine blk_alloc ?_ _)); exact BK142.out⟩, ⟨by repeat (first | (with_reducible first | exact HB.out | apply below_alloc | apply pw_below_drewN | apply below_drew1 | refine below_set ?_ GE142.out) | exact HB.out)⟩⟩
  case round =>
    clear H'
    try clear c1
    try clear p2
    try clear c7
    try clear hcz6_0
    try clear hcz6_1
    try clear hcz6_2
    try clear hcz6_3
    try clear hcz6_4
    try clear hcz6_5
    try clear hcz6_6
    try clear hfz6_0
    try clear hfz6_1
    try clear hfz6_2
    try clear hfz6_3
    try clear hfz6_4
    try clear hfz6_5
    try clear hfz6_6
    obtain ⟨x3_1, x11_1, rfl, HA, HK1, HO_3, HO_4, HO_143006, BK142, HB⟩ := hrel
    cases gk with
    | zero => exact absurd HA.out (by simp [sashref05_Leaves.l0])
    | succ k1 =>
      have H := HA.out
      clear HA
      simp only [sashref05_Leaves.l0] at H
      by_cases c9 : x11_1 < (t146.length : Int)
      · rw [if_pos c9] at H
        have c9b0 : decide (x11_1 < (t146.length : Int)) = true := decide_eq_true c9
        clear c9
        by_cases c10 : 0 ≤ x11_1
        · rw [if_pos c10] at H
          have c10b0 : decide (0 ≤ x11_1) = true := decide_eq_true c10
          clear c10
          by_cases c11 : x11_1 < (t146.length : Int)
          · rw [if_pos c11] at H
            have c11b0 : decide (x11_1 < (t146.length : Int)) = true := decide_eq_true c11
            clear c11
            by_cases c12 : ((rd_T26 t146 x11_1).f0) = 1
            · rw [if_pos c12] at H
              have c12b0 : (((rd_T26 t146 x11_1).f0) == 1) = true := beq_iff_eq.mpr c12
              have c12b1 : (((rd_T26 t146 x11_1).f0) != 1) = false := bne_eq_false_iff_eq.mpr c12
              clear c12
              by_cases c13 : x3_1.length < 1954687338268
              · rw [if_pos c13] at H
                have LMc13 := Aside0.mk c13
                clear c13
                obtain ⟨y151, hy151⟩ : ∃ y_ : List (S26), y_ = (x3_1 ++ [(⟨(rd_T26 t146 x11_1).f0, (⟨(rd_T26 t146 x11_1).f1.f0, (rd_T26 t146 x11_1).f1.f1, (rd_T26 t146 x11_1).f1.f2, (rd_T26 t146 x11_1).f1.f3⟩ : S23), (rd_T26 t146 x11_1).f2, (rd_T26 t146 x11_1).f3⟩ : S26)]) := ⟨_, rfl⟩
                replace H : (sashref05_Leaves.l0 k1 y151 t146 (t146.length : Int) (wrap64 (x11_1 + 1))) = some r := by first | (rw [hy151]; with_reducible exact H) | (have H2_ := (Option.bind_some _ _).symm.trans H; rw [hy151]; with_reducible exact H2_) | (have H2_ := (Option.bind_some _ _).symm.trans H; with_reducible exact H2_) | with_reducible exact H | (rw [hy151]; exact H) | exact H
                have Ny151 := Aside0.mk hy151
                clear hy151
                have H' := Aside0.mk H
                clear H
                have p149 : 0 ≤ (x11_1 : Int) := of_decide_eq_true (by first | (with_reducible assumption) | assumption)
                have q149 : x11_1 < (t146.length : Int) := of_decide_eq_true (by first | (with_reducible assumption) | assumption)
                obtain ⟨ad149, A149_6, c149_6, e149, hx149_0, hx149_1, hx149_2, hx149_3, hx149_4, hx149_5, hx149_6, hl149_6, hi149_6⟩ := at_T26 (Kd.N_reads' HO_4.out).2.2 x11_1 p149 q149
                cases e149
                obtain ⟨ce149, hce149, hMe149, hcc149⟩ := Kd.N_get HO_4.out z26 x11_1 p149 (by first | exact q149 | exact of_decide_eq_true (by first | (with_reducible assumption) | assumption) | (have e_ := (Kd.N_reads' HO_4.out).1; omega))
                obtain ⟨ua149_6, uc149_6, rfl, ul149_6, ge149_6⟩ := k26_openF hMe149
                have hv149_6 := hcc149 6 _ rfl
                rw [add_field _ _ 6 (by omega)] at hv149_6
                replace hv149_6 := Option.some.inj (hv149_6.symm.trans hx149_6)
                injection hv149_6 with hva_ hvn_ hvc_
                rw [hva_] at ge149_6
                rw [hvc_] at ul149_6
                have HL149_6 := Aside0.mk (show Kd.V k26 26 _ w.heap.size _ _ ((rd_T26 t146 x11_1).f3) from Kd.V_mk ul149_6 ge149_6)
                clear hva_ hvn_ hvc_ ge149_6 ul149_6
                clear hcc149 hce149
                have HR149_6 := Aside0.mk hi149_6
                have HC149_6 := Aside0.mk hl149_6
                clear hi149_6 hl149_6
                replace p149 := eq_true p149
                replace q149 := eq_true q149
                have p150 : 0 ≤ (x11_1 : Int) := of_decide_eq_true (by first | (with_reducible assumption) | assumption)
                have q150 : x11_1 < (t146.length : Int) := of_decide_eq_true (by first | (with_reducible assumption) | assumption)
                obtain ⟨ad150, A150_6, c150_6, e150, hx150_0, hx150_1, hx150_2, hx150_3, hx150_4, hx150_5, hx150_6, hl150_6, hi150_6⟩ := at_T26 (Kd.N_reads' HO_4.out).2.2 x11_1 p150 q150
                obtain rfl : ad149 = ad150 := (by injection e150)
                obtain ⟨ce150, hce150, hMe150, hcc150⟩ := Kd.N_get HO_4.out z26 x11_1 p150 (by first | exact q150 | exact of_decide_eq_true (by first | (with_reducible assumption) | assumption) | (have e_ := (Kd.N_reads' HO_4.out).1; omega))
                obtain ⟨ua150_6, uc150_6, rfl, ul150_6, ge150_6⟩ := k26_openF hMe150
                have hv150_6 := hcc150 6 _ rfl
                rw [add_field _ _ 6 (by omega)] at hv150_6
                replace hv150_6 := Option.some.inj (hv150_6.symm.trans hx150_6)
                injection hv150_6 with hva_ hvn_ hvc_
                rw [hva_] at ge150_6
                rw [hvc_] at ul150_6
                have HL150_6 := Aside0.mk (show Kd.V k26 26 _ w.heap.size _ _ ((rd_T26 t146 x11_1).f3) from Kd.V_mk ul150_6 ge150_6)
                clear hva_ hvn_ hvc_ ge150_6 ul150_6
                clear hcc150 hce150
                have HR150_6 := Aside0.mk hi150_6
                have HC150_6 := Aside0.mk hl150_6
                clear hi150_6 hl150_6
                replace p150 := eq_true p150
                replace q150 := eq_true q150
                have ea_ := Option.some.inj (hx149_6.symm.trans hx150_6)
                injection ea_ with ea_ en_ ec_
                subst ea_
                subst ec_
                clear en_
                go_wp2_with (first | ((with_reducible refine gate_builtin (b := .append) (xs := #[.tmp 20, .tmp 25]) rfl ?_); at_builtin; refine Kd.N_append k26 (w0 := w) w.heap.size rfl (.tmp 20) (.tmp 25) 24 26 (.agg #[(.int .u8 0), (.int .i64 0), (.int .i64 0), (.int .i64 0), (.int .i64 0), (.int .i64 0), (.slice none 0 0)]) 72 rfl Try.underlying24 info26 rfl (by decide) (by omega) u3 x3_1 (⟨(rd_T26 t146 x11_1).f0, (⟨(rd_T26 t146 x11_1).f1.f0, (rd_T26 t146 x11_1).f1.f1, (rd_T26 t146 x11_1).f1.f2, (rd_T26 t146 x11_1).f1.f3⟩ : S23), (rd_T26 t146 x11_1).f2, (rd_T26 t146 x11_1).f3⟩ : S26) [.int .u8 ((rd_T26 t146 x11_1).f0), .int .i64 ((rd_T26 t146 x11_1).f1.f0), .int .i64 ((rd_T26 t146 x11_1).f1.f1), .int .i64 ((rd_T26 t146 x11_1).f1.f2), .int .i64 ((rd_T26 t146 x11_1).f1.f3), .int .i64 ((rd_T26 t146 x11_1).f2), .slice A149_6 ((rd_T26 t146 x11_1).f3).length c149_6] (fun k_ => (P0_6_ k_ ∨ w.heap.size ≤ k_) ∧ some k_ ≠ (.slice (some ad149) t146.length co8 : Value).ownBlock ∧ k_ ≠ gb142) (fun k_ => ((fun k_ => (P0_6_ k_ ∨ w.heap.size ≤ k_) ∧ some k_ ≠ (.slice (some ad149) t146.length co8 : Value).ownBlock ∧ k_ ≠ gb142)) k_ ∧ some k_ ≠ (u3 : Value).ownBlock) rfl rfl ?aP (fun _ hk => hk) ?aF ?aO ?aB ?aS ?aL ?_; (case aP => exact (k26_mkF _ _ (⟨(rd_T26 t146 x11_1).f0, (⟨(rd_T26 t146 x11_1).f1.f0, (rd_T26 t146 x11_1).f1.f1, (rd_T26 t146 x11_1).f1.f2, (rd_T26 t146 x11_1).f1.f3⟩ : S23), (rd_T26 t146 x11_1).f2, (rd_T26 t146 x11_1).f3⟩ : S26) (Kd.V_reads' (Kd.V_mono (ok' := (fun k_ => ((fun k_ => (P0_6_ k_ ∨ w.heap.size ≤ k_) ∧ some k_ ≠ (.slice (some ad149) t146.length co8 : Value).ownBlock ∧ k_ ≠ gb142)) k_ ∧ some k_ ≠ (u3 : Value).ownBlock)) (HL150_6.out) (fun k_ hk => ⟨⟨hk.1.1, ⟨hk.2, hk.1.2.2⟩⟩, hk.1.2.1⟩))).2.1 (Kd.V_F (Kd.V_mono (ok' := (fun k_ => ((fun k_ => (P0_6_ k_ ∨ w.heap.size ≤ k_) ∧ some k_ ≠ (.slice (some ad149) t146.length co8 : Value).ownBlock ∧ k_ ≠ gb142)) k_ ∧ some k_ ≠ (u3 : Value).ownBlock)) (HL150_6.out) (fun k_ hk => ⟨⟨hk.1.1, ⟨hk.2, hk.1.2.2⟩⟩, hk.1.2.1⟩))))); (case aB => exact (by repeat (first | (with_reducible first | exact HB.out | apply below_alloc | apply pw_below_drewN | apply below_drew1 | refine below_set ?_ GE142.out) | exact HB.out))); (case aF => exact (fun k_ hk => ⟨(.inr (Nat.le_trans (below_size (by repeat (first | (with_reducible first | exact HB.out | apply below_alloc | apply pw_below_drewN | apply below_drew1 | refine below_set ?_ GE142.out) | exact HB.out))) hk)), Kd.fresh' (Kd.N_lt (by (with_reducible repeat (first | apply Kd.N_alloc | apply Kd.N_drewN | apply Kd.N_drew)); exact HO_4.out)) k_ hk, Kd.freshB (g := gb142) (o := .cells #[.int .u8 a0_0, .int .i64 a0_1, .int .i64 a0_2, .int .i64 a0_3, .int .i64 a0_4, .int .i64 a0_5, .slice A0_6 l0_6.length c0_6] 26 (0, 0)) (by (with_reducible repeat (first | refine blk_drewN ?_ _ | refine blk_drew ?_ | refine blk_alloc ?_ _)); exact BK142.out) k_ hk⟩)); (case aO => exact (by (with_reducible repeat (first | apply Kd.N_alloc | apply Kd.N_drewN | apply Kd.N_drew)); exact HO_3.out)); (case aS => exact (below_size (by repeat (first | (with_reducible first | exact HB.out | apply below_alloc | apply pw_below_drewN | apply below_drew1 | refine below_set ?_ GE142.out) | exact HB.out)))); (case aL => have := LMc13.out; omega); intro v152 w14 ho hb hg hat; rw [← Ny151.out] at ho; have n0_ := Aside0.mk (Kd.N_afterv (ok := (fun k_ => (P0_6_ k_ ∨ w.heap.size ≤ k_) ∧ k_ ≠ gb142)) (by (with_reducible repeat (first | apply Kd.N_alloc | apply Kd.N_drewN | apply Kd.N_drew)); exact Kd.N_mono HO_4.out (fun _ hk => ⟨⟨hk.1, hk.2.2⟩, hk.2.1⟩)) hg hat); have n1_ := Aside0.mk (Kd.V_afterv (ok := (fun k_ => (P0_6_ k_ ∨ w.heap.size ≤ k_) ∧ some k_ ≠ (.slice (some ad149) t146.length co8 : Value).ownBlock ∧ k_ ≠ gb142)) (by (with_reducible repeat (first | apply Kd.V_alloc | apply Kd.V_drewN | apply Kd.V_drew)); exact Kd.V_mono HO_143006.out (fun _ hk => ⟨⟨hk.1, ⟨hk.2.2.1, hk.2.2.2⟩⟩, hk.2.1⟩)) hg hat); have n2_ := Aside0.mk (blk_grown (g := gb142) (o := .cells #[.int .u8 a0_0, .int .i64 a0_1, .int .i64 a0_2, .int .i64 a0_3, .int .i64 a0_4, .int .i64 a0_5, .slice A0_6 l0_6.length c0_6] 26 (0, 0)) (by (with_reducible repeat (first | refine blk_drewN ?_ _ | refine blk_drew ?_ | refine blk_alloc ?_ _)); exact BK142.out) hg (Kd.N_away HO_3.out (fun _ hk => hk.2.2))); have n3_ := Aside0.mk (Kd.V_afterv (ok := (fun k_ => (P0_6_ k_ ∨ w.heap.size ≤ k_) ∧ some k_ ≠ (.slice (some ad149) t146.length co8 : Value).ownBlock ∧ k_ ≠ gb142)) (by (with_reducible repeat (first | apply Kd.V_alloc | apply Kd.V_drewN | apply Kd.V_drew)); exact Kd.V_mono HL149_6.out (fun _ hk => ⟨⟨hk.1.1, ⟨hk.2, hk.1.2.2⟩⟩, hk.1.2.1⟩)) hg hat); have n4_ := Aside0.mk (Kd.V_afterv (ok := (fun k_ => (P0_6_ k_ ∨ w.heap.size ≤ k_) ∧ some k_ ≠ (.slice (some ad149) t146.length co8 : Value).ownBlock ∧ k_ ≠ gb142)) (by (with_reducible repeat (first | apply Kd.V_alloc | apply Kd.V_drewN | apply Kd.V_drew)); exact Kd.V_mono HL150_6.out (fun _ hk => ⟨⟨hk.1.1, ⟨hk.2, hk.1.2.2⟩⟩, hk.1.2.1⟩)) hg hat); have n5_ := Aside0.mk (hb); have n6_ := Aside0.mk (ho); clear HO_4; clear HO_143006; clear BK142; clear HL149_6; clear HL150_6; clear HB; clear HO_3; have HO_4 := n0_; have HO_143006 := n1_; have BK142 := n2_; have HL149_6 := n3_; have HL150_6 := n4_; have HB := n5_; have HO153 := n6_; clear n0_ n1_ n2_ n3_ n4_ n5_ n6_; clear ho hb hg hat))
                go_roundg k1
                case measure => have := HK1.out; omega
                case rel => exact ⟨(y151), (wrap64 (x11_1 + 1)), (by first | rfl | (simp; done) | (simp [*]; done)), H', ⟨by have := HK1.out; omega⟩, ⟨by (with_reducible repeat (first | apply Kd.N_alloc | apply Kd.N_drewN | apply Kd.N_drew)); exact HO153.out⟩, ⟨by (with_reducible repeat (first | apply Kd.N_alloc | apply Kd.N_drewN | apply Kd.N_drew)); exact Kd.N_mono HO_4.out (fun _ hk => ⟨hk.1.1, ⟨hk.2, hk.1.2⟩⟩)⟩, ⟨by (with_reducible repeat (first | apply Kd.V_alloc | apply Kd.V_drewN | apply Kd.V_drew)); exact Kd.V_mono HO_143006.out (fun _ hk => ⟨hk.1.1, ⟨hk.2, ⟨hk.1.2.1, hk.1.2.2⟩⟩⟩)⟩, ⟨by (with_reducible repeat (first | refine blk_drewN ?_ _ | refine blk_drew ?_ | refine blk_alloc ?_ _)); exact BK142.out⟩, ⟨by repeat (first | (with_reducible first | exact HB.out | apply below_alloc | apply pw_below_drewN | apply below_drew1 | refine below_set ?_ GE142.out) | exact HB.out)⟩⟩
              · rw [if_neg c13] at H
                exact absurd H (by simp)
            · rw [if_neg c12] at H
              have c12b0 : (((rd_T26 t146 x11_1).f0) == 1) = false := beq_eq_false_iff_ne.mpr c12
              have c12b1 : (((rd_T26 t146 x11_1).f0) != 1) = true := bne_iff_ne.mpr c12
              have H' := Aside0.mk H
              clear H
              have p149 : 0 ≤ (x11_1 : Int) := of_decide_eq_true (by first | (with_reducible assumption) | assumption)
              have q149 : x11_1 < (t146.length : Int) := of_decide_eq_true (by first | (with_reducible assumption) | assumption)
              obtain ⟨ad149, A149_6, c149_6, e149, hx149_0, hx149_1, hx149_2, hx149_3, hx149_4, hx149_5, hx149_6, hl149_6, hi149_6⟩ := at_T26 (Kd.N_reads' HO_4.out).2.2 x11_1 p149 q149
              cases e149
              obtain ⟨ce149, hce149, hMe149, hcc149⟩ := Kd.N_get HO_4.out z26 x11_1 p149 (by first | exact q149 | exact of_decide_eq_true (by first | (with_reducible assumption) | assumption) | (have e_ := (Kd.N_reads' HO_4.out).1; omega))
              obtain ⟨ua149_6, uc149_6, rfl, ul149_6, ge149_6⟩ := k26_openF hMe149
              have hv149_6 := hcc149 6 _ rfl
              rw [add_field _ _ 6 (by omega)] at hv149_6
              replace hv149_6 := Option.some.inj (hv149_6.symm.trans hx149_6)
              injection hv149_6 with hva_ hvn_ hvc_
              rw [hva_] at ge149_6
              rw [hvc_] at ul149_6
              have HL149_6 := Aside0.mk (show Kd.V k26 26 _ w.heap.size _ _ ((rd_T26 t146 x11_1).f3) from Kd.V_mk ul149_6 ge149_6)
              clear hva_ hvn_ hvc_ ge149_6 ul149_6
              clear hcc149 hce149
              have HR149_6 := Aside0.mk hi149_6
              have HC149_6 := Aside0.mk hl149_6
              clear hi149_6 hl149_6
              replace p149 := eq_true p149
              replace q149 := eq_true q149
              go_wp2
              go_roundg k1
              case measure => have := HK1.out; omega
              case rel => exact ⟨(x3_1), (wrap64 (x11_1 + 1)), (by first | rfl | (simp; done) | (simp [*]; done)), H', ⟨by have := HK1.out; omega⟩, ⟨by (with_reducible repeat (first | apply Kd.N_alloc | apply Kd.N_drewN | apply Kd.N_drew)); exact HO_3.out⟩, ⟨by (with_reducible repeat (first | apply Kd.N_alloc | apply Kd.N_drewN | apply Kd.N_drew)); exact HO_4.out⟩, ⟨by (with_reducible repeat (first | apply Kd.V_alloc | apply Kd.V_drewN | apply Kd.V_drew)); exact HO_143006.out⟩, ⟨by (with_reducible repeat (first | refine blk_drewN ?_ _ | refine blk_drew ?_ | refine blk_alloc ?_ _)); exact BK142.out⟩, ⟨by repeat (first | (with_reducible first | exact HB.out | apply below_alloc | apply pw_below_drewN | apply below_drew1 | refine below_set ?_ GE142.out) | exact HB.out)⟩⟩
          · rw [if_neg c11] at H
            exact absurd H (by simp)
        · rw [if_neg c10] at H
          exact absurd H (by simp)
      · rw [if_neg c9] at H
        have c9b0 : decide (x11_1 < (t146.length : Int)) = false := decide_eq_false c9
        clear c9
        obtain rfl := Option.some.inj H
        go_wp2
        go_ret
        exact ⟨_, by first | rfl | (simp [errW_none, errW_some] <;> rfl) | (simp [*, errW_none, errW_some] <;> rfl), by (with_reducible repeat (first | apply Kd.N_alloc | apply Kd.N_drewN | apply Kd.N_drew)); exact Kd.N_mono HO_3.out (fun _ hk => hk.1), by repeat (first | (with_reducible first | exact HB.out | apply below_alloc | apply pw_below_drewN | apply below_drew1 | refine below_set ?_ GE142.out) | exact HB.out)⟩

end Go.Proofs.Ytfdmfgaiblfbhaa.P
/- Trees of cells: their size, their cells, their leaves, their panes: the reference's functions, as plain data. -/
namespace Go.Proofs.Ytfdmfgaiblfbhaa.P
open Go.RowKit Go.Proofs.YtfdmfgaiblfbhaaW.PrintWords Go.Proofs.YtfdmfgaiblfbhaaW.PrintLast Go.Proofs.YtfdmfgaiblfbhaaW.PrintMore

theorem rd26_in (pre : List S26) (p : S26) (rest : List S26) : rd_T26 (pre ++ p :: rest) (pre.length : Int) = p := by
  simp [rd_T26, List.getD_eq_getElem?_getD]
theorem up_in {α : Type} (pre : List α) (p : α) (rest : List α) (h : (pre ++ p :: rest).length ≤ 9223372036854775807) : wrap64 ((pre.length : Int) + 1) = ((pre ++ [p]).length : Int) := by
  simp only [List.length_append, List.length_cons, List.length_nil] at h ⊢
  rw [wq (by omega) (by omega)]
  omega

/-- The leaves. -/
def leavesC (c : S26) : List S26 := (allC c).filter fun x => decide (x.f0 = 1)
end Go.Proofs.Ytfdmfgaiblfbhaa.P
/- May a tree be: plain words. -/
namespace Go.Proofs.Ytfdmfgaiblfbhaa.P
open Go.RowKit Go.Proofs.YtfdmfgaiblfbhaaW.PrintWords Go.Proofs.YtfdmfgaiblfbhaaW.PrintLast Go.Proofs.YtfdmfgaiblfbhaaW.PrintMore

/-- May one cell be, by itself? -/
def okC (c : S26) : Bool := mayR c.f1 && decide (1 ≤ c.f0 ∧ c.f0 ≤ 3) && decide (c.f0 = 1 → c.f3.length = 0 ∧ 0 ≤ c.f2 ∧ c.f2 ≤ 2147483647) && decide (c.f0 > 1 → 2 ≤ c.f3.length ∧ c.f2 = 0)
/-- No number twice? -/
def distinctC : List S26 → Bool
  | [] => true
  | x :: xs => (xs.all fun y => decide (y.f2 ≠ x.f2)) && distinctC xs
def apartTo (pre : List S26) (x : S26) : Bool := pre.all fun y => decide (x.f2 ≠ y.f2)
theorem distinctC_app (pre : List S26) (x : S26) : distinctC (pre ++ [x]) = (distinctC pre && apartTo pre x) := by
  induction pre with
  | nil => simp [distinctC, apartTo]
  | cons y ys ih =>
    have : (decide (x.f2 ≠ y.f2)) = decide (¬ x.f2 = y.f2) := rfl
    simp only [List.cons_append, distinctC, ih, apartTo, List.all_append, List.all_cons, List.all_nil, Bool.and_true]
    cases (ys.all fun z => decide (z.f2 ≠ y.f2)) <;> cases (decide (x.f2 ≠ y.f2)) <;> cases distinctC ys <;> cases (ys.all fun z => decide (x.f2 ≠ z.f2)) <;> rfl
theorem distinctC_pre : ∀ (pre rest : List S26), distinctC pre = false → distinctC (pre ++ rest) = false := by
  intro pre rest h
  induction rest generalizing pre with
  | nil => rw [List.append_nil]; exact h
  | cons x xs ih =>
    have := ih (pre ++ [x]) (by rw [distinctC_app, h, Bool.false_and])
    rwa [List.append_assoc] at this
def mayC (c : S26) : Bool := decide (sz c ≤ 20000) && ((allC c).all okC && distinctC (leavesC c))
end Go.Proofs.Ytfdmfgaiblfbhaa.P
