/- CellCounts: part 3 of 5 of this claim's texts, one behind the other. The words of the kit's printer stand in it cut down, by a program, to those that are used. -/
import Derived.Test.YtfdmfgaiblfbhaaProg
import Derived.Below
import Derived.Deep.Draws
import Derived.Deep.AppendLies
import Derived.Maps.AppendAt
import Derived.OwnWalk
import Derived.Laws.BytesArg
import Derived.Laws.MakeOwn
import Derived.Laws.OwnMore
import Derived.Deep.OwnRows
import Derived.Tactics
import Derived.Lib.ConvBytes
import Derived.Laws.Slices
import Derived.WalkKit
import Derived.KernelRfl
import Derived.RowKit3
import Derived.Deep.LoopGhost
import Derived.Deep.QuietTactic
import Derived.BigQuiet
import Derived.WideLaws
import Derived.Deep.DeepCutAuto
import Derived.Deep.CutBlock
import Derived.Deep.RegionHeld3
import Derived.Laws.Rows
import Derived.Lib.AppendStr
import Derived.ArgAppend
import Derived.Laws.IdiomCopy
import Derived.OrdersHeld
import Derived.Laws.BitsLemmas
import Derived.RowKit
import Derived.Test.YtfdmfgaiblfbhaaMCellCountsa
import Derived.Test.YtfdmfgaiblfbhaaMCellCountsb
import Derived.Shelf.Spec.SlicesInsert
import Derived.Shelf.Spec.SlicesInsertGrow
import Derived.Lib.Hide
namespace Go.Proofs.Ytfdmfgaiblfbhaa.P
open Go.RowKit Go.Proofs.YtfdmfgaiblfbhaaW.PrintWords Go.Proofs.YtfdmfgaiblfbhaaW.PrintLast Go.Proofs.YtfdmfgaiblfbhaaW.PrintMore
attribute [local go_sem] max2_int min2_int max_two min_two max_three min_three max_four min_four   -- for this text's walks alone
set_option linter.unusedVariables false
set_option linter.unusedSimpArgs false



def errW : Option Int → Value
  | none => .nilIface
  | some c => .iface 0 (.int .i64 c)
theorem errW_none : errW none = .nilIface := rfl
theorem errW_some (c : Int) : errW (some c) = .iface 0 (.int .i64 c) := rfl

theorem info3 : (Try.prog.info? 3).map (fun i => (i.zero, i.size, i.bytes)) = some (some (.int .i64 0), 1, 8) := by kernel_rfl
theorem info26 : (Try.prog.info? 26).map (fun i => (i.zero, i.size, i.bytes)) = some (some (.agg #[(.int .u8 0), (.int .i64 0), (.int .i64 0), (.int .i64 0), (.int .i64 0), (.int .i64 0), (.slice none 0 0)]), 7, 72) := by kernel_rfl
-- the values' own types
/-! #### struct type 23 -/
structure S23 where
  f0 : Int
  f1 : Int
  f2 : Int
  f3 : Int
def z23 : S23 := ⟨(0 : Int), (0 : Int), (0 : Int), (0 : Int)⟩
def k23 : Kd S23 := Kd.iso (Kd.pair (Kd.int .i64) (Kd.pair (Kd.int .i64) (Kd.pair (Kd.int .i64) (Kd.int .i64)))) (fun x : S23 => (x.f0, x.f1, x.f2, x.f3))
theorem k23_heap : Kd.Heap k23 := Kd.heap_iso _ (Kd.heap_pair (Kd.heap_int .i64) (Kd.heap_pair (Kd.heap_int .i64) (Kd.heap_pair (Kd.heap_int .i64) (Kd.heap_int .i64))))
theorem k23_open {w : World} {x : S23} {cs : List Value} (h : k23.K w x cs) : cs = [.int .i64 x.f0, .int .i64 x.f1, .int .i64 x.f2, .int .i64 x.f3] := by
  obtain ⟨_, _, rfl, rfl, ⟨_, _, rfl, rfl, ⟨_, _, rfl, rfl, rfl⟩⟩⟩ := h
  exact rfl
theorem k23_mk (w : World) (x : S23)  : k23.K w x [.int .i64 x.f0, .int .i64 x.f1, .int .i64 x.f2, .int .i64 x.f3] := ⟨[.int .i64 x.f0], [.int .i64 x.f1, .int .i64 x.f2, .int .i64 x.f3], rfl, rfl, ⟨[.int .i64 x.f1], [.int .i64 x.f2, .int .i64 x.f3], rfl, rfl, ⟨[.int .i64 x.f2], [.int .i64 x.f3], rfl, rfl, rfl⟩⟩⟩
theorem k23_mkM (w : World) (base : Nat) (ok : Nat → Prop) (x : S23)  : k23.M w base ok x [.int .i64 x.f0, .int .i64 x.f1, .int .i64 x.f2, .int .i64 x.f3] := ⟨[.int .i64 x.f0], [.int .i64 x.f1, .int .i64 x.f2, .int .i64 x.f3], rfl, rfl, ⟨[.int .i64 x.f1], [.int .i64 x.f2, .int .i64 x.f3], rfl, rfl, ⟨[.int .i64 x.f2], [.int .i64 x.f3], rfl, rfl, rfl⟩⟩⟩
def rd_T23 (xs : List S23) (i : Int) : S23 := xs.getD i.toNat z23
theorem at_T23 {w : World} {A : Option Addr} {n : Nat} {xs : List S23} (h : Kd.C k23 w A n xs) (i : Int) (h0 : 0 ≤ i) (h1 : i < n) : ∃ ad , A = some ad ∧ w.cell? (ad.add (i.toNat * 4)) = some (.int .i64 (rd_T23 xs i).f0) ∧ w.cell? ⟨(ad.add (i.toNat * 4)).block, (ad.add (i.toNat * 4)).off + 1, none⟩ = some (.int .i64 (rd_T23 xs i).f1) ∧ w.cell? ⟨(ad.add (i.toNat * 4)).block, (ad.add (i.toNat * 4)).off + 2, none⟩ = some (.int .i64 (rd_T23 xs i).f2) ∧ w.cell? ⟨(ad.add (i.toNat * 4)).block, (ad.add (i.toNat * 4)).off + 3, none⟩ = some (.int .i64 (rd_T23 xs i).f3) := by
  obtain ⟨ad, c, e, _, hK, hc0⟩ := Kd.C_get h z23 i h0 h1
  have hc : ∀ j u, c[j]? = some u → w.cell? (ad.add (i.toNat * 4 + j)) = some u := hc0
  obtain rfl := k23_open hK
  exact ⟨ad, e, hc 0 _ rfl, by rw [← add_field _ _ 1 (by omega)]; exact hc 1 _ rfl, by rw [← add_field _ _ 2 (by omega)]; exact hc 2 _ rfl, by rw [← add_field _ _ 3 (by omega)]; exact hc 3 _ rfl⟩

/-! #### struct type 26, nested in itself -/
structure S26 where
  f0 : Int
  f1 : S23
  f2 : Int
  f3 : (List S26)
def z26 : S26 := ⟨(0 : Int), z23, (0 : Int), ([] : List S26)⟩
def F26 (d : Kd S26) : Kd S26 := Kd.iso (Kd.pair (Kd.int .u8) (Kd.pair k23 (Kd.pair (Kd.int .i64) (Kd.slice 26 d)))) (fun x : S26 => (x.f0, x.f1, x.f2, x.f3))
theorem mono26 : Kd.Mono F26 := Kd.mono_iso _ (Kd.mono_pair (Kd.mono_const _) (Kd.mono_pair (Kd.mono_const _) (Kd.mono_pair (Kd.mono_const _) (Kd.mono_slice 26 Kd.mono_id))))
theorem sub26 : Kd.Sub F26 [26] := Kd.sub_iso _ (Kd.sub_pair (Kd.sub_const _ (by decide)) (Kd.sub_pair (Kd.sub_const _ (by decide)) (Kd.sub_pair (Kd.sub_const _ (by decide)) (Kd.sub_slice 26 (by decide) Kd.sub_id))))
theorem sz26 : ∀ n, (Kd.upto F26 7 [26] n).sz = 7 := Kd.upto_sz (fun _ => rfl)
def k26 : Kd S26 := Kd.fix F26 7 [26] sz26 (Kd.upto_E sub26)
theorem k26_heap : Kd.Heap k26 := Kd.heap_fix (fun _ h_ => Kd.heap_iso _ (Kd.heap_pair (Kd.heap_int .u8) (Kd.heap_pair k23_heap (Kd.heap_pair (Kd.heap_int .i64) (Kd.heap_slice 26 h_)))))
theorem k26_open {w : World} {x : S26} {cs : List Value} (h : k26.K w x cs) : ∃ A6 c6, cs = [.int .u8 x.f0, .int .i64 x.f1.f0, .int .i64 x.f1.f1, .int .i64 x.f1.f2, .int .i64 x.f1.f3, .int .i64 x.f2, .slice A6 x.f3.length c6] ∧ x.f3.length ≤ c6 ∧ k26.C w A6 x.f3.length x.f3 := by
  obtain ⟨n, h⟩ := h
  cases n with
  | zero => exact h.elim
  | succ n =>
    obtain ⟨_, _, rfl, rfl, ⟨_, _, rfl, s1, ⟨_, _, rfl, rfl, ⟨A6, c6, rfl, l6, g6⟩⟩⟩⟩ := h
    obtain rfl := k23_open s1
    exact ⟨A6, c6, rfl, l6, Kd.fix_C g6⟩
theorem k26_mk (w : World) (x : S26) {A6 : Option Addr} {c6 : Nat} (l6 : x.f3.length ≤ c6) (g6 : k26.C w A6 x.f3.length x.f3) : k26.K w x [.int .u8 x.f0, .int .i64 x.f1.f0, .int .i64 x.f1.f1, .int .i64 x.f1.f2, .int .i64 x.f1.f3, .int .i64 x.f2, .slice A6 x.f3.length c6] := by
  obtain ⟨n6, q6⟩ := Kd.fix_C_back mono26 g6
  have r6 := Kd.upto_C_le mono26 sz26 (show n6 ≤ n6 by omega) q6
  exact ⟨n6 + 1, ⟨[.int .u8 x.f0], [.int .i64 x.f1.f0, .int .i64 x.f1.f1, .int .i64 x.f1.f2, .int .i64 x.f1.f3, .int .i64 x.f2, .slice A6 x.f3.length c6], rfl, rfl, ⟨[.int .i64 x.f1.f0, .int .i64 x.f1.f1, .int .i64 x.f1.f2, .int .i64 x.f1.f3], [.int .i64 x.f2, .slice A6 x.f3.length c6], rfl, (k23_mk w x.f1 ), ⟨[.int .i64 x.f2], [.slice A6 x.f3.length c6], rfl, rfl, ⟨A6, c6, rfl, l6, r6⟩⟩⟩⟩⟩
theorem k26_openF {W : World} {ok : Nat → Prop} {x : S26} {cs : List Value} (h : Kd.FK k26 W ok x cs) : ∃ A6 c6, cs = [.int .u8 x.f0, .int .i64 x.f1.f0, .int .i64 x.f1.f1, .int .i64 x.f1.f2, .int .i64 x.f1.f3, .int .i64 x.f2, .slice A6 x.f3.length c6] ∧ x.f3.length ≤ c6 ∧ Kd.F k26 W ok A6 x.f3.length x.f3 := by
  obtain ⟨A6, c6, rfl, l6, _⟩ := k26_open (Kd.FK_now h)
  exact ⟨A6, c6, rfl, l6, (fun W' hW => by obtain ⟨A6_, c6_, he, l6_, g6_⟩ := k26_open (h W' hW); injection (Option.some.inj (show some (Value.slice A6 x.f3.length c6) = some (Value.slice A6_ x.f3.length c6_) from congrArg (fun l => l[6]?) he)) with ha_ _ _; rw [ha_]; exact g6_)⟩
theorem k26_mkF (W : World) (ok : Nat → Prop) (x : S26) {A6 : Option Addr} {c6 : Nat} (l6 : x.f3.length ≤ c6) (g6 : Kd.F k26 W ok A6 x.f3.length x.f3) : Kd.FK k26 W ok x [.int .u8 x.f0, .int .i64 x.f1.f0, .int .i64 x.f1.f1, .int .i64 x.f1.f2, .int .i64 x.f1.f3, .int .i64 x.f2, .slice A6 x.f3.length c6] := fun W2 hW => k26_mk W2 x l6 (g6 W2 hW)
def rd_T26 (xs : List S26) (i : Int) : S26 := xs.getD i.toNat z26
theorem at_T26 {w : World} {A : Option Addr} {n : Nat} {xs : List S26} (h : Kd.C k26 w A n xs) (i : Int) (h0 : 0 ≤ i) (h1 : i < n) : ∃ ad A6 c6, A = some ad ∧ w.cell? (ad.add (i.toNat * 7)) = some (.int .u8 (rd_T26 xs i).f0) ∧ w.cell? ⟨(ad.add (i.toNat * 7)).block, (ad.add (i.toNat * 7)).off + 1, none⟩ = some (.int .i64 (rd_T26 xs i).f1.f0) ∧ w.cell? ⟨(ad.add (i.toNat * 7)).block, (ad.add (i.toNat * 7)).off + 2, none⟩ = some (.int .i64 (rd_T26 xs i).f1.f1) ∧ w.cell? ⟨(ad.add (i.toNat * 7)).block, (ad.add (i.toNat * 7)).off + 3, none⟩ = some (.int .i64 (rd_T26 xs i).f1.f2) ∧ w.cell? ⟨(ad.add (i.toNat * 7)).block, (ad.add (i.toNat * 7)).off + 4, none⟩ = some (.int .i64 (rd_T26 xs i).f1.f3) ∧ w.cell? ⟨(ad.add (i.toNat * 7)).block, (ad.add (i.toNat * 7)).off + 5, none⟩ = some (.int .i64 (rd_T26 xs i).f2) ∧ w.cell? ⟨(ad.add (i.toNat * 7)).block, (ad.add (i.toNat * 7)).off + 6, none⟩ = some (.slice A6 (rd_T26 xs i).f3.length c6) ∧ (rd_T26 xs i).f3.length ≤ c6 ∧ k26.C w A6 (rd_T26 xs i).f3.length (rd_T26 xs i).f3 := by
  obtain ⟨ad, c, e, _, hK, hc0⟩ := Kd.C_get h z26 i h0 h1
  have hc : ∀ j u, c[j]? = some u → w.cell? (ad.add (i.toNat * 7 + j)) = some u := hc0
  obtain ⟨A6, c6, rfl, l6, g6⟩ := k26_open hK
  exact ⟨ad, A6, c6, e, hc 0 _ rfl, by rw [← add_field _ _ 1 (by omega)]; exact hc 1 _ rfl, by rw [← add_field _ _ 2 (by omega)]; exact hc 2 _ rfl, by rw [← add_field _ _ 3 (by omega)]; exact hc 3 _ rfl, by rw [← add_field _ _ 4 (by omega)]; exact hc 4 _ rfl, by rw [← add_field _ _ 5 (by omega)]; exact hc 5 _ rfl, by rw [← add_field _ _ 6 (by omega)]; exact hc 6 _ rfl, l6, g6⟩

/-! #### struct type 35 -/
structure S35 where
  f0 : Int
  f1 : S23
def z35 : S35 := ⟨(0 : Int), z23⟩
def k35 : Kd S35 := Kd.iso (Kd.pair (Kd.int .i64) k23) (fun x : S35 => (x.f0, x.f1))
def rd_T35 (xs : List S35) (i : Int) : S35 := xs.getD i.toNat z35
def rd_L5 (xs : List (List S35)) (i : Int) : (List S35) := xs.getD i.toNat ([] : List S35)
def rd_L6 (xs : List (List Int)) (i : Int) : (List Int) := xs.getD i.toNat ([] : List Int)
def rd_L8 (xs : List (List S23)) (i : Int) : (List S23) := xs.getD i.toNat ([] : List S23)
def rd_L9 (xs : List (List S26)) (i : Int) : (List S26) := xs.getD i.toNat ([] : List S26)
end Go.Proofs.Ytfdmfgaiblfbhaa.P
namespace Go.Proofs.Ytfdmfgaiblfbhaa.P
open Go.RowKit Go.Proofs.YtfdmfgaiblfbhaaW.PrintWords Go.Proofs.YtfdmfgaiblfbhaaW.PrintLast Go.Proofs.YtfdmfgaiblfbhaaW.PrintMore
attribute [local go_sem] max2_int min2_int max_two min_two max_three min_three max_four min_four   -- for this text's walks alone
set_option linter.unusedVariables false
set_option linter.unusedSimpArgs false

/-! ### sashref05_All: function 79 -/
mutual
def sashref05_All.l0 : Nat → List (S26) → Int → Int → Int → Int → Int → Int → Int → Int → List (S26) → Option ((List (S26)))
  | 0, _, _, _, _, _, _, _, _, _, _ => none
  | k + 1, x3, x9, x10, x132000, x132001, x132002, x132003, x132004, x132005, x132006 => if x10 < x9 then (if 0 ≤ x10 then (if x10 < (x132006.length : Int) then ((sashref05_All.f k ((rd_T26 x132006 x10).f0) ((rd_T26 x132006 x10).f1.f0) ((rd_T26 x132006 x10).f1.f1) ((rd_T26 x132006 x10).f1.f2) ((rd_T26 x132006 x10).f1.f3) ((rd_T26 x132006 x10).f2) ((rd_T26 x132006 x10).f3)).bind fun t136 => (if x3.length + t136.length < 1954687338268 then (sashref05_All.l0 k (x3 ++ t136) x9 (wrap64 (x10 + 1)) x132000 x132001 x132002 x132003 x132004 x132005 x132006) else (none))) else (none)) else (none)) else (some x3)
def sashref05_All.f : Nat → Int → Int → Int → Int → Int → Int → List (S26) → Option ((List (S26)))
  | 0, _, _, _, _, _, _, _ => none
  | k + 1, a0_0, a0_1, a0_2, a0_3, a0_4, a0_5, l0_6 => sashref05_All.l0 k (([(⟨a0_0, (⟨a0_1, a0_2, a0_3, a0_4⟩ : S23), a0_5, l0_6⟩ : S26)] : List (S26))) (l0_6.length : Int) 0 a0_0 a0_1 a0_2 a0_3 a0_4 a0_5 l0_6
end
theorem sashref05_All.mono_l : ∀ k, (∀ y0 y1 y2 y3 y4 y5 y6, LeO (sashref05_All.f k y0 y1 y2 y3 y4 y5 y6) (sashref05_All.f (k + 1) y0 y1 y2 y3 y4 y5 y6)) ∧ (∀ y0 y1 y2 y3 y4 y5 y6 y7 y8 y9, LeO (sashref05_All.l0 k y0 y1 y2 y3 y4 y5 y6 y7 y8 y9) (sashref05_All.l0 (k + 1) y0 y1 y2 y3 y4 y5 y6 y7 y8 y9))
  | 0 => ⟨fun _ _ _ _ _ _ _ r h => by simp [sashref05_All.f] at h, fun _ _ _ _ _ _ _ _ _ _ r h => by simp [sashref05_All.l0] at h⟩
  | k + 1 => by
    obtain ⟨ih0, ih1⟩ := sashref05_All.mono_l k
    refine ⟨?_, ?_⟩
    · intro y0 y1 y2 y3 y4 y5 y6
      unfold sashref05_All.f
      repeat' first
      | (with_reducible exact ih0 _ _ _ _ _ _ _)
      | (with_reducible exact ih1 _ _ _ _ _ _ _ _ _ _)
      | (with_reducible exact LeO.refl _)
      | (with_reducible exact LeO.none _)
      | (with_reducible refine LeO.ite ?_ ?_)
      | (with_reducible refine LeO.bind ?_ (fun _ => ?_))
      | exact ih0 _ _ _ _ _ _ _
      | exact ih1 _ _ _ _ _ _ _ _ _ _
      | exact LeO.none _
      | refine LeO.ite ?_ ?_
      | refine LeO.bind ?_ (fun _ => ?_)
    · intro y0 y1 y2 y3 y4 y5 y6 y7 y8 y9
      unfold sashref05_All.l0
      repeat' first
      | (with_reducible exact ih0 _ _ _ _ _ _ _)
      | (with_reducible exact ih1 _ _ _ _ _ _ _ _ _ _)
      | (with_reducible exact LeO.refl _)
      | (with_reducible exact LeO.none _)
      | (with_reducible refine LeO.ite ?_ ?_)
      | (with_reducible refine LeO.bind ?_ (fun _ => ?_))
      | exact ih0 _ _ _ _ _ _ _
      | exact ih1 _ _ _ _ _ _ _ _ _ _
      | exact LeO.none _
      | refine LeO.ite ?_ ?_
      | refine LeO.bind ?_ (fun _ => ?_)
theorem sashref05_All.mono : ∀ a0 a1 a2 a3 a4 a5 a6 k, LeO (sashref05_All.f k a0 a1 a2 a3 a4 a5 a6) (sashref05_All.f (k + 1) a0 a1 a2 a3 a4 a5 a6) := by
  intro a0 a1 a2 a3 a4 a5 a6 k
  obtain ⟨ih0, ih1⟩ := sashref05_All.mono_l k
  exact ih0 a0 a1 a2 a3 a4 a5 a6
set_option maxHeartbeats 8000000 in
set_option maxRecDepth 100000 in
theorem sashref05_All.calls (k : Nat) : ∀ (a0_0 : Int) (a0_1 : Int) (a0_2 : Int) (a0_3 : Int) (a0_4 : Int) (a0_5 : Int) (P0_6_ : Nat → Prop) (A0_6 : Option Addr) (c0_6 : Nat) (l0_6 : List (S26)) (r : List (S26)) (w : World) (hs0_6 : Kd.V k26 26 w w.heap.size (fun k_ => P0_6_ k_) (.slice A0_6 l0_6.length c0_6) l0_6) (h : sashref05_All.f k a0_0 a0_1 a0_2 a0_3 a0_4 a0_5 l0_6 = some r),
    Calls Try.prog 79 #[.agg #[.int .u8 a0_0, .int .i64 a0_1, .int .i64 a0_2, .int .i64 a0_3, .int .i64 a0_4, .int .i64 a0_5, .slice A0_6 l0_6.length c0_6]] w fun e w' => ∃ v0_ : Value, e = .returned (v0_) ∧ Kd.N k26 26 w' w.heap.size (fun k_ => (P0_6_ k_ ∨ w.heap.size ≤ k_)) v0_ r ∧ Below w.heap.size w w' := by
  induction k using Nat.strongRecOn with
  | _ k ih =>
  intro a0_0 a0_1 a0_2 a0_3 a0_4 a0_5 P0_6_ A0_6 c0_6 l0_6 r w hs0_6 h
  cases k with
  | zero => exact absurd h (by simp [sashref05_All.f])
  | succ k =>
  simp only [sashref05_All.f] at h
  have hu26 := Try.underlying26
  have HO0_6 := Aside0.mk (show Kd.V k26 26 w w.heap.size (fun k_ => (P0_6_ k_ ∨ w.heap.size ≤ k_)) (.slice A0_6 l0_6.length c0_6) l0_6 from Kd.V_mono hs0_6 (fun k_ hk => .inl hk))
  have HB := Aside0.mk (Below.refl w.heap.size w)
  have H : (sashref05_All.l0 k (([(⟨a0_0, (⟨a0_1, a0_2, a0_3, a0_4⟩ : S23), a0_5, l0_6⟩ : S26)] : List (S26))) (l0_6.length : Int) 0 a0_0 a0_1 a0_2 a0_3 a0_4 a0_5 l0_6) = some r := h
  clear h
  obtain ⟨y132, hy132⟩ : ∃ y_ : List (S26), y_ = (([(⟨a0_0, (⟨a0_1, a0_2, a0_3, a0_4⟩ : S23), a0_5, l0_6⟩ : S26)] : List (S26))) := ⟨_, rfl⟩
  replace H : (sashref05_All.l0 k y132 (l0_6.length : Int) 0 a0_0 a0_1 a0_2 a0_3 a0_4 a0_5 l0_6) = some r := by first | (rw [hy132]; with_reducible exact H) | (have H2_ := (Option.bind_some _ _).symm.trans H; rw [hy132]; with_reducible exact H2_) | (have H2_ := (Option.bind_some _ _).symm.trans H; with_reducible exact H2_) | with_reducible exact H | (rw [hy132]; exact H) | exact H
  have Ny132 := Aside0.mk hy132
  clear hy132
  have H' := Aside0.mk H
  clear H
  go_enter Try.func79, Try.ntmps79
  go_wp2_with (first | ((with_reducible refine gate_dst (N := 1) rfl ?_); refine box_event ?hg (N := 1) ?hd (cs := #[.int .u8 a0_0, .int .i64 a0_1, .int .i64 a0_2, .int .i64 a0_3, .int .i64 a0_4, .int .i64 a0_5, .slice A0_6 l0_6.length c0_6]) (t := 26) ?hr ?_; (case hd => rfl); (case hg => rfl); (case hr => first | (go_simp; done) | (go_simp; rfl)); intro gb131 hg w2 hbox hb; have n0_ := Aside0.mk (Kd.V_below (Kd.V_elderB (by (with_reducible repeat (first | apply Kd.V_alloc | apply Kd.V_drewN | apply Kd.V_drew)); exact HO0_6.out) gb131 (Nat.le_of_eq hg.symm)) hb); have n1_ := Aside0.mk (below_step (by repeat (first | (with_reducible first | exact HB.out | apply below_alloc | apply pw_below_drewN | apply below_drew1) | exact HB.out)) hb); have n2_ := Aside0.mk (hbox); have n3_ := Aside0.mk ((by rw [hg]; exact (below_size (by repeat (first | (with_reducible first | exact HB.out | apply below_alloc | apply pw_below_drewN | apply below_drew1) | exact HB.out))) : w.heap.size ≤ gb131)); have n4_ := Aside0.mk ((by rw [hg]; exact (below_size (by repeat (first | (with_reducible first | exact HB.out | apply below_alloc | apply pw_below_drewN | apply below_drew1) | exact HB.out))) : w.heap.size ≤ gb131)); clear HO0_6; clear HB; have HO0_6 := n0_; have HB := n1_; have BK131 := n2_; have GW131 := n3_; have GE131 := n4_; clear n0_ n1_ n2_ n3_ n4_; clear hb hbox hg; have hcz3_0 : w2.cell? ⟨gb131, 0, none⟩ = some (.int .u8 a0_0) := (blk_cell BK131.out 0).trans rfl; have hcz3_1 : w2.cell? ⟨gb131, 1, none⟩ = some (.int .i64 a0_1) := (blk_cell BK131.out 1).trans rfl; have hcz3_2 : w2.cell? ⟨gb131, 2, none⟩ = some (.int .i64 a0_2) := (blk_cell BK131.out 2).trans rfl; have hcz3_3 : w2.cell? ⟨gb131, 3, none⟩ = some (.int .i64 a0_3) := (blk_cell BK131.out 3).trans rfl; have hcz3_4 : w2.cell? ⟨gb131, 4, none⟩ = some (.int .i64 a0_4) := (blk_cell BK131.out 4).trans rfl; have hcz3_5 : w2.cell? ⟨gb131, 5, none⟩ = some (.int .i64 a0_5) := (blk_cell BK131.out 5).trans rfl; have hcz3_6 : w2.cell? ⟨gb131, 6, none⟩ = some (.slice A0_6 l0_6.length c0_6) := (blk_cell BK131.out 6).trans rfl; have hfz3_0 := blk_frozen BK131.out 0; have hfz3_1 := blk_frozen BK131.out 1; have hfz3_2 := blk_frozen BK131.out 2; have hfz3_3 := blk_frozen BK131.out 3; have hfz3_4 := blk_frozen BK131.out 4; have hfz3_5 := blk_frozen BK131.out 5; have hfz3_6 := blk_frozen BK131.out 6) | ((with_reducible refine gate_dst (N := 6) rfl ?_); refine Kd.N_lit k26 _ 26 ?hg (N' := 6) ?hd (xs := ([(⟨a0_0, (⟨a0_1, a0_2, a0_3, a0_4⟩ : S23), a0_5, l0_6⟩ : S26)] : List (S26))) (inner := [.int .u8 a0_0, .int .i64 a0_1, .int .i64 a0_2, .int .i64 a0_3, .int .i64 a0_4, .int .i64 a0_5, .slice A0_6 l0_6.length c0_6]) (ok := (fun k_ => (P0_6_ k_ ∨ w.heap.size ≤ k_) ∧ k_ ≠ gb131)) (okp := (fun k_ => (P0_6_ k_ ∨ w.heap.size ≤ k_) ∧ k_ ≠ gb131)) ?hr ?hp (fun _ hk => hk) ((show ∀ k_, w2.heap.size ≤ k_ → (fun k_ => (P0_6_ k_ ∨ w.heap.size ≤ k_) ∧ k_ ≠ gb131) k_ from fun k_ hk => ⟨(.inr (Nat.le_trans (below_size (by repeat (first | (with_reducible first | exact HB.out | apply below_alloc | apply pw_below_drewN | apply below_drew1 | refine below_set ?_ GE131.out) | exact HB.out))) hk)), Kd.freshB (g := gb131) (o := .cells #[.int .u8 a0_0, .int .i64 a0_1, .int .i64 a0_2, .int .i64 a0_3, .int .i64 a0_4, .int .i64 a0_5, .slice A0_6 l0_6.length c0_6] 26 (0, 0)) (by (with_reducible repeat (first | refine blk_drewN ?_ _ | refine blk_drew ?_ | refine blk_alloc ?_ _)); exact BK131.out) k_ hk⟩) _ (Nat.le_refl _)) (Below.refl _ _) (Nat.le_refl _) (by simp) ?_; (case hd => rfl); (case hg => rfl); (case hr => first | (go_simp; done) | (go_simp; rfl)); (case hp => exact (Reps.c7 (show Kd.FK k26 _ _ (⟨a0_0, (⟨a0_1, a0_2, a0_3, a0_4⟩ : S23), a0_5, l0_6⟩ : S26) [.int .u8 a0_0, .int .i64 a0_1, .int .i64 a0_2, .int .i64 a0_3, .int .i64 a0_4, .int .i64 a0_5, .slice A0_6 l0_6.length c0_6] from (k26_mkF _ _ (⟨a0_0, (⟨a0_1, a0_2, a0_3, a0_4⟩ : S23), a0_5, l0_6⟩ : S26) (Kd.V_reads' (Kd.V_mono (ok' := (fun k_ => (P0_6_ k_ ∨ w.heap.size ≤ k_) ∧ k_ ≠ gb131)) (HO0_6.out) (fun k_ hk => ⟨hk.1, hk.2⟩))).2.1 (Kd.V_F (Kd.V_mono (ok' := (fun k_ => (P0_6_ k_ ∨ w.heap.size ≤ k_) ∧ k_ ≠ gb131)) (HO0_6.out) (fun k_ hk => ⟨hk.1, hk.2⟩))))) (Reps.none _ _))); intro v133 w4 ho5 hb hg_ hnew_; clear hg_ hnew_; (first | rw [← Ny132.out] at ho5 | (simp only [Int.reduceToNat] at ho5; rw [← Ny132.out] at ho5)); have n0_ := Aside0.mk (Kd.V_elder' (by (with_reducible repeat (first | apply Kd.V_alloc | apply Kd.V_drewN | apply Kd.V_drew)); exact HO0_6.out) (Kd.N_base ho5) hb); have n1_ := Aside0.mk (Kd.N_lower ho5 (below_size (by repeat (first | (with_reducible first | exact HB.out | apply below_alloc | apply pw_below_drewN | apply below_drew1 | refine below_set ?_ GE131.out) | exact HB.out)))); have n2_ := Aside0.mk (blk_below (g := gb131) (o := .cells #[.int .u8 a0_0, .int .i64 a0_1, .int .i64 a0_2, .int .i64 a0_3, .int .i64 a0_4, .int .i64 a0_5, .slice A0_6 l0_6.length c0_6] 26 (0, 0)) (by (with_reducible repeat (first | refine blk_drewN ?_ _ | refine blk_drew ?_ | refine blk_alloc ?_ _)); exact BK131.out) hb); have n3_ := Aside0.mk (below_step (by repeat (first | (with_reducible first | exact HB.out | apply below_alloc | apply pw_below_drewN | apply below_drew1 | refine below_set ?_ GE131.out) | exact HB.out)) hb); clear HO0_6; clear BK131; clear HB; have HO0_6 := n0_; have HO134 := n1_; have BK131 := n2_; have HB := n3_; clear n0_ n1_ n2_ n3_; clear hb ho5; have hcz6_0 : w4.cell? ⟨gb131, 0, none⟩ = some (.int .u8 a0_0) := (blk_cell BK131.out 0).trans rfl; have hcz6_1 : w4.cell? ⟨gb131, 1, none⟩ = some (.int .i64 a0_1) := (blk_cell BK131.out 1).trans rfl; have hcz6_2 : w4.cell? ⟨gb131, 2, none⟩ = some (.int .i64 a0_2) := (blk_cell BK131.out 2).trans rfl; have hcz6_3 : w4.cell? ⟨gb131, 3, none⟩ = some (.int .i64 a0_3) := (blk_cell BK131.out 3).trans rfl; have hcz6_4 : w4.cell? ⟨gb131, 4, none⟩ = some (.int .i64 a0_4) := (blk_cell BK131.out 4).trans rfl; have hcz6_5 : w4.cell? ⟨gb131, 5, none⟩ = some (.int .i64 a0_5) := (blk_cell BK131.out 5).trans rfl; have hcz6_6 : w4.cell? ⟨gb131, 6, none⟩ = some (.slice A0_6 l0_6.length c0_6) := (blk_cell BK131.out 6).trans rfl; have hfz6_0 := blk_frozen BK131.out 0; have hfz6_1 := blk_frozen BK131.out 1; have hfz6_2 := blk_frozen BK131.out 2; have hfz6_3 := blk_frozen BK131.out 3; have hfz6_4 := blk_frozen BK131.out 4; have hfz6_5 := blk_frozen BK131.out 5; have hfz6_6 := blk_frozen BK131.out 6))
  go_loopg [3, 10] k (fun kq v3 v10 w' => ∃ (x3_1 : List (S26)) (x10_1 : Int), v10 = .int .i64 x10_1 ∧ Aside0 (sashref05_All.l0 kq x3_1 (l0_6.length : Int) x10_1 a0_0 a0_1 a0_2 a0_3 a0_4 a0_5 l0_6 = some r) ∧ Aside0 (kq ≤ k) ∧ Aside0 (Kd.N k26 26 w' w.heap.size (fun k_ => (P0_6_ k_ ∨ w.heap.size ≤ k_) ∧ k_ ≠ gb131) v3 x3_1) ∧ Aside0 (Kd.V k26 26 w' w.heap.size (fun k_ => (P0_6_ k_ ∨ w.heap.size ≤ k_) ∧ some k_ ≠ (v3 : Value).ownBlock ∧ k_ ≠ gb131) (.slice A0_6 l0_6.length c0_6) l0_6) ∧ Aside0 (w'.heap[gb131]? = some (.cells #[.int .u8 a0_0, .int .i64 a0_1, .int .i64 a0_2, .int .i64 a0_3, .int .i64 a0_4, .int .i64 a0_5, (.slice A0_6 l0_6.length c0_6)] 26 (0, 0))) ∧ Aside0 (Below w.heap.size w w'))
  case atStart => exact ⟨(y132), (0), (by first | rfl | (simp; done) | (simp [*]; done)), H', ⟨Nat.le_refl _⟩, ⟨by (with_reducible repeat (first | apply Kd.N_alloc | apply Kd.N_drewN | apply Kd.N_drew)); exact HO134.out⟩, ⟨by (with_reducible repeat (first | apply Kd.V_alloc | apply Kd.V_drewN | apply Kd.V_drew)); exact Kd.V_mono HO0_6.out (fun _ hk => ⟨hk.1.1, ⟨hk.2, hk.1.2⟩⟩)⟩, ⟨by (with_reducible repeat (first | refine blk_drewN ?_ _ | refine blk_drew ?_ | refine blk_alloc ?_ _)); exact BK131.out⟩, ⟨by repeat (first | (with_reducible first | exact HB.out | apply below_alloc | apply pw_below_drewN | apply below_drew1 | refine below_set ?_ GE131.out) | exact HB.out)⟩⟩
  case round =>
    clear H'
    try clear p2
    try clear hcz3_0
    try clear hcz3_1
    try clear hcz3_2
    try clear hcz3_3
    try clear hcz3_4
    try clear hcz3_5
    try clear hcz3_6
    try clear hcz6_0
    try clear hcz6_1
    try clear hcz6_2
    try clear hcz6_3
    try clear hcz6_4
    try clear hcz6_5
    try clear hcz6_6
    try clear hfz3_0
    try clear hfz3_1
    try clear hfz3_2
    try clear hfz3_3
    try clear hfz3_4
    try clear hfz3_5
    try clear hfz3_6
    try clear hfz6_0
    try clear hfz6_1
    try clear hfz6_2
    try clear hfz6_3
    try clear hfz6_4
    try clear hfz6_5
    try clear hfz6_6
    obtain ⟨x3_1, x10_1, rfl, HA, HK1, HO_3, HO_132006, BK131, HB⟩ := hrel
    cases gk with
    | zero => exact absurd HA.out (by simp [sashref05_All.l0])
    | succ k1 =>
      have H := HA.out
      clear HA
      simp only [sashref05_All.l0] at H
      by_cases c7 : x10_1 < (l0_6.length : Int)
      · rw [if_pos c7] at H
        have c7b0 : decide (x10_1 < (l0_6.length : Int)) = true := decide_eq_true c7
        clear c7
        by_cases c8 : 0 ≤ x10_1
        · rw [if_pos c8] at H
          have c8b0 : decide (0 ≤ x10_1) = true := decide_eq_true c8
          clear c8
          by_cases c9 : x10_1 < (l0_6.length : Int)
          · rw [if_pos c9] at H
            have c9b0 : decide (x10_1 < (l0_6.length : Int)) = true := decide_eq_true c9
            clear c9
            replace H := Option.bind_eq_some_iff.mp H
            obtain ⟨t136, A100, H⟩ := H
            replace H : (if x3_1.length + t136.length < 1954687338268 then (sashref05_All.l0 k1 (x3_1 ++ t136) (l0_6.length : Int) (wrap64 (x10_1 + 1)) a0_0 a0_1 a0_2 a0_3 a0_4 a0_5 l0_6) else (none)) = some r := H
            have A10 := Aside0.mk A100
            clear A100
            by_cases c11 : x3_1.length + t136.length < 1954687338268
            · rw [if_pos c11] at H
              have LMc11 := Aside0.mk c11
              clear c11
              obtain ⟨y139, hy139⟩ : ∃ y_ : List (S26), y_ = (x3_1 ++ t136) := ⟨_, rfl⟩
              replace H : (sashref05_All.l0 k1 y139 (l0_6.length : Int) (wrap64 (x10_1 + 1)) a0_0 a0_1 a0_2 a0_3 a0_4 a0_5 l0_6) = some r := by first | (rw [hy139]; with_reducible exact H) | (have H2_ := (Option.bind_some _ _).symm.trans H; rw [hy139]; with_reducible exact H2_) | (have H2_ := (Option.bind_some _ _).symm.trans H; with_reducible exact H2_) | with_reducible exact H | (rw [hy139]; exact H) | exact H
              have Ny139 := Aside0.mk hy139
              clear hy139
              have H' := Aside0.mk H
              clear H
              have hcz12_0 : wr.cell? ⟨gb131, 0, none⟩ = some (.int .u8 a0_0) := (blk_cell BK131.out 0).trans rfl
              have hcz12_1 : wr.cell? ⟨gb131, 1, none⟩ = some (.int .i64 a0_1) := (blk_cell BK131.out 1).trans rfl
              have hcz12_2 : wr.cell? ⟨gb131, 2, none⟩ = some (.int .i64 a0_2) := (blk_cell BK131.out 2).trans rfl
              have hcz12_3 : wr.cell? ⟨gb131, 3, none⟩ = some (.int .i64 a0_3) := (blk_cell BK131.out 3).trans rfl
              have hcz12_4 : wr.cell? ⟨gb131, 4, none⟩ = some (.int .i64 a0_4) := (blk_cell BK131.out 4).trans rfl
              have hcz12_5 : wr.cell? ⟨gb131, 5, none⟩ = some (.int .i64 a0_5) := (blk_cell BK131.out 5).trans rfl
              have hcz12_6 : wr.cell? ⟨gb131, 6, none⟩ = some (.slice A0_6 l0_6.length c0_6) := (blk_cell BK131.out 6).trans rfl
              have hfz12_0 := blk_frozen BK131.out 0
              have hfz12_1 := blk_frozen BK131.out 1
              have hfz12_2 := blk_frozen BK131.out 2
              have hfz12_3 := blk_frozen BK131.out 3
              have hfz12_4 := blk_frozen BK131.out 4
              have hfz12_5 := blk_frozen BK131.out 5
              have hfz12_6 := blk_frozen BK131.out 6
              have p135 : 0 ≤ (x10_1 : Int) := of_decide_eq_true (by first | (with_reducible assumption) | assumption)
              have q135 : x10_1 < (l0_6.length : Int) := of_decide_eq_true (by first | (with_reducible assumption) | assumption)
              obtain ⟨ad135, A135_6, c135_6, e135, hx135_0, hx135_1, hx135_2, hx135_3, hx135_4, hx135_5, hx135_6, hl135_6, hi135_6⟩ := at_T26 (Kd.V_reads' HO_132006.out).2.2 x10_1 p135 q135
              cases e135
              obtain ⟨ce135, hce135, hMe135, hcc135⟩ := Kd.V_get HO_132006.out z26 x10_1 p135 (by first | exact q135 | exact of_decide_eq_true (by first | (with_reducible assumption) | assumption) | (have e_ := (Kd.V_reads' HO_132006.out).1; omega))
              obtain ⟨ua135_6, uc135_6, rfl, ul135_6, ge135_6⟩ := k26_openF hMe135
              have hv135_6 := hcc135 6 _ rfl
              rw [add_field _ _ 6 (by omega)] at hv135_6
              replace hv135_6 := Option.some.inj (hv135_6.symm.trans hx135_6)
              injection hv135_6 with hva_ hvn_ hvc_
              rw [hva_] at ge135_6
              rw [hvc_] at ul135_6
              have HL135_6 := Aside0.mk (show Kd.V k26 26 _ w.heap.size _ _ ((rd_T26 l0_6 x10_1).f3) from Kd.V_mk ul135_6 ge135_6)
              clear hva_ hvn_ hvc_ ge135_6 ul135_6
              clear hcc135 hce135
              have HR135_6 := Aside0.mk hi135_6
              have HC135_6 := Aside0.mk hl135_6
              clear hi135_6 hl135_6
              replace p135 := eq_true p135
              replace q135 := eq_true q135
              go_wp2_with (first | ((with_reducible refine gate_callee (f := 79) rfl ?_); refine goesL_ (some 19) rfl rfl Try.func79 (by kernel_rfl) rfl #[.agg #[.int .u8 ((rd_T26 l0_6 x10_1).f0), .int .i64 ((rd_T26 l0_6 x10_1).f1.f0), .int .i64 ((rd_T26 l0_6 x10_1).f1.f1), .int .i64 ((rd_T26 l0_6 x10_1).f1.f2), .int .i64 ((rd_T26 l0_6 x10_1).f1.f3), .int .i64 ((rd_T26 l0_6 x10_1).f2), .slice A135_6 ((rd_T26 l0_6 x10_1).f3).length c135_6]] rfl (by (try simp only [List.map_toArray, List.map_cons, List.map_nil]); first | done | rfl | (simp only [List.length_drop, List.length_take]; rfl)) ?_; (with_reducible refine (ih k1 (by have := HK1.out; omega) ((rd_T26 l0_6 x10_1).f0) ((rd_T26 l0_6 x10_1).f1.f0) ((rd_T26 l0_6 x10_1).f1.f1) ((rd_T26 l0_6 x10_1).f1.f2) ((rd_T26 l0_6 x10_1).f1.f3) ((rd_T26 l0_6 x10_1).f2) (fun k_ => ((P0_6_ k_ ∨ w.heap.size ≤ k_) ∧ (some k_ ≠ (u3 : Value).ownBlock ∧ k_ ≠ gb131))) _ _ ((rd_T26 l0_6 x10_1).f3) t136 _ ?side1 A10.out).mono ?_); (case side1 => exact HL135_6.out); rintro e w13 ⟨v137, rfl, ho0, hb⟩; refine ⟨_, rfl, ?_⟩; have n0_ := Aside0.mk (Kd.N_elder' (by (with_reducible repeat (first | apply Kd.N_alloc | apply Kd.N_drewN | apply Kd.N_drew)); exact HO_3.out) (Kd.N_base ho0) hb); have n1_ := Aside0.mk (Kd.V_elder' (by (with_reducible repeat (first | apply Kd.V_alloc | apply Kd.V_drewN | apply Kd.V_drew)); exact HO_132006.out) (Kd.N_base ho0) hb); have n2_ := Aside0.mk (Kd.V_elder' (by (with_reducible repeat (first | apply Kd.V_alloc | apply Kd.V_drewN | apply Kd.V_drew)); exact HL135_6.out) (Kd.N_base ho0) hb); have n3_ := Aside0.mk (Kd.N_lower (Kd.N_mono (ok' := fun k_ => (P0_6_ k_ ∨ w.heap.size ≤ k_) ∧ some k_ ≠ (u3 : Value).ownBlock ∧ k_ ≠ gb131) ho0 (fun k_ hk_ => ⟨Or.elim hk_ (fun hs_ => hs_.1) (fun hn_ => (.inr (Nat.le_trans (below_size (by repeat (first | (with_reducible first | exact HB.out | apply below_alloc | apply pw_below_drewN | apply below_drew1 | refine below_set ?_ GE131.out) | exact HB.out))) hn_))), Or.elim hk_ (fun hs_ => hs_.2.1) (fun hn_ => (Kd.fresh' (Kd.N_lt (by (with_reducible repeat (first | apply Kd.N_alloc | apply Kd.N_drewN | apply Kd.N_drew)); exact HO_3.out)) k_ hn_)), Or.elim hk_ (fun hs_ => hs_.2.2) (fun hn_ => (Kd.freshB (g := gb131) (o := .cells #[.int .u8 a0_0, .int .i64 a0_1, .int .i64 a0_2, .int .i64 a0_3, .int .i64 a0_4, .int .i64 a0_5, .slice (some ad135) l0_6.length c0_6] 26 (0, 0)) (by (with_reducible repeat (first | refine blk_drewN ?_ _ | refine blk_drew ?_ | refine blk_alloc ?_ _)); exact BK131.out) k_ hn_))⟩)) (below_size (by repeat (first | (with_reducible first | exact HB.out | apply below_alloc | apply pw_below_drewN | apply below_drew1 | refine below_set ?_ GE131.out) | exact HB.out)))); have n4_ := Aside0.mk (blk_below (g := gb131) (o := .cells #[.int .u8 a0_0, .int .i64 a0_1, .int .i64 a0_2, .int .i64 a0_3, .int .i64 a0_4, .int .i64 a0_5, .slice (some ad135) l0_6.length c0_6] 26 (0, 0)) (by (with_reducible repeat (first | refine blk_drewN ?_ _ | refine blk_drew ?_ | refine blk_alloc ?_ _)); exact BK131.out) hb); have n5_ := Aside0.mk (Kd.C_below (by repeat (first | (with_reducible exact HR135_6.out) | (with_reducible refine Kd.C_alloc ?_ _) | (with_reducible refine Kd.C_drewN ?_ _) | (with_reducible refine Kd.C_drew ?_) | exact HR135_6.out)) hb); have n6_ := Aside0.mk (below_step (by repeat (first | (with_reducible first | exact HB.out | apply below_alloc | apply pw_below_drewN | apply below_drew1 | refine below_set ?_ GE131.out) | exact HB.out)) hb); clear HO_3; clear HO_132006; clear HL135_6; clear BK131; clear HR135_6; clear HB; have HO_3 := n0_; have HO_132006 := n1_; have HL135_6 := n2_; have HO138 := n3_; have BK131 := n4_; have HR135_6 := n5_; have HB := n6_; clear n0_ n1_ n2_ n3_ n4_ n5_ n6_; (try clear hb); (try clear hb2); (try clear hk); (try clear hi); (try clear ho0); obtain ⟨Ao15, co15, eo15⟩ := Kd.N_slice HO138.out; subst eo15) | ((with_reducible refine gate_builtin (b := .append) (xs := #[.tmp 13, .tmp 19]) rfl ?_); at_builtin; refine Kd.N_append_rows k26 (w0 := w) w.heap.size rfl (.tmp 13) (.tmp 19) 24 26 (.agg #[(.int .u8 0), (.int .i64 0), (.int .i64 0), (.int .i64 0), (.int .i64 0), (.int .i64 0), (.slice none 0 0)]) 72 rfl Try.underlying24 info26 rfl (by decide) (by omega) u3 x3_1 t136 _ _ _ (fun k_ => (P0_6_ k_ ∨ w.heap.size ≤ k_) ∧ k_ ≠ gb131) (fun k_ => ((fun k_ => (P0_6_ k_ ∨ w.heap.size ≤ k_) ∧ k_ ≠ gb131)) k_ ∧ some k_ ≠ (u3 : Value).ownBlock) rfl rfl ?aO ?aR (fun _ hk => hk) ?aF ?aB ?aS ?aL ?_; (case aR => exact (by skip; exact Kd.N_F (Kd.N_mono (ok' := (fun k_ => ((fun k_ => (P0_6_ k_ ∨ w.heap.size ≤ k_) ∧ k_ ≠ gb131)) k_ ∧ some k_ ≠ (u3 : Value).ownBlock)) (HO138.out) (fun k_ hk => ⟨⟨hk.1, hk.2.2⟩, hk.2.1⟩)))); (case aB => exact (by repeat (first | (with_reducible first | exact HB.out | apply below_alloc | apply pw_below_drewN | apply below_drew1 | refine below_set ?_ GE131.out) | exact HB.out))); (case aF => exact (fun k_ hk => ⟨(.inr (Nat.le_trans (below_size (by repeat (first | (with_reducible first | exact HB.out | apply below_alloc | apply pw_below_drewN | apply below_drew1 | refine below_set ?_ GE131.out) | exact HB.out))) hk)), Kd.freshB (g := gb131) (o := .cells #[.int .u8 a0_0, .int .i64 a0_1, .int .i64 a0_2, .int .i64 a0_3, .int .i64 a0_4, .int .i64 a0_5, .slice (some ad135) l0_6.length c0_6] 26 (0, 0)) (by (with_reducible repeat (first | refine blk_drewN ?_ _ | refine blk_drew ?_ | refine blk_alloc ?_ _)); exact BK131.out) k_ hk⟩)); (case aO => exact (by (with_reducible repeat (first | apply Kd.N_alloc | apply Kd.N_drewN | apply Kd.N_drew)); exact Kd.N_mono HO_3.out (fun _ hk => ⟨hk.1.1, hk.1.2⟩))); (case aS => exact (below_size (by repeat (first | (with_reducible first | exact HB.out | apply below_alloc | apply pw_below_drewN | apply below_drew1 | refine below_set ?_ GE131.out) | exact HB.out)))); (case aL => have := LMc11.out; omega); intro v140 w14 ho hb hg hat; rw [← Ny139.out] at ho; have n0_ := Aside0.mk (Kd.V_afterv (ok := (fun k_ => (P0_6_ k_ ∨ w.heap.size ≤ k_) ∧ some k_ ≠ (.slice Ao15 t136.length co15 : Value).ownBlock ∧ k_ ≠ gb131)) (by (with_reducible repeat (first | apply Kd.V_alloc | apply Kd.V_drewN | apply Kd.V_drew)); exact Kd.V_mono HO_132006.out (fun _ hk => ⟨⟨hk.1.1, ⟨hk.2, hk.1.2.2⟩⟩, hk.1.2.1⟩)) hg hat); have n1_ := Aside0.mk (blk_grown (g := gb131) (o := .cells #[.int .u8 a0_0, .int .i64 a0_1, .int .i64 a0_2, .int .i64 a0_3, .int .i64 a0_4, .int .i64 a0_5, .slice (some ad135) l0_6.length c0_6] 26 (0, 0)) (by (with_reducible repeat (first | refine blk_drewN ?_ _ | refine blk_drew ?_ | refine blk_alloc ?_ _)); exact BK131.out) hg (Kd.N_away HO_3.out (fun _ hk => hk.1.2))); have n2_ := Aside0.mk (Kd.V_afterv (ok := (fun k_ => (P0_6_ k_ ∨ w.heap.size ≤ k_) ∧ some k_ ≠ (.slice Ao15 t136.length co15 : Value).ownBlock ∧ k_ ≠ gb131)) (by (with_reducible repeat (first | apply Kd.V_alloc | apply Kd.V_drewN | apply Kd.V_drew)); exact Kd.V_mono HL135_6.out (fun _ hk => ⟨⟨hk.1.1, ⟨hk.2, hk.1.2.2⟩⟩, hk.1.2.1⟩)) hg hat); have n3_ := Aside0.mk (Kd.N_afterv (ok := (fun k_ => (P0_6_ k_ ∨ w.heap.size ≤ k_) ∧ k_ ≠ gb131)) (by (with_reducible repeat (first | apply Kd.N_alloc | apply Kd.N_drewN | apply Kd.N_drew)); exact Kd.N_mono HO138.out (fun _ hk => ⟨⟨hk.1, hk.2.2⟩, hk.2.1⟩)) hg hat); have n4_ := Aside0.mk (hb); have n5_ := Aside0.mk (ho); clear HO_132006; clear BK131; clear HL135_6; clear HO138; clear HB; clear HO_3; have HO_132006 := n0_; have BK131 := n1_; have HL135_6 := n2_; have HO138 := n3_; have HB := n4_; have HO141 := n5_; clear n0_ n1_ n2_ n3_ n4_ n5_; clear ho hb hg hat))
              go_roundg k1
              case measure => have := HK1.out; omega
              case rel => exact ⟨(y139), (wrap64 (x10_1 + 1)), (by first | rfl | (simp; done) | (simp [*]; done)), H', ⟨by have := HK1.out; omega⟩, ⟨by (with_reducible repeat (first | apply Kd.N_alloc | apply Kd.N_drewN | apply Kd.N_drew)); exact HO141.out⟩, ⟨by (with_reducible repeat (first | apply Kd.V_alloc | apply Kd.V_drewN | apply Kd.V_drew)); exact Kd.V_mono HO_132006.out (fun _ hk => ⟨hk.1.1, ⟨hk.2, hk.1.2.2⟩⟩)⟩, ⟨by (with_reducible repeat (first | refine blk_drewN ?_ _ | refine blk_drew ?_ | refine blk_alloc ?_ _)); exact BK131.out⟩, ⟨by repeat (first | (with_reducible first | exact HB.out | apply below_alloc | apply pw_below_drewN | apply below_drew1 | refine below_set ?_ GE131.out) | exact HB.out)⟩⟩
            · rw [if_neg c11] at H
              exact absurd H (by simp)
          · rw [if_neg c9] at H
            exact absurd H (by simp)
        · rw [if_neg c8] at H
          exact absurd H (by simp)
      · rw [if_neg c7] at H
        have c7b0 : decide (x10_1 < (l0_6.length : Int)) = false := decide_eq_false c7
        clear c7
        obtain rfl := Option.some.inj H
        go_wp2
        go_ret
        exact ⟨_, by first | rfl | (simp [errW_none, errW_some] <;> rfl) | (simp [*, errW_none, errW_some] <;> rfl), by (with_reducible repeat (first | apply Kd.N_alloc | apply Kd.N_drewN | apply Kd.N_drew)); exact Kd.N_mono HO_3.out (fun _ hk => hk.1), by repeat (first | (with_reducible first | exact HB.out | apply below_alloc | apply pw_below_drewN | apply below_drew1 | refine below_set ?_ GE131.out) | exact HB.out)⟩

end Go.Proofs.Ytfdmfgaiblfbhaa.P
namespace Go.Proofs.Ytfdmfgaiblfbhaa.P
open Go.RowKit Go.Proofs.YtfdmfgaiblfbhaaW.PrintWords Go.Proofs.YtfdmfgaiblfbhaaW.PrintLast Go.Proofs.YtfdmfgaiblfbhaaW.PrintMore
attribute [local go_sem] max2_int min2_int max_two min_two max_three min_three max_four min_four   -- for this text's walks alone
set_option linter.unusedVariables false
set_option linter.unusedSimpArgs false

/-! ### sashref05_Ints: function 51 -/
def sashref05_Ints.l0 : Nat → List Int → List Int → Int → Int → Option (Bool)
  | 0, _, _, _, _ => none
  | k + 1, x0, x1, x12, x13 => if x13 < x12 then (if 0 ≤ x13 then (if x13 < (x0.length : Int) then (if x13 < (x1.length : Int) then (if (rd x0 x13) = (rd x1 x13) then (sashref05_Ints.l0 k x0 x1 x12 (wrap64 (x13 + 1))) else (some false)) else (none)) else (none)) else (none)) else (some true)
def sashref05_Ints.f (k : Nat) (l0 : List Int) (l1 : List Int) : Option (Bool) := if (l0.length : Int) = (l1.length : Int) then (sashref05_Ints.l0 k l0 l1 (l0.length : Int) 0) else (some false)
theorem sashref05_Ints.mono_l : ∀ k, (∀ y0 y1 y2 y3, LeO (sashref05_Ints.l0 k y0 y1 y2 y3) (sashref05_Ints.l0 (k + 1) y0 y1 y2 y3))
  | 0 => fun _ _ _ _ r h => by simp [sashref05_Ints.l0] at h
  | k + 1 => by
    have ih0 := sashref05_Ints.mono_l k
    · intro y0 y1 y2 y3
      unfold sashref05_Ints.l0
      repeat' first
      | (with_reducible exact ih0 _ _ _ _)
      | (with_reducible exact LeO.refl _)
      | (with_reducible exact LeO.none _)
      | (with_reducible refine LeO.ite ?_ ?_)
      | (with_reducible refine LeO.bind ?_ (fun _ => ?_))
      | exact ih0 _ _ _ _
      | exact LeO.none _
      | refine LeO.ite ?_ ?_
      | refine LeO.bind ?_ (fun _ => ?_)
theorem sashref05_Ints.mono : ∀ a0 a1 k, LeO (sashref05_Ints.f k a0 a1) (sashref05_Ints.f (k + 1) a0 a1) := by
  intro a0 a1 k
  have ih0 := sashref05_Ints.mono_l k
  unfold sashref05_Ints.f
  repeat' first
      | (with_reducible exact ih0 _ _ _ _)
      | (with_reducible exact LeO.refl _)
      | (with_reducible exact LeO.none _)
      | (with_reducible refine LeO.ite ?_ ?_)
      | (with_reducible refine LeO.bind ?_ (fun _ => ?_))
      | exact ih0 _ _ _ _
      | exact LeO.none _
      | refine LeO.ite ?_ ?_
      | refine LeO.bind ?_ (fun _ => ?_)
set_option maxHeartbeats 8000000 in
set_option maxRecDepth 100000 in
theorem sashref05_Ints.calls (k : Nat) (A0 : Option Addr) (c0 : Nat) (l0 : List Int) (A1 : Option Addr) (c1 : Nat) (l1 : List Int) (r : Bool) (w : World) (hr0 : Kd.C (Kd.int .i64) w A0 l0.length l0) (hc0 : l0.length ≤ c0) (hr1 : Kd.C (Kd.int .i64) w A1 l1.length l1) (hc1 : l1.length ≤ c1) (h : sashref05_Ints.f k l0 l1 = some r) :
    Calls Try.prog 51 #[.slice A0 l0.length c0, .slice A1 l1.length c1] w fun e w' => e = .returned (.bool r) ∧ Drawn0 w w' := by
  have HR0 := Aside0.mk hr0
  have HC0 := Aside0.mk hc0
  clear hr0 hc0
  have HR1 := Aside0.mk hr1
  have HC1 := Aside0.mk hc1
  clear hr1 hc1
  have H : (if (l0.length : Int) = (l1.length : Int) then (sashref05_Ints.l0 k l0 l1 (l0.length : Int) 0) else (some false)) = some r := h
  clear h
  by_cases c3 : (l0.length : Int) = (l1.length : Int)
  · rw [if_pos c3] at H
    have c3b0 : ((l0.length : Int) == (l1.length : Int)) = true := beq_iff_eq.mpr c3
    have c3b1 : ((l0.length : Int) != (l1.length : Int)) = false := bne_eq_false_iff_eq.mpr c3
    have c3b2 : (l0.length == l1.length) = true := by first | simpa using c3 | (simp at c3 ⊢; omega)
    clear c3
    have H' := Aside0.mk H
    clear H
    go_enter Try.func51, Try.ntmps51
    go_wp2
    repeat (go_quiet (fail); try go_wp2)
    go_loopg [13] k (fun kq v13 w' => ∃ (x13_1 : Int), v13 = .int .i64 x13_1 ∧ Aside0 (sashref05_Ints.l0 kq l0 l1 (l0.length : Int) x13_1 = some r) ∧ Aside0 (kq ≤ k) ∧ Drawn0 w w')
    case atStart => exact ⟨(0), (by first | rfl | (simp; done) | (simp [*]; done)), H', ⟨Nat.le_refl _⟩, by repeat (first | exact Drawn0.refl _ | apply Drawn0.step)⟩
    case round =>
      clear H'
      try clear c1
      try clear p2
      try clear c3
      try clear c3b0
      try clear c3b1
      try clear c3b2
      obtain ⟨x13_1, rfl, HA, HK1, ⟨m1, rfl⟩⟩ := hrel
      cases gk with
      | zero => exact absurd HA.out (by simp [sashref05_Ints.l0])
      | succ k1 =>
        have H := HA.out
        clear HA
        simp only [sashref05_Ints.l0] at H
        by_cases c4 : x13_1 < (l0.length : Int)
        · rw [if_pos c4] at H
          have c4b0 : decide (x13_1 < (l0.length : Int)) = true := decide_eq_true c4
          clear c4
          by_cases c5 : 0 ≤ x13_1
          · rw [if_pos c5] at H
            have c5b0 : decide (0 ≤ x13_1) = true := decide_eq_true c5
            clear c5
            by_cases c6 : x13_1 < (l0.length : Int)
            · rw [if_pos c6] at H
              have c6b0 : decide (x13_1 < (l0.length : Int)) = true := decide_eq_true c6
              clear c6
              by_cases c7 : x13_1 < (l1.length : Int)
              · rw [if_pos c7] at H
                have c7b0 : decide (x13_1 < (l1.length : Int)) = true := decide_eq_true c7
                clear c7
                by_cases c8 : (rd l0 x13_1) = (rd l1 x13_1)
                · rw [if_pos c8] at H
                  have c8b0 : ((rd l0 x13_1) == (rd l1 x13_1)) = true := beq_iff_eq.mpr c8
                  have c8b1 : ((rd l0 x13_1) != (rd l1 x13_1)) = false := bne_eq_false_iff_eq.mpr c8
                  clear c8
                  have H' := Aside0.mk H
                  clear H
                  have p362 : 0 ≤ (x13_1 : Int) := of_decide_eq_true (by first | (with_reducible assumption) | assumption)
                  have q362 : x13_1 < (l0.length : Int) := of_decide_eq_true (by first | (with_reducible assumption) | assumption)
                  obtain ⟨ad362, e362, hx362_0⟩ := Kd.at_int HR0.out x13_1 p362 q362
                  cases e362
                  replace p362 := eq_true p362
                  replace q362 := eq_true q362
                  have p363 : 0 ≤ (x13_1 : Int) := of_decide_eq_true (by first | (with_reducible assumption) | assumption)
                  have q363 : x13_1 < (l1.length : Int) := of_decide_eq_true (by first | (with_reducible assumption) | assumption)
                  obtain ⟨ad363, e363, hx363_0⟩ := Kd.at_int HR1.out x13_1 p363 q363
                  cases e363
                  replace p363 := eq_true p363
                  replace q363 := eq_true q363
                  go_wp2
                  repeat (go_quiet (fail); try go_wp2)
                  go_roundg k1
                  case measure => have := HK1.out; omega
                  case rel => exact ⟨(wrap64 (x13_1 + 1)), (by first | rfl | (simp; done) | (simp [*]; done)), H', ⟨by have := HK1.out; omega⟩, by repeat (first | exact Drawn0.refl _ | apply Drawn0.step)⟩
                · rw [if_neg c8] at H
                  have c8b0 : ((rd l0 x13_1) == (rd l1 x13_1)) = false := beq_eq_false_iff_ne.mpr c8
                  have c8b1 : ((rd l0 x13_1) != (rd l1 x13_1)) = true := bne_iff_ne.mpr c8
                  obtain rfl := Option.some.inj H
                  have p362 : 0 ≤ (x13_1 : Int) := of_decide_eq_true (by first | (with_reducible assumption) | assumption)
                  have q362 : x13_1 < (l0.length : Int) := of_decide_eq_true (by first | (with_reducible assumption) | assumption)
                  obtain ⟨ad362, e362, hx362_0⟩ := Kd.at_int HR0.out x13_1 p362 q362
                  cases e362
                  replace p362 := eq_true p362
                  replace q362 := eq_true q362
                  have p363 : 0 ≤ (x13_1 : Int) := of_decide_eq_true (by first | (with_reducible assumption) | assumption)
                  have q363 : x13_1 < (l1.length : Int) := of_decide_eq_true (by first | (with_reducible assumption) | assumption)
                  obtain ⟨ad363, e363, hx363_0⟩ := Kd.at_int HR1.out x13_1 p363 q363
                  cases e363
                  replace p363 := eq_true p363
                  replace q363 := eq_true q363
                  go_wp2
                  repeat (go_quiet (fail); try go_wp2)
                  go_ret
                  exact ⟨by first | rfl | (simp; done) | (simp [*]; done), by repeat (first | exact Drawn0.refl _ | apply Drawn0.step)⟩
              · rw [if_neg c7] at H
                exact absurd H (by simp)
            · rw [if_neg c6] at H
              exact absurd H (by simp)
          · rw [if_neg c5] at H
            exact absurd H (by simp)
        · rw [if_neg c4] at H
          have c4b0 : decide (x13_1 < (l0.length : Int)) = false := decide_eq_false c4
          clear c4
          obtain rfl := Option.some.inj H
          go_wp2
          repeat (go_quiet (fail); try go_wp2)
          go_ret
          exact ⟨by first | rfl | (simp; done) | (simp [*]; done), by repeat (first | exact Drawn0.refl _ | apply Drawn0.step)⟩
  · rw [if_neg c3] at H
    have c3b0 : ((l0.length : Int) == (l1.length : Int)) = false := beq_eq_false_iff_ne.mpr c3
    have c3b1 : ((l0.length : Int) != (l1.length : Int)) = true := bne_iff_ne.mpr c3
    have c3b2 : (l0.length == l1.length) = false := by first | simpa using c3 | (simp at c3 ⊢; omega)
    obtain rfl := Option.some.inj H
    go_enter Try.func51, Try.ntmps51
    go_wp2
    repeat (go_quiet (fail); try go_wp2)
    go_ret
    exact ⟨by first | rfl | (simp; done) | (simp [*]; done), by repeat (first | exact Drawn0.refl _ | apply Drawn0.step)⟩

end Go.Proofs.Ytfdmfgaiblfbhaa.P
namespace Go.Proofs.Ytfdmfgaiblfbhaa.P
open Go.RowKit Go.Proofs.YtfdmfgaiblfbhaaW.PrintWords Go.Proofs.YtfdmfgaiblfbhaaW.PrintLast Go.Proofs.YtfdmfgaiblfbhaaW.PrintMore
attribute [local go_sem] max2_int min2_int max_two min_two max_three min_three max_four min_four   -- for this text's walks alone
set_option linter.unusedVariables false
set_option linter.unusedSimpArgs false

/-! ### cell_Leaves: function 83 -/
mutual
def cell_Leaves.l0 : Nat → List Int → List (S26) → Int → Int → Option (List Int)
  | 0, _, _, _, _ => none
  | k + 1, x3, x6, x7, x8 => if x8 < x7 then (if 0 ≤ x8 then (if x8 < (x6.length : Int) then (if ((rd_T26 x6 x8).f0) = 1 then (if x3.length < 17592186044416 then ((some (x3 ++ [(rd_T26 x6 x8).f2] : List Int)).bind fun y528 => ((cell_Leaves.f k ((rd_T26 x6 x8).f3)).bind fun t531 => (if y528.length + t531.length < 17592186044416 then (cell_Leaves.l0 k (y528 ++ t531) x6 x7 (wrap64 (x8 + 1))) else (none)))) else (none)) else ((cell_Leaves.f k ((rd_T26 x6 x8).f3)).bind fun t537 => (if x3.length + t537.length < 17592186044416 then (cell_Leaves.l0 k (x3 ++ t537) x6 x7 (wrap64 (x8 + 1))) else (none)))) else (none)) else (none)) else (some x3)
def cell_Leaves.f : Nat → List (S26) → Option (List Int)
  | 0, _ => none
  | k + 1, l0 => cell_Leaves.l0 k ([] : List Int) l0 (l0.length : Int) 0
end
theorem cell_Leaves.mono_l : ∀ k, (∀ y0, LeO (cell_Leaves.f k y0) (cell_Leaves.f (k + 1) y0)) ∧ (∀ y0 y1 y2 y3, LeO (cell_Leaves.l0 k y0 y1 y2 y3) (cell_Leaves.l0 (k + 1) y0 y1 y2 y3))
  | 0 => ⟨fun _ r h => by simp [cell_Leaves.f] at h, fun _ _ _ _ r h => by simp [cell_Leaves.l0] at h⟩
  | k + 1 => by
    obtain ⟨ih0, ih1⟩ := cell_Leaves.mono_l k
    refine ⟨?_, ?_⟩
    · intro y0
      unfold cell_Leaves.f
      repeat' first
      | (with_reducible exact ih0 _)
      | (with_reducible exact ih1 _ _ _ _)
      | (with_reducible exact LeO.refl _)
      | (with_reducible exact LeO.none _)
      | (with_reducible refine LeO.ite ?_ ?_)
      | (with_reducible refine LeO.bind ?_ (fun _ => ?_))
      | exact ih0 _
      | exact ih1 _ _ _ _
      | exact LeO.none _
      | refine LeO.ite ?_ ?_
      | refine LeO.bind ?_ (fun _ => ?_)
    · intro y0 y1 y2 y3
      unfold cell_Leaves.l0
      repeat' first
      | (with_reducible exact ih0 _)
      | (with_reducible exact ih1 _ _ _ _)
      | (with_reducible exact LeO.refl _)
      | (with_reducible exact LeO.none _)
      | (with_reducible refine LeO.ite ?_ ?_)
      | (with_reducible refine LeO.bind ?_ (fun _ => ?_))
      | exact ih0 _
      | exact ih1 _ _ _ _
      | exact LeO.none _
      | refine LeO.ite ?_ ?_
      | refine LeO.bind ?_ (fun _ => ?_)
theorem cell_Leaves.mono : ∀ a0 k, LeO (cell_Leaves.f k a0) (cell_Leaves.f (k + 1) a0) := by
  intro a0 k
  obtain ⟨ih0, ih1⟩ := cell_Leaves.mono_l k
  exact ih0 a0
set_option maxHeartbeats 8000000 in
set_option maxRecDepth 100000 in
theorem cell_Leaves.calls (k : Nat) : ∀ (A0 : Option Addr) (c0 : Nat) (l0 : List (S26)) (r : List Int) (w : World) (hr0 : Kd.C k26 w A0 l0.length l0) (hc0 : l0.length ≤ c0) (h : cell_Leaves.f k l0 = some r),
    Calls Try.prog 83 #[.slice A0 l0.length c0] w fun e w' => ∃ v0_ : Value, e = .returned (v0_) ∧ Kd.R (Kd.int .i64) 3 w' w.heap.size (fun _ => True) v0_ r ∧ Below w.heap.size w w' := by
  induction k using Nat.strongRecOn with
  | _ k ih =>
  intro A0 c0 l0 r w hr0 hc0 h
  cases k with
  | zero => exact absurd h (by simp [cell_Leaves.f])
  | succ k =>
  simp only [cell_Leaves.f] at h
  have hu26 := Try.underlying26
  have HR0 := Aside0.mk hr0
  have HC0 := Aside0.mk hc0
  clear hr0 hc0
  have HB := Aside0.mk (Below.refl w.heap.size w)
  have H : (cell_Leaves.l0 k ([] : List Int) l0 (l0.length : Int) 0) = some r := h
  clear h
  have H' := Aside0.mk H
  clear H
  go_enter Try.func83, Try.ntmps83
  go_wp2
  go_loopg [3, 8] k (fun kq v3 v8 w' => ∃ (x3_1 : List Int) (x8_1 : Int), v8 = .int .i64 x8_1 ∧ Aside0 (cell_Leaves.l0 kq x3_1 l0 (l0.length : Int) x8_1 = some r) ∧ Aside0 (kq ≤ k) ∧ Aside0 (Kd.R (Kd.int .i64) 3 w' w.heap.size (fun _ => True) v3 x3_1) ∧ Aside0 (Below w.heap.size w w'))
  case atStart => exact ⟨(([] : List Int)), (0), (by first | rfl | (simp; done) | (simp [*]; done)), H', ⟨Nat.le_refl _⟩, ⟨by first | exact Kd.R_nil _ _ _ _ _ | exact Kd.N_nil _ _ _ _ _ | exact Kd.V_nil _ _ _ _ _ | exact Kd.Q_nil _ _ _ _ _ | exact Kd.S_nil _ _ _ _ _⟩, ⟨by repeat (first | (with_reducible first | exact HB.out | apply below_alloc | apply pw_below_drewN | apply below_drew1) | exact HB.out)⟩⟩
  case round =>
    clear H'
    obtain ⟨x3_1, x8_1, rfl, HA, HK1, HO_3, HB⟩ := hrel
    cases gk with
    | zero => exact absurd HA.out (by simp [cell_Leaves.l0])
    | succ k1 =>
      have H := HA.out
      clear HA
      simp only [cell_Leaves.l0] at H
      by_cases c2 : x8_1 < (l0.length : Int)
      · rw [if_pos c2] at H
        have c2b0 : decide (x8_1 < (l0.length : Int)) = true := decide_eq_true c2
        clear c2
        by_cases c3 : 0 ≤ x8_1
        · rw [if_pos c3] at H
          have c3b0 : decide (0 ≤ x8_1) = true := decide_eq_true c3
          clear c3
          by_cases c4 : x8_1 < (l0.length : Int)
          · rw [if_pos c4] at H
            have c4b0 : decide (x8_1 < (l0.length : Int)) = true := decide_eq_true c4
            clear c4
            by_cases c5 : ((rd_T26 l0 x8_1).f0) = 1
            · rw [if_pos c5] at H
              have c5b0 : (((rd_T26 l0 x8_1).f0) == 1) = true := beq_iff_eq.mpr c5
              have c5b1 : (((rd_T26 l0 x8_1).f0) != 1) = false := bne_eq_false_iff_eq.mpr c5
              clear c5
              by_cases c6 : x3_1.length < 17592186044416
              · rw [if_pos c6] at H
                have LMc6 := Aside0.mk c6
                clear c6
                obtain ⟨y528, hy528⟩ : ∃ y_ : List Int, y_ = (x3_1 ++ [(rd_T26 l0 x8_1).f2]) := ⟨_, rfl⟩
                replace H : ((cell_Leaves.f k1 ((rd_T26 l0 x8_1).f3)).bind fun t531 => (if y528.length + t531.length < 17592186044416 then (cell_Leaves.l0 k1 (y528 ++ t531) l0 (l0.length : Int) (wrap64 (x8_1 + 1))) else (none))) = some r := by first | (rw [hy528]; with_reducible exact H) | (have H2_ := (Option.bind_some _ _).symm.trans H; rw [hy528]; with_reducible exact H2_) | (have H2_ := (Option.bind_some _ _).symm.trans H; with_reducible exact H2_) | with_reducible exact H | (rw [hy528]; exact H) | exact H
                have Ny528 := Aside0.mk hy528
                clear hy528
                replace H := Option.bind_eq_some_iff.mp H
                obtain ⟨t531, A70, H⟩ := H
                replace H : (if y528.length + t531.length < 17592186044416 then (cell_Leaves.l0 k1 (y528 ++ t531) l0 (l0.length : Int) (wrap64 (x8_1 + 1))) else (none)) = some r := H
                have A7 := Aside0.mk A70
                clear A70
                by_cases c8 : y528.length + t531.length < 17592186044416
                · rw [if_pos c8] at H
                  have LMc8 := Aside0.mk c8
                  clear c8
                  obtain ⟨y534, hy534⟩ : ∃ y_ : List Int, y_ = (y528 ++ t531) := ⟨_, rfl⟩
                  replace H : (cell_Leaves.l0 k1 y534 l0 (l0.length : Int) (wrap64 (x8_1 + 1))) = some r := by first | (rw [hy534]; with_reducible exact H) | (have H2_ := (Option.bind_some _ _).symm.trans H; rw [hy534]; with_reducible exact H2_) | (have H2_ := (Option.bind_some _ _).symm.trans H; with_reducible exact H2_) | with_reducible exact H | (rw [hy534]; exact H) | exact H
                  have Ny534 := Aside0.mk hy534
                  clear hy534
                  have H' := Aside0.mk H
                  clear H
                  have p526 : 0 ≤ (x8_1 : Int) := of_decide_eq_true (by first | (with_reducible assumption) | assumption)
                  have q526 : x8_1 < (l0.length : Int) := of_decide_eq_true (by first | (with_reducible assumption) | assumption)
                  obtain ⟨ad526, A526_6, c526_6, e526, hx526_0, hx526_1, hx526_2, hx526_3, hx526_4, hx526_5, hx526_6, hl526_6, hi526_6⟩ := at_T26 HR0.out x8_1 p526 q526
                  cases e526
                  replace hx526_0 := (HB.out.cell (World.block_lt_of_cell? w _ hx526_0)).trans hx526_0
                  replace hx526_1 := (HB.out.cell (World.block_lt_of_cell? w _ hx526_1)).trans hx526_1
                  replace hx526_2 := (HB.out.cell (World.block_lt_of_cell? w _ hx526_2)).trans hx526_2
                  replace hx526_3 := (HB.out.cell (World.block_lt_of_cell? w _ hx526_3)).trans hx526_3
                  replace hx526_4 := (HB.out.cell (World.block_lt_of_cell? w _ hx526_4)).trans hx526_4
                  replace hx526_5 := (HB.out.cell (World.block_lt_of_cell? w _ hx526_5)).trans hx526_5
                  replace hx526_6 := (HB.out.cell (World.block_lt_of_cell? w _ hx526_6)).trans hx526_6
                  have HR526_6 := Aside0.mk hi526_6
                  have HC526_6 := Aside0.mk hl526_6
                  clear hi526_6 hl526_6
                  replace p526 := eq_true p526
                  replace q526 := eq_true q526
                  go_wp2_with (first | ((with_reducible refine gate_dst (N := 5) rfl ?_); refine box_event ?hg (N := 5) ?hd (cs := #[.int .u8 0, .int .i64 0, .int .i64 0, .int .i64 0, .int .i64 0, .int .i64 0, .slice none 0 0]) (t := 26) ?hr ?_; (case hd => rfl); (case hg => rfl); (case hr => first | (go_simp; done) | (go_simp; rfl)); intro gb527 hg w9 hbox hb; have n0_ := Aside0.mk (Kd.R_below (by (with_reducible repeat (first | apply Kd.R_alloc | apply Kd.R_drewN | apply Kd.R_drew)); exact HO_3.out) hb); have n1_ := Aside0.mk (below_step (by repeat (first | (with_reducible first | exact HB.out | apply below_alloc | apply pw_below_drewN | apply below_drew1) | exact HB.out)) hb); have n2_ := Aside0.mk (hbox); have n3_ := Aside0.mk ((by rw [hg]; exact (below_size (by repeat (first | (with_reducible first | exact HB.out | apply below_alloc | apply pw_below_drewN | apply below_drew1) | exact HB.out))) : w.heap.size ≤ gb527)); have n4_ := Aside0.mk ((by rw [hg]; exact (below_size (by repeat (first | (with_reducible first | exact HB.out | apply below_alloc | apply pw_below_drewN | apply below_drew1) | exact HB.out))) : w.heap.size ≤ gb527)); clear HO_3; clear HB; have HO_3 := n0_; have HB := n1_; have BK527 := n2_; have GW527 := n3_; have GE527 := n4_; clear n0_ n1_ n2_ n3_ n4_; clear hb hbox hg; have hcz10_0 : w9.cell? ⟨gb527, 0, none⟩ = some (.int .u8 0) := (blk_cell BK527.out 0).trans rfl; have hcz10_1 : w9.cell? ⟨gb527, 1, none⟩ = some (.int .i64 0) := (blk_cell BK527.out 1).trans rfl; have hcz10_2 : w9.cell? ⟨gb527, 2, none⟩ = some (.int .i64 0) := (blk_cell BK527.out 2).trans rfl; have hcz10_3 : w9.cell? ⟨gb527, 3, none⟩ = some (.int .i64 0) := (blk_cell BK527.out 3).trans rfl; have hcz10_4 : w9.cell? ⟨gb527, 4, none⟩ = some (.int .i64 0) := (blk_cell BK527.out 4).trans rfl; have hcz10_5 : w9.cell? ⟨gb527, 5, none⟩ = some (.int .i64 0) := (blk_cell BK527.out 5).trans rfl; have hcz10_6 : w9.cell? ⟨gb527, 6, none⟩ = some (.slice none 0 0) := (blk_cell BK527.out 6).trans rfl; have hfz10_0 := blk_frozen BK527.out 0; have hfz10_1 := blk_frozen BK527.out 1; have hfz10_2 := blk_frozen BK527.out 2; have hfz10_3 := blk_frozen BK527.out 3; have hfz10_4 := blk_frozen BK527.out 4; have hfz10_5 := blk_frozen BK527.out 5; have hfz10_6 := blk_frozen BK527.out 6) | ((with_reducible refine gate_builtin (b := .append) (xs := #[.tmp 15, .tmp 18]) rfl ?_); at_builtin; refine Kd.R_append (Kd.int .i64) (w0 := w) w.heap.size rfl (.tmp 15) (.tmp 18) 41 3 (.int .i64 0) 8 rfl Try.underlying41 info3 rfl (by decide) (by omega) u3 x3_1 ((rd_T26 l0 x8_1).f2) [.int .i64 ((rd_T26 l0 x8_1).f2)] (fun _ => True) (fun _ => False) rfl (by first | (go_simp; done) | (go_simp; rfl)) ?aP (fun _ hk => hk.elim) ?aF ?aO ?aB ?aS ?aL ?_; (case aP => exact rfl); (case aB => exact (by repeat (first | (with_reducible first | exact HB.out | apply below_alloc | apply pw_below_drewN | apply below_drew1 | refine below_set ?_ GE527.out) | exact HB.out))); (case aF => exact (fun _ _ => trivial)); (case aO => exact (by (with_reducible repeat (first | apply Kd.R_alloc | apply Kd.R_drewN | apply Kd.R_drew)); exact Kd.R_mono (Kd.R_far (p := ⟨gb527, 6, none⟩) (Kd.R_far (p := ⟨gb527, 5, none⟩) (Kd.R_far (p := ⟨gb527, 4, none⟩) (Kd.R_far (p := ⟨gb527, 3, none⟩) (Kd.R_far (p := ⟨gb527, 2, none⟩) (Kd.R_far (p := ⟨gb527, 1, none⟩) (Kd.R_far (p := ⟨gb527, 0, none⟩) (Kd.R_types HO_3.out BK527.out (by decide)) (fun _ hk => hk.2) (.int .u8 ((rd_T26 l0 x8_1).f0))) (fun _ hk => hk.2) (.int .i64 ((rd_T26 l0 x8_1).f1.f0))) (fun _ hk => hk.2) (.int .i64 ((rd_T26 l0 x8_1).f1.f1))) (fun _ hk => hk.2) (.int .i64 ((rd_T26 l0 x8_1).f1.f2))) (fun _ hk => hk.2) (.int .i64 ((rd_T26 l0 x8_1).f1.f3))) (fun _ hk => hk.2) (.int .i64 ((rd_T26 l0 x8_1).f2))) (fun _ hk => hk.2) (.slice A526_6 ((rd_T26 l0 x8_1).f3).length c526_6)) (fun _ hk => trivial))); (case aS => exact (below_size (by repeat (first | (with_reducible first | exact HB.out | apply below_alloc | apply pw_below_drewN | apply below_drew1 | refine below_set ?_ GE527.out) | exact HB.out)))); (case aL => have := LMc6.out; omega); intro v529 w11 ho hb hg hat; rw [← Ny528.out] at ho; have n0_ := Aside0.mk (blk_grown (g := gb527) (o := .cells #[.int .u8 ((rd_T26 l0 x8_1).f0), .int .i64 ((rd_T26 l0 x8_1).f1.f0), .int .i64 ((rd_T26 l0 x8_1).f1.f1), .int .i64 ((rd_T26 l0 x8_1).f1.f2), .int .i64 ((rd_T26 l0 x8_1).f1.f3), .int .i64 ((rd_T26 l0 x8_1).f2), .slice A526_6 ((rd_T26 l0 x8_1).f3).length c526_6] 26 (0, 0)) (by (with_reducible repeat (first | refine blk_drewN ?_ _ | refine blk_drew ?_ | refine blk_alloc ?_ _)); refine blk_put (cs := #[.int .u8 ((rd_T26 l0 x8_1).f0), .int .i64 ((rd_T26 l0 x8_1).f1.f0), .int .i64 ((rd_T26 l0 x8_1).f1.f1), .int .i64 ((rd_T26 l0 x8_1).f1.f2), .int .i64 ((rd_T26 l0 x8_1).f1.f3), .int .i64 ((rd_T26 l0 x8_1).f2), .slice none 0 0]) ?_ 6 _ rfl; (with_reducible repeat (first | refine blk_drewN ?_ _ | refine blk_drew ?_ | refine blk_alloc ?_ _)); refine blk_put (cs := #[.int .u8 ((rd_T26 l0 x8_1).f0), .int .i64 ((rd_T26 l0 x8_1).f1.f0), .int .i64 ((rd_T26 l0 x8_1).f1.f1), .int .i64 ((rd_T26 l0 x8_1).f1.f2), .int .i64 ((rd_T26 l0 x8_1).f1.f3), .int .i64 0, .slice none 0 0]) ?_ 5 _ rfl; (with_reducible repeat (first | refine blk_drewN ?_ _ | refine blk_drew ?_ | refine blk_alloc ?_ _)); refine blk_put (cs := #[.int .u8 ((rd_T26 l0 x8_1).f0), .int .i64 ((rd_T26 l0 x8_1).f1.f0), .int .i64 ((rd_T26 l0 x8_1).f1.f1), .int .i64 ((rd_T26 l0 x8_1).f1.f2), .int .i64 0, .int .i64 0, .slice none 0 0]) ?_ 4 _ rfl; (with_reducible repeat (first | refine blk_drewN ?_ _ | refine blk_drew ?_ | refine blk_alloc ?_ _)); refine blk_put (cs := #[.int .u8 ((rd_T26 l0 x8_1).f0), .int .i64 ((rd_T26 l0 x8_1).f1.f0), .int .i64 ((rd_T26 l0 x8_1).f1.f1), .int .i64 0, .int .i64 0, .int .i64 0, .slice none 0 0]) ?_ 3 _ rfl; (with_reducible repeat (first | refine blk_drewN ?_ _ | refine blk_drew ?_ | refine blk_alloc ?_ _)); refine blk_put (cs := #[.int .u8 ((rd_T26 l0 x8_1).f0), .int .i64 ((rd_T26 l0 x8_1).f1.f0), .int .i64 0, .int .i64 0, .int .i64 0, .int .i64 0, .slice none 0 0]) ?_ 2 _ rfl; (with_reducible repeat (first | refine blk_drewN ?_ _ | refine blk_drew ?_ | refine blk_alloc ?_ _)); refine blk_put (cs := #[.int .u8 ((rd_T26 l0 x8_1).f0), .int .i64 0, .int .i64 0, .int .i64 0, .int .i64 0, .int .i64 0, .slice none 0 0]) ?_ 1 _ rfl; (with_reducible repeat (first | refine blk_drewN ?_ _ | refine blk_drew ?_ | refine blk_alloc ?_ _)); refine blk_put (cs := #[.int .u8 0, .int .i64 0, .int .i64 0, .int .i64 0, .int .i64 0, .int .i64 0, .slice none 0 0]) ?_ 0 _ rfl; (with_reducible repeat (first | refine blk_drewN ?_ _ | refine blk_drew ?_ | refine blk_alloc ?_ _)); exact BK527.out) hg (Kd.R_ne HO_3.out BK527.out (by decide))); have n1_ := Aside0.mk (hb); have n2_ := Aside0.mk (ho); clear BK527; clear HB; clear HO_3; have BK527 := n0_; have HB := n1_; have HO530 := n2_; clear n0_ n1_ n2_; clear ho hb hg hat; have hcz12_0 : w11.cell? ⟨gb527, 0, none⟩ = some (.int .u8 ((rd_T26 l0 x8_1).f0)) := (blk_cell BK527.out 0).trans rfl; have hcz12_1 : w11.cell? ⟨gb527, 1, none⟩ = some (.int .i64 ((rd_T26 l0 x8_1).f1.f0)) := (blk_cell BK527.out 1).trans rfl; have hcz12_2 : w11.cell? ⟨gb527, 2, none⟩ = some (.int .i64 ((rd_T26 l0 x8_1).f1.f1)) := (blk_cell BK527.out 2).trans rfl; have hcz12_3 : w11.cell? ⟨gb527, 3, none⟩ = some (.int .i64 ((rd_T26 l0 x8_1).f1.f2)) := (blk_cell BK527.out 3).trans rfl; have hcz12_4 : w11.cell? ⟨gb527, 4, none⟩ = some (.int .i64 ((rd_T26 l0 x8_1).f1.f3)) := (blk_cell BK527.out 4).trans rfl; have hcz12_5 : w11.cell? ⟨gb527, 5, none⟩ = some (.int .i64 ((rd_T26 l0 x8_1).f2)) := (blk_cell BK527.out 5).trans rfl; have hcz12_6 : w11.cell? ⟨gb527, 6, none⟩ = some (.slice A526_6 ((rd_T26 l0 x8_1).f3).length c526_6) := (blk_cell BK527.out 6).trans rfl; have hfz12_0 := blk_frozen BK527.out 0; have hfz12_1 := blk_frozen BK527.out 1; have hfz12_2 := blk_frozen BK527.out 2; have hfz12_3 := blk_frozen BK527.out 3; have hfz12_4 := blk_frozen BK527.out 4; have hfz12_5 := blk_frozen BK527.out 5; have hfz12_6 := blk_frozen BK527.out 6) | ((with_reducible refine gate_callee (f := 83) rfl ?_); refine goesL_ (some 23) rfl rfl Try.func83 (by kernel_rfl) rfl #[.slice A526_6 ((rd_T26 l0 x8_1).f3).length c526_6] rfl (by (try simp only [List.map_toArray, List.map_cons, List.map_nil]); first | done | rfl | (simp only [List.length_drop, List.length_take]; rfl)) ?_; (with_reducible refine (ih k1 (by have := HK1.out; omega) _ _ ((rd_T26 l0 x8_1).f3) t531 _ ?side1 ?side2 A7.out).mono ?_); (case side1 => repeat (first | exact (Kd.C_below HR526_6.out HB.out) | (with_reducible refine Kd.C_alloc ?_ _) | (with_reducible refine Kd.C_drewN ?_ _) | (with_reducible refine Kd.C_drew ?_))); (case side2 => exact HC526_6.out); rintro e w13 ⟨v532, rfl, ho0, hb⟩; refine ⟨_, rfl, ?_⟩; have n0_ := Aside0.mk (Kd.R_elder' (by (with_reducible repeat (first | apply Kd.R_alloc | apply Kd.R_drewN | apply Kd.R_drew)); exact HO530.out) (Kd.R_base ho0) hb); have n1_ := Aside0.mk (Kd.R_lower (Kd.R_new' ho0 (Kd.R_lt (by (with_reducible repeat (first | apply Kd.R_alloc | apply Kd.R_drewN | apply Kd.R_drew)); exact HO530.out))) (below_size (by repeat (first | (with_reducible first | exact HB.out | apply below_alloc | apply pw_below_drewN | apply below_drew1 | refine below_set ?_ GE527.out) | exact HB.out)))); have n2_ := Aside0.mk (blk_below (g := gb527) (o := .cells #[.int .u8 ((rd_T26 l0 x8_1).f0), .int .i64 ((rd_T26 l0 x8_1).f1.f0), .int .i64 ((rd_T26 l0 x8_1).f1.f1), .int .i64 ((rd_T26 l0 x8_1).f1.f2), .int .i64 ((rd_T26 l0 x8_1).f1.f3), .int .i64 ((rd_T26 l0 x8_1).f2), .slice A526_6 ((rd_T26 l0 x8_1).f3).length c526_6] 26 (0, 0)) (by (with_reducible repeat (first | refine blk_drewN ?_ _ | refine blk_drew ?_ | refine blk_alloc ?_ _)); exact BK527.out) hb); have n3_ := Aside0.mk (below_step (by repeat (first | (with_reducible first | exact HB.out | apply below_alloc | apply pw_below_drewN | apply below_drew1 | refine below_set ?_ GE527.out) | exact HB.out)) hb); clear HO530; clear BK527; clear HB; have HO530 := n0_; have HO533 := n1_; have BK527 := n2_; have HB := n3_; clear n0_ n1_ n2_ n3_; (try clear hb); (try clear hb2); (try clear hk); (try clear hi); (try clear ho0); obtain ⟨Ao15, co15, eo15⟩ := Kd.R_slice HO533.out; subst eo15) | ((with_reducible refine gate_builtin (b := .append) (xs := #[.tmp 20, .tmp 23]) rfl ?_); at_builtin; refine Kd.R_append_rows (Kd.int .i64) (w0 := w) w.heap.size rfl (.tmp 20) (.tmp 23) 41 3 (.int .i64 0) 8 rfl Try.underlying41 info3 rfl (by decide) (by omega) v529 y528 t531 _ _ _ (fun k_ => some k_ ≠ (.slice Ao15 t531.length co15 : Value).ownBlock) (fun _ => False) rfl rfl ?aO ?aR (fun _ _ h => h) (fun _ h => h.elim) ?aF ?aB ?aS ?aL ?_; (case aR => repeat (first | exact (Kd.R_reads' HO533.out).2.2 | (with_reducible refine Kd.C_alloc ?_ _) | (with_reducible refine Kd.C_drewN ?_ _) | (with_reducible refine Kd.C_drew ?_))); (case aB => exact (by repeat (first | (with_reducible first | exact HB.out | apply below_alloc | apply pw_below_drewN | apply below_drew1 | refine below_set ?_ GE527.out) | exact HB.out))); (case aF => exact (fun k_ hk => Kd.fresh' (Kd.R_lt (by (with_reducible repeat (first | apply Kd.R_alloc | apply Kd.R_drewN | apply Kd.R_drew)); exact HO533.out)) k_ hk)); (case aO => exact (by (with_reducible repeat (first | apply Kd.R_alloc | apply Kd.R_drewN | apply Kd.R_drew)); exact Kd.R_mono HO530.out (fun _ hk => hk.2))); (case aS => exact (below_size (by repeat (first | (with_reducible first | exact HB.out | apply below_alloc | apply pw_below_drewN | apply below_drew1 | refine below_set ?_ GE527.out) | exact HB.out)))); (case aL => have := LMc8.out; omega); intro v535 w14 ho hb hg hat; rw [← Ny534.out] at ho; have n0_ := Aside0.mk (blk_grown (g := gb527) (o := .cells #[.int .u8 ((rd_T26 l0 x8_1).f0), .int .i64 ((rd_T26 l0 x8_1).f1.f0), .int .i64 ((rd_T26 l0 x8_1).f1.f1), .int .i64 ((rd_T26 l0 x8_1).f1.f2), .int .i64 ((rd_T26 l0 x8_1).f1.f3), .int .i64 ((rd_T26 l0 x8_1).f2), .slice A526_6 ((rd_T26 l0 x8_1).f3).length c526_6] 26 (0, 0)) (by (with_reducible repeat (first | refine blk_drewN ?_ _ | refine blk_drew ?_ | refine blk_alloc ?_ _)); exact BK527.out) hg (Kd.R_ne HO530.out BK527.out (by decide))); have n1_ := Aside0.mk (Kd.R_after (ok := (fun _ => True)) (by (with_reducible repeat (first | apply Kd.R_alloc | apply Kd.R_drewN | apply Kd.R_drew)); exact HO533.out) hg hat); have n2_ := Aside0.mk (hb); have n3_ := Aside0.mk (ho); clear BK527; clear HO533; clear HB; clear HO530; have BK527 := n0_; have HO533 := n1_; have HB := n2_; have HO536 := n3_; clear n0_ n1_ n2_ n3_; clear ho hb hg hat))
                  go_roundg k1
                  case measure => have := HK1.out; omega
                  case rel => exact ⟨(y534), (wrap64 (x8_1 + 1)), (by first | rfl | (simp; done) | (simp [*]; done)), H', ⟨by have := HK1.out; omega⟩, ⟨by (with_reducible repeat (first | apply Kd.R_alloc | apply Kd.R_drewN | apply Kd.R_drew)); exact Kd.R_mono HO536.out (fun _ hk => trivial)⟩, ⟨by repeat (first | (with_reducible first | exact HB.out | apply below_alloc | apply pw_below_drewN | apply below_drew1 | refine below_set ?_ GE527.out) | exact HB.out)⟩⟩
                · rw [if_neg c8] at H
                  exact absurd H (by simp)
              · rw [if_neg c6] at H
                exact absurd H (by simp)
            · rw [if_neg c5] at H
              have c5b0 : (((rd_T26 l0 x8_1).f0) == 1) = false := beq_eq_false_iff_ne.mpr c5
              have c5b1 : (((rd_T26 l0 x8_1).f0) != 1) = true := bne_iff_ne.mpr c5
              replace H := Option.bind_eq_some_iff.mp H
              obtain ⟨t537, A160, H⟩ := H
              replace H : (if x3_1.length + t537.length < 17592186044416 then (cell_Leaves.l0 k1 (x3_1 ++ t537) l0 (l0.length : Int) (wrap64 (x8_1 + 1))) else (none)) = some r := H
              have A16 := Aside0.mk A160
              clear A160
              by_cases c17 : x3_1.length + t537.length < 17592186044416
              · rw [if_pos c17] at H
                have LMc17 := Aside0.mk c17
                clear c17
                obtain ⟨y540, hy540⟩ : ∃ y_ : List Int, y_ = (x3_1 ++ t537) := ⟨_, rfl⟩
                replace H : (cell_Leaves.l0 k1 y540 l0 (l0.length : Int) (wrap64 (x8_1 + 1))) = some r := by first | (rw [hy540]; with_reducible exact H) | (have H2_ := (Option.bind_some _ _).symm.trans H; rw [hy540]; with_reducible exact H2_) | (have H2_ := (Option.bind_some _ _).symm.trans H; with_reducible exact H2_) | with_reducible exact H | (rw [hy540]; exact H) | exact H
                have Ny540 := Aside0.mk hy540
                clear hy540
                have H' := Aside0.mk H
                clear H
                have p526 : 0 ≤ (x8_1 : Int) := of_decide_eq_true (by first | (with_reducible assumption) | assumption)
                have q526 : x8_1 < (l0.length : Int) := of_decide_eq_true (by first | (with_reducible assumption) | assumption)
                obtain ⟨ad526, A526_6, c526_6, e526, hx526_0, hx526_1, hx526_2, hx526_3, hx526_4, hx526_5, hx526_6, hl526_6, hi526_6⟩ := at_T26 HR0.out x8_1 p526 q526
                cases e526
                replace hx526_0 := (HB.out.cell (World.block_lt_of_cell? w _ hx526_0)).trans hx526_0
                replace hx526_1 := (HB.out.cell (World.block_lt_of_cell? w _ hx526_1)).trans hx526_1
                replace hx526_2 := (HB.out.cell (World.block_lt_of_cell? w _ hx526_2)).trans hx526_2
                replace hx526_3 := (HB.out.cell (World.block_lt_of_cell? w _ hx526_3)).trans hx526_3
                replace hx526_4 := (HB.out.cell (World.block_lt_of_cell? w _ hx526_4)).trans hx526_4
                replace hx526_5 := (HB.out.cell (World.block_lt_of_cell? w _ hx526_5)).trans hx526_5
                replace hx526_6 := (HB.out.cell (World.block_lt_of_cell? w _ hx526_6)).trans hx526_6
                have HR526_6 := Aside0.mk hi526_6
                have HC526_6 := Aside0.mk hl526_6
                clear hi526_6 hl526_6
                replace p526 := eq_true p526
                replace q526 := eq_true q526
                go_wp2_with (first | ((with_reducible refine gate_dst (N := 5) rfl ?_); refine box_event ?hg (N := 5) ?hd (cs := #[.int .u8 0, .int .i64 0, .int .i64 0, .int .i64 0, .int .i64 0, .int .i64 0, .slice none 0 0]) (t := 26) ?hr ?_; (case hd => rfl); (case hg => rfl); (case hr => first | (go_simp; done) | (go_simp; rfl)); intro gb527 hg w18 hbox hb; have n0_ := Aside0.mk (Kd.R_below (by (with_reducible repeat (first | apply Kd.R_alloc | apply Kd.R_drewN | apply Kd.R_drew)); exact HO_3.out) hb); have n1_ := Aside0.mk (below_step (by repeat (first | (with_reducible first | exact HB.out | apply below_alloc | apply pw_below_drewN | apply below_drew1) | exact HB.out)) hb); have n2_ := Aside0.mk (hbox); have n3_ := Aside0.mk ((by rw [hg]; exact (below_size (by repeat (first | (with_reducible first | exact HB.out | apply below_alloc | apply pw_below_drewN | apply below_drew1) | exact HB.out))) : w.heap.size ≤ gb527)); have n4_ := Aside0.mk ((by rw [hg]; exact (below_size (by repeat (first | (with_reducible first | exact HB.out | apply below_alloc | apply pw_below_drewN | apply below_drew1) | exact HB.out))) : w.heap.size ≤ gb527)); clear HO_3; clear HB; have HO_3 := n0_; have HB := n1_; have BK527 := n2_; have GW527 := n3_; have GE527 := n4_; clear n0_ n1_ n2_ n3_ n4_; clear hb hbox hg; have hcz19_0 : w18.cell? ⟨gb527, 0, none⟩ = some (.int .u8 0) := (blk_cell BK527.out 0).trans rfl; have hcz19_1 : w18.cell? ⟨gb527, 1, none⟩ = some (.int .i64 0) := (blk_cell BK527.out 1).trans rfl; have hcz19_2 : w18.cell? ⟨gb527, 2, none⟩ = some (.int .i64 0) := (blk_cell BK527.out 2).trans rfl; have hcz19_3 : w18.cell? ⟨gb527, 3, none⟩ = some (.int .i64 0) := (blk_cell BK527.out 3).trans rfl; have hcz19_4 : w18.cell? ⟨gb527, 4, none⟩ = some (.int .i64 0) := (blk_cell BK527.out 4).trans rfl; have hcz19_5 : w18.cell? ⟨gb527, 5, none⟩ = some (.int .i64 0) := (blk_cell BK527.out 5).trans rfl; have hcz19_6 : w18.cell? ⟨gb527, 6, none⟩ = some (.slice none 0 0) := (blk_cell BK527.out 6).trans rfl; have hfz19_0 := blk_frozen BK527.out 0; have hfz19_1 := blk_frozen BK527.out 1; have hfz19_2 := blk_frozen BK527.out 2; have hfz19_3 := blk_frozen BK527.out 3; have hfz19_4 := blk_frozen BK527.out 4; have hfz19_5 := blk_frozen BK527.out 5; have hfz19_6 := blk_frozen BK527.out 6) | ((with_reducible refine gate_callee (f := 83) rfl ?_); refine goesL_ (some 23) rfl rfl Try.func83 (by kernel_rfl) rfl #[.slice A526_6 ((rd_T26 l0 x8_1).f3).length c526_6] rfl (by (try simp only [List.map_toArray, List.map_cons, List.map_nil]); first | done | rfl | (simp only [List.length_drop, List.length_take]; rfl)) ?_; (with_reducible refine (ih k1 (by have := HK1.out; omega) _ _ ((rd_T26 l0 x8_1).f3) t537 _ ?side1 ?side2 A16.out).mono ?_); (case side1 => exact Kd.C_below HR526_6.out (by repeat (first | (with_reducible first | exact HB.out | apply below_alloc | apply pw_below_drewN | apply below_drew1 | refine below_set ?_ GE527.out) | exact HB.out))); (case side2 => exact HC526_6.out); rintro e w20 ⟨v538, rfl, ho0, hb⟩; refine ⟨_, rfl, ?_⟩; have n0_ := Aside0.mk (Kd.R_elder' (by (with_reducible repeat (first | apply Kd.R_alloc | apply Kd.R_drewN | apply Kd.R_drew)); exact (Kd.R_mono (Kd.R_far (p := ⟨gb527, 6, none⟩) (Kd.R_far (p := ⟨gb527, 5, none⟩) (Kd.R_far (p := ⟨gb527, 4, none⟩) (Kd.R_far (p := ⟨gb527, 3, none⟩) (Kd.R_far (p := ⟨gb527, 2, none⟩) (Kd.R_far (p := ⟨gb527, 1, none⟩) (Kd.R_far (p := ⟨gb527, 0, none⟩) (Kd.R_types HO_3.out BK527.out (by decide)) (fun _ hk => hk.2) (.int .u8 ((rd_T26 l0 x8_1).f0))) (fun _ hk => hk.2) (.int .i64 ((rd_T26 l0 x8_1).f1.f0))) (fun _ hk => hk.2) (.int .i64 ((rd_T26 l0 x8_1).f1.f1))) (fun _ hk => hk.2) (.int .i64 ((rd_T26 l0 x8_1).f1.f2))) (fun _ hk => hk.2) (.int .i64 ((rd_T26 l0 x8_1).f1.f3))) (fun _ hk => hk.2) (.int .i64 ((rd_T26 l0 x8_1).f2))) (fun _ hk => hk.2) (.slice A526_6 ((rd_T26 l0 x8_1).f3).length c526_6)) (fun _ h_ => h_.1))) (Kd.R_base ho0) hb); have n1_ := Aside0.mk (Kd.R_lower (Kd.R_new' ho0 (Kd.R_lt (by (with_reducible repeat (first | apply Kd.R_alloc | apply Kd.R_drewN | apply Kd.R_drew)); exact (Kd.R_mono (Kd.R_far (p := ⟨gb527, 6, none⟩) (Kd.R_far (p := ⟨gb527, 5, none⟩) (Kd.R_far (p := ⟨gb527, 4, none⟩) (Kd.R_far (p := ⟨gb527, 3, none⟩) (Kd.R_far (p := ⟨gb527, 2, none⟩) (Kd.R_far (p := ⟨gb527, 1, none⟩) (Kd.R_far (p := ⟨gb527, 0, none⟩) (Kd.R_types HO_3.out BK527.out (by decide)) (fun _ hk => hk.2) (.int .u8 ((rd_T26 l0 x8_1).f0))) (fun _ hk => hk.2) (.int .i64 ((rd_T26 l0 x8_1).f1.f0))) (fun _ hk => hk.2) (.int .i64 ((rd_T26 l0 x8_1).f1.f1))) (fun _ hk => hk.2) (.int .i64 ((rd_T26 l0 x8_1).f1.f2))) (fun _ hk => hk.2) (.int .i64 ((rd_T26 l0 x8_1).f1.f3))) (fun _ hk => hk.2) (.int .i64 ((rd_T26 l0 x8_1).f2))) (fun _ hk => hk.2) (.slice A526_6 ((rd_T26 l0 x8_1).f3).length c526_6)) (fun _ h_ => h_.1))))) (below_size (by repeat (first | (with_reducible first | exact HB.out | apply below_alloc | apply pw_below_drewN | apply below_drew1 | refine below_set ?_ GE527.out) | exact HB.out)))); have n2_ := Aside0.mk (blk_below (g := gb527) (o := .cells #[.int .u8 ((rd_T26 l0 x8_1).f0), .int .i64 ((rd_T26 l0 x8_1).f1.f0), .int .i64 ((rd_T26 l0 x8_1).f1.f1), .int .i64 ((rd_T26 l0 x8_1).f1.f2), .int .i64 ((rd_T26 l0 x8_1).f1.f3), .int .i64 ((rd_T26 l0 x8_1).f2), .slice A526_6 ((rd_T26 l0 x8_1).f3).length c526_6] 26 (0, 0)) (by (with_reducible repeat (first | refine blk_drewN ?_ _ | refine blk_drew ?_ | refine blk_alloc ?_ _)); refine blk_put (cs := #[.int .u8 ((rd_T26 l0 x8_1).f0), .int .i64 ((rd_T26 l0 x8_1).f1.f0), .int .i64 ((rd_T26 l0 x8_1).f1.f1), .int .i64 ((rd_T26 l0 x8_1).f1.f2), .int .i64 ((rd_T26 l0 x8_1).f1.f3), .int .i64 ((rd_T26 l0 x8_1).f2), .slice none 0 0]) ?_ 6 _ rfl; (with_reducible repeat (first | refine blk_drewN ?_ _ | refine blk_drew ?_ | refine blk_alloc ?_ _)); refine blk_put (cs := #[.int .u8 ((rd_T26 l0 x8_1).f0), .int .i64 ((rd_T26 l0 x8_1).f1.f0), .int .i64 ((rd_T26 l0 x8_1).f1.f1), .int .i64 ((rd_T26 l0 x8_1).f1.f2), .int .i64 ((rd_T26 l0 x8_1).f1.f3), .int .i64 0, .slice none 0 0]) ?_ 5 _ rfl; (with_reducible repeat (first | refine blk_drewN ?_ _ | refine blk_drew ?_ | refine blk_alloc ?_ _)); refine blk_put (cs := #[.int .u8 ((rd_T26 l0 x8_1).f0), .int .i64 ((rd_T26 l0 x8_1).f1.f0), .int .i64 ((rd_T26 l0 x8_1).f1.f1), .int .i64 ((rd_T26 l0 x8_1).f1.f2), .int .i64 0, .int .i64 0, .slice none 0 0]) ?_ 4 _ rfl; (with_reducible repeat (first | refine blk_drewN ?_ _ | refine blk_drew ?_ | refine blk_alloc ?_ _)); refine blk_put (cs := #[.int .u8 ((rd_T26 l0 x8_1).f0), .int .i64 ((rd_T26 l0 x8_1).f1.f0), .int .i64 ((rd_T26 l0 x8_1).f1.f1), .int .i64 0, .int .i64 0, .int .i64 0, .slice none 0 0]) ?_ 3 _ rfl; (with_reducible repeat (first | refine blk_drewN ?_ _ | refine blk_drew ?_ | refine blk_alloc ?_ _)); refine blk_put (cs := #[.int .u8 ((rd_T26 l0 x8_1).f0), .int .i64 ((rd_T26 l0 x8_1).f1.f0), .int .i64 0, .int .i64 0, .int .i64 0, .int .i64 0, .slice none 0 0]) ?_ 2 _ rfl; (with_reducible repeat (first | refine blk_drewN ?_ _ | refine blk_drew ?_ | refine blk_alloc ?_ _)); refine blk_put (cs := #[.int .u8 ((rd_T26 l0 x8_1).f0), .int .i64 0, .int .i64 0, .int .i64 0, .int .i64 0, .int .i64 0, .slice none 0 0]) ?_ 1 _ rfl; (with_reducible repeat (first | refine blk_drewN ?_ _ | refine blk_drew ?_ | refine blk_alloc ?_ _)); refine blk_put (cs := #[.int .u8 0, .int .i64 0, .int .i64 0, .int .i64 0, .int .i64 0, .int .i64 0, .slice none 0 0]) ?_ 0 _ rfl; (with_reducible repeat (first | refine blk_drewN ?_ _ | refine blk_drew ?_ | refine blk_alloc ?_ _)); exact BK527.out) hb); have n3_ := Aside0.mk (below_step (by repeat (first | (with_reducible first | exact HB.out | apply below_alloc | apply pw_below_drewN | apply below_drew1 | refine below_set ?_ GE527.out) | exact HB.out)) hb); clear HO_3; clear BK527; clear HB; have HO_3 := n0_; have HO539 := n1_; have BK527 := n2_; have HB := n3_; clear n0_ n1_ n2_ n3_; (try clear hb); (try clear hb2); (try clear hk); (try clear hi); (try clear ho0); obtain ⟨Ao22, co22, eo22⟩ := Kd.R_slice HO539.out; subst eo22) | ((with_reducible refine gate_builtin (b := .append) (xs := #[.tmp 20, .tmp 23]) rfl ?_); at_builtin; refine Kd.R_append_rows (Kd.int .i64) (w0 := w) w.heap.size rfl (.tmp 20) (.tmp 23) 41 3 (.int .i64 0) 8 rfl Try.underlying41 info3 rfl (by decide) (by omega) u3 x3_1 t537 _ _ _ (fun k_ => some k_ ≠ (.slice Ao22 t537.length co22 : Value).ownBlock) (fun _ => False) rfl rfl ?aO ?aR (fun _ _ h => h) (fun _ h => h.elim) ?aF ?aB ?aS ?aL ?_; (case aR => repeat (first | exact (Kd.R_reads' HO539.out).2.2 | (with_reducible refine Kd.C_alloc ?_ _) | (with_reducible refine Kd.C_drewN ?_ _) | (with_reducible refine Kd.C_drew ?_))); (case aB => exact (by repeat (first | (with_reducible first | exact HB.out | apply below_alloc | apply pw_below_drewN | apply below_drew1 | refine below_set ?_ GE527.out) | exact HB.out))); (case aF => exact (fun k_ hk => Kd.fresh' (Kd.R_lt (by (with_reducible repeat (first | apply Kd.R_alloc | apply Kd.R_drewN | apply Kd.R_drew)); exact HO539.out)) k_ hk)); (case aO => exact (by (with_reducible repeat (first | apply Kd.R_alloc | apply Kd.R_drewN | apply Kd.R_drew)); exact Kd.R_mono HO_3.out (fun _ hk => hk.2))); (case aS => exact (below_size (by repeat (first | (with_reducible first | exact HB.out | apply below_alloc | apply pw_below_drewN | apply below_drew1 | refine below_set ?_ GE527.out) | exact HB.out)))); (case aL => have := LMc17.out; omega); intro v541 w21 ho hb hg hat; rw [← Ny540.out] at ho; have n0_ := Aside0.mk (blk_grown (g := gb527) (o := .cells #[.int .u8 ((rd_T26 l0 x8_1).f0), .int .i64 ((rd_T26 l0 x8_1).f1.f0), .int .i64 ((rd_T26 l0 x8_1).f1.f1), .int .i64 ((rd_T26 l0 x8_1).f1.f2), .int .i64 ((rd_T26 l0 x8_1).f1.f3), .int .i64 ((rd_T26 l0 x8_1).f2), .slice A526_6 ((rd_T26 l0 x8_1).f3).length c526_6] 26 (0, 0)) (by (with_reducible repeat (first | refine blk_drewN ?_ _ | refine blk_drew ?_ | refine blk_alloc ?_ _)); exact BK527.out) hg (Kd.R_ne HO_3.out BK527.out (by decide))); have n1_ := Aside0.mk (Kd.R_after (ok := (fun _ => True)) (by (with_reducible repeat (first | apply Kd.R_alloc | apply Kd.R_drewN | apply Kd.R_drew)); exact HO539.out) hg hat); have n2_ := Aside0.mk (hb); have n3_ := Aside0.mk (ho); clear BK527; clear HO539; clear HB; clear HO_3; have BK527 := n0_; have HO539 := n1_; have HB := n2_; have HO542 := n3_; clear n0_ n1_ n2_ n3_; clear ho hb hg hat))
                go_roundg k1
                case measure => have := HK1.out; omega
                case rel => exact ⟨(y540), (wrap64 (x8_1 + 1)), (by first | rfl | (simp; done) | (simp [*]; done)), H', ⟨by have := HK1.out; omega⟩, ⟨by (with_reducible repeat (first | apply Kd.R_alloc | apply Kd.R_drewN | apply Kd.R_drew)); exact Kd.R_mono HO542.out (fun _ hk => trivial)⟩, ⟨by repeat (first | (with_reducible first | exact HB.out | apply below_alloc | apply pw_below_drewN | apply below_drew1 | refine below_set ?_ GE527.out) | exact HB.out)⟩⟩
              · rw [if_neg c17] at H
                exact absurd H (by simp)
          · rw [if_neg c4] at H
            exact absurd H (by simp)
        · rw [if_neg c3] at H
          exact absurd H (by simp)
      · rw [if_neg c2] at H
        have c2b0 : decide (x8_1 < (l0.length : Int)) = false := decide_eq_false c2
        clear c2
        obtain rfl := Option.some.inj H
        go_wp2
        go_ret
        exact ⟨_, by first | rfl | (simp [errW_none, errW_some] <;> rfl) | (simp [*, errW_none, errW_some] <;> rfl), by (with_reducible repeat (first | apply Kd.R_alloc | apply Kd.R_drewN | apply Kd.R_drew)); exact HO_3.out, by repeat (first | (with_reducible first | exact HB.out | apply below_alloc | apply pw_below_drewN | apply below_drew1) | exact HB.out)⟩

end Go.Proofs.Ytfdmfgaiblfbhaa.P
namespace Go.Proofs.Ytfdmfgaiblfbhaa.P
open Go.RowKit Go.Proofs.YtfdmfgaiblfbhaaW.PrintWords Go.Proofs.YtfdmfgaiblfbhaaW.PrintLast Go.Proofs.YtfdmfgaiblfbhaaW.PrintMore
attribute [local go_sem] max2_int min2_int max_two min_two max_three min_three max_four min_four   -- for this text's walks alone
set_option linter.unusedVariables false
set_option linter.unusedSimpArgs false

/-! ### sashref05_Leaves: function 126 -/
def sashref05_Leaves.l0 : Nat → List (S26) → List (S26) → Int → Int → Option ((List (S26)))
  | 0, _, _, _, _ => none
  | k + 1, x3, x4, x10, x11 => if x11 < x10 then (if 0 ≤ x11 then (if x11 < (x4.length : Int) then (if ((rd_T26 x4 x11).f0) = 1 then (if x3.length < 1954687338268 then (sashref05_Leaves.l0 k (x3 ++ [(⟨(rd_T26 x4 x11).f0, (⟨(rd_T26 x4 x11).f1.f0, (rd_T26 x4 x11).f1.f1, (rd_T26 x4 x11).f1.f2, (rd_T26 x4 x11).f1.f3⟩ : S23), (rd_T26 x4 x11).f2, (rd_T26 x4 x11).f3⟩ : S26)]) x4 x10 (wrap64 (x11 + 1))) else (none)) else (sashref05_Leaves.l0 k x3 x4 x10 (wrap64 (x11 + 1)))) else (none)) else (none)) else (some x3)
def sashref05_Leaves.f (k : Nat) (a0_0 : Int) (a0_1 : Int) (a0_2 : Int) (a0_3 : Int) (a0_4 : Int) (a0_5 : Int) (l0_6 : List (S26)) : Option ((List (S26))) := (sashref05_All.f k a0_0 a0_1 a0_2 a0_3 a0_4 a0_5 l0_6).bind fun t146 => (sashref05_Leaves.l0 k (([] : List (S26))) t146 (t146.length : Int) 0)
theorem sashref05_Leaves.mono_l : ∀ k, (∀ y0 y1 y2 y3, LeO (sashref05_Leaves.l0 k y0 y1 y2 y3) (sashref05_Leaves.l0 (k + 1) y0 y1 y2 y3))
  | 0 => fun _ _ _ _ r h => by simp [sashref05_Leaves.l0] at h
  | k + 1 => by
    have ih0 := sashref05_Leaves.mono_l k
    · intro y0 y1 y2 y3
      unfold sashref05_Leaves.l0
      repeat' first
      | (with_reducible exact ih0 _ _ _ _)
      | (with_reducible exact sashref05_All.mono _ _ _ _ _ _ _ _)
      | (with_reducible exact LeO.refl _)
      | (with_reducible exact LeO.none _)
      | (with_reducible refine LeO.ite ?_ ?_)
      | (with_reducible refine LeO.bind ?_ (fun _ => ?_))
      | exact ih0 _ _ _ _
      | exact sashref05_All.mono _ _ _ _ _ _ _ _
      | exact LeO.none _
      | refine LeO.ite ?_ ?_
      | refine LeO.bind ?_ (fun _ => ?_)
theorem sashref05_Leaves.mono : ∀ a0 a1 a2 a3 a4 a5 a6 k, LeO (sashref05_Leaves.f k a0 a1 a2 a3 a4 a5 a6) (sashref05_Leaves.f (k + 1) a0 a1 a2 a3 a4 a5 a6) := by
  intro a0 a1 a2 a3 a4 a5 a6 k
  have ih0 := sashref05_Leaves.mono_l k
  unfold sashref05_Leaves.f
  repeat' first
      | (with_reducible exact ih0 _ _ _ _)
      | (with_reducible exact sashref05_All.mono _ _ _ _ _ _ _ _)
      | (with_reducible exact LeO.refl _)
      | (with_reducible exact LeO.none _)
      | (with_reducible refine LeO.ite ?_ ?_)
      | (with_reducible refine LeO.bind ?_ (fun _ => ?_))
      | exact ih0 _ _ _ _
      | exact sashref05_All.mono _ _ _ _ _ _ _ _
      | exact LeO.none _
      | refine LeO.ite ?_ ?_
      | refine LeO.bind ?_ (fun _ => ?_)
set_option maxHeartbeats 8000000 in
set_option maxRecDepth 100000 in
theorem sashref05_Leaves.calls (k : Nat) (a0_0 : Int) (a0_1 : Int) (a0_2 : Int) (a0_3 : Int) (a0_4 : Int) (a0_5 : Int) (P0_6_ : Nat → Prop) (A0_6 : Option Addr) (c0_6 : Nat) (l0_6 : List (S26)) (r : List (S26)) (w : World) (hs0_6 : Kd.V k26 26 w w.heap.size (fun k_ => P0_6_ k_) (.slice A0_6 l0_6.length c0_6) l0_6) (h : sashref05_Leaves.f k a0_0 a0_1 a0_2 a0_3 a0_4 a0_5 l0_6 = some r) :
    Calls Try.prog 126 #[.agg #[.int .u8 a0_0, .int .i64 a0_1, .int .i64 a0_2, .int .i64 a0_3, .int .i64 a0_4, .int .i64 a0_5, .slice A0_6 l0_6.length c0_6]] w fun e w' => ∃ v0_ : Value, e = .returned (v0_) ∧ Kd.N k26 26 w' w.heap.size (fun k_ => (P0_6_ k_ ∨ w.heap.size ≤ k_)) v0_ r ∧ Below w.heap.size w w' := by
  have hu26 := Try.underlying26
  have HO0_6 := Aside0.mk (show Kd.V k26 26 w w.heap.size (fun k_ => (P0_6_ k_ ∨ w.heap.size ≤ k_)) (.slice A0_6 l0_6.length c0_6) l0_6 from Kd.V_mono hs0_6 (fun k_ hk => .inl hk))
  have HB := Aside0.mk (Below.refl w.heap.size w)
  have H : ((sashref05_All.f k a0_0 a0_1 a0_2 a0_3 a0_4 a0_5 l0_6).bind fun t146 => (sashref05_Leaves.l0 k (([] : List (S26))) t146 (t146.length : Int) 0)) = some r := h
  clear h
  obtain ⟨y143, hy143⟩ : ∃ y_ : List (S26), y_ = (([] : List (S26))) := ⟨_, rfl⟩
  replace H : ((sashref05_All.f k a0_0 a0_1 a0_2 a0_3 a0_4 a0_5 l0_6).bind fun t146 => (sashref05_Leaves.l0 k y143 t146 (t146.length : Int) 0)) = some r := by first | (rw [hy143]; with_reducible exact H) | (have H2_ := (Option.bind_some _ _).symm.trans H; rw [hy143]; with_reducible exact H2_) | (have H2_ := (Option.bind_some _ _).symm.trans H; with_reducible exact H2_) | with_reducible exact H | (rw [hy143]; exact H) | exact H
  have Ny143 := Aside0.mk hy143
  clear hy143
  replace H := Option.bind_eq_some_iff.mp H
  obtain ⟨t146, A20, H⟩ := H
  replace H : (sashref05_Leaves.l0 k y143 t146 (t146.length : Int) 0) = some r := H
  have A2 := Aside0.mk A20
  clear A20
  have H' := Aside0.mk H
  clear H
  go_enter Try.func126, Try.ntmps126
  go_wp2_with (first | ((with_reducible refine gate_dst (N := 1) rfl ?_); refine box_event ?hg (N := 1) ?hd (cs := #[.int .u8 a0_0, .int .i64 a0_1, .int .i64 a0_2, .int .i64 a0_3, .int .i64 a0_4, .int .i64 a0_5, .slice A0_6 l0_6.length c0_6]) (t := 26) ?hr ?_; (case hd => rfl); (case hg => rfl); (case hr => first | (go_simp; done) | (go_simp; rfl)); intro gb142 hg w3 hbox hb; have n0_ := Aside0.mk (Kd.V_below (Kd.V_elderB (by (with_reducible repeat (first | apply Kd.V_alloc | apply Kd.V_drewN | apply Kd.V_drew)); exact HO0_6.out) gb142 (Nat.le_of_eq hg.symm)) hb); have n1_ := Aside0.mk (below_step (by repeat (first | (with_reducible first | exact HB.out | apply below_alloc | apply pw_below_drewN | apply below_drew1) | exact HB.out)) hb); have n2_ := Aside0.mk (hbox); have n3_ := Aside0.mk ((by rw [hg]; exact (below_size (by repeat (first | (with_reducible first | exact HB.out | apply below_alloc | apply pw_below_drewN | apply below_drew1) | exact HB.out))) : w.heap.size ≤ gb142)); have n4_ := Aside0.mk ((by rw [hg]; exact (below_size (by repeat (first | (with_reducible first | exact HB.out | apply below_alloc | apply pw_below_drewN | apply below_drew1) | exact HB.out))) : w.heap.size ≤ gb142)); clear HO0_6; clear HB; have HO0_6 := n0_; have HB := n1_; have BK142 := n2_; have GW142 := n3_; have GE142 := n4_; clear n0_ n1_ n2_ n3_ n4_; clear hb hbox hg) | ((with_reducible refine gate_dst (N := 6) rfl ?_); refine Kd.N_lit k26 _ 26 ?hg (N' := 6) ?hd (xs := ([] : List (S26))) (inner := []) (ok := (fun k_ => (P0_6_ k_ ∨ w.heap.size ≤ k_) ∧ k_ ≠ gb142)) (okp := (fun k_ => (P0_6_ k_ ∨ w.heap.size ≤ k_) ∧ k_ ≠ gb142)) ?hr ?hp (fun _ hk => hk) ((show ∀ k_, w3.heap.size ≤ k_ → (fun k_ => (P0_6_ k_ ∨ w.heap.size ≤ k_) ∧ k_ ≠ gb142) k_ from fun k_ hk => ⟨(.inr (Nat.le_trans (below_size (by repeat (first | (with_reducible first | exact HB.out | apply below_alloc | apply pw_below_drewN | apply below_drew1 | refine below_set ?_ GE142.out) | exact HB.out))) hk)), Kd.freshB (g := gb142) (o := .cells #[.int .u8 a0_0, .int .i64 a0_1, .int .i64 a0_2, .int .i64 a0_3, .int .i64 a0_4, .int .i64 a0_5, .slice A0_6 l0_6.length c0_6] 26 (0, 0)) (by (with_reducible repeat (first | refine blk_drewN ?_ _ | refine blk_drew ?_ | refine blk_alloc ?_ _)); exact BK142.out) k_ hk⟩) _ (Nat.le_refl _)) (Below.refl _ _) (Nat.le_refl _) (by simp) ?_; (case hd => rfl); (case hg => rfl); (case hr => first | (go_simp; done) | (go_simp; rfl)); (case hp => exact (Reps.none _ _)); intro v144 w4 ho5 hb hg_ hnew_; clear hg_ hnew_; (first | rw [← Ny143.out] at ho5 | (simp only [Int.reduceToNat] at ho5; rw [← Ny143.out] at ho5)); have n0_ := Aside0.mk (Kd.V_elder' (by (with_reducible repeat (first | apply Kd.V_alloc | apply Kd.V_drewN | apply Kd.V_drew)); exact HO0_6.out) (Kd.N_base ho5) hb); have n1_ := Aside0.mk (Kd.N_lower ho5 (below_size (by repeat (first | (with_reducible first | exact HB.out | apply below_alloc | apply pw_below_drewN | apply below_drew1 | refine below_set ?_ GE142.out) | exact HB.out)))); have n2_ := Aside0.mk (blk_below (g := gb142) (o := .cells #[.int .u8 a0_0, .int .i64 a0_1, .int .i64 a0_2, .int .i64 a0_3, .int .i64 a0_4, .int .i64 a0_5, .slice A0_6 l0_6.length c0_6] 26 (0, 0)) (by (with_reducible repeat (first | refine blk_drewN ?_ _ | refine blk_drew ?_ | refine blk_alloc ?_ _)); exact BK142.out) hb); have n3_ := Aside0.mk (below_step (by repeat (first | (with_reducible first | exact HB.out | apply below_alloc | apply pw_below_drewN | apply below_drew1 | refine below_set ?_ GE142.out) | exact HB.out)) hb); clear HO0_6; clear BK142; clear HB; have HO0_6 := n0_; have HO145 := n1_; have BK142 := n2_; have HB := n3_; clear n0_ n1_ n2_ n3_; clear hb ho5; have hcz6_0 : w4.cell? ⟨gb142, 0, none⟩ = some (.int .u8 a0_0) := (blk_cell BK142.out 0).trans rfl; have hcz6_1 : w4.cell? ⟨gb142, 1, none⟩ = some (.int .i64 a0_1) := (blk_cell BK142.out 1).trans rfl; have hcz6_2 : w4.cell? ⟨gb142, 2, none⟩ = some (.int .i64 a0_2) := (blk_cell BK142.out 2).trans rfl; have hcz6_3 : w4.cell? ⟨gb142, 3, none⟩ = some (.int .i64 a0_3) := (blk_cell BK142.out 3).trans rfl; have hcz6_4 : w4.cell? ⟨gb142, 4, none⟩ = some (.int .i64 a0_4) := (blk_cell BK142.out 4).trans rfl; have hcz6_5 : w4.cell? ⟨gb142, 5, none⟩ = some (.int .i64 a0_5) := (blk_cell BK142.out 5).trans rfl; have hcz6_6 : w4.cell? ⟨gb142, 6, none⟩ = some (.slice A0_6 l0_6.length c0_6) := (blk_cell BK142.out 6).trans rfl; have hfz6_0 := blk_frozen BK142.out 0; have hfz6_1 := blk_frozen BK142.out 1; have hfz6_2 := blk_frozen BK142.out 2; have hfz6_3 := blk_frozen BK142.out 3; have hfz6_4 := blk_frozen BK142.out 4; have hfz6_5 := blk_frozen BK142.out 5; have hfz6_6 := blk_frozen BK142.out 6) | ((with_reducible refine gate_callee (f := 79) rfl ?_); refine goesL_ (some 8) rfl rfl Try.func79 (by kernel_rfl) rfl #[.agg #[.int .u8 a0_0, .int .i64 a0_1, .int .i64 a0_2, .int .i64 a0_3, .int .i64 a0_4, .int .i64 a0_5, .slice A0_6 l0_6.length c0_6]] rfl (by (try simp only [List.map_toArray, List.map_cons, List.map_nil]); first | done | rfl | (simp only [List.length_drop, List.length_take]; rfl)) ?_; (with_reducible refine (sashref05_All.calls k a0_0 a0_1 a0_2 a0_3 a0_4 a0_5 (fun k_ => (((P0_6_ k_ ∨ w.heap.size ≤ k_) ∧ k_ ≠ gb142) ∧ some k_ ≠ (v144 : Value).ownBlock)) _ _ l0_6 t146 _ ?side1 A2.out).mono ?_); (case side1 => exact HO0_6.out); rintro e w7 ⟨v147, rfl, ho0, hb⟩; refine ⟨_, rfl, ?_⟩; have n0_ := Aside0.mk (Kd.V_elder' (by (with_reducible repeat (first | apply Kd.V_alloc | apply Kd.V_drewN | apply Kd.V_drew)); exact HO0_6.out) (Kd.N_base ho0) hb); have n1_ := Aside0.mk (Kd.N_elder' (by (with_reducible repeat (first | apply Kd.N_alloc | apply Kd.N_drewN | apply Kd.N_drew)); exact HO145.out) (Kd.N_base ho0) hb); have n2_ := Aside0.mk (Kd.N_lower (Kd.N_mono (ok' := fun k_ => (P0_6_ k_ ∨ w.heap.size ≤ k_) ∧ some k_ ≠ (v144 : Value).ownBlock ∧ k_ ≠ gb142) ho0 (fun k_ hk_ => ⟨Or.elim hk_ (fun hs_ => hs_.1.1) (fun hn_ => (.inr (Nat.le_trans (below_size (by repeat (first | (with_reducible first | exact HB.out | apply below_alloc | apply pw_below_drewN | apply below_drew1 | refine below_set ?_ GE142.out) | exact HB.out))) hn_))), Or.elim hk_ (fun hs_ => hs_.2) (fun hn_ => (Kd.fresh' (Kd.N_lt (by (with_reducible repeat (first | apply Kd.N_alloc | apply Kd.N_drewN | apply Kd.N_drew)); exact HO145.out)) k_ hn_)), Or.elim hk_ (fun hs_ => hs_.1.2) (fun hn_ => (Kd.freshB (g := gb142) (o := .cells #[.int .u8 a0_0, .int .i64 a0_1, .int .i64 a0_2, .int .i64 a0_3, .int .i64 a0_4, .int .i64 a0_5, .slice A0_6 l0_6.length c0_6] 26 (0, 0)) (by (with_reducible repeat (first | refine blk_drewN ?_ _ | refine blk_drew ?_ | refine blk_alloc ?_ _)); exact BK142.out) k_ hn_))⟩)) (below_size (by repeat (first | (with_reducible first | exact HB.out | apply below_alloc | apply pw_below_drewN | apply below_drew1 | refine below_set ?_ GE142.out) | exact HB.out)))); have n3_ := Aside0.mk (blk_below (g := gb142) (o := .cells #[.int .u8 a0_0, .int .i64 a0_1, .int .i64 a0_2, .int .i64 a0_3, .int .i64 a0_4, .int .i64 a0_5, .slice A0_6 l0_6.length c0_6] 26 (0, 0)) (by (with_reducible repeat (first | refine blk_drewN ?_ _ | refine blk_drew ?_ | refine blk_alloc ?_ _)); exact BK142.out) hb); have n4_ := Aside0.mk (below_step (by repeat (first | (with_reducible first | exact HB.out | apply below_alloc | apply pw_below_drewN | apply below_drew1 | refine below_set ?_ GE142.out) | exact HB.out)) hb); clear HO0_6; clear HO145; clear BK142; clear HB; have HO0_6 := n0_; have HO145 := n1_; have HO148 := n2_; have BK142 := n3_; have HB := n4_; clear n0_ n1_ n2_ n3_ n4_; (try clear hb); (try clear hb2); (try clear hk); (try clear hi); (try clear ho0); obtain ⟨Ao8, co8, eo8⟩ := Kd.N_slice HO148.out; subst eo8))
  go_loopg [3, 11] k (fun kq v3 v11 w' => ∃ (x3_1 : List (S26)) (x11_1 : Int), v11 = .int .i64 x11_1 ∧ Aside0 (sashref05_Leaves.l0 kq x3_1 t146 (t146.length : Int) x11_1 = some r) ∧ Aside0 (kq ≤ k) ∧ Aside0 (Kd.N k26 26 w' w.heap.size (fun k_ => (P0_6_ k_ ∨ w.heap.size ≤ k_) ∧ some k_ ≠ ((.slice Ao8 t146.length co8) : Value).ownBlock ∧ k_ ≠ gb142) v3 x3_1) ∧ Aside0 (Kd.N k26 26 w' w.heap.size (fun k_ => (P0_6_ k_ ∨ w.heap.size ≤ k_) ∧ some k_ ≠ (v3 : Value).ownBlock ∧ k_ ≠ gb142) (.slice Ao8 t146.length co8) t146) ∧ Aside0 (Kd.V k26 26 w' w.heap.size (fun k_ => (P0_6_ k_ ∨ w.heap.size ≤ k_) ∧ some k_ ≠ (v3 : Value).ownBlock ∧ some k_ ≠ ((.slice Ao8 t146.length co8) : Value).ownBlock ∧ k_ ≠ gb142) (.slice A0_6 l0_6.length c0_6) l0_6) ∧ Aside0 (w'.heap[gb142]? = some (.cells #[.int .u8 a0_0, .int .i64 a0_1, .int .i64 a0_2, .int .i64 a0_3, .int .i64 a0_4, .int .i64 a0_5, (.slice A0_6 l0_6.length c0_6)] 26 (0, 0))) ∧ Aside0 (Below w.heap.size w w'))
  case atStart => exact ⟨(y143), (0), (by first | rfl | (simp; done) | (simp [*]; done)), H', ⟨Nat.le_refl _⟩, ⟨by (with_reducible repeat (first | apply Kd.N_alloc | apply Kd.N_drewN | apply Kd.N_drew)); exact Kd.N_mono HO145.out (fun _ hk => ⟨hk.1.1, ⟨hk.2, hk.1.2⟩⟩)⟩, ⟨by (with_reducible repeat (first | apply Kd.N_alloc | apply Kd.N_drewN | apply Kd.N_drew)); exact HO148.out⟩, ⟨by (with_reducible repeat (first | apply Kd.V_alloc | apply Kd.V_drewN | apply Kd.V_drew)); exact Kd.V_mono HO0_6.out (fun _ hk => ⟨hk.1.1.1, ⟨hk.1.2, ⟨hk.2, hk.1.1.2⟩⟩⟩)⟩, ⟨by (with_reducible repeat (first | refine blk_drewN ?_ _ | refine blk_drew ?_ | refine blk_alloc ?_ _)); exact BK142.out⟩, ⟨by repeat (first | (with_reducible first | exact HB.out | apply below_alloc | apply pw_below_drewN | apply below_drew1 | refine below_set ?_ GE142.out) | exact HB.out)⟩⟩
  case round =>
    clear H'
    try clear c1
    try clear p2
    try clear c7
    try clear hcz6_0
    try clear hcz6_1
    try clear hcz6_2
    try clear hcz6_3
    try clear hcz6_4
    try clear hcz6_5
    try clear hcz6_6
    try clear hfz6_0
    try clear hfz6_1
    try clear hfz6_2
    try clear hfz6_3
    try clear hfz6_4
    try clear hfz6_5
    try clear hfz6_6
    obtain ⟨x3_1, x11_1, rfl, HA, HK1, HO_3, HO_4, HO_143006, BK142, HB⟩ := hrel
    cases gk with
    | zero => exact absurd HA.out (by simp [sashref05_Leaves.l0])
    | succ k1 =>
      have H := HA.out
      clear HA
      simp only [sashref05_Leaves.l0] at H
      by_cases c9 : x11_1 < (t146.length : Int)
      · rw [if_pos c9] at H
        have c9b0 : decide (x11_1 < (t146.length : Int)) = true := decide_eq_true c9
        clear c9
        by_cases c10 : 0 ≤ x11_1
        · rw [if_pos c10] at H
          have c10b0 : decide (0 ≤ x11_1) = true := decide_eq_true c10
          clear c10
          by_cases c11 : x11_1 < (t146.length : Int)
          · rw [if_pos c11] at H
            have c11b0 : decide (x11_1 < (t146.length : Int)) = true := decide_eq_true c11
            clear c11
            by_cases c12 : ((rd_T26 t146 x11_1).f0) = 1
            · rw [if_pos c12] at H
              have c12b0 : (((rd_T26 t146 x11_1).f0) == 1) = true := beq_iff_eq.mpr c12
              have c12b1 : (((rd_T26 t146 x11_1).f0) != 1) = false := bne_eq_false_iff_eq.mpr c12
              clear c12
              by_cases c13 : x3_1.length < 1954687338268
              · rw [if_pos c13] at H
                have LMc13 := Aside0.mk c13
                clear c13
                obtain ⟨y151, hy151⟩ : ∃ y_ : List (S26), y_ = (x3_1 ++ [(⟨(rd_T26 t146 x11_1).f0, (⟨(rd_T26 t146 x11_1).f1.f0, (rd_T26 t146 x11_1).f1.f1, (rd_T26 t146 x11_1).f1.f2, (rd_T26 t146 x11_1).f1.f3⟩ : S23), (rd_T26 t146 x11_1).f2, (rd_T26 t146 x11_1).f3⟩ : S26)]) := ⟨_, rfl⟩
                replace H : (sashref05_Leaves.l0 k1 y151 t146 (t146.length : Int) (wrap64 (x11_1 + 1))) = some r := by first | (rw [hy151]; with_reducible exact H) | (have H2_ := (Option.bind_some _ _).symm.trans H; rw [hy151]; with_reducible exact H2_) | (have H2_ := (Option.bind_some _ _).symm.trans H; with_reducible exact H2_) | with_reducible exact H | (rw [hy151]; exact H) | exact H
                have Ny151 := Aside0.mk hy151
                clear hy151
                have H' := Aside0.mk H
                clear H
                have p149 : 0 ≤ (x11_1 : Int) := of_decide_eq_true (by first | (with_reducible assumption) | assumption)
                have q149 : x11_1 < (t146.length : Int) := of_decide_eq_true (by first | (with_reducible assumption) | assumption)
                obtain ⟨ad149, A149_6, c149_6, e149, hx149_0, hx149_1, hx149_2, hx149_3, hx149_4, hx149_5, hx149_6, hl149_6, hi149_6⟩ := at_T26 (Kd.N_reads' HO_4.out).2.2 x11_1 p149 q149
                cases e149
                obtain ⟨ce149, hce149, hMe149, hcc149⟩ := Kd.N_get HO_4.out z26 x11_1 p149 (by first | exact q149 | exact of_decide_eq_true (by first | (with_reducible assumption) | assumption) | (have e_ := (Kd.N_reads' HO_4.out).1; omega))
                obtain ⟨ua149_6, uc149_6, rfl, ul149_6, ge149_6⟩ := k26_openF hMe149
                have hv149_6 := hcc149 6 _ rfl
                rw [add_field _ _ 6 (by omega)] at hv149_6
                replace hv149_6 := Option.some.inj (hv149_6.symm.trans hx149_6)
                injection hv149_6 with hva_ hvn_ hvc_
                rw [hva_] at ge149_6
                rw [hvc_] at ul149_6
                have HL149_6 := Aside0.mk (show Kd.V k26 26 _ w.heap.size _ _ ((rd_T26 t146 x11_1).f3) from Kd.V_mk ul149_6 ge149_6)
                clear hva_ hvn_ hvc_ ge149_6 ul149_6
                clear hcc149 hce149
                have HR149_6 := Aside0.mk hi149_6
                have HC149_6 := Aside0.mk hl149_6
                clear hi149_6 hl149_6
                replace p149 := eq_true p149
                replace q149 := eq_true q149
                have p150 : 0 ≤ (x11_1 : Int) := of_decide_eq_true (by first | (with_reducible assumption) | assumption)
                have q150 : x11_1 < (t146.length : Int) := of_decide_eq_true (by first | (with_reducible assumption) | assumption)
                obtain ⟨ad150, A150_6, c150_6, e150, hx150_0, hx150_1, hx150_2, hx150_3, hx150_4, hx150_5, hx150_6, hl150_6, hi150_6⟩ := at_T26 (Kd.N_reads' HO_4.out).2.2 x11_1 p150 q150
                obtain rfl : ad149 = ad150 := (by injection e150)
                obtain ⟨ce150, hce150, hMe150, hcc150⟩ := Kd.N_get HO_4.out z26 x11_1 p150 (by first | exact q150 | exact of_decide_eq_true (by first | (with_reducible assumption) | assumption) | (have e_ := (Kd.N_reads' HO_4.out).1; omega))
                obtain ⟨ua150_6, uc150_6, rfl, ul150_6, ge150_6⟩ := k26_openF hMe150
                have hv150_6 := hcc150 6 _ rfl
                rw [add_field _ _ 6 (by omega)] at hv150_6
                replace hv150_6 := Option.some.inj (hv150_6.symm.trans hx150_6)
                injection hv150_6 with hva_ hvn_ hvc_
                rw [hva_] at ge150_6
                rw [hvc_] at ul150_6
                have HL150_6 := Aside0.mk (show Kd.V k26 26 _ w.heap.size _ _ ((rd_T26 t146 x11_1).f3) from Kd.V_mk ul150_6 ge150_6)
                clear hva_ hvn_ hvc_ ge150_6 ul150_6
                clear hcc150 hce150
                have HR150_6 := Aside0.mk hi150_6
                have HC150_6 := Aside0.mk hl150_6
                clear hi150_6 hl150_6
                replace p150 := eq_true p150
                replace q150 := eq_true q150
                have ea_ := Option.some.inj (hx149_6.symm.trans hx150_6)
                injection ea_ with ea_ en_ ec_
                subst ea_
                subst ec_
                clear en_
                go_wp2_with (first | ((with_reducible refine gate_builtin (b := .append) (xs := #[.tmp 20, .tmp 25]) rfl ?_); at_builtin; refine Kd.N_append k26 (w0 := w) w.heap.size rfl (.tmp 20) (.tmp 25) 24 26 (.agg #[(.int .u8 0), (.int .i64 0), (.int .i64 0), (.int .i64 0), (.int .i64 0), (.int .i64 0), (.slice none 0 0)]) 72 rfl Try.underlying24 info26 rfl (by decide) (by omega) u3 x3_1 (⟨(rd_T26 t146 x11_1).f0, (⟨(rd_T26 t146 x11_1).f1.f0, (rd_T26 t146 x11_1).f1.f1, (rd_T26 t146 x11_1).f1.f2, (rd_T26 t146 x11_1).f1.f3⟩ : S23), (rd_T26 t146 x11_1).f2, (rd_T26 t146 x11_1).f3⟩ : S26) [.int .u8 ((rd_T26 t146 x11_1).f0), .int .i64 ((rd_T26 t146 x11_1).f1.f0), .int .i64 ((rd_T26 t146 x11_1).f1.f1), .int .i64 ((rd_T26 t146 x11_1).f1.f2), .int .i64 ((rd_T26 t146 x11_1).f1.f3), .int .i64 ((rd_T26 t146 x11_1).f2), .slice A149_6 ((rd_T26 t146 x11_1).f3).length c149_6] (fun k_ => (P0_6_ k_ ∨ w.heap.size ≤ k_) ∧ some k_ ≠ (.slice (some ad149) t146.length co8 : Value).ownBlock ∧ k_ ≠ gb142) (fun k_ => ((fun k_ => (P0_6_ k_ ∨ w.heap.size ≤ k_) ∧ some k_ ≠ (.slice (some ad149) t146.length co8 : Value).ownBlock ∧ k_ ≠ gb142)) k_ ∧ some k_ ≠ (u3 : Value).ownBlock) rfl rfl ?aP (fun _ hk => hk) ?aF ?aO ?aB ?aS ?aL ?_; (case aP => exact (k26_mkF _ _ (⟨(rd_T26 t146 x11_1).f0, (⟨(rd_T26 t146 x11_1).f1.f0, (rd_T26 t146 x11_1).f1.f1, (rd_T26 t146 x11_1).f1.f2, (rd_T26 t146 x11_1).f1.f3⟩ : S23), (rd_T26 t146 x11_1).f2, (rd_T26 t146 x11_1).f3⟩ : S26) (Kd.V_reads' (Kd.V_mono (ok' := (fun k_ => ((fun k_ => (P0_6_ k_ ∨ w.heap.size ≤ k_) ∧ some k_ ≠ (.slice (some ad149) t146.length co8 : Value).ownBlock ∧ k_ ≠ gb142)) k_ ∧ some k_ ≠ (u3 : Value).ownBlock)) (HL150_6.out) (fun k_ hk => ⟨⟨hk.1.1, ⟨hk.2, hk.1.2.2⟩⟩, hk.1.2.1⟩))).2.1 (Kd.V_F (Kd.V_mono (ok' := (fun k_ => ((fun k_ => (P0_6_ k_ ∨ w.heap.size ≤ k_) ∧ some k_ ≠ (.slice (some ad149) t146.length co8 : Value).ownBlock ∧ k_ ≠ gb142)) k_ ∧ some k_ ≠ (u3 : Value).ownBlock)) (HL150_6.out) (fun k_ hk => ⟨⟨hk.1.1, ⟨hk.2, hk.1.2.2⟩⟩, hk.1.2.1⟩))))); (case aB => exact (by repeat (first | (with_reducible first | exact HB.out | apply below_alloc | apply pw_below_drewN | apply below_drew1 | refine below_set ?_ GE142.out) | exact HB.out))); (case aF => exact (fun k_ hk => ⟨(.inr (Nat.le_trans (below_size (by repeat (first | (with_reducible first | exact HB.out | apply below_alloc | apply pw_below_drewN | apply below_drew1 | refine below_set ?_ GE142.out) | exact HB.out))) hk)), Kd.fresh' (Kd.N_lt (by (with_reducible repeat (first | apply Kd.N_alloc | apply Kd.N_drewN | apply Kd.N_drew)); exact HO_4.out)) k_ hk, Kd.freshB (g := gb142) (o := .cells #[.int .u8 a0_0, .int .i64 a0_1, .int .i64 a0_2, .int .i64 a0_3, .int .i64 a0_4, .int .i64 a0_5, .slice A0_6 l0_6.length c0_6] 26 (0, 0)) (by (with_reducible repeat (first | refine blk_drewN ?_ _ | refine blk_drew ?_ | refine blk_alloc ?_ _)); exact BK142.out) k_ hk⟩)); (case aO => exact (by (with_reducible repeat (first | apply Kd.N_alloc | apply Kd.N_drewN | apply Kd.N_drew)); exact HO_3.out)); (case aS => exact (below_size (by repeat (first | (with_reducible first | exact HB.out | apply below_alloc | apply pw_below_drewN | apply below_drew1 | refine below_set ?_ GE142.out) | exact HB.out)))); (case aL => have := LMc13.out; omega); intro v152 w14 ho hb hg hat; rw [← Ny151.out] at ho; have n0_ := Aside0.mk (Kd.N_afterv (ok := (fun k_ => (P0_6_ k_ ∨ w.heap.size ≤ k_) ∧ k_ ≠ gb142)) (by (with_reducible repeat (first | apply Kd.N_alloc | apply Kd.N_drewN | apply Kd.N_drew)); exact Kd.N_mono HO_4.out (fun _ hk => ⟨⟨hk.1, hk.2.2⟩, hk.2.1⟩)) hg hat); have n1_ := Aside0.mk (Kd.V_afterv (ok := (fun k_ => (P0_6_ k_ ∨ w.heap.size ≤ k_) ∧ some k_ ≠ (.slice (some ad149) t146.length co8 : Value).ownBlock ∧ k_ ≠ gb142)) (by (with_reducible repeat (first | apply Kd.V_alloc | apply Kd.V_drewN | apply Kd.V_drew)); exact Kd.V_mono HO_143006.out (fun _ hk => ⟨⟨hk.1, ⟨hk.2.2.1, hk.2.2.2⟩⟩, hk.2.1⟩)) hg hat); have n2_ := Aside0.mk (blk_grown (g := gb142) (o := .cells #[.int .u8 a0_0, .int .i64 a0_1, .int .i64 a0_2, .int .i64 a0_3, .int .i64 a0_4, .int .i64 a0_5, .slice A0_6 l0_6.length c0_6] 26 (0, 0)) (by (with_reducible repeat (first | refine blk_drewN ?_ _ | refine blk_drew ?_ | refine blk_alloc ?_ _)); exact BK142.out) hg (Kd.N_away HO_3.out (fun _ hk => hk.2.2))); have n3_ := Aside0.mk (Kd.V_afterv (ok := (fun k_ => (P0_6_ k_ ∨ w.heap.size ≤ k_) ∧ some k_ ≠ (.slice (some ad149) t146.length co8 : Value).ownBlock ∧ k_ ≠ gb142)) (by (with_reducible repeat (first | apply Kd.V_alloc | apply Kd.V_drewN | apply Kd.V_drew)); exact Kd.V_mono HL149_6.out (fun _ hk => ⟨⟨hk.1.1, ⟨hk.2, hk.1.2.2⟩⟩, hk.1.2.1⟩)) hg hat); have n4_ := Aside0.mk (Kd.V_afterv (ok := (fun k_ => (P0_6_ k_ ∨ w.heap.size ≤ k_) ∧ some k_ ≠ (.slice (some ad149) t146.length co8 : Value).ownBlock ∧ k_ ≠ gb142)) (by (with_reducible repeat (first | apply Kd.V_alloc | apply Kd.V_drewN | apply Kd.V_drew)); exact Kd.V_mono HL150_6.out (fun _ hk => ⟨⟨hk.1.1, ⟨hk.2, hk.1.2.2⟩⟩, hk.1.2.1⟩)) hg hat); have n5_ := Aside0.mk (hb); have n6_ := Aside0.mk (ho); clear HO_4; clear HO_143006; clear BK142; clear HL149_6; clear HL150_6; clear HB; clear HO_3; have HO_4 := n0_; have HO_143006 := n1_; have BK142 := n2_; have HL149_6 := n3_; have HL150_6 := n4_; have HB := n5_; have HO153 := n6_; clear n0_ n1_ n2_ n3_ n4_ n5_ n6_; clear ho hb hg hat))
                go_roundg k1
                case measure => have := HK1.out; omega
                case rel => exact ⟨(y151), (wrap64 (x11_1 + 1)), (by first | rfl | (simp; done) | (simp [*]; done)), H', ⟨by have := HK1.out; omega⟩, ⟨by (with_reducible repeat (first | apply Kd.N_alloc | apply Kd.N_drewN | apply Kd.N_drew)); exact HO153.out⟩, ⟨by (with_reducible repeat (first | apply Kd.N_alloc | apply Kd.N_drewN | apply Kd.N_drew)); exact Kd.N_mono HO_4.out (fun _ hk => ⟨hk.1.1, ⟨hk.2, hk.1.2⟩⟩)⟩, ⟨by (with_reducible repeat (first | apply Kd.V_alloc | apply Kd.V_drewN | apply Kd.V_drew)); exact Kd.V_mono HO_143006.out (fun _ hk => ⟨hk.1.1, ⟨hk.2, ⟨hk.1.2.1, hk.1.2.2⟩⟩⟩)⟩, ⟨by (with_reducible repeat (first | refine blk_drewN ?_ _ | refine blk_drew ?_ | refine blk_alloc ?_ _)); exact BK142.out⟩, ⟨by repeat (first | (with_reducible first | exact HB.out | apply below_alloc | apply pw_below_drewN | apply below_drew1 | refine below_set ?_ GE142.out) | exact HB.out)⟩⟩
              · rw [if_neg c13] at H
                exact absurd H (by simp)
            · rw [if_neg c12] at H
              have c12b0 : (((rd_T26 t146 x11_1).f0) == 1) = false := beq_eq_false_iff_ne.mpr c12
              have c12b1 : (((rd_T26 t146 x11_1).f0) != 1) = true := bne_iff_ne.mpr c12
              have H' := Aside0.mk H
              clear H
              have p149 : 0 ≤ (x11_1 : Int) := of_decide_eq_true (by first | (with_reducible assumption) | assumption)
              have q149 : x11_1 < (t146.length : Int) := of_decide_eq_true (by first | (with_reducible assumption) | assumption)
              obtain ⟨ad149, A149_6, c149_6, e149, hx149_0, hx149_1, hx149_2, hx149_3, hx149_4, hx149_5, hx149_6, hl149_6, hi149_6⟩ := at_T26 (Kd.N_reads' HO_4.out).2.2 x11_1 p149 q149
              cases e149
              obtain ⟨ce149, hce149, hMe149, hcc149⟩ := Kd.N_get HO_4.out z26 x11_1 p149 (by first | exact q149 | exact of_decide_eq_true (by first | (with_reducible assumption) | assumption) | (have e_ := (Kd.N_reads' HO_4.out).1; omega))
              obtain ⟨ua149_6, uc149_6, rfl, ul149_6, ge149_6⟩ := k26_openF hMe149
              have hv149_6 := hcc149 6 _ rfl
              rw [add_field _ _ 6 (by omega)] at hv149_6
              replace hv149_6 := Option.some.inj (hv149_6.symm.trans hx149_6)
              injection hv149_6 with hva_ hvn_ hvc_
              rw [hva_] at ge149_6
              rw [hvc_] at ul149_6
              have HL149_6 := Aside0.mk (show Kd.V k26 26 _ w.heap.size _ _ ((rd_T26 t146 x11_1).f3) from Kd.V_mk ul149_6 ge149_6)
              clear hva_ hvn_ hvc_ ge149_6 ul149_6
              clear hcc149 hce149
              have HR149_6 := Aside0.mk hi149_6
              have HC149_6 := Aside0.mk hl149_6
              clear hi149_6 hl149_6
              replace p149 := eq_true p149
              replace q149 := eq_true q149
              go_wp2
              go_roundg k1
              case measure => have := HK1.out; omega
              case rel => exact ⟨(x3_1), (wrap64 (x11_1 + 1)), (by first | rfl | (simp; done) | (simp [*]; done)), H', ⟨by have := HK1.out; omega⟩, ⟨by (with_reducible repeat (first | apply Kd.N_alloc | apply Kd.N_drewN | apply Kd.N_drew)); exact HO_3.out⟩, ⟨by (with_reducible repeat (first | apply Kd.N_alloc | apply Kd.N_drewN | apply Kd.N_drew)); exact HO_4.out⟩, ⟨by (with_reducible repeat (first | apply Kd.V_alloc | apply Kd.V_drewN | apply Kd.V_drew)); exact HO_143006.out⟩, ⟨by (with_reducible repeat (first | refine blk_drewN ?_ _ | refine blk_drew ?_ | refine blk_alloc ?_ _)); exact BK142.out⟩, ⟨by repeat (first | (with_reducible first | exact HB.out | apply below_alloc | apply pw_below_drewN | apply below_drew1 | refine below_set ?_ GE142.out) | exact HB.out)⟩⟩
          · rw [if_neg c11] at H
            exact absurd H (by simp)
        · rw [if_neg c10] at H
          exact absurd H (by simp)
      · rw [if_neg c9] at H
        have c9b0 : decide (x11_1 < (t146.length : Int)) = false := decide_eq_false c9
        clear c9
        obtain rfl := Option.some.inj H
        go_wp2
        go_ret
        exact ⟨_, by first | rfl | (simp [errW_none, errW_some] <;> rfl) | (simp [*, errW_none, errW_some] <;> rfl), by (with_reducible repeat (first | apply Kd.N_alloc | apply Kd.N_drewN | apply Kd.N_drew)); exact Kd.N_mono HO_3.out (fun _ hk => hk.1), by repeat (first | (with_reducible first | exact HB.out | apply below_alloc | apply pw_below_drewN | apply below_drew1 | refine below_set ?_ GE142.out) | exact HB.out)⟩

end Go.Proofs.Ytfdmfgaiblfbhaa.P
namespace Go.Proofs.Ytfdmfgaiblfbhaa.P
open Go.RowKit Go.Proofs.YtfdmfgaiblfbhaaW.PrintWords Go.Proofs.YtfdmfgaiblfbhaaW.PrintLast Go.Proofs.YtfdmfgaiblfbhaaW.PrintMore
attribute [local go_sem] max2_int min2_int max_two min_two max_three min_three max_four min_four   -- for this text's walks alone
set_option linter.unusedVariables false
set_option linter.unusedSimpArgs false

/-! ### sashref05_IDs: function 63 -/
def sashref05_IDs.l0 : Nat → List Int → List (S26) → Int → Int → Option (List Int)
  | 0, _, _, _, _ => none
  | k + 1, x3, x4, x10, x11 => if x11 < x10 then (if 0 ≤ x11 then (if x11 < (x4.length : Int) then (if x3.length < 17592186044416 then (sashref05_IDs.l0 k (x3 ++ [(rd_T26 x4 x11).f2]) x4 x10 (wrap64 (x11 + 1))) else (none)) else (none)) else (none)) else (some x3)
def sashref05_IDs.f (k : Nat) (a0_0 : Int) (a0_1 : Int) (a0_2 : Int) (a0_3 : Int) (a0_4 : Int) (a0_5 : Int) (l0_6 : List (S26)) : Option (List Int) := (sashref05_Leaves.f k a0_0 a0_1 a0_2 a0_3 a0_4 a0_5 l0_6).bind fun t593 => (sashref05_IDs.l0 k (([] : List Int)) t593 (t593.length : Int) 0)
theorem sashref05_IDs.mono_l : ∀ k, (∀ y0 y1 y2 y3, LeO (sashref05_IDs.l0 k y0 y1 y2 y3) (sashref05_IDs.l0 (k + 1) y0 y1 y2 y3))
  | 0 => fun _ _ _ _ r h => by simp [sashref05_IDs.l0] at h
  | k + 1 => by
    have ih0 := sashref05_IDs.mono_l k
    · intro y0 y1 y2 y3
      unfold sashref05_IDs.l0
      repeat' first
      | (with_reducible exact ih0 _ _ _ _)
      | (with_reducible exact sashref05_Leaves.mono _ _ _ _ _ _ _ _)
      | (with_reducible exact LeO.refl _)
      | (with_reducible exact LeO.none _)
      | (with_reducible refine LeO.ite ?_ ?_)
      | (with_reducible refine LeO.bind ?_ (fun _ => ?_))
      | exact ih0 _ _ _ _
      | exact sashref05_Leaves.mono _ _ _ _ _ _ _ _
      | exact LeO.none _
      | refine LeO.ite ?_ ?_
      | refine LeO.bind ?_ (fun _ => ?_)
theorem sashref05_IDs.mono : ∀ a0 a1 a2 a3 a4 a5 a6 k, LeO (sashref05_IDs.f k a0 a1 a2 a3 a4 a5 a6) (sashref05_IDs.f (k + 1) a0 a1 a2 a3 a4 a5 a6) := by
  intro a0 a1 a2 a3 a4 a5 a6 k
  have ih0 := sashref05_IDs.mono_l k
  unfold sashref05_IDs.f
  repeat' first
      | (with_reducible exact ih0 _ _ _ _)
      | (with_reducible exact sashref05_Leaves.mono _ _ _ _ _ _ _ _)
      | (with_reducible exact LeO.refl _)
      | (with_reducible exact LeO.none _)
      | (with_reducible refine LeO.ite ?_ ?_)
      | (with_reducible refine LeO.bind ?_ (fun _ => ?_))
      | exact ih0 _ _ _ _
      | exact sashref05_Leaves.mono _ _ _ _ _ _ _ _
      | exact LeO.none _
      | refine LeO.ite ?_ ?_
      | refine LeO.bind ?_ (fun _ => ?_)
set_option maxHeartbeats 8000000 in
set_option maxRecDepth 100000 in
theorem sashref05_IDs.calls (k : Nat) (a0_0 : Int) (a0_1 : Int) (a0_2 : Int) (a0_3 : Int) (a0_4 : Int) (a0_5 : Int) (A0_6 : Option Addr) (c0_6 : Nat) (l0_6 : List (S26)) (r : List Int) (w : World) (hr0_6 : Kd.C k26 w A0_6 l0_6.length l0_6) (hc0_6 : l0_6.length ≤ c0_6) (h : sashref05_IDs.f k a0_0 a0_1 a0_2 a0_3 a0_4 a0_5 l0_6 = some r) :
    Calls Try.prog 63 #[.agg #[.int .u8 a0_0, .int .i64 a0_1, .int .i64 a0_2, .int .i64 a0_3, .int .i64 a0_4, .int .i64 a0_5, .slice A0_6 l0_6.length c0_6]] w fun e w' => ∃ v0_ : Value, e = .returned (v0_) ∧ Kd.R (Kd.int .i64) 3 w' w.heap.size (fun _ => True) v0_ r ∧ Below w.heap.size w w' := by
  have hu26 := Try.underlying26
  have HR0_6 := Aside0.mk hr0_6
  have HC0_6 := Aside0.mk hc0_6
  clear hr0_6 hc0_6
  have HB := Aside0.mk (Below.refl w.heap.size w)
  have H : ((sashref05_Leaves.f k a0_0 a0_1 a0_2 a0_3 a0_4 a0_5 l0_6).bind fun t593 => (sashref05_IDs.l0 k (([] : List Int)) t593 (t593.length : Int) 0)) = some r := h
  clear h
  obtain ⟨y590, hy590⟩ : ∃ y_ : List Int, y_ = (([] : List Int)) := ⟨_, rfl⟩
  replace H : ((sashref05_Leaves.f k a0_0 a0_1 a0_2 a0_3 a0_4 a0_5 l0_6).bind fun t593 => (sashref05_IDs.l0 k y590 t593 (t593.length : Int) 0)) = some r := by first | (rw [hy590]; with_reducible exact H) | (have H2_ := (Option.bind_some _ _).symm.trans H; rw [hy590]; with_reducible exact H2_) | (have H2_ := (Option.bind_some _ _).symm.trans H; with_reducible exact H2_) | with_reducible exact H | (rw [hy590]; exact H) | exact H
  have Ny590 := Aside0.mk hy590
  clear hy590
  replace H := Option.bind_eq_some_iff.mp H
  obtain ⟨t593, A20, H⟩ := H
  replace H : (sashref05_IDs.l0 k y590 t593 (t593.length : Int) 0) = some r := H
  have A2 := Aside0.mk A20
  clear A20
  have H' := Aside0.mk H
  clear H
  go_enter Try.func63, Try.ntmps63
  go_wp2_with (first | ((with_reducible refine gate_dst (N := 1) rfl ?_); refine box_event ?hg (N := 1) ?hd (cs := #[.int .u8 a0_0, .int .i64 a0_1, .int .i64 a0_2, .int .i64 a0_3, .int .i64 a0_4, .int .i64 a0_5, .slice A0_6 l0_6.length c0_6]) (t := 26) ?hr ?_; (case hd => rfl); (case hg => rfl); (case hr => first | (go_simp; done) | (go_simp; rfl)); intro gb589 hg w3 hbox hb; have n0_ := Aside0.mk (below_step (by repeat (first | (with_reducible first | exact HB.out | apply below_alloc | apply pw_below_drewN | apply below_drew1) | exact HB.out)) hb); have n1_ := Aside0.mk (hbox); have n2_ := Aside0.mk ((by rw [hg]; exact (below_size (by repeat (first | (with_reducible first | exact HB.out | apply below_alloc | apply pw_below_drewN | apply below_drew1) | exact HB.out))) : w.heap.size ≤ gb589)); have n3_ := Aside0.mk ((by rw [hg]; exact (below_size (by repeat (first | (with_reducible first | exact HB.out | apply below_alloc | apply pw_below_drewN | apply below_drew1) | exact HB.out))) : w.heap.size ≤ gb589)); clear HB; have HB := n0_; have BK589 := n1_; have GW589 := n2_; have GE589 := n3_; clear n0_ n1_ n2_ n3_; clear hb hbox hg) | ((with_reducible refine gate_dst (N := 6) rfl ?_); refine Kd.R_lit (Kd.int .i64) _ 3 ?hg (N := 6) ?hd (xs := ([] : List Int)) (inner := []) (ok := fun _ => True) (okp := fun _ => True) ?hr ?hp (fun _ hk => hk) trivial (Below.refl _ _) (Nat.le_refl _) (by simp) ?_; (case hd => rfl); (case hg => rfl); (case hr => first | (go_simp; done) | (go_simp; rfl)); (case hp => exact (Reps.none _ _)); intro v591 w4 ho5 hb hg_ hnew_; clear hg_ hnew_; (first | rw [← Ny590.out] at ho5 | (simp only [Int.reduceToNat] at ho5; rw [← Ny590.out] at ho5)); have n0_ := Aside0.mk (Kd.R_lower ho5 (below_size (by repeat (first | (with_reducible first | exact HB.out | apply below_alloc | apply pw_below_drewN | apply below_drew1 | refine below_set ?_ GE589.out) | exact HB.out)))); have n1_ := Aside0.mk (blk_below (g := gb589) (o := .cells #[.int .u8 a0_0, .int .i64 a0_1, .int .i64 a0_2, .int .i64 a0_3, .int .i64 a0_4, .int .i64 a0_5, .slice A0_6 l0_6.length c0_6] 26 (0, 0)) (by (with_reducible repeat (first | refine blk_drewN ?_ _ | refine blk_drew ?_ | refine blk_alloc ?_ _)); exact BK589.out) hb); have n2_ := Aside0.mk (below_step (by repeat (first | (with_reducible first | exact HB.out | apply below_alloc | apply pw_below_drewN | apply below_drew1 | refine below_set ?_ GE589.out) | exact HB.out)) hb); clear BK589; clear HB; have HO592 := n0_; have BK589 := n1_; have HB := n2_; clear n0_ n1_ n2_; clear hb ho5; have hcz6_0 : w4.cell? ⟨gb589, 0, none⟩ = some (.int .u8 a0_0) := (blk_cell BK589.out 0).trans rfl; have hcz6_1 : w4.cell? ⟨gb589, 1, none⟩ = some (.int .i64 a0_1) := (blk_cell BK589.out 1).trans rfl; have hcz6_2 : w4.cell? ⟨gb589, 2, none⟩ = some (.int .i64 a0_2) := (blk_cell BK589.out 2).trans rfl; have hcz6_3 : w4.cell? ⟨gb589, 3, none⟩ = some (.int .i64 a0_3) := (blk_cell BK589.out 3).trans rfl; have hcz6_4 : w4.cell? ⟨gb589, 4, none⟩ = some (.int .i64 a0_4) := (blk_cell BK589.out 4).trans rfl; have hcz6_5 : w4.cell? ⟨gb589, 5, none⟩ = some (.int .i64 a0_5) := (blk_cell BK589.out 5).trans rfl; have hcz6_6 : w4.cell? ⟨gb589, 6, none⟩ = some (.slice A0_6 l0_6.length c0_6) := (blk_cell BK589.out 6).trans rfl; have hfz6_0 := blk_frozen BK589.out 0; have hfz6_1 := blk_frozen BK589.out 1; have hfz6_2 := blk_frozen BK589.out 2; have hfz6_3 := blk_frozen BK589.out 3; have hfz6_4 := blk_frozen BK589.out 4; have hfz6_5 := blk_frozen BK589.out 5; have hfz6_6 := blk_frozen BK589.out 6) | ((with_reducible refine gate_callee (f := 126) rfl ?_); refine goesL_ (some 8) rfl rfl Try.func126 (by kernel_rfl) rfl #[.agg #[.int .u8 a0_0, .int .i64 a0_1, .int .i64 a0_2, .int .i64 a0_3, .int .i64 a0_4, .int .i64 a0_5, .slice A0_6 l0_6.length c0_6]] rfl (by (try simp only [List.map_toArray, List.map_cons, List.map_nil]); first | done | rfl | (simp only [List.length_drop, List.length_take]; rfl)) ?_; (with_reducible refine (sashref05_Leaves.calls k a0_0 a0_1 a0_2 a0_3 a0_4 a0_5 (fun k_ => k_ < w.heap.size) _ _ l0_6 t593 _ ?side1 A2.out).mono ?_); (case side1 => exact Kd.V_mk HC0_6.out (Kd.F_below (Kd.C_F k26_heap HR0_6.out) (by repeat (first | (with_reducible first | exact HB.out | apply below_alloc | apply pw_below_drewN | apply below_drew1 | refine below_set ?_ GE589.out) | exact HB.out)))); rintro e w7 ⟨v594, rfl, ho0, hb⟩; refine ⟨_, rfl, ?_⟩; have n0_ := Aside0.mk (Kd.R_below (by (with_reducible repeat (first | apply Kd.R_alloc | apply Kd.R_drewN | apply Kd.R_drew)); exact HO592.out) hb); have n1_ := Aside0.mk (Kd.N_lower (Kd.N_mono (ok' := fun k_ => some k_ ≠ (v591 : Value).ownBlock ∧ k_ ≠ gb589) ho0 (fun k_ hk_ => ⟨Or.elim hk_ (fun hs_ => fun e_ => Nat.not_le.2 hs_ (Kd.R_base HO592.out k_ e_.symm)) (fun hn_ => (Kd.fresh' (Kd.R_lt (by (with_reducible repeat (first | apply Kd.R_alloc | apply Kd.R_drewN | apply Kd.R_drew)); exact HO592.out)) k_ hn_)), Or.elim hk_ (fun hs_ => fun e_ => Nat.not_le.2 hs_ (by rw [e_]; exact GW589.out)) (fun hn_ => (Kd.freshB (g := gb589) (o := .cells #[.int .u8 a0_0, .int .i64 a0_1, .int .i64 a0_2, .int .i64 a0_3, .int .i64 a0_4, .int .i64 a0_5, .slice A0_6 l0_6.length c0_6] 26 (0, 0)) (by (with_reducible repeat (first | refine blk_drewN ?_ _ | refine blk_drew ?_ | refine blk_alloc ?_ _)); exact BK589.out) k_ hn_))⟩)) (below_size (by repeat (first | (with_reducible first | exact HB.out | apply below_alloc | apply pw_below_drewN | apply below_drew1 | refine below_set ?_ GE589.out) | exact HB.out)))); have n2_ := Aside0.mk (blk_below (g := gb589) (o := .cells #[.int .u8 a0_0, .int .i64 a0_1, .int .i64 a0_2, .int .i64 a0_3, .int .i64 a0_4, .int .i64 a0_5, .slice A0_6 l0_6.length c0_6] 26 (0, 0)) (by (with_reducible repeat (first | refine blk_drewN ?_ _ | refine blk_drew ?_ | refine blk_alloc ?_ _)); exact BK589.out) hb); have n3_ := Aside0.mk (below_step (by repeat (first | (with_reducible first | exact HB.out | apply below_alloc | apply pw_below_drewN | apply below_drew1 | refine below_set ?_ GE589.out) | exact HB.out)) hb); clear HO592; clear BK589; clear HB; have HO592 := n0_; have HO595 := n1_; have BK589 := n2_; have HB := n3_; clear n0_ n1_ n2_ n3_; (try clear hb); (try clear hb2); (try clear hk); (try clear hi); (try clear ho0); obtain ⟨Ao8, co8, eo8⟩ := Kd.N_slice HO595.out; subst eo8))
  go_loopg [3, 11] k (fun kq v3 v11 w' => ∃ (x3_1 : List Int) (x11_1 : Int), v11 = .int .i64 x11_1 ∧ Aside0 (sashref05_IDs.l0 kq x3_1 t593 (t593.length : Int) x11_1 = some r) ∧ Aside0 (kq ≤ k) ∧ Aside0 (Kd.R (Kd.int .i64) 3 w' w.heap.size (fun _ => True) v3 x3_1) ∧ Aside0 (Kd.N k26 26 w' w.heap.size (fun k_ => some k_ ≠ (v3 : Value).ownBlock ∧ k_ ≠ gb589) (.slice Ao8 t593.length co8) t593) ∧ Aside0 (w'.heap[gb589]? = some (.cells #[.int .u8 a0_0, .int .i64 a0_1, .int .i64 a0_2, .int .i64 a0_3, .int .i64 a0_4, .int .i64 a0_5, (.slice A0_6 l0_6.length c0_6)] 26 (0, 0))) ∧ Aside0 (Below w.heap.size w w'))
  case atStart => exact ⟨(y590), (0), (by first | rfl | (simp; done) | (simp [*]; done)), H', ⟨Nat.le_refl _⟩, ⟨by (with_reducible repeat (first | apply Kd.R_alloc | apply Kd.R_drewN | apply Kd.R_drew)); exact HO592.out⟩, ⟨by (with_reducible repeat (first | apply Kd.N_alloc | apply Kd.N_drewN | apply Kd.N_drew)); exact HO595.out⟩, ⟨by (with_reducible repeat (first | refine blk_drewN ?_ _ | refine blk_drew ?_ | refine blk_alloc ?_ _)); exact BK589.out⟩, ⟨by repeat (first | (with_reducible first | exact HB.out | apply below_alloc | apply pw_below_drewN | apply below_drew1 | refine below_set ?_ GE589.out) | exact HB.out)⟩⟩
  case round =>
    clear H'
    try clear c1
    try clear p2
    try clear c6
    try clear hcz6_0
    try clear hcz6_1
    try clear hcz6_2
    try clear hcz6_3
    try clear hcz6_4
    try clear hcz6_5
    try clear hcz6_6
    try clear hfz6_0
    try clear hfz6_1
    try clear hfz6_2
    try clear hfz6_3
    try clear hfz6_4
    try clear hfz6_5
    try clear hfz6_6
    obtain ⟨x3_1, x11_1, rfl, HA, HK1, HO_3, HO_4, BK589, HB⟩ := hrel
    cases gk with
    | zero => exact absurd HA.out (by simp [sashref05_IDs.l0])
    | succ k1 =>
      have H := HA.out
      clear HA
      simp only [sashref05_IDs.l0] at H
      by_cases c9 : x11_1 < (t593.length : Int)
      · rw [if_pos c9] at H
        have c9b0 : decide (x11_1 < (t593.length : Int)) = true := decide_eq_true c9
        clear c9
        by_cases c10 : 0 ≤ x11_1
        · rw [if_pos c10] at H
          have c10b0 : decide (0 ≤ x11_1) = true := decide_eq_true c10
          clear c10
          by_cases c11 : x11_1 < (t593.length : Int)
          · rw [if_pos c11] at H
            have c11b0 : decide (x11_1 < (t593.length : Int)) = true := decide_eq_true c11
            clear c11
            by_cases c12 : x3_1.length < 17592186044416
            · rw [if_pos c12] at H
              have LMc12 := Aside0.mk c12
              clear c12
              obtain ⟨y597, hy597⟩ : ∃ y_ : List Int, y_ = (x3_1 ++ [(rd_T26 t593 x11_1).f2]) := ⟨_, rfl⟩
              replace H : (sashref05_IDs.l0 k1 y597 t593 (t593.length : Int) (wrap64 (x11_1 + 1))) = some r := by first | (rw [hy597]; with_reducible exact H) | (have H2_ := (Option.bind_some _ _).symm.trans H; rw [hy597]; with_reducible exact H2_) | (have H2_ := (Option.bind_some _ _).symm.trans H; with_reducible exact H2_) | with_reducible exact H | (rw [hy597]; exact H) | exact H
              have Ny597 := Aside0.mk hy597
              clear hy597
              have H' := Aside0.mk H
              clear H
              have p596 : 0 ≤ (x11_1 : Int) := of_decide_eq_true (by first | (with_reducible assumption) | assumption)
              have q596 : x11_1 < (t593.length : Int) := of_decide_eq_true (by first | (with_reducible assumption) | assumption)
              obtain ⟨ad596, A596_6, c596_6, e596, hx596_0, hx596_1, hx596_2, hx596_3, hx596_4, hx596_5, hx596_6, hl596_6, hi596_6⟩ := at_T26 (Kd.N_reads' HO_4.out).2.2 x11_1 p596 q596
              cases e596
              obtain ⟨ce596, hce596, hMe596, hcc596⟩ := Kd.N_get HO_4.out z26 x11_1 p596 (by first | exact q596 | exact of_decide_eq_true (by first | (with_reducible assumption) | assumption) | (have e_ := (Kd.N_reads' HO_4.out).1; omega))
              obtain ⟨ua596_6, uc596_6, rfl, ul596_6, ge596_6⟩ := k26_openF hMe596
              have hv596_6 := hcc596 6 _ rfl
              rw [add_field _ _ 6 (by omega)] at hv596_6
              replace hv596_6 := Option.some.inj (hv596_6.symm.trans hx596_6)
              injection hv596_6 with hva_ hvn_ hvc_
              rw [hva_] at ge596_6
              rw [hvc_] at ul596_6
              have HL596_6 := Aside0.mk (show Kd.V k26 26 _ w.heap.size _ _ ((rd_T26 t593 x11_1).f3) from Kd.V_mk ul596_6 ge596_6)
              clear hva_ hvn_ hvc_ ge596_6 ul596_6
              clear hcc596 hce596
              have HR596_6 := Aside0.mk hi596_6
              have HC596_6 := Aside0.mk hl596_6
              clear hi596_6 hl596_6
              replace p596 := eq_true p596
              replace q596 := eq_true q596
              go_wp2_with (first | ((with_reducible refine gate_builtin (b := .append) (xs := #[.tmp 14, .tmp 20]) rfl ?_); at_builtin; refine Kd.R_append (Kd.int .i64) (w0 := w) w.heap.size rfl (.tmp 14) (.tmp 20) 41 3 (.int .i64 0) 8 rfl Try.underlying41 info3 rfl (by decide) (by omega) u3 x3_1 ((rd_T26 t593 x11_1).f2) [.int .i64 ((rd_T26 t593 x11_1).f2)] (fun _ => True) (fun _ => False) rfl rfl ?aP (fun _ hk => hk.elim) ?aF ?aO ?aB ?aS ?aL ?_; (case aP => exact rfl); (case aB => exact (by repeat (first | (with_reducible first | exact HB.out | apply below_alloc | apply pw_below_drewN | apply below_drew1 | refine below_set ?_ GE589.out) | exact HB.out))); (case aF => exact (fun _ _ => trivial)); (case aO => exact (by (with_reducible repeat (first | apply Kd.R_alloc | apply Kd.R_drewN | apply Kd.R_drew)); exact HO_3.out)); (case aS => exact (below_size (by repeat (first | (with_reducible first | exact HB.out | apply below_alloc | apply pw_below_drewN | apply below_drew1 | refine below_set ?_ GE589.out) | exact HB.out)))); (case aL => have := LMc12.out; omega); intro v598 w13 ho hb hg hat; rw [← Ny597.out] at ho; have n0_ := Aside0.mk (Kd.N_afterv (ok := (fun k_ => k_ ≠ gb589)) (by (with_reducible repeat (first | apply Kd.N_alloc | apply Kd.N_drewN | apply Kd.N_drew)); exact Kd.N_mono HO_4.out (fun _ hk => ⟨hk.2, hk.1⟩)) hg hat); have n1_ := Aside0.mk (blk_grown (g := gb589) (o := .cells #[.int .u8 a0_0, .int .i64 a0_1, .int .i64 a0_2, .int .i64 a0_3, .int .i64 a0_4, .int .i64 a0_5, .slice A0_6 l0_6.length c0_6] 26 (0, 0)) (by (with_reducible repeat (first | refine blk_drewN ?_ _ | refine blk_drew ?_ | refine blk_alloc ?_ _)); exact BK589.out) hg (Kd.R_ne HO_3.out BK589.out (by decide))); have n2_ := Aside0.mk (Kd.V_afterv (ok := (fun k_ => some k_ ≠ (.slice (some ad596) t593.length co8 : Value).ownBlock ∧ k_ ≠ gb589)) (by (with_reducible repeat (first | apply Kd.V_alloc | apply Kd.V_drewN | apply Kd.V_drew)); exact Kd.V_mono HL596_6.out (fun _ hk => ⟨⟨hk.2, hk.1.2⟩, hk.1.1⟩)) hg hat); have n3_ := Aside0.mk (hb); have n4_ := Aside0.mk (ho); clear HO_4; clear BK589; clear HL596_6; clear HB; clear HO_3; have HO_4 := n0_; have BK589 := n1_; have HL596_6 := n2_; have HB := n3_; have HO599 := n4_; clear n0_ n1_ n2_ n3_ n4_; clear ho hb hg hat))
              go_roundg k1
              case measure => have := HK1.out; omega
              case rel => exact ⟨(y597), (wrap64 (x11_1 + 1)), (by first | rfl | (simp; done) | (simp [*]; done)), H', ⟨by have := HK1.out; omega⟩, ⟨by (with_reducible repeat (first | apply Kd.R_alloc | apply Kd.R_drewN | apply Kd.R_drew)); exact HO599.out⟩, ⟨by (with_reducible repeat (first | apply Kd.N_alloc | apply Kd.N_drewN | apply Kd.N_drew)); exact Kd.N_mono HO_4.out (fun _ hk => ⟨hk.2, hk.1⟩)⟩, ⟨by (with_reducible repeat (first | refine blk_drewN ?_ _ | refine blk_drew ?_ | refine blk_alloc ?_ _)); exact BK589.out⟩, ⟨by repeat (first | (with_reducible first | exact HB.out | apply below_alloc | apply pw_below_drewN | apply below_drew1 | refine below_set ?_ GE589.out) | exact HB.out)⟩⟩
            · rw [if_neg c12] at H
              exact absurd H (by simp)
          · rw [if_neg c11] at H
            exact absurd H (by simp)
        · rw [if_neg c10] at H
          exact absurd H (by simp)
      · rw [if_neg c9] at H
        have c9b0 : decide (x11_1 < (t593.length : Int)) = false := decide_eq_false c9
        clear c9
        obtain rfl := Option.some.inj H
        go_wp2
        go_ret
        exact ⟨_, by first | rfl | (simp [errW_none, errW_some] <;> rfl) | (simp [*, errW_none, errW_some] <;> rfl), by (with_reducible repeat (first | apply Kd.R_alloc | apply Kd.R_drewN | apply Kd.R_drew)); exact HO_3.out, by repeat (first | (with_reducible first | exact HB.out | apply below_alloc | apply pw_below_drewN | apply below_drew1 | refine below_set ?_ GE589.out) | exact HB.out)⟩

end Go.Proofs.Ytfdmfgaiblfbhaa.P
namespace Go.Proofs.Ytfdmfgaiblfbhaa.P
open Go.RowKit Go.Proofs.YtfdmfgaiblfbhaaW.PrintWords Go.Proofs.YtfdmfgaiblfbhaaW.PrintLast Go.Proofs.YtfdmfgaiblfbhaaW.PrintMore
attribute [local go_sem] max2_int min2_int max_two min_two max_three min_three max_four min_four   -- for this text's walks alone
set_option linter.unusedVariables false
set_option linter.unusedSimpArgs false

/-! ### sashref05_count: function 124 -/
mutual
def sashref05_count.l0 : Nat → Int → Int → Int → Int → Int → Int → Int → Int → Int → Int → List (S26) → Option (Int)
  | 0, _, _, _, _, _, _, _, _, _, _, _ => none
  | k + 1, x1, x5, x9, x10, x102000, x102001, x102002, x102003, x102004, x102005, x102006 => if x10 < x9 then (if x5 > x1 then (some x5) else (if 0 ≤ x10 then (if x10 < (x102006.length : Int) then ((sashref05_count.f k ((rd_T26 x102006 x10).f0) ((rd_T26 x102006 x10).f1.f0) ((rd_T26 x102006 x10).f1.f1) ((rd_T26 x102006 x10).f1.f2) ((rd_T26 x102006 x10).f1.f3) ((rd_T26 x102006 x10).f2) ((rd_T26 x102006 x10).f3) x1).bind fun t103 => (sashref05_count.l0 k x1 (wrap64 (x5 + t103)) x9 (wrap64 (x10 + 1)) x102000 x102001 x102002 x102003 x102004 x102005 x102006)) else (none)) else (none))) else (some x5)
def sashref05_count.f : Nat → Int → Int → Int → Int → Int → Int → List (S26) → Int → Option (Int)
  | 0, _, _, _, _, _, _, _, _ => none
  | k + 1, a0_0, a0_1, a0_2, a0_3, a0_4, a0_5, l0_6, a1 => sashref05_count.l0 k a1 1 (l0_6.length : Int) 0 a0_0 a0_1 a0_2 a0_3 a0_4 a0_5 l0_6
end
theorem sashref05_count.mono_l : ∀ k, (∀ y0 y1 y2 y3 y4 y5 y6 y7, LeO (sashref05_count.f k y0 y1 y2 y3 y4 y5 y6 y7) (sashref05_count.f (k + 1) y0 y1 y2 y3 y4 y5 y6 y7)) ∧ (∀ y0 y1 y2 y3 y4 y5 y6 y7 y8 y9 y10, LeO (sashref05_count.l0 k y0 y1 y2 y3 y4 y5 y6 y7 y8 y9 y10) (sashref05_count.l0 (k + 1) y0 y1 y2 y3 y4 y5 y6 y7 y8 y9 y10))
  | 0 => ⟨fun _ _ _ _ _ _ _ _ r h => by simp [sashref05_count.f] at h, fun _ _ _ _ _ _ _ _ _ _ _ r h => by simp [sashref05_count.l0] at h⟩
  | k + 1 => by
    obtain ⟨ih0, ih1⟩ := sashref05_count.mono_l k
    refine ⟨?_, ?_⟩
    · intro y0 y1 y2 y3 y4 y5 y6 y7
      unfold sashref05_count.f
      repeat' first
      | (with_reducible exact ih0 _ _ _ _ _ _ _ _)
      | (with_reducible exact ih1 _ _ _ _ _ _ _ _ _ _ _)
      | (with_reducible exact LeO.refl _)
      | (with_reducible exact LeO.none _)
      | (with_reducible refine LeO.ite ?_ ?_)
      | (with_reducible refine LeO.bind ?_ (fun _ => ?_))
      | exact ih0 _ _ _ _ _ _ _ _
      | exact ih1 _ _ _ _ _ _ _ _ _ _ _
      | exact LeO.none _
      | refine LeO.ite ?_ ?_
      | refine LeO.bind ?_ (fun _ => ?_)
    · intro y0 y1 y2 y3 y4 y5 y6 y7 y8 y9 y10
      unfold sashref05_count.l0
      repeat' first
      | (with_reducible exact ih0 _ _ _ _ _ _ _ _)
      | (with_reducible exact ih1 _ _ _ _ _ _ _ _ _ _ _)
      | (with_reducible exact LeO.refl _)
      | (with_reducible exact LeO.none _)
      | (with_reducible refine LeO.ite ?_ ?_)
      | (with_reducible refine LeO.bind ?_ (fun _ => ?_))
      | exact ih0 _ _ _ _ _ _ _ _
      | exact ih1 _ _ _ _ _ _ _ _ _ _ _
      | exact LeO.none _
      | refine LeO.ite ?_ ?_
      | refine LeO.bind ?_ (fun _ => ?_)
theorem sashref05_count.mono : ∀ a0 a1 a2 a3 a4 a5 a6 a7 k, LeO (sashref05_count.f k a0 a1 a2 a3 a4 a5 a6 a7) (sashref05_count.f (k + 1) a0 a1 a2 a3 a4 a5 a6 a7) := by
  intro a0 a1 a2 a3 a4 a5 a6 a7 k
  obtain ⟨ih0, ih1⟩ := sashref05_count.mono_l k
  exact ih0 a0 a1 a2 a3 a4 a5 a6 a7
set_option maxHeartbeats 8000000 in
set_option maxRecDepth 100000 in
theorem sashref05_count.calls (k : Nat) : ∀ (a0_0 : Int) (a0_1 : Int) (a0_2 : Int) (a0_3 : Int) (a0_4 : Int) (a0_5 : Int) (A0_6 : Option Addr) (c0_6 : Nat) (l0_6 : List (S26)) (a1 : Int) (r : Int) (w : World) (hr0_6 : Kd.C k26 w A0_6 l0_6.length l0_6) (hc0_6 : l0_6.length ≤ c0_6) (h : sashref05_count.f k a0_0 a0_1 a0_2 a0_3 a0_4 a0_5 l0_6 a1 = some r),
    Calls Try.prog 124 #[.agg #[.int .u8 a0_0, .int .i64 a0_1, .int .i64 a0_2, .int .i64 a0_3, .int .i64 a0_4, .int .i64 a0_5, .slice A0_6 l0_6.length c0_6], .int .i64 a1] w fun e w' => e = .returned (.int .i64 r) ∧ Below w.heap.size w w' := by
  induction k using Nat.strongRecOn with
  | _ k ih =>
  intro a0_0 a0_1 a0_2 a0_3 a0_4 a0_5 A0_6 c0_6 l0_6 a1 r w hr0_6 hc0_6 h
  cases k with
  | zero => exact absurd h (by simp [sashref05_count.f])
  | succ k =>
  simp only [sashref05_count.f] at h
  have hu26 := Try.underlying26
  have HR0_6 := Aside0.mk hr0_6
  have HC0_6 := Aside0.mk hc0_6
  clear hr0_6 hc0_6
  have HB := Aside0.mk (Below.refl w.heap.size w)
  have H : (sashref05_count.l0 k a1 1 (l0_6.length : Int) 0 a0_0 a0_1 a0_2 a0_3 a0_4 a0_5 l0_6) = some r := h
  clear h
  have H' := Aside0.mk H
  clear H
  go_enter Try.func124, Try.ntmps124
  go_wp2_with (first | ((with_reducible refine gate_dst (N := 2) rfl ?_); refine box_event ?hg (N := 2) ?hd (cs := #[.int .u8 a0_0, .int .i64 a0_1, .int .i64 a0_2, .int .i64 a0_3, .int .i64 a0_4, .int .i64 a0_5, .slice A0_6 l0_6.length c0_6]) (t := 26) ?hr ?_; (case hd => rfl); (case hg => rfl); (case hr => first | (go_simp; done) | (go_simp; rfl)); intro gb101 hg w3 hbox hb; have n0_ := Aside0.mk (below_step (by repeat (first | (with_reducible first | exact HB.out | apply below_alloc | apply pw_below_drewN | apply below_drew1) | exact HB.out)) hb); have n1_ := Aside0.mk (hbox); have n2_ := Aside0.mk ((by rw [hg]; exact (below_size (by repeat (first | (with_reducible first | exact HB.out | apply below_alloc | apply pw_below_drewN | apply below_drew1) | exact HB.out))) : w.heap.size ≤ gb101)); have n3_ := Aside0.mk ((by rw [hg]; exact (below_size (by repeat (first | (with_reducible first | exact HB.out | apply below_alloc | apply pw_below_drewN | apply below_drew1) | exact HB.out))) : w.heap.size ≤ gb101)); clear HB; have HB := n0_; have BK101 := n1_; have GW101 := n2_; have GE101 := n3_; clear n0_ n1_ n2_ n3_; clear hb hbox hg; have hcz4_0 : w3.cell? ⟨gb101, 0, none⟩ = some (.int .u8 a0_0) := (blk_cell BK101.out 0).trans rfl; have hcz4_1 : w3.cell? ⟨gb101, 1, none⟩ = some (.int .i64 a0_1) := (blk_cell BK101.out 1).trans rfl; have hcz4_2 : w3.cell? ⟨gb101, 2, none⟩ = some (.int .i64 a0_2) := (blk_cell BK101.out 2).trans rfl; have hcz4_3 : w3.cell? ⟨gb101, 3, none⟩ = some (.int .i64 a0_3) := (blk_cell BK101.out 3).trans rfl; have hcz4_4 : w3.cell? ⟨gb101, 4, none⟩ = some (.int .i64 a0_4) := (blk_cell BK101.out 4).trans rfl; have hcz4_5 : w3.cell? ⟨gb101, 5, none⟩ = some (.int .i64 a0_5) := (blk_cell BK101.out 5).trans rfl; have hcz4_6 : w3.cell? ⟨gb101, 6, none⟩ = some (.slice A0_6 l0_6.length c0_6) := (blk_cell BK101.out 6).trans rfl; have hfz4_0 := blk_frozen BK101.out 0; have hfz4_1 := blk_frozen BK101.out 1; have hfz4_2 := blk_frozen BK101.out 2; have hfz4_3 := blk_frozen BK101.out 3; have hfz4_4 := blk_frozen BK101.out 4; have hfz4_5 := blk_frozen BK101.out 5; have hfz4_6 := blk_frozen BK101.out 6))
  go_loopg [5, 10] k (fun kq v5 v10 w' => ∃ (x5_1 : Int) (x10_1 : Int), v5 = .int .i64 x5_1 ∧ v10 = .int .i64 x10_1 ∧ Aside0 (sashref05_count.l0 kq a1 x5_1 (l0_6.length : Int) x10_1 a0_0 a0_1 a0_2 a0_3 a0_4 a0_5 l0_6 = some r) ∧ Aside0 (kq ≤ k) ∧ Aside0 (w'.heap[gb101]? = some (.cells #[.int .u8 a0_0, .int .i64 a0_1, .int .i64 a0_2, .int .i64 a0_3, .int .i64 a0_4, .int .i64 a0_5, (.slice A0_6 l0_6.length c0_6)] 26 (0, 0))) ∧ Aside0 (Below w.heap.size w w'))
  case atStart => exact ⟨(1), (0), (by first | rfl | (simp; done) | (simp [*]; done)), (by first | rfl | (simp; done) | (simp [*]; done)), H', ⟨Nat.le_refl _⟩, ⟨by (with_reducible repeat (first | refine blk_drewN ?_ _ | refine blk_drew ?_ | refine blk_alloc ?_ _)); exact BK101.out⟩, ⟨by repeat (first | (with_reducible first | exact HB.out | apply below_alloc | apply pw_below_drewN | apply below_drew1 | refine below_set ?_ GE101.out) | exact HB.out)⟩⟩
  case round =>
    clear H'
    try clear c1
    try clear p2
    try clear hcz4_0
    try clear hcz4_1
    try clear hcz4_2
    try clear hcz4_3
    try clear hcz4_4
    try clear hcz4_5
    try clear hcz4_6
    try clear hfz4_0
    try clear hfz4_1
    try clear hfz4_2
    try clear hfz4_3
    try clear hfz4_4
    try clear hfz4_5
    try clear hfz4_6
    obtain ⟨x5_1, x10_1, rfl, rfl, HA, HK1, BK101, HB⟩ := hrel
    cases gk with
    | zero => exact absurd HA.out (by simp [sashref05_count.l0])
    | succ k1 =>
      have H := HA.out
      clear HA
      simp only [sashref05_count.l0] at H
      by_cases c5 : x10_1 < (l0_6.length : Int)
      · rw [if_pos c5] at H
        have c5b0 : decide (x10_1 < (l0_6.length : Int)) = true := decide_eq_true c5
        clear c5
        by_cases c6 : x5_1 > a1
        · rw [if_pos c6] at H
          have c6b0 : decide (a1 < x5_1) = true := decide_eq_true c6
          clear c6
          obtain rfl := Option.some.inj H
          go_wp2
          go_ret
          exact ⟨by first | rfl | (simp [errW_none, errW_some] <;> rfl) | (simp [*, errW_none, errW_some] <;> rfl), by repeat (first | (with_reducible first | exact HB.out | apply below_alloc | apply pw_below_drewN | apply below_drew1 | refine below_set ?_ GE101.out) | exact HB.out)⟩
        · rw [if_neg c6] at H
          have c6b0 : decide (a1 < x5_1) = false := decide_eq_false c6
          clear c6
          by_cases c7 : 0 ≤ x10_1
          · rw [if_pos c7] at H
            have c7b0 : decide (0 ≤ x10_1) = true := decide_eq_true c7
            clear c7
            by_cases c8 : x10_1 < (l0_6.length : Int)
            · rw [if_pos c8] at H
              have c8b0 : decide (x10_1 < (l0_6.length : Int)) = true := decide_eq_true c8
              clear c8
              replace H := Option.bind_eq_some_iff.mp H
              obtain ⟨t103, A90, H⟩ := H
              replace H : (sashref05_count.l0 k1 a1 (wrap64 (x5_1 + t103)) (l0_6.length : Int) (wrap64 (x10_1 + 1)) a0_0 a0_1 a0_2 a0_3 a0_4 a0_5 l0_6) = some r := H
              have A9 := Aside0.mk A90
              clear A90
              have H' := Aside0.mk H
              clear H
              have hcz10_0 : wr.cell? ⟨gb101, 0, none⟩ = some (.int .u8 a0_0) := (blk_cell BK101.out 0).trans rfl
              have hcz10_1 : wr.cell? ⟨gb101, 1, none⟩ = some (.int .i64 a0_1) := (blk_cell BK101.out 1).trans rfl
              have hcz10_2 : wr.cell? ⟨gb101, 2, none⟩ = some (.int .i64 a0_2) := (blk_cell BK101.out 2).trans rfl
              have hcz10_3 : wr.cell? ⟨gb101, 3, none⟩ = some (.int .i64 a0_3) := (blk_cell BK101.out 3).trans rfl
              have hcz10_4 : wr.cell? ⟨gb101, 4, none⟩ = some (.int .i64 a0_4) := (blk_cell BK101.out 4).trans rfl
              have hcz10_5 : wr.cell? ⟨gb101, 5, none⟩ = some (.int .i64 a0_5) := (blk_cell BK101.out 5).trans rfl
              have hcz10_6 : wr.cell? ⟨gb101, 6, none⟩ = some (.slice A0_6 l0_6.length c0_6) := (blk_cell BK101.out 6).trans rfl
              have hfz10_0 := blk_frozen BK101.out 0
              have hfz10_1 := blk_frozen BK101.out 1
              have hfz10_2 := blk_frozen BK101.out 2
              have hfz10_3 := blk_frozen BK101.out 3
              have hfz10_4 := blk_frozen BK101.out 4
              have hfz10_5 := blk_frozen BK101.out 5
              have hfz10_6 := blk_frozen BK101.out 6
              have p102 : 0 ≤ (x10_1 : Int) := of_decide_eq_true (by first | (with_reducible assumption) | assumption)
              have q102 : x10_1 < (l0_6.length : Int) := of_decide_eq_true (by first | (with_reducible assumption) | assumption)
              obtain ⟨ad102, A102_6, c102_6, e102, hx102_0, hx102_1, hx102_2, hx102_3, hx102_4, hx102_5, hx102_6, hl102_6, hi102_6⟩ := at_T26 HR0_6.out x10_1 p102 q102
              cases e102
              replace hx102_0 := (HB.out.cell (World.block_lt_of_cell? w _ hx102_0)).trans hx102_0
              replace hx102_1 := (HB.out.cell (World.block_lt_of_cell? w _ hx102_1)).trans hx102_1
              replace hx102_2 := (HB.out.cell (World.block_lt_of_cell? w _ hx102_2)).trans hx102_2
              replace hx102_3 := (HB.out.cell (World.block_lt_of_cell? w _ hx102_3)).trans hx102_3
              replace hx102_4 := (HB.out.cell (World.block_lt_of_cell? w _ hx102_4)).trans hx102_4
              replace hx102_5 := (HB.out.cell (World.block_lt_of_cell? w _ hx102_5)).trans hx102_5
              replace hx102_6 := (HB.out.cell (World.block_lt_of_cell? w _ hx102_6)).trans hx102_6
              have HR102_6 := Aside0.mk hi102_6
              have HC102_6 := Aside0.mk hl102_6
              clear hi102_6 hl102_6
              replace p102 := eq_true p102
              replace q102 := eq_true q102
              go_wp2_with (first | ((with_reducible refine gate_callee (f := 124) rfl ?_); refine goesL_ (some 24) rfl rfl Try.func124 (by kernel_rfl) rfl #[.agg #[.int .u8 ((rd_T26 l0_6 x10_1).f0), .int .i64 ((rd_T26 l0_6 x10_1).f1.f0), .int .i64 ((rd_T26 l0_6 x10_1).f1.f1), .int .i64 ((rd_T26 l0_6 x10_1).f1.f2), .int .i64 ((rd_T26 l0_6 x10_1).f1.f3), .int .i64 ((rd_T26 l0_6 x10_1).f2), .slice A102_6 ((rd_T26 l0_6 x10_1).f3).length c102_6], .int .i64 a1] rfl (by (try simp only [List.map_toArray, List.map_cons, List.map_nil]); first | done | rfl | (simp only [List.length_drop, List.length_take]; rfl)) ?_; (with_reducible refine (ih k1 (by have := HK1.out; omega) ((rd_T26 l0_6 x10_1).f0) ((rd_T26 l0_6 x10_1).f1.f0) ((rd_T26 l0_6 x10_1).f1.f1) ((rd_T26 l0_6 x10_1).f1.f2) ((rd_T26 l0_6 x10_1).f1.f3) ((rd_T26 l0_6 x10_1).f2) _ _ ((rd_T26 l0_6 x10_1).f3) a1 t103 _ ?side1 ?side2 A9.out).mono ?_); (case side1 => repeat (first | exact (Kd.C_below HR102_6.out HB.out) | (with_reducible refine Kd.C_alloc ?_ _) | (with_reducible refine Kd.C_drewN ?_ _) | (with_reducible refine Kd.C_drew ?_))); (case side2 => exact HC102_6.out); rintro e w11 ⟨rfl, hb⟩; refine ⟨_, rfl, ?_⟩; have n0_ := Aside0.mk (blk_below (g := gb101) (o := .cells #[.int .u8 a0_0, .int .i64 a0_1, .int .i64 a0_2, .int .i64 a0_3, .int .i64 a0_4, .int .i64 a0_5, .slice (some ad102) l0_6.length c0_6] 26 (0, 0)) (by (with_reducible repeat (first | refine blk_drewN ?_ _ | refine blk_drew ?_ | refine blk_alloc ?_ _)); exact BK101.out) hb); have n1_ := Aside0.mk (below_step (by repeat (first | (with_reducible first | exact HB.out | apply below_alloc | apply pw_below_drewN | apply below_drew1 | refine below_set ?_ GE101.out) | exact HB.out)) hb); clear BK101; clear HB; have BK101 := n0_; have HB := n1_; clear n0_ n1_; (try clear hb); (try clear hb2); (try clear hk); (try clear hi)))
              go_roundg k1
              case measure => have := HK1.out; omega
              case rel => exact ⟨(wrap64 (x5_1 + t103)), (wrap64 (x10_1 + 1)), (by first | rfl | (simp; done) | (simp [*]; done)), (by first | rfl | (simp; done) | (simp [*]; done)), H', ⟨by have := HK1.out; omega⟩, ⟨by (with_reducible repeat (first | refine blk_drewN ?_ _ | refine blk_drew ?_ | refine blk_alloc ?_ _)); exact BK101.out⟩, ⟨by repeat (first | (with_reducible first | exact HB.out | apply below_alloc | apply pw_below_drewN | apply below_drew1 | refine below_set ?_ GE101.out) | exact HB.out)⟩⟩
            · rw [if_neg c8] at H
              exact absurd H (by simp)
          · rw [if_neg c7] at H
            exact absurd H (by simp)
      · rw [if_neg c5] at H
        have c5b0 : decide (x10_1 < (l0_6.length : Int)) = false := decide_eq_false c5
        clear c5
        obtain rfl := Option.some.inj H
        go_wp2
        go_ret
        exact ⟨by first | rfl | (simp [errW_none, errW_some] <;> rfl) | (simp [*, errW_none, errW_some] <;> rfl), by repeat (first | (with_reducible first | exact HB.out | apply below_alloc | apply pw_below_drewN | apply below_drew1 | refine below_set ?_ GE101.out) | exact HB.out)⟩

end Go.Proofs.Ytfdmfgaiblfbhaa.P
namespace Go.Proofs.Ytfdmfgaiblfbhaa.P
open Go.RowKit Go.Proofs.YtfdmfgaiblfbhaaW.PrintWords Go.Proofs.YtfdmfgaiblfbhaaW.PrintLast Go.Proofs.YtfdmfgaiblfbhaaW.PrintMore
attribute [local go_sem] max2_int min2_int max_two min_two max_three min_three max_four min_four   -- for this text's walks alone
set_option linter.unusedVariables false
set_option linter.unusedSimpArgs false

/-! ### sashref05_Great: function 34 -/
def sashref05_Great.f (k : Nat) (a0_0 : Int) (a0_1 : Int) (a0_2 : Int) (a0_3 : Int) (a0_4 : Int) (a0_5 : Int) (l0_6 : List (S26)) : Option (Bool) := (sashref05_count.f k a0_0 a0_1 a0_2 a0_3 a0_4 a0_5 l0_6 200).bind fun t105 => (some (decide (t105 > 200)))
theorem sashref05_Great.mono : ∀ a0 a1 a2 a3 a4 a5 a6 k, LeO (sashref05_Great.f k a0 a1 a2 a3 a4 a5 a6) (sashref05_Great.f (k + 1) a0 a1 a2 a3 a4 a5 a6) := by
  intro a0 a1 a2 a3 a4 a5 a6 k
  unfold sashref05_Great.f
  repeat' first
      | (with_reducible exact sashref05_count.mono _ _ _ _ _ _ _ _ _)
      | (with_reducible exact LeO.refl _)
      | (with_reducible exact LeO.none _)
      | (with_reducible refine LeO.ite ?_ ?_)
      | (with_reducible refine LeO.bind ?_ (fun _ => ?_))
      | exact sashref05_count.mono _ _ _ _ _ _ _ _ _
      | exact LeO.none _
      | refine LeO.ite ?_ ?_
      | refine LeO.bind ?_ (fun _ => ?_)
set_option maxHeartbeats 8000000 in
set_option maxRecDepth 100000 in
theorem sashref05_Great.calls (k : Nat) (a0_0 : Int) (a0_1 : Int) (a0_2 : Int) (a0_3 : Int) (a0_4 : Int) (a0_5 : Int) (A0_6 : Option Addr) (c0_6 : Nat) (l0_6 : List (S26)) (r : Bool) (w : World) (hr0_6 : Kd.C k26 w A0_6 l0_6.length l0_6) (hc0_6 : l0_6.length ≤ c0_6) (h : sashref05_Great.f k a0_0 a0_1 a0_2 a0_3 a0_4 a0_5 l0_6 = some r) :
    Calls Try.prog 34 #[.agg #[.int .u8 a0_0, .int .i64 a0_1, .int .i64 a0_2, .int .i64 a0_3, .int .i64 a0_4, .int .i64 a0_5, .slice A0_6 l0_6.length c0_6]] w fun e w' => e = .returned (.bool r) ∧ Below w.heap.size w w' := by
  have hu26 := Try.underlying26
  have HR0_6 := Aside0.mk hr0_6
  have HC0_6 := Aside0.mk hc0_6
  clear hr0_6 hc0_6
  have HB := Aside0.mk (Below.refl w.heap.size w)
  have H : ((sashref05_count.f k a0_0 a0_1 a0_2 a0_3 a0_4 a0_5 l0_6 200).bind fun t105 => (some (decide (t105 > 200)))) = some r := h
  clear h
  replace H := Option.bind_eq_some_iff.mp H
  obtain ⟨t105, A20, H⟩ := H
  replace H : (some (decide (t105 > 200))) = some r := H
  have A2 := Aside0.mk A20
  clear A20
  obtain rfl := Option.some.inj H
  go_enter Try.func34, Try.ntmps34
  go_wp2_with (first | ((with_reducible refine gate_dst (N := 1) rfl ?_); refine box_event ?hg (N := 1) ?hd (cs := #[.int .u8 a0_0, .int .i64 a0_1, .int .i64 a0_2, .int .i64 a0_3, .int .i64 a0_4, .int .i64 a0_5, .slice A0_6 l0_6.length c0_6]) (t := 26) ?hr ?_; (case hd => rfl); (case hg => rfl); (case hr => first | (go_simp; done) | (go_simp; rfl)); intro gb104 hg w3 hbox hb; have n0_ := Aside0.mk (below_step (by repeat (first | (with_reducible first | exact HB.out | apply below_alloc | apply pw_below_drewN | apply below_drew1) | exact HB.out)) hb); have n1_ := Aside0.mk (hbox); have n2_ := Aside0.mk ((by rw [hg]; exact (below_size (by repeat (first | (with_reducible first | exact HB.out | apply below_alloc | apply pw_below_drewN | apply below_drew1) | exact HB.out))) : w.heap.size ≤ gb104)); have n3_ := Aside0.mk ((by rw [hg]; exact (below_size (by repeat (first | (with_reducible first | exact HB.out | apply below_alloc | apply pw_below_drewN | apply below_drew1) | exact HB.out))) : w.heap.size ≤ gb104)); clear HB; have HB := n0_; have BK104 := n1_; have GW104 := n2_; have GE104 := n3_; clear n0_ n1_ n2_ n3_; clear hb hbox hg; have hcz4_0 : w3.cell? ⟨gb104, 0, none⟩ = some (.int .u8 a0_0) := (blk_cell BK104.out 0).trans rfl; have hcz4_1 : w3.cell? ⟨gb104, 1, none⟩ = some (.int .i64 a0_1) := (blk_cell BK104.out 1).trans rfl; have hcz4_2 : w3.cell? ⟨gb104, 2, none⟩ = some (.int .i64 a0_2) := (blk_cell BK104.out 2).trans rfl; have hcz4_3 : w3.cell? ⟨gb104, 3, none⟩ = some (.int .i64 a0_3) := (blk_cell BK104.out 3).trans rfl; have hcz4_4 : w3.cell? ⟨gb104, 4, none⟩ = some (.int .i64 a0_4) := (blk_cell BK104.out 4).trans rfl; have hcz4_5 : w3.cell? ⟨gb104, 5, none⟩ = some (.int .i64 a0_5) := (blk_cell BK104.out 5).trans rfl; have hcz4_6 : w3.cell? ⟨gb104, 6, none⟩ = some (.slice A0_6 l0_6.length c0_6) := (blk_cell BK104.out 6).trans rfl; have hfz4_0 := blk_frozen BK104.out 0; have hfz4_1 := blk_frozen BK104.out 1; have hfz4_2 := blk_frozen BK104.out 2; have hfz4_3 := blk_frozen BK104.out 3; have hfz4_4 := blk_frozen BK104.out 4; have hfz4_5 := blk_frozen BK104.out 5; have hfz4_6 := blk_frozen BK104.out 6) | ((with_reducible refine gate_callee (f := 124) rfl ?_); refine goesL_ (some 4) rfl rfl Try.func124 (by kernel_rfl) rfl #[.agg #[.int .u8 a0_0, .int .i64 a0_1, .int .i64 a0_2, .int .i64 a0_3, .int .i64 a0_4, .int .i64 a0_5, .slice A0_6 l0_6.length c0_6], .int .i64 200] rfl (by (try simp only [List.map_toArray, List.map_cons, List.map_nil]); first | done | rfl | (simp only [List.length_drop, List.length_take]; rfl)) ?_; (with_reducible refine (sashref05_count.calls k a0_0 a0_1 a0_2 a0_3 a0_4 a0_5 _ _ l0_6 200 t105 _ ?side1 ?side2 A2.out).mono ?_); (case side1 => repeat (first | exact (Kd.C_below HR0_6.out HB.out) | (with_reducible refine Kd.C_alloc ?_ _) | (with_reducible refine Kd.C_drewN ?_ _) | (with_reducible refine Kd.C_drew ?_))); (case side2 => exact HC0_6.out); rintro e w5 ⟨rfl, hb⟩; refine ⟨_, rfl, ?_⟩; have n0_ := Aside0.mk (blk_below (g := gb104) (o := .cells #[.int .u8 a0_0, .int .i64 a0_1, .int .i64 a0_2, .int .i64 a0_3, .int .i64 a0_4, .int .i64 a0_5, .slice A0_6 l0_6.length c0_6] 26 (0, 0)) (by (with_reducible repeat (first | refine blk_drewN ?_ _ | refine blk_drew ?_ | refine blk_alloc ?_ _)); exact BK104.out) hb); have n1_ := Aside0.mk (below_step (by repeat (first | (with_reducible first | exact HB.out | apply below_alloc | apply pw_below_drewN | apply below_drew1 | refine below_set ?_ GE104.out) | exact HB.out)) hb); clear BK104; clear HB; have BK104 := n0_; have HB := n1_; clear n0_ n1_; (try clear hb); (try clear hb2); (try clear hk); (try clear hi)))
  go_ret
  exact ⟨by first | rfl | (simp [errW_none, errW_some] <;> rfl) | (simp [*, errW_none, errW_some] <;> rfl), by repeat (first | (with_reducible first | exact HB.out | apply below_alloc | apply pw_below_drewN | apply below_drew1 | refine below_set ?_ GE104.out) | exact HB.out)⟩

end Go.Proofs.Ytfdmfgaiblfbhaa.P
namespace Go.Proofs.Ytfdmfgaiblfbhaa.P
open Go.RowKit Go.Proofs.YtfdmfgaiblfbhaaW.PrintWords Go.Proofs.YtfdmfgaiblfbhaaW.PrintLast Go.Proofs.YtfdmfgaiblfbhaaW.PrintMore
attribute [local go_sem] max2_int min2_int max_two min_two max_three min_three max_four min_four   -- for this text's walks alone
set_option linter.unusedVariables false
set_option linter.unusedSimpArgs false

/-! ### sashref05_GreatAll: function 74 -/
def sashref05_GreatAll.l0 : Nat → List (S26) → Int → Int → Option (Bool)
  | 0, _, _, _ => none
  | k + 1, x0, x8, x9 => if x9 < x8 then (if 0 ≤ x9 then (if x9 < (x0.length : Int) then ((sashref05_Great.f k ((rd_T26 x0 x9).f0) ((rd_T26 x0 x9).f1.f0) ((rd_T26 x0 x9).f1.f1) ((rd_T26 x0 x9).f1.f2) ((rd_T26 x0 x9).f1.f3) ((rd_T26 x0 x9).f2) ((rd_T26 x0 x9).f3)).bind fun t825 => (if t825 = true then (some true) else (sashref05_GreatAll.l0 k x0 x8 (wrap64 (x9 + 1))))) else (none)) else (none)) else (some false)
def sashref05_GreatAll.f (k : Nat) (l0 : List (S26)) : Option (Bool) := if (l0.length : Int) > 20 then (some true) else (sashref05_GreatAll.l0 k l0 (l0.length : Int) 0)
theorem sashref05_GreatAll.mono_l : ∀ k, (∀ y0 y1 y2, LeO (sashref05_GreatAll.l0 k y0 y1 y2) (sashref05_GreatAll.l0 (k + 1) y0 y1 y2))
  | 0 => fun _ _ _ r h => by simp [sashref05_GreatAll.l0] at h
  | k + 1 => by
    have ih0 := sashref05_GreatAll.mono_l k
    · intro y0 y1 y2
      unfold sashref05_GreatAll.l0
      repeat' first
      | (with_reducible exact ih0 _ _ _)
      | (with_reducible exact sashref05_Great.mono _ _ _ _ _ _ _ _)
      | (with_reducible exact LeO.refl _)
      | (with_reducible exact LeO.none _)
      | (with_reducible refine LeO.ite ?_ ?_)
      | (with_reducible refine LeO.bind ?_ (fun _ => ?_))
      | exact ih0 _ _ _
      | exact sashref05_Great.mono _ _ _ _ _ _ _ _
      | exact LeO.none _
      | refine LeO.ite ?_ ?_
      | refine LeO.bind ?_ (fun _ => ?_)
theorem sashref05_GreatAll.mono : ∀ a0 k, LeO (sashref05_GreatAll.f k a0) (sashref05_GreatAll.f (k + 1) a0) := by
  intro a0 k
  have ih0 := sashref05_GreatAll.mono_l k
  unfold sashref05_GreatAll.f
  repeat' first
      | (with_reducible exact ih0 _ _ _)
      | (with_reducible exact sashref05_Great.mono _ _ _ _ _ _ _ _)
      | (with_reducible exact LeO.refl _)
      | (with_reducible exact LeO.none _)
      | (with_reducible refine LeO.ite ?_ ?_)
      | (with_reducible refine LeO.bind ?_ (fun _ => ?_))
      | exact ih0 _ _ _
      | exact sashref05_Great.mono _ _ _ _ _ _ _ _
      | exact LeO.none _
      | refine LeO.ite ?_ ?_
      | refine LeO.bind ?_ (fun _ => ?_)
set_option maxHeartbeats 8000000 in
set_option maxRecDepth 100000 in
theorem sashref05_GreatAll.calls (k : Nat) (A0 : Option Addr) (c0 : Nat) (l0 : List (S26)) (r : Bool) (w : World) (hr0 : Kd.C k26 w A0 l0.length l0) (hc0 : l0.length ≤ c0) (h : sashref05_GreatAll.f k l0 = some r) :
    Calls Try.prog 74 #[.slice A0 l0.length c0] w fun e w' => e = .returned (.bool r) ∧ Below w.heap.size w w' := by
  have hu26 := Try.underlying26
  have HR0 := Aside0.mk hr0
  have HC0 := Aside0.mk hc0
  clear hr0 hc0
  have HB := Aside0.mk (Below.refl w.heap.size w)
  have H : (if (l0.length : Int) > 20 then (some true) else (sashref05_GreatAll.l0 k l0 (l0.length : Int) 0)) = some r := h
  clear h
  by_cases c2 : (l0.length : Int) > 20
  · rw [if_pos c2] at H
    have c2b0 : decide (20 < (l0.length : Int)) = true := decide_eq_true c2
    have c2b1 : decide (20 < l0.length) = true := decide_eq_true (by omega)
    clear c2
    obtain rfl := Option.some.inj H
    go_enter Try.func74, Try.ntmps74
    go_wp2
    go_ret
    exact ⟨by first | rfl | (simp [errW_none, errW_some] <;> rfl) | (simp [*, errW_none, errW_some] <;> rfl), by repeat (first | (with_reducible first | exact HB.out | apply below_alloc | apply pw_below_drewN | apply below_drew1) | exact HB.out)⟩
  · rw [if_neg c2] at H
    have c2b0 : decide (20 < (l0.length : Int)) = false := decide_eq_false c2
    have c2b1 : decide (20 < l0.length) = false := decide_eq_false (by omega)
    clear c2
    have H' := Aside0.mk H
    clear H
    go_enter Try.func74, Try.ntmps74
    go_wp2
    go_loopg [9] k (fun kq v9 w' => ∃ (x9_1 : Int), v9 = .int .i64 x9_1 ∧ Aside0 (sashref05_GreatAll.l0 kq l0 (l0.length : Int) x9_1 = some r) ∧ Aside0 (kq ≤ k) ∧ Aside0 (Below w.heap.size w w'))
    case atStart => exact ⟨(0), (by first | rfl | (simp; done) | (simp [*]; done)), H', ⟨Nat.le_refl _⟩, ⟨by repeat (first | (with_reducible first | exact HB.out | apply below_alloc | apply pw_below_drewN | apply below_drew1) | exact HB.out)⟩⟩
    case round =>
      clear H'
      try clear c2
      try clear c2b0
      try clear c2b1
      try clear p2
      obtain ⟨x9_1, rfl, HA, HK1, HB⟩ := hrel
      cases gk with
      | zero => exact absurd HA.out (by simp [sashref05_GreatAll.l0])
      | succ k1 =>
        have H := HA.out
        clear HA
        simp only [sashref05_GreatAll.l0] at H
        by_cases c3 : x9_1 < (l0.length : Int)
        · rw [if_pos c3] at H
          have c3b0 : decide (x9_1 < (l0.length : Int)) = true := decide_eq_true c3
          clear c3
          by_cases c4 : 0 ≤ x9_1
          · rw [if_pos c4] at H
            have c4b0 : decide (0 ≤ x9_1) = true := decide_eq_true c4
            clear c4
            by_cases c5 : x9_1 < (l0.length : Int)
            · rw [if_pos c5] at H
              have c5b0 : decide (x9_1 < (l0.length : Int)) = true := decide_eq_true c5
              clear c5
              replace H := Option.bind_eq_some_iff.mp H
              obtain ⟨t825, A60, H⟩ := H
              replace H : (if t825 = true then (some true) else (sashref05_GreatAll.l0 k1 l0 (l0.length : Int) (wrap64 (x9_1 + 1)))) = some r := H
              have A6 := Aside0.mk A60
              clear A60
              by_cases c7 : t825 = true
              · subst c7
                have H1 : (some true) = some r := by rw [if_pos rfl] at H; exact H
                clear H
                have H := H1
                clear H1
                obtain rfl := Option.some.inj H
                have p824 : 0 ≤ (x9_1 : Int) := of_decide_eq_true (by first | (with_reducible assumption) | assumption)
                have q824 : x9_1 < (l0.length : Int) := of_decide_eq_true (by first | (with_reducible assumption) | assumption)
                obtain ⟨ad824, A824_6, c824_6, e824, hx824_0, hx824_1, hx824_2, hx824_3, hx824_4, hx824_5, hx824_6, hl824_6, hi824_6⟩ := at_T26 HR0.out x9_1 p824 q824
                cases e824
                replace hx824_0 := (HB.out.cell (World.block_lt_of_cell? w _ hx824_0)).trans hx824_0
                replace hx824_1 := (HB.out.cell (World.block_lt_of_cell? w _ hx824_1)).trans hx824_1
                replace hx824_2 := (HB.out.cell (World.block_lt_of_cell? w _ hx824_2)).trans hx824_2
                replace hx824_3 := (HB.out.cell (World.block_lt_of_cell? w _ hx824_3)).trans hx824_3
                replace hx824_4 := (HB.out.cell (World.block_lt_of_cell? w _ hx824_4)).trans hx824_4
                replace hx824_5 := (HB.out.cell (World.block_lt_of_cell? w _ hx824_5)).trans hx824_5
                replace hx824_6 := (HB.out.cell (World.block_lt_of_cell? w _ hx824_6)).trans hx824_6
                have HR824_6 := Aside0.mk hi824_6
                have HC824_6 := Aside0.mk hl824_6
                clear hi824_6 hl824_6
                replace p824 := eq_true p824
                replace q824 := eq_true q824
                go_wp2_with (first | ((with_reducible refine gate_callee (f := 34) rfl ?_); refine goesL_ (some 16) rfl rfl Try.func34 (by kernel_rfl) rfl #[.agg #[.int .u8 ((rd_T26 l0 x9_1).f0), .int .i64 ((rd_T26 l0 x9_1).f1.f0), .int .i64 ((rd_T26 l0 x9_1).f1.f1), .int .i64 ((rd_T26 l0 x9_1).f1.f2), .int .i64 ((rd_T26 l0 x9_1).f1.f3), .int .i64 ((rd_T26 l0 x9_1).f2), .slice A824_6 ((rd_T26 l0 x9_1).f3).length c824_6]] rfl (by (try simp only [List.map_toArray, List.map_cons, List.map_nil]); first | done | rfl | (simp only [List.length_drop, List.length_take]; rfl)) ?_; (with_reducible refine (sashref05_Great.calls k1 ((rd_T26 l0 x9_1).f0) ((rd_T26 l0 x9_1).f1.f0) ((rd_T26 l0 x9_1).f1.f1) ((rd_T26 l0 x9_1).f1.f2) ((rd_T26 l0 x9_1).f1.f3) ((rd_T26 l0 x9_1).f2) _ _ ((rd_T26 l0 x9_1).f3) true _ ?side1 ?side2 A6.out).mono ?_); (case side1 => repeat (first | exact (Kd.C_below HR824_6.out HB.out) | (with_reducible refine Kd.C_alloc ?_ _) | (with_reducible refine Kd.C_drewN ?_ _) | (with_reducible refine Kd.C_drew ?_))); (case side2 => exact HC824_6.out); rintro e w8 ⟨rfl, hb⟩; refine ⟨_, rfl, ?_⟩; have n0_ := Aside0.mk (below_step (by repeat (first | (with_reducible first | exact HB.out | apply below_alloc | apply pw_below_drewN | apply below_drew1) | exact HB.out)) hb); clear HB; have HB := n0_; clear n0_; (try clear hb); (try clear hb2); (try clear hk); (try clear hi)))
                go_ret
                exact ⟨by first | rfl | (simp [errW_none, errW_some] <;> rfl) | (simp [*, errW_none, errW_some] <;> rfl), by repeat (first | (with_reducible first | exact HB.out | apply below_alloc | apply pw_below_drewN | apply below_drew1) | exact HB.out)⟩
              · replace c7 := Bool.eq_false_iff.mpr c7
                subst c7
                have H1 : (sashref05_GreatAll.l0 k1 l0 (l0.length : Int) (wrap64 (x9_1 + 1))) = some r := by rw [if_neg (show ¬ (false = true) by decide)] at H; exact H
                clear H
                have H := H1
                clear H1
                have H' := Aside0.mk H
                clear H
                have p824 : 0 ≤ (x9_1 : Int) := of_decide_eq_true (by first | (with_reducible assumption) | assumption)
                have q824 : x9_1 < (l0.length : Int) := of_decide_eq_true (by first | (with_reducible assumption) | assumption)
                obtain ⟨ad824, A824_6, c824_6, e824, hx824_0, hx824_1, hx824_2, hx824_3, hx824_4, hx824_5, hx824_6, hl824_6, hi824_6⟩ := at_T26 HR0.out x9_1 p824 q824
                cases e824
                replace hx824_0 := (HB.out.cell (World.block_lt_of_cell? w _ hx824_0)).trans hx824_0
                replace hx824_1 := (HB.out.cell (World.block_lt_of_cell? w _ hx824_1)).trans hx824_1
                replace hx824_2 := (HB.out.cell (World.block_lt_of_cell? w _ hx824_2)).trans hx824_2
                replace hx824_3 := (HB.out.cell (World.block_lt_of_cell? w _ hx824_3)).trans hx824_3
                replace hx824_4 := (HB.out.cell (World.block_lt_of_cell? w _ hx824_4)).trans hx824_4
                replace hx824_5 := (HB.out.cell (World.block_lt_of_cell? w _ hx824_5)).trans hx824_5
                replace hx824_6 := (HB.out.cell (World.block_lt_of_cell? w _ hx824_6)).trans hx824_6
                have HR824_6 := Aside0.mk hi824_6
                have HC824_6 := Aside0.mk hl824_6
                clear hi824_6 hl824_6
                replace p824 := eq_true p824
                replace q824 := eq_true q824
                go_wp2_with (first | ((with_reducible refine gate_callee (f := 34) rfl ?_); refine goesL_ (some 16) rfl rfl Try.func34 (by kernel_rfl) rfl #[.agg #[.int .u8 ((rd_T26 l0 x9_1).f0), .int .i64 ((rd_T26 l0 x9_1).f1.f0), .int .i64 ((rd_T26 l0 x9_1).f1.f1), .int .i64 ((rd_T26 l0 x9_1).f1.f2), .int .i64 ((rd_T26 l0 x9_1).f1.f3), .int .i64 ((rd_T26 l0 x9_1).f2), .slice A824_6 ((rd_T26 l0 x9_1).f3).length c824_6]] rfl (by (try simp only [List.map_toArray, List.map_cons, List.map_nil]); first | done | rfl | (simp only [List.length_drop, List.length_take]; rfl)) ?_; (with_reducible refine (sashref05_Great.calls k1 ((rd_T26 l0 x9_1).f0) ((rd_T26 l0 x9_1).f1.f0) ((rd_T26 l0 x9_1).f1.f1) ((rd_T26 l0 x9_1).f1.f2) ((rd_T26 l0 x9_1).f1.f3) ((rd_T26 l0 x9_1).f2) _ _ ((rd_T26 l0 x9_1).f3) false _ ?side1 ?side2 A6.out).mono ?_); (case side1 => repeat (first | exact (Kd.C_below HR824_6.out HB.out) | (with_reducible refine Kd.C_alloc ?_ _) | (with_reducible refine Kd.C_drewN ?_ _) | (with_reducible refine Kd.C_drew ?_))); (case side2 => exact HC824_6.out); rintro e w9 ⟨rfl, hb⟩; refine ⟨_, rfl, ?_⟩; have n0_ := Aside0.mk (below_step (by repeat (first | (with_reducible first | exact HB.out | apply below_alloc | apply pw_below_drewN | apply below_drew1) | exact HB.out)) hb); clear HB; have HB := n0_; clear n0_; (try clear hb); (try clear hb2); (try clear hk); (try clear hi)))
                go_roundg k1
                case measure => have := HK1.out; omega
                case rel => exact ⟨(wrap64 (x9_1 + 1)), (by first | rfl | (simp; done) | (simp [*]; done)), H', ⟨by have := HK1.out; omega⟩, ⟨by repeat (first | (with_reducible first | exact HB.out | apply below_alloc | apply pw_below_drewN | apply below_drew1) | exact HB.out)⟩⟩
            · rw [if_neg c5] at H
              exact absurd H (by simp)
          · rw [if_neg c4] at H
            exact absurd H (by simp)
        · rw [if_neg c3] at H
          have c3b0 : decide (x9_1 < (l0.length : Int)) = false := decide_eq_false c3
          clear c3
          obtain rfl := Option.some.inj H
          go_wp2
          go_ret
          exact ⟨by first | rfl | (simp [errW_none, errW_some] <;> rfl) | (simp [*, errW_none, errW_some] <;> rfl), by repeat (first | (with_reducible first | exact HB.out | apply below_alloc | apply pw_below_drewN | apply below_drew1) | exact HB.out)⟩

end Go.Proofs.Ytfdmfgaiblfbhaa.P
namespace Go.Proofs.Ytfdmfgaiblfbhaa.P
open Go.RowKit Go.Proofs.YtfdmfgaiblfbhaaW.PrintWords Go.Proofs.YtfdmfgaiblfbhaaW.PrintLast Go.Proofs.YtfdmfgaiblfbhaaW.PrintMore
attribute [local go_sem] max2_int min2_int max_two min_two max_three min_three max_four min_four   -- for this text's walks alone
set_option linter.unusedVariables false
set_option linter.unusedSimpArgs false

/-! ### cell_Size: function 82 -/
mutual
def cell_Size.l0 : Nat → Int → List (S26) → Int → Int → Option (Int)
  | 0, _, _, _, _ => none
  | k + 1, x3, x8, x9, x10 => if x10 < x9 then (if 0 ≤ x10 then (if x10 < (x8.length : Int) then ((cell_Size.f k ((rd_T26 x8 x10).f3)).bind fun t830 => (cell_Size.l0 k (wrap64 (x3 + t830)) x8 x9 (wrap64 (x10 + 1)))) else (none)) else (none)) else (some x3)
def cell_Size.f : Nat → List (S26) → Option (Int)
  | 0, _ => none
  | k + 1, l0 => cell_Size.l0 k (l0.length : Int) l0 (l0.length : Int) 0
end
theorem cell_Size.mono_l : ∀ k, (∀ y0, LeO (cell_Size.f k y0) (cell_Size.f (k + 1) y0)) ∧ (∀ y0 y1 y2 y3, LeO (cell_Size.l0 k y0 y1 y2 y3) (cell_Size.l0 (k + 1) y0 y1 y2 y3))
  | 0 => ⟨fun _ r h => by simp [cell_Size.f] at h, fun _ _ _ _ r h => by simp [cell_Size.l0] at h⟩
  | k + 1 => by
    obtain ⟨ih0, ih1⟩ := cell_Size.mono_l k
    refine ⟨?_, ?_⟩
    · intro y0
      unfold cell_Size.f
      repeat' first
      | (with_reducible exact ih0 _)
      | (with_reducible exact ih1 _ _ _ _)
      | (with_reducible exact LeO.refl _)
      | (with_reducible exact LeO.none _)
      | (with_reducible refine LeO.ite ?_ ?_)
      | (with_reducible refine LeO.bind ?_ (fun _ => ?_))
      | exact ih0 _
      | exact ih1 _ _ _ _
      | exact LeO.none _
      | refine LeO.ite ?_ ?_
      | refine LeO.bind ?_ (fun _ => ?_)
    · intro y0 y1 y2 y3
      unfold cell_Size.l0
      repeat' first
      | (with_reducible exact ih0 _)
      | (with_reducible exact ih1 _ _ _ _)
      | (with_reducible exact LeO.refl _)
      | (with_reducible exact LeO.none _)
      | (with_reducible refine LeO.ite ?_ ?_)
      | (with_reducible refine LeO.bind ?_ (fun _ => ?_))
      | exact ih0 _
      | exact ih1 _ _ _ _
      | exact LeO.none _
      | refine LeO.ite ?_ ?_
      | refine LeO.bind ?_ (fun _ => ?_)
theorem cell_Size.mono : ∀ a0 k, LeO (cell_Size.f k a0) (cell_Size.f (k + 1) a0) := by
  intro a0 k
  obtain ⟨ih0, ih1⟩ := cell_Size.mono_l k
  exact ih0 a0
set_option maxHeartbeats 8000000 in
set_option maxRecDepth 100000 in
theorem cell_Size.calls (k : Nat) : ∀ (A0 : Option Addr) (c0 : Nat) (l0 : List (S26)) (r : Int) (w : World) (hr0 : Kd.C k26 w A0 l0.length l0) (hc0 : l0.length ≤ c0) (h : cell_Size.f k l0 = some r),
    Calls Try.prog 82 #[.slice A0 l0.length c0] w fun e w' => e = .returned (.int .i64 r) ∧ Below w.heap.size w w' := by
  induction k using Nat.strongRecOn with
  | _ k ih =>
  intro A0 c0 l0 r w hr0 hc0 h
  cases k with
  | zero => exact absurd h (by simp [cell_Size.f])
  | succ k =>
  simp only [cell_Size.f] at h
  have hu26 := Try.underlying26
  have HR0 := Aside0.mk hr0
  have HC0 := Aside0.mk hc0
  clear hr0 hc0
  have HB := Aside0.mk (Below.refl w.heap.size w)
  have H : (cell_Size.l0 k (l0.length : Int) l0 (l0.length : Int) 0) = some r := h
  clear h
  have H' := Aside0.mk H
  clear H
  go_enter Try.func82, Try.ntmps82
  go_wp2
  go_loopg [3, 10] k (fun kq v3 v10 w' => ∃ (x3_1 : Int) (x10_1 : Int), v3 = .int .i64 x3_1 ∧ v10 = .int .i64 x10_1 ∧ Aside0 (cell_Size.l0 kq x3_1 l0 (l0.length : Int) x10_1 = some r) ∧ Aside0 (kq ≤ k) ∧ Aside0 (Below w.heap.size w w'))
  case atStart => exact ⟨((l0.length : Int)), (0), (by first | rfl | (simp; done) | (simp [*]; done)), (by first | rfl | (simp; done) | (simp [*]; done)), H', ⟨Nat.le_refl _⟩, ⟨by repeat (first | (with_reducible first | exact HB.out | apply below_alloc | apply pw_below_drewN | apply below_drew1) | exact HB.out)⟩⟩
  case round =>
    clear H'
    obtain ⟨x3_1, x10_1, rfl, rfl, HA, HK1, HB⟩ := hrel
    cases gk with
    | zero => exact absurd HA.out (by simp [cell_Size.l0])
    | succ k1 =>
      have H := HA.out
      clear HA
      simp only [cell_Size.l0] at H
      by_cases c2 : x10_1 < (l0.length : Int)
      · rw [if_pos c2] at H
        have c2b0 : decide (x10_1 < (l0.length : Int)) = true := decide_eq_true c2
        clear c2
        by_cases c3 : 0 ≤ x10_1
        · rw [if_pos c3] at H
          have c3b0 : decide (0 ≤ x10_1) = true := decide_eq_true c3
          clear c3
          by_cases c4 : x10_1 < (l0.length : Int)
          · rw [if_pos c4] at H
            have c4b0 : decide (x10_1 < (l0.length : Int)) = true := decide_eq_true c4
            clear c4
            replace H := Option.bind_eq_some_iff.mp H
            obtain ⟨t830, A50, H⟩ := H
            replace H : (cell_Size.l0 k1 (wrap64 (x3_1 + t830)) l0 (l0.length : Int) (wrap64 (x10_1 + 1))) = some r := H
            have A5 := Aside0.mk A50
            clear A50
            have H' := Aside0.mk H
            clear H
            have p828 : 0 ≤ (x10_1 : Int) := of_decide_eq_true (by first | (with_reducible assumption) | assumption)
            have q828 : x10_1 < (l0.length : Int) := of_decide_eq_true (by first | (with_reducible assumption) | assumption)
            obtain ⟨ad828, A828_6, c828_6, e828, hx828_0, hx828_1, hx828_2, hx828_3, hx828_4, hx828_5, hx828_6, hl828_6, hi828_6⟩ := at_T26 HR0.out x10_1 p828 q828
            cases e828
            replace hx828_0 := (HB.out.cell (World.block_lt_of_cell? w _ hx828_0)).trans hx828_0
            replace hx828_1 := (HB.out.cell (World.block_lt_of_cell? w _ hx828_1)).trans hx828_1
            replace hx828_2 := (HB.out.cell (World.block_lt_of_cell? w _ hx828_2)).trans hx828_2
            replace hx828_3 := (HB.out.cell (World.block_lt_of_cell? w _ hx828_3)).trans hx828_3
            replace hx828_4 := (HB.out.cell (World.block_lt_of_cell? w _ hx828_4)).trans hx828_4
            replace hx828_5 := (HB.out.cell (World.block_lt_of_cell? w _ hx828_5)).trans hx828_5
            replace hx828_6 := (HB.out.cell (World.block_lt_of_cell? w _ hx828_6)).trans hx828_6
            have HR828_6 := Aside0.mk hi828_6
            have HC828_6 := Aside0.mk hl828_6
            clear hi828_6 hl828_6
            replace p828 := eq_true p828
            replace q828 := eq_true q828
            go_wp2_with (first | ((with_reducible refine gate_dst (N := 5) rfl ?_); refine box_event ?hg (N := 5) ?hd (cs := #[.int .u8 0, .int .i64 0, .int .i64 0, .int .i64 0, .int .i64 0, .int .i64 0, .slice none 0 0]) (t := 26) ?hr ?_; (case hd => rfl); (case hg => rfl); (case hr => first | (go_simp; done) | (go_simp; rfl)); intro gb829 hg w6 hbox hb; have n0_ := Aside0.mk (below_step (by repeat (first | (with_reducible first | exact HB.out | apply below_alloc | apply pw_below_drewN | apply below_drew1) | exact HB.out)) hb); have n1_ := Aside0.mk (hbox); have n2_ := Aside0.mk ((by rw [hg]; exact (below_size (by repeat (first | (with_reducible first | exact HB.out | apply below_alloc | apply pw_below_drewN | apply below_drew1) | exact HB.out))) : w.heap.size ≤ gb829)); have n3_ := Aside0.mk ((by rw [hg]; exact (below_size (by repeat (first | (with_reducible first | exact HB.out | apply below_alloc | apply pw_below_drewN | apply below_drew1) | exact HB.out))) : w.heap.size ≤ gb829)); clear HB; have HB := n0_; have BK829 := n1_; have GW829 := n2_; have GE829 := n3_; clear n0_ n1_ n2_ n3_; clear hb hbox hg; have hcz7_0 : w6.cell? ⟨gb829, 0, none⟩ = some (.int .u8 0) := (blk_cell BK829.out 0).trans rfl; have hcz7_1 : w6.cell? ⟨gb829, 1, none⟩ = some (.int .i64 0) := (blk_cell BK829.out 1).trans rfl; have hcz7_2 : w6.cell? ⟨gb829, 2, none⟩ = some (.int .i64 0) := (blk_cell BK829.out 2).trans rfl; have hcz7_3 : w6.cell? ⟨gb829, 3, none⟩ = some (.int .i64 0) := (blk_cell BK829.out 3).trans rfl; have hcz7_4 : w6.cell? ⟨gb829, 4, none⟩ = some (.int .i64 0) := (blk_cell BK829.out 4).trans rfl; have hcz7_5 : w6.cell? ⟨gb829, 5, none⟩ = some (.int .i64 0) := (blk_cell BK829.out 5).trans rfl; have hcz7_6 : w6.cell? ⟨gb829, 6, none⟩ = some (.slice none 0 0) := (blk_cell BK829.out 6).trans rfl; have hfz7_0 := blk_frozen BK829.out 0; have hfz7_1 := blk_frozen BK829.out 1; have hfz7_2 := blk_frozen BK829.out 2; have hfz7_3 := blk_frozen BK829.out 3; have hfz7_4 := blk_frozen BK829.out 4; have hfz7_5 := blk_frozen BK829.out 5; have hfz7_6 := blk_frozen BK829.out 6) | ((with_reducible refine gate_callee (f := 82) rfl ?_); refine goesL_ (some 17) rfl rfl Try.func82 (by kernel_rfl) rfl #[.slice A828_6 ((rd_T26 l0 x10_1).f3).length c828_6] rfl (by (try simp only [List.map_toArray, List.map_cons, List.map_nil]); first | done | rfl | (simp only [List.length_drop, List.length_take]; rfl)) ?_; (with_reducible refine (ih k1 (by have := HK1.out; omega) _ _ ((rd_T26 l0 x10_1).f3) t830 _ ?side1 ?side2 A5.out).mono ?_); (case side1 => exact Kd.C_below HR828_6.out (by repeat (first | (with_reducible first | exact HB.out | apply below_alloc | apply pw_below_drewN | apply below_drew1 | refine below_set ?_ GE829.out) | exact HB.out))); (case side2 => exact HC828_6.out); rintro e w8 ⟨rfl, hb⟩; refine ⟨_, rfl, ?_⟩; have n0_ := Aside0.mk (blk_below (g := gb829) (o := .cells #[.int .u8 ((rd_T26 l0 x10_1).f0), .int .i64 ((rd_T26 l0 x10_1).f1.f0), .int .i64 ((rd_T26 l0 x10_1).f1.f1), .int .i64 ((rd_T26 l0 x10_1).f1.f2), .int .i64 ((rd_T26 l0 x10_1).f1.f3), .int .i64 ((rd_T26 l0 x10_1).f2), .slice A828_6 ((rd_T26 l0 x10_1).f3).length c828_6] 26 (0, 0)) (by (with_reducible repeat (first | refine blk_drewN ?_ _ | refine blk_drew ?_ | refine blk_alloc ?_ _)); refine blk_put (cs := #[.int .u8 ((rd_T26 l0 x10_1).f0), .int .i64 ((rd_T26 l0 x10_1).f1.f0), .int .i64 ((rd_T26 l0 x10_1).f1.f1), .int .i64 ((rd_T26 l0 x10_1).f1.f2), .int .i64 ((rd_T26 l0 x10_1).f1.f3), .int .i64 ((rd_T26 l0 x10_1).f2), .slice none 0 0]) ?_ 6 _ rfl; (with_reducible repeat (first | refine blk_drewN ?_ _ | refine blk_drew ?_ | refine blk_alloc ?_ _)); refine blk_put (cs := #[.int .u8 ((rd_T26 l0 x10_1).f0), .int .i64 ((rd_T26 l0 x10_1).f1.f0), .int .i64 ((rd_T26 l0 x10_1).f1.f1), .int .i64 ((rd_T26 l0 x10_1).f1.f2), .int .i64 ((rd_T26 l0 x10_1).f1.f3), .int .i64 0, .slice none 0 0]) ?_ 5 _ rfl; (with_reducible repeat (first | refine blk_drewN ?_ _ | refine blk_drew ?_ | refine blk_alloc ?_ _)); refine blk_put (cs := #[.int .u8 ((rd_T26 l0 x10_1).f0), .int .i64 ((rd_T26 l0 x10_1).f1.f0), .int .i64 ((rd_T26 l0 x10_1).f1.f1), .int .i64 ((rd_T26 l0 x10_1).f1.f2), .int .i64 0, .int .i64 0, .slice none 0 0]) ?_ 4 _ rfl; (with_reducible repeat (first | refine blk_drewN ?_ _ | refine blk_drew ?_ | refine blk_alloc ?_ _)); refine blk_put (cs := #[.int .u8 ((rd_T26 l0 x10_1).f0), .int .i64 ((rd_T26 l0 x10_1).f1.f0), .int .i64 ((rd_T26 l0 x10_1).f1.f1), .int .i64 0, .int .i64 0, .int .i64 0, .slice none 0 0]) ?_ 3 _ rfl; (with_reducible repeat (first | refine blk_drewN ?_ _ | refine blk_drew ?_ | refine blk_alloc ?_ _)); refine blk_put (cs := #[.int .u8 ((rd_T26 l0 x10_1).f0), .int .i64 ((rd_T26 l0 x10_1).f1.f0), .int .i64 0, .int .i64 0, .int .i64 0, .int .i64 0, .slice none 0 0]) ?_ 2 _ rfl; (with_reducible repeat (first | refine blk_drewN ?_ _ | refine blk_drew ?_ | refine blk_alloc ?_ _)); refine blk_put (cs := #[.int .u8 ((rd_T26 l0 x10_1).f0), .int .i64 0, .int .i64 0, .int .i64 0, .int .i64 0, .int .i64 0, .slice none 0 0]) ?_ 1 _ rfl; (with_reducible repeat (first | refine blk_drewN ?_ _ | refine blk_drew ?_ | refine blk_alloc ?_ _)); refine blk_put (cs := #[.int .u8 0, .int .i64 0, .int .i64 0, .int .i64 0, .int .i64 0, .int .i64 0, .slice none 0 0]) ?_ 0 _ rfl; (with_reducible repeat (first | refine blk_drewN ?_ _ | refine blk_drew ?_ | refine blk_alloc ?_ _)); exact BK829.out) hb); have n1_ := Aside0.mk (below_step (by repeat (first | (with_reducible first | exact HB.out | apply below_alloc | apply pw_below_drewN | apply below_drew1 | refine below_set ?_ GE829.out) | exact HB.out)) hb); clear BK829; clear HB; have BK829 := n0_; have HB := n1_; clear n0_ n1_; (try clear hb); (try clear hb2); (try clear hk); (try clear hi)))
            go_roundg k1
            case measure => have := HK1.out; omega
            case rel => exact ⟨(wrap64 (x3_1 + t830)), (wrap64 (x10_1 + 1)), (by first | rfl | (simp; done) | (simp [*]; done)), (by first | rfl | (simp; done) | (simp [*]; done)), H', ⟨by have := HK1.out; omega⟩, ⟨by repeat (first | (with_reducible first | exact HB.out | apply below_alloc | apply pw_below_drewN | apply below_drew1 | refine below_set ?_ GE829.out) | exact HB.out)⟩⟩
          · rw [if_neg c4] at H
            exact absurd H (by simp)
        · rw [if_neg c3] at H
          exact absurd H (by simp)
      · rw [if_neg c2] at H
        have c2b0 : decide (x10_1 < (l0.length : Int)) = false := decide_eq_false c2
        clear c2
        obtain rfl := Option.some.inj H
        go_wp2
        go_ret
        exact ⟨by first | rfl | (simp [errW_none, errW_some] <;> rfl) | (simp [*, errW_none, errW_some] <;> rfl), by repeat (first | (with_reducible first | exact HB.out | apply below_alloc | apply pw_below_drewN | apply below_drew1) | exact HB.out)⟩

end Go.Proofs.Ytfdmfgaiblfbhaa.P
namespace Go.Proofs.Ytfdmfgaiblfbhaa.P
open Go.RowKit Go.Proofs.YtfdmfgaiblfbhaaW.PrintWords Go.Proofs.YtfdmfgaiblfbhaaW.PrintLast Go.Proofs.YtfdmfgaiblfbhaaW.PrintMore
attribute [local go_sem] max2_int min2_int max_two min_two max_three min_three max_four min_four   -- for this text's walks alone
set_option linter.unusedVariables false
set_option linter.unusedSimpArgs false

/-! ### cell_Depth: function 80 -/
mutual
def cell_Depth.l0 : Nat → Int → List (S26) → Int → Int → Option (Int)
  | 0, _, _, _, _ => none
  | k + 1, x3, x7, x8, x9 => if x9 < x8 then (if 0 ≤ x9 then (if x9 < (x7.length : Int) then ((cell_Depth.f k ((rd_T26 x7 x9).f0) ((rd_T26 x7 x9).f1.f0) ((rd_T26 x7 x9).f1.f1) ((rd_T26 x7 x9).f1.f2) ((rd_T26 x7 x9).f1.f3) ((rd_T26 x7 x9).f2) ((rd_T26 x7 x9).f3)).bind fun t864 => (cell_Depth.l0 k (mx x3 t864) x7 x8 (wrap64 (x9 + 1)))) else (none)) else (none)) else (some (wrap64 (x3 + 1)))
def cell_Depth.f : Nat → Int → Int → Int → Int → Int → Int → List (S26) → Option (Int)
  | 0, _, _, _, _, _, _, _ => none
  | k + 1, a0_0, a0_1, a0_2, a0_3, a0_4, a0_5, l0_6 => cell_Depth.l0 k 0 l0_6 (l0_6.length : Int) 0
end
theorem cell_Depth.mono_l : ∀ k, (∀ y0 y1 y2 y3 y4 y5 y6, LeO (cell_Depth.f k y0 y1 y2 y3 y4 y5 y6) (cell_Depth.f (k + 1) y0 y1 y2 y3 y4 y5 y6)) ∧ (∀ y0 y1 y2 y3, LeO (cell_Depth.l0 k y0 y1 y2 y3) (cell_Depth.l0 (k + 1) y0 y1 y2 y3))
  | 0 => ⟨fun _ _ _ _ _ _ _ r h => by simp [cell_Depth.f] at h, fun _ _ _ _ r h => by simp [cell_Depth.l0] at h⟩
  | k + 1 => by
    obtain ⟨ih0, ih1⟩ := cell_Depth.mono_l k
    refine ⟨?_, ?_⟩
    · intro y0 y1 y2 y3 y4 y5 y6
      unfold cell_Depth.f
      repeat' first
      | (with_reducible exact ih0 _ _ _ _ _ _ _)
      | (with_reducible exact ih1 _ _ _ _)
      | (with_reducible exact LeO.refl _)
      | (with_reducible exact LeO.none _)
      | (with_reducible refine LeO.ite ?_ ?_)
      | (with_reducible refine LeO.bind ?_ (fun _ => ?_))
      | exact ih0 _ _ _ _ _ _ _
      | exact ih1 _ _ _ _
      | exact LeO.none _
      | refine LeO.ite ?_ ?_
      | refine LeO.bind ?_ (fun _ => ?_)
    · intro y0 y1 y2 y3
      unfold cell_Depth.l0
      repeat' first
      | (with_reducible exact ih0 _ _ _ _ _ _ _)
      | (with_reducible exact ih1 _ _ _ _)
      | (with_reducible exact LeO.refl _)
      | (with_reducible exact LeO.none _)
      | (with_reducible refine LeO.ite ?_ ?_)
      | (with_reducible refine LeO.bind ?_ (fun _ => ?_))
      | exact ih0 _ _ _ _ _ _ _
      | exact ih1 _ _ _ _
      | exact LeO.none _
      | refine LeO.ite ?_ ?_
      | refine LeO.bind ?_ (fun _ => ?_)
theorem cell_Depth.mono : ∀ a0 a1 a2 a3 a4 a5 a6 k, LeO (cell_Depth.f k a0 a1 a2 a3 a4 a5 a6) (cell_Depth.f (k + 1) a0 a1 a2 a3 a4 a5 a6) := by
  intro a0 a1 a2 a3 a4 a5 a6 k
  obtain ⟨ih0, ih1⟩ := cell_Depth.mono_l k
  exact ih0 a0 a1 a2 a3 a4 a5 a6
set_option maxHeartbeats 8000000 in
set_option maxRecDepth 100000 in
theorem cell_Depth.calls (k : Nat) : ∀ (a0_0 : Int) (a0_1 : Int) (a0_2 : Int) (a0_3 : Int) (a0_4 : Int) (a0_5 : Int) (A0_6 : Option Addr) (c0_6 : Nat) (l0_6 : List (S26)) (r : Int) (w : World) (hr0_6 : Kd.C k26 w A0_6 l0_6.length l0_6) (hc0_6 : l0_6.length ≤ c0_6) (h : cell_Depth.f k a0_0 a0_1 a0_2 a0_3 a0_4 a0_5 l0_6 = some r),
    Calls Try.prog 80 #[.agg #[.int .u8 a0_0, .int .i64 a0_1, .int .i64 a0_2, .int .i64 a0_3, .int .i64 a0_4, .int .i64 a0_5, .slice A0_6 l0_6.length c0_6]] w fun e w' => e = .returned (.int .i64 r) ∧ Below w.heap.size w w' := by
  induction k using Nat.strongRecOn with
  | _ k ih =>
  intro a0_0 a0_1 a0_2 a0_3 a0_4 a0_5 A0_6 c0_6 l0_6 r w hr0_6 hc0_6 h
  cases k with
  | zero => exact absurd h (by simp [cell_Depth.f])
  | succ k =>
  simp only [cell_Depth.f] at h
  have hu26 := Try.underlying26
  have HR0_6 := Aside0.mk hr0_6
  have HC0_6 := Aside0.mk hc0_6
  clear hr0_6 hc0_6
  have HB := Aside0.mk (Below.refl w.heap.size w)
  have H : (cell_Depth.l0 k 0 l0_6 (l0_6.length : Int) 0) = some r := h
  clear h
  have H' := Aside0.mk H
  clear H
  go_enter Try.func80, Try.ntmps80
  go_wp2_with (first | ((with_reducible refine gate_dst (N := 1) rfl ?_); refine box_event ?hg (N := 1) ?hd (cs := #[.int .u8 a0_0, .int .i64 a0_1, .int .i64 a0_2, .int .i64 a0_3, .int .i64 a0_4, .int .i64 a0_5, .slice A0_6 l0_6.length c0_6]) (t := 26) ?hr ?_; (case hd => rfl); (case hg => rfl); (case hr => first | (go_simp; done) | (go_simp; rfl)); intro gb861 hg w2 hbox hb; have n0_ := Aside0.mk (below_step (by repeat (first | (with_reducible first | exact HB.out | apply below_alloc | apply pw_below_drewN | apply below_drew1) | exact HB.out)) hb); have n1_ := Aside0.mk (hbox); have n2_ := Aside0.mk ((by rw [hg]; exact (below_size (by repeat (first | (with_reducible first | exact HB.out | apply below_alloc | apply pw_below_drewN | apply below_drew1) | exact HB.out))) : w.heap.size ≤ gb861)); have n3_ := Aside0.mk ((by rw [hg]; exact (below_size (by repeat (first | (with_reducible first | exact HB.out | apply below_alloc | apply pw_below_drewN | apply below_drew1) | exact HB.out))) : w.heap.size ≤ gb861)); clear HB; have HB := n0_; have BK861 := n1_; have GW861 := n2_; have GE861 := n3_; clear n0_ n1_ n2_ n3_; clear hb hbox hg; have hcz3_0 : w2.cell? ⟨gb861, 0, none⟩ = some (.int .u8 a0_0) := (blk_cell BK861.out 0).trans rfl; have hcz3_1 : w2.cell? ⟨gb861, 1, none⟩ = some (.int .i64 a0_1) := (blk_cell BK861.out 1).trans rfl; have hcz3_2 : w2.cell? ⟨gb861, 2, none⟩ = some (.int .i64 a0_2) := (blk_cell BK861.out 2).trans rfl; have hcz3_3 : w2.cell? ⟨gb861, 3, none⟩ = some (.int .i64 a0_3) := (blk_cell BK861.out 3).trans rfl; have hcz3_4 : w2.cell? ⟨gb861, 4, none⟩ = some (.int .i64 a0_4) := (blk_cell BK861.out 4).trans rfl; have hcz3_5 : w2.cell? ⟨gb861, 5, none⟩ = some (.int .i64 a0_5) := (blk_cell BK861.out 5).trans rfl; have hcz3_6 : w2.cell? ⟨gb861, 6, none⟩ = some (.slice A0_6 l0_6.length c0_6) := (blk_cell BK861.out 6).trans rfl; have hfz3_0 := blk_frozen BK861.out 0; have hfz3_1 := blk_frozen BK861.out 1; have hfz3_2 := blk_frozen BK861.out 2; have hfz3_3 := blk_frozen BK861.out 3; have hfz3_4 := blk_frozen BK861.out 4; have hfz3_5 := blk_frozen BK861.out 5; have hfz3_6 := blk_frozen BK861.out 6))
  go_loopg [3, 9] k (fun kq v3 v9 w' => ∃ (x3_1 : Int) (x9_1 : Int), v3 = .int .i64 x3_1 ∧ v9 = .int .i64 x9_1 ∧ Aside0 (cell_Depth.l0 kq x3_1 l0_6 (l0_6.length : Int) x9_1 = some r) ∧ Aside0 (kq ≤ k) ∧ Aside0 (w'.heap[gb861]? = some (.cells #[.int .u8 a0_0, .int .i64 a0_1, .int .i64 a0_2, .int .i64 a0_3, .int .i64 a0_4, .int .i64 a0_5, (.slice A0_6 l0_6.length c0_6)] 26 (0, 0))) ∧ Aside0 (Below w.heap.size w w'))
  case atStart => exact ⟨(0), (0), (by first | rfl | (simp; done) | (simp [*]; done)), (by first | rfl | (simp; done) | (simp [*]; done)), H', ⟨Nat.le_refl _⟩, ⟨by (with_reducible repeat (first | refine blk_drewN ?_ _ | refine blk_drew ?_ | refine blk_alloc ?_ _)); exact BK861.out⟩, ⟨by repeat (first | (with_reducible first | exact HB.out | apply below_alloc | apply pw_below_drewN | apply below_drew1 | refine below_set ?_ GE861.out) | exact HB.out)⟩⟩
  case round =>
    clear H'
    try clear p2
    try clear hcz3_0
    try clear hcz3_1
    try clear hcz3_2
    try clear hcz3_3
    try clear hcz3_4
    try clear hcz3_5
    try clear hcz3_6
    try clear hfz3_0
    try clear hfz3_1
    try clear hfz3_2
    try clear hfz3_3
    try clear hfz3_4
    try clear hfz3_5
    try clear hfz3_6
    obtain ⟨x3_1, x9_1, rfl, rfl, HA, HK1, BK861, HB⟩ := hrel
    cases gk with
    | zero => exact absurd HA.out (by simp [cell_Depth.l0])
    | succ k1 =>
      have H := HA.out
      clear HA
      simp only [cell_Depth.l0] at H
      by_cases c4 : x9_1 < (l0_6.length : Int)
      · rw [if_pos c4] at H
        have c4b0 : decide (x9_1 < (l0_6.length : Int)) = true := decide_eq_true c4
        clear c4
        by_cases c5 : 0 ≤ x9_1
        · rw [if_pos c5] at H
          have c5b0 : decide (0 ≤ x9_1) = true := decide_eq_true c5
          clear c5
          by_cases c6 : x9_1 < (l0_6.length : Int)
          · rw [if_pos c6] at H
            have c6b0 : decide (x9_1 < (l0_6.length : Int)) = true := decide_eq_true c6
            clear c6
            replace H := Option.bind_eq_some_iff.mp H
            obtain ⟨t864, A70, H⟩ := H
            replace H : (cell_Depth.l0 k1 (mx x3_1 t864) l0_6 (l0_6.length : Int) (wrap64 (x9_1 + 1))) = some r := H
            have A7 := Aside0.mk A70
            clear A70
            obtain ⟨ji8, hji8⟩ : ∃ j_ : Int, (mx x3_1 t864) = j_ := ⟨_, rfl⟩
            replace H : (cell_Depth.l0 k1 ji8 l0_6 (l0_6.length : Int) (wrap64 (x9_1 + 1))) = some r := by first | (rw [hji8] at H; exact H) | (simp only [hji8] at H ⊢; exact H)
            (try rw [hji8] at A7)
            have hji8_ : (if x3_1 < t864 then t864 else x3_1) = ji8 := hji8
            have H' := Aside0.mk H
            clear H
            have p862 : 0 ≤ (x9_1 : Int) := of_decide_eq_true (by first | (with_reducible assumption) | assumption)
            have q862 : x9_1 < (l0_6.length : Int) := of_decide_eq_true (by first | (with_reducible assumption) | assumption)
            obtain ⟨ad862, A862_6, c862_6, e862, hx862_0, hx862_1, hx862_2, hx862_3, hx862_4, hx862_5, hx862_6, hl862_6, hi862_6⟩ := at_T26 HR0_6.out x9_1 p862 q862
            cases e862
            replace hx862_0 := (HB.out.cell (World.block_lt_of_cell? w _ hx862_0)).trans hx862_0
            replace hx862_1 := (HB.out.cell (World.block_lt_of_cell? w _ hx862_1)).trans hx862_1
            replace hx862_2 := (HB.out.cell (World.block_lt_of_cell? w _ hx862_2)).trans hx862_2
            replace hx862_3 := (HB.out.cell (World.block_lt_of_cell? w _ hx862_3)).trans hx862_3
            replace hx862_4 := (HB.out.cell (World.block_lt_of_cell? w _ hx862_4)).trans hx862_4
            replace hx862_5 := (HB.out.cell (World.block_lt_of_cell? w _ hx862_5)).trans hx862_5
            replace hx862_6 := (HB.out.cell (World.block_lt_of_cell? w _ hx862_6)).trans hx862_6
            have HR862_6 := Aside0.mk hi862_6
            have HC862_6 := Aside0.mk hl862_6
            clear hi862_6 hl862_6
            replace p862 := eq_true p862
            replace q862 := eq_true q862
            go_wp2_with (first | ((with_reducible refine gate_dst (N := 5) rfl ?_); refine box_event ?hg (N := 5) ?hd (cs := #[.int .u8 0, .int .i64 0, .int .i64 0, .int .i64 0, .int .i64 0, .int .i64 0, .slice none 0 0]) (t := 26) ?hr ?_; (case hd => rfl); (case hg => rfl); (case hr => first | (go_simp; done) | (go_simp; rfl)); intro gb863 hg w9 hbox hb; have n0_ := Aside0.mk (blk_below (g := gb861) (o := .cells #[.int .u8 a0_0, .int .i64 a0_1, .int .i64 a0_2, .int .i64 a0_3, .int .i64 a0_4, .int .i64 a0_5, .slice (some ad862) l0_6.length c0_6] 26 (0, 0)) (by (with_reducible repeat (first | refine blk_drewN ?_ _ | refine blk_drew ?_ | refine blk_alloc ?_ _)); exact BK861.out) hb); have n1_ := Aside0.mk (below_step (by repeat (first | (with_reducible first | exact HB.out | apply below_alloc | apply pw_below_drewN | apply below_drew1 | refine below_set ?_ GE861.out) | exact HB.out)) hb); have n2_ := Aside0.mk (hbox); have n3_ := Aside0.mk ((by rw [hg]; exact (below_size (by repeat (first | (with_reducible first | exact HB.out | apply below_alloc | apply pw_below_drewN | apply below_drew1 | refine below_set ?_ GE861.out) | exact HB.out))) : w.heap.size ≤ gb863)); have n4_ := Aside0.mk ((by rw [hg]; exact (below_size (by repeat (first | (with_reducible first | exact HB.out | apply below_alloc | apply pw_below_drewN | apply below_drew1 | refine below_set ?_ GE861.out) | exact HB.out))) : w.heap.size ≤ gb863)); have n5_ := Aside0.mk ((by rw [hg]; exact Nat.ne_of_lt (blk_lt (g := gb861) (o := .cells #[.int .u8 a0_0, .int .i64 a0_1, .int .i64 a0_2, .int .i64 a0_3, .int .i64 a0_4, .int .i64 a0_5, .slice (some ad862) l0_6.length c0_6] 26 (0, 0)) (by (with_reducible repeat (first | refine blk_drewN ?_ _ | refine blk_drew ?_ | refine blk_alloc ?_ _)); exact BK861.out)) : gb861 ≠ gb863)); have n6_ := Aside0.mk ((by rw [hg]; exact Nat.ne_of_gt (blk_lt (g := gb861) (o := .cells #[.int .u8 a0_0, .int .i64 a0_1, .int .i64 a0_2, .int .i64 a0_3, .int .i64 a0_4, .int .i64 a0_5, .slice (some ad862) l0_6.length c0_6] 26 (0, 0)) (by (with_reducible repeat (first | refine blk_drewN ?_ _ | refine blk_drew ?_ | refine blk_alloc ?_ _)); exact BK861.out)) : gb863 ≠ gb861)); clear BK861; clear HB; have BK861 := n0_; have HB := n1_; have BK863 := n2_; have GW863 := n3_; have GE863 := n4_; have NB861_863 := n5_; have NB863_861 := n6_; clear n0_ n1_ n2_ n3_ n4_ n5_ n6_; clear hb hbox hg; have hnb10 := NB863_861.out; have hnc10 := NB861_863.out; have hcz11_0 : w9.cell? ⟨gb863, 0, none⟩ = some (.int .u8 0) := (blk_cell BK863.out 0).trans rfl; have hcz11_1 : w9.cell? ⟨gb863, 1, none⟩ = some (.int .i64 0) := (blk_cell BK863.out 1).trans rfl; have hcz11_2 : w9.cell? ⟨gb863, 2, none⟩ = some (.int .i64 0) := (blk_cell BK863.out 2).trans rfl; have hcz11_3 : w9.cell? ⟨gb863, 3, none⟩ = some (.int .i64 0) := (blk_cell BK863.out 3).trans rfl; have hcz11_4 : w9.cell? ⟨gb863, 4, none⟩ = some (.int .i64 0) := (blk_cell BK863.out 4).trans rfl; have hcz11_5 : w9.cell? ⟨gb863, 5, none⟩ = some (.int .i64 0) := (blk_cell BK863.out 5).trans rfl; have hcz11_6 : w9.cell? ⟨gb863, 6, none⟩ = some (.slice none 0 0) := (blk_cell BK863.out 6).trans rfl; have hfz11_0 := blk_frozen BK863.out 0; have hfz11_1 := blk_frozen BK863.out 1; have hfz11_2 := blk_frozen BK863.out 2; have hfz11_3 := blk_frozen BK863.out 3; have hfz11_4 := blk_frozen BK863.out 4; have hfz11_5 := blk_frozen BK863.out 5; have hfz11_6 := blk_frozen BK863.out 6) | ((with_reducible refine gate_callee (f := 80) rfl ?_); refine goesL_ (some 15) rfl rfl Try.func80 (by kernel_rfl) rfl #[.agg #[.int .u8 ((rd_T26 l0_6 x9_1).f0), .int .i64 ((rd_T26 l0_6 x9_1).f1.f0), .int .i64 ((rd_T26 l0_6 x9_1).f1.f1), .int .i64 ((rd_T26 l0_6 x9_1).f1.f2), .int .i64 ((rd_T26 l0_6 x9_1).f1.f3), .int .i64 ((rd_T26 l0_6 x9_1).f2), .slice A862_6 ((rd_T26 l0_6 x9_1).f3).length c862_6]] rfl (by (try simp only [List.map_toArray, List.map_cons, List.map_nil]); first | done | rfl | (simp only [List.length_drop, List.length_take]; rfl)) ?_; (with_reducible refine (ih k1 (by have := HK1.out; omega) ((rd_T26 l0_6 x9_1).f0) ((rd_T26 l0_6 x9_1).f1.f0) ((rd_T26 l0_6 x9_1).f1.f1) ((rd_T26 l0_6 x9_1).f1.f2) ((rd_T26 l0_6 x9_1).f1.f3) ((rd_T26 l0_6 x9_1).f2) _ _ ((rd_T26 l0_6 x9_1).f3) t864 _ ?side1 ?side2 A7.out).mono ?_); (case side1 => exact Kd.C_below HR862_6.out (by repeat (first | (with_reducible first | exact HB.out | apply below_alloc | apply pw_below_drewN | apply below_drew1 | refine below_set ?_ GE861.out | refine below_set ?_ GE863.out) | exact HB.out))); (case side2 => exact HC862_6.out); rintro e w12 ⟨rfl, hb⟩; refine ⟨_, rfl, ?_⟩; have n0_ := Aside0.mk (blk_below (g := gb861) (o := .cells #[.int .u8 a0_0, .int .i64 a0_1, .int .i64 a0_2, .int .i64 a0_3, .int .i64 a0_4, .int .i64 a0_5, .slice (some ad862) l0_6.length c0_6] 26 (0, 0)) (by (with_reducible repeat (first | refine blk_drewN ?_ _ | refine blk_drew ?_ | refine blk_alloc ?_ _)); refine blk_far ?_ NB861_863.out _; (with_reducible repeat (first | refine blk_drewN ?_ _ | refine blk_drew ?_ | refine blk_alloc ?_ _)); refine blk_far ?_ NB861_863.out _; (with_reducible repeat (first | refine blk_drewN ?_ _ | refine blk_drew ?_ | refine blk_alloc ?_ _)); refine blk_far ?_ NB861_863.out _; (with_reducible repeat (first | refine blk_drewN ?_ _ | refine blk_drew ?_ | refine blk_alloc ?_ _)); refine blk_far ?_ NB861_863.out _; (with_reducible repeat (first | refine blk_drewN ?_ _ | refine blk_drew ?_ | refine blk_alloc ?_ _)); refine blk_far ?_ NB861_863.out _; (with_reducible repeat (first | refine blk_drewN ?_ _ | refine blk_drew ?_ | refine blk_alloc ?_ _)); refine blk_far ?_ NB861_863.out _; (with_reducible repeat (first | refine blk_drewN ?_ _ | refine blk_drew ?_ | refine blk_alloc ?_ _)); refine blk_far ?_ NB861_863.out _; (with_reducible repeat (first | refine blk_drewN ?_ _ | refine blk_drew ?_ | refine blk_alloc ?_ _)); exact BK861.out) hb); have n1_ := Aside0.mk (blk_below (g := gb863) (o := .cells #[.int .u8 ((rd_T26 l0_6 x9_1).f0), .int .i64 ((rd_T26 l0_6 x9_1).f1.f0), .int .i64 ((rd_T26 l0_6 x9_1).f1.f1), .int .i64 ((rd_T26 l0_6 x9_1).f1.f2), .int .i64 ((rd_T26 l0_6 x9_1).f1.f3), .int .i64 ((rd_T26 l0_6 x9_1).f2), .slice A862_6 ((rd_T26 l0_6 x9_1).f3).length c862_6] 26 (0, 0)) (by (with_reducible repeat (first | refine blk_drewN ?_ _ | refine blk_drew ?_ | refine blk_alloc ?_ _)); refine blk_put (cs := #[.int .u8 ((rd_T26 l0_6 x9_1).f0), .int .i64 ((rd_T26 l0_6 x9_1).f1.f0), .int .i64 ((rd_T26 l0_6 x9_1).f1.f1), .int .i64 ((rd_T26 l0_6 x9_1).f1.f2), .int .i64 ((rd_T26 l0_6 x9_1).f1.f3), .int .i64 ((rd_T26 l0_6 x9_1).f2), .slice none 0 0]) ?_ 6 _ rfl; (with_reducible repeat (first | refine blk_drewN ?_ _ | refine blk_drew ?_ | refine blk_alloc ?_ _)); refine blk_put (cs := #[.int .u8 ((rd_T26 l0_6 x9_1).f0), .int .i64 ((rd_T26 l0_6 x9_1).f1.f0), .int .i64 ((rd_T26 l0_6 x9_1).f1.f1), .int .i64 ((rd_T26 l0_6 x9_1).f1.f2), .int .i64 ((rd_T26 l0_6 x9_1).f1.f3), .int .i64 0, .slice none 0 0]) ?_ 5 _ rfl; (with_reducible repeat (first | refine blk_drewN ?_ _ | refine blk_drew ?_ | refine blk_alloc ?_ _)); refine blk_put (cs := #[.int .u8 ((rd_T26 l0_6 x9_1).f0), .int .i64 ((rd_T26 l0_6 x9_1).f1.f0), .int .i64 ((rd_T26 l0_6 x9_1).f1.f1), .int .i64 ((rd_T26 l0_6 x9_1).f1.f2), .int .i64 0, .int .i64 0, .slice none 0 0]) ?_ 4 _ rfl; (with_reducible repeat (first | refine blk_drewN ?_ _ | refine blk_drew ?_ | refine blk_alloc ?_ _)); refine blk_put (cs := #[.int .u8 ((rd_T26 l0_6 x9_1).f0), .int .i64 ((rd_T26 l0_6 x9_1).f1.f0), .int .i64 ((rd_T26 l0_6 x9_1).f1.f1), .int .i64 0, .int .i64 0, .int .i64 0, .slice none 0 0]) ?_ 3 _ rfl; (with_reducible repeat (first | refine blk_drewN ?_ _ | refine blk_drew ?_ | refine blk_alloc ?_ _)); refine blk_put (cs := #[.int .u8 ((rd_T26 l0_6 x9_1).f0), .int .i64 ((rd_T26 l0_6 x9_1).f1.f0), .int .i64 0, .int .i64 0, .int .i64 0, .int .i64 0, .slice none 0 0]) ?_ 2 _ rfl; (with_reducible repeat (first | refine blk_drewN ?_ _ | refine blk_drew ?_ | refine blk_alloc ?_ _)); refine blk_put (cs := #[.int .u8 ((rd_T26 l0_6 x9_1).f0), .int .i64 0, .int .i64 0, .int .i64 0, .int .i64 0, .int .i64 0, .slice none 0 0]) ?_ 1 _ rfl; (with_reducible repeat (first | refine blk_drewN ?_ _ | refine blk_drew ?_ | refine blk_alloc ?_ _)); refine blk_put (cs := #[.int .u8 0, .int .i64 0, .int .i64 0, .int .i64 0, .int .i64 0, .int .i64 0, .slice none 0 0]) ?_ 0 _ rfl; (with_reducible repeat (first | refine blk_drewN ?_ _ | refine blk_drew ?_ | refine blk_alloc ?_ _)); exact BK863.out) hb); have n2_ := Aside0.mk (below_step (by repeat (first | (with_reducible first | exact HB.out | apply below_alloc | apply pw_below_drewN | apply below_drew1 | refine below_set ?_ GE861.out | refine below_set ?_ GE863.out) | exact HB.out)) hb); clear BK861; clear BK863; clear HB; have BK861 := n0_; have BK863 := n1_; have HB := n2_; clear n0_ n1_ n2_; (try clear hb); (try clear hb2); (try clear hk); (try clear hi)))
            go_roundg k1
            case measure => have := HK1.out; omega
            case rel => exact ⟨(ji8), (wrap64 (x9_1 + 1)), (by first | rfl | (simp; done) | (simp only [← hji8] <;> (first | rfl | simp)) | (simp [*]; done)), (by first | rfl | (simp; done) | (simp [*]; done)), H', ⟨by have := HK1.out; omega⟩, ⟨by (with_reducible repeat (first | refine blk_drewN ?_ _ | refine blk_drew ?_ | refine blk_alloc ?_ _)); exact BK861.out⟩, ⟨by repeat (first | (with_reducible first | exact HB.out | apply below_alloc | apply pw_below_drewN | apply below_drew1 | refine below_set ?_ GE861.out | refine below_set ?_ GE863.out) | exact HB.out)⟩⟩
          · rw [if_neg c6] at H
            exact absurd H (by simp)
        · rw [if_neg c5] at H
          exact absurd H (by simp)
      · rw [if_neg c4] at H
        have c4b0 : decide (x9_1 < (l0_6.length : Int)) = false := decide_eq_false c4
        clear c4
        obtain rfl := Option.some.inj H
        go_wp2
        go_ret
        exact ⟨by first | rfl | (simp [errW_none, errW_some] <;> rfl) | (simp [*, errW_none, errW_some] <;> rfl), by repeat (first | (with_reducible first | exact HB.out | apply below_alloc | apply pw_below_drewN | apply below_drew1 | refine below_set ?_ GE861.out) | exact HB.out)⟩

end Go.Proofs.Ytfdmfgaiblfbhaa.P
namespace Go.Proofs.Ytfdmfgaiblfbhaa.P
open Go.RowKit Go.Proofs.YtfdmfgaiblfbhaaW.PrintWords Go.Proofs.YtfdmfgaiblfbhaaW.PrintLast Go.Proofs.YtfdmfgaiblfbhaaW.PrintMore
attribute [local go_sem] max2_int min2_int max_two min_two max_three min_three max_four min_four   -- for this text's walks alone
set_option linter.unusedVariables false
set_option linter.unusedSimpArgs false

/-! ### sashref05_Depth: function 81 -/
mutual
def sashref05_Depth.l0 : Nat → Int → Int → Int → Int → Int → Int → Int → Int → Int → List (S26) → Option (Int)
  | 0, _, _, _, _, _, _, _, _, _, _ => none
  | k + 1, x3, x7, x8, x866000, x866001, x866002, x866003, x866004, x866005, x866006 => if x8 < x7 then (if 0 ≤ x8 then (if x8 < (x866006.length : Int) then ((sashref05_Depth.f k ((rd_T26 x866006 x8).f0) ((rd_T26 x866006 x8).f1.f0) ((rd_T26 x866006 x8).f1.f1) ((rd_T26 x866006 x8).f1.f2) ((rd_T26 x866006 x8).f1.f3) ((rd_T26 x866006 x8).f2) ((rd_T26 x866006 x8).f3)).bind fun t867 => (if t867 > x3 then ((sashref05_Depth.f k ((rd_T26 x866006 x8).f0) ((rd_T26 x866006 x8).f1.f0) ((rd_T26 x866006 x8).f1.f1) ((rd_T26 x866006 x8).f1.f2) ((rd_T26 x866006 x8).f1.f3) ((rd_T26 x866006 x8).f2) ((rd_T26 x866006 x8).f3)).bind fun t869 => (sashref05_Depth.l0 k t869 x7 (wrap64 (x8 + 1)) x866000 x866001 x866002 x866003 x866004 x866005 x866006)) else (sashref05_Depth.l0 k x3 x7 (wrap64 (x8 + 1)) x866000 x866001 x866002 x866003 x866004 x866005 x866006))) else (none)) else (none)) else (some (wrap64 (x3 + 1)))
def sashref05_Depth.f : Nat → Int → Int → Int → Int → Int → Int → List (S26) → Option (Int)
  | 0, _, _, _, _, _, _, _ => none
  | k + 1, a0_0, a0_1, a0_2, a0_3, a0_4, a0_5, l0_6 => sashref05_Depth.l0 k 0 (l0_6.length : Int) 0 a0_0 a0_1 a0_2 a0_3 a0_4 a0_5 l0_6
end
theorem sashref05_Depth.mono_l : ∀ k, (∀ y0 y1 y2 y3 y4 y5 y6, LeO (sashref05_Depth.f k y0 y1 y2 y3 y4 y5 y6) (sashref05_Depth.f (k + 1) y0 y1 y2 y3 y4 y5 y6)) ∧ (∀ y0 y1 y2 y3 y4 y5 y6 y7 y8 y9, LeO (sashref05_Depth.l0 k y0 y1 y2 y3 y4 y5 y6 y7 y8 y9) (sashref05_Depth.l0 (k + 1) y0 y1 y2 y3 y4 y5 y6 y7 y8 y9))
  | 0 => ⟨fun _ _ _ _ _ _ _ r h => by simp [sashref05_Depth.f] at h, fun _ _ _ _ _ _ _ _ _ _ r h => by simp [sashref05_Depth.l0] at h⟩
  | k + 1 => by
    obtain ⟨ih0, ih1⟩ := sashref05_Depth.mono_l k
    refine ⟨?_, ?_⟩
    · intro y0 y1 y2 y3 y4 y5 y6
      unfold sashref05_Depth.f
      repeat' first
      | (with_reducible exact ih0 _ _ _ _ _ _ _)
      | (with_reducible exact ih1 _ _ _ _ _ _ _ _ _ _)
      | (with_reducible exact LeO.refl _)
      | (with_reducible exact LeO.none _)
      | (with_reducible refine LeO.ite ?_ ?_)
      | (with_reducible refine LeO.bind ?_ (fun _ => ?_))
      | exact ih0 _ _ _ _ _ _ _
      | exact ih1 _ _ _ _ _ _ _ _ _ _
      | exact LeO.none _
      | refine LeO.ite ?_ ?_
      | refine LeO.bind ?_ (fun _ => ?_)
    · intro y0 y1 y2 y3 y4 y5 y6 y7 y8 y9
      unfold sashref05_Depth.l0
      repeat' first
      | (with_reducible exact ih0 _ _ _ _ _ _ _)
      | (with_reducible exact ih1 _ _ _ _ _ _ _ _ _ _)
      | (with_reducible exact LeO.refl _)
      | (with_reducible exact LeO.none _)
      | (with_reducible refine LeO.ite ?_ ?_)
      | (with_reducible refine LeO.bind ?_ (fun _ => ?_))
      | exact ih0 _ _ _ _ _ _ _
      | exact ih1 _ _ _ _ _ _ _ _ _ _
      | exact LeO.none _
      | refine LeO.ite ?_ ?_
      | refine LeO.bind ?_ (fun _ => ?_)
theorem sashref05_Depth.mono : ∀ a0 a1 a2 a3 a4 a5 a6 k, LeO (sashref05_Depth.f k a0 a1 a2 a3 a4 a5 a6) (sashref05_Depth.f (k + 1) a0 a1 a2 a3 a4 a5 a6) := by
  intro a0 a1 a2 a3 a4 a5 a6 k
  obtain ⟨ih0, ih1⟩ := sashref05_Depth.mono_l k
  exact ih0 a0 a1 a2 a3 a4 a5 a6
set_option maxHeartbeats 8000000 in
set_option maxRecDepth 100000 in
theorem sashref05_Depth.calls (k : Nat) : ∀ (a0_0 : Int) (a0_1 : Int) (a0_2 : Int) (a0_3 : Int) (a0_4 : Int) (a0_5 : Int) (A0_6 : Option Addr) (c0_6 : Nat) (l0_6 : List (S26)) (r : Int) (w : World) (hr0_6 : Kd.C k26 w A0_6 l0_6.length l0_6) (hc0_6 : l0_6.length ≤ c0_6) (h : sashref05_Depth.f k a0_0 a0_1 a0_2 a0_3 a0_4 a0_5 l0_6 = some r),
    Calls Try.prog 81 #[.agg #[.int .u8 a0_0, .int .i64 a0_1, .int .i64 a0_2, .int .i64 a0_3, .int .i64 a0_4, .int .i64 a0_5, .slice A0_6 l0_6.length c0_6]] w fun e w' => e = .returned (.int .i64 r) ∧ Below w.heap.size w w' := by
  induction k using Nat.strongRecOn with
  | _ k ih =>
  intro a0_0 a0_1 a0_2 a0_3 a0_4 a0_5 A0_6 c0_6 l0_6 r w hr0_6 hc0_6 h
  cases k with
  | zero => exact absurd h (by simp [sashref05_Depth.f])
  | succ k =>
  simp only [sashref05_Depth.f] at h
  have hu26 := Try.underlying26
  have HR0_6 := Aside0.mk hr0_6
  have HC0_6 := Aside0.mk hc0_6
  clear hr0_6 hc0_6
  have HB := Aside0.mk (Below.refl w.heap.size w)
  have H : (sashref05_Depth.l0 k 0 (l0_6.length : Int) 0 a0_0 a0_1 a0_2 a0_3 a0_4 a0_5 l0_6) = some r := h
  clear h
  have H' := Aside0.mk H
  clear H
  go_enter Try.func81, Try.ntmps81
  go_wp2_with (first | ((with_reducible refine gate_dst (N := 1) rfl ?_); refine box_event ?hg (N := 1) ?hd (cs := #[.int .u8 a0_0, .int .i64 a0_1, .int .i64 a0_2, .int .i64 a0_3, .int .i64 a0_4, .int .i64 a0_5, .slice A0_6 l0_6.length c0_6]) (t := 26) ?hr ?_; (case hd => rfl); (case hg => rfl); (case hr => first | (go_simp; done) | (go_simp; rfl)); intro gb865 hg w2 hbox hb; have n0_ := Aside0.mk (below_step (by repeat (first | (with_reducible first | exact HB.out | apply below_alloc | apply pw_below_drewN | apply below_drew1) | exact HB.out)) hb); have n1_ := Aside0.mk (hbox); have n2_ := Aside0.mk ((by rw [hg]; exact (below_size (by repeat (first | (with_reducible first | exact HB.out | apply below_alloc | apply pw_below_drewN | apply below_drew1) | exact HB.out))) : w.heap.size ≤ gb865)); have n3_ := Aside0.mk ((by rw [hg]; exact (below_size (by repeat (first | (with_reducible first | exact HB.out | apply below_alloc | apply pw_below_drewN | apply below_drew1) | exact HB.out))) : w.heap.size ≤ gb865)); clear HB; have HB := n0_; have BK865 := n1_; have GW865 := n2_; have GE865 := n3_; clear n0_ n1_ n2_ n3_; clear hb hbox hg; have hcz3_0 : w2.cell? ⟨gb865, 0, none⟩ = some (.int .u8 a0_0) := (blk_cell BK865.out 0).trans rfl; have hcz3_1 : w2.cell? ⟨gb865, 1, none⟩ = some (.int .i64 a0_1) := (blk_cell BK865.out 1).trans rfl; have hcz3_2 : w2.cell? ⟨gb865, 2, none⟩ = some (.int .i64 a0_2) := (blk_cell BK865.out 2).trans rfl; have hcz3_3 : w2.cell? ⟨gb865, 3, none⟩ = some (.int .i64 a0_3) := (blk_cell BK865.out 3).trans rfl; have hcz3_4 : w2.cell? ⟨gb865, 4, none⟩ = some (.int .i64 a0_4) := (blk_cell BK865.out 4).trans rfl; have hcz3_5 : w2.cell? ⟨gb865, 5, none⟩ = some (.int .i64 a0_5) := (blk_cell BK865.out 5).trans rfl; have hcz3_6 : w2.cell? ⟨gb865, 6, none⟩ = some (.slice A0_6 l0_6.length c0_6) := (blk_cell BK865.out 6).trans rfl; have hfz3_0 := blk_frozen BK865.out 0; have hfz3_1 := blk_frozen BK865.out 1; have hfz3_2 := blk_frozen BK865.out 2; have hfz3_3 := blk_frozen BK865.out 3; have hfz3_4 := blk_frozen BK865.out 4; have hfz3_5 := blk_frozen BK865.out 5; have hfz3_6 := blk_frozen BK865.out 6))
  go_loopg [3, 8] k (fun kq v3 v8 w' => ∃ (x3_1 : Int) (x8_1 : Int), v3 = .int .i64 x3_1 ∧ v8 = .int .i64 x8_1 ∧ Aside0 (sashref05_Depth.l0 kq x3_1 (l0_6.length : Int) x8_1 a0_0 a0_1 a0_2 a0_3 a0_4 a0_5 l0_6 = some r) ∧ Aside0 (kq ≤ k) ∧ Aside0 (w'.heap[gb865]? = some (.cells #[.int .u8 a0_0, .int .i64 a0_1, .int .i64 a0_2, .int .i64 a0_3, .int .i64 a0_4, .int .i64 a0_5, (.slice A0_6 l0_6.length c0_6)] 26 (0, 0))) ∧ Aside0 (Below w.heap.size w w'))
  case atStart => exact ⟨(0), (0), (by first | rfl | (simp; done) | (simp [*]; done)), (by first | rfl | (simp; done) | (simp [*]; done)), H', ⟨Nat.le_refl _⟩, ⟨by (with_reducible repeat (first | refine blk_drewN ?_ _ | refine blk_drew ?_ | refine blk_alloc ?_ _)); exact BK865.out⟩, ⟨by repeat (first | (with_reducible first | exact HB.out | apply below_alloc | apply pw_below_drewN | apply below_drew1 | refine below_set ?_ GE865.out) | exact HB.out)⟩⟩
  case round =>
    clear H'
    try clear p2
    try clear hcz3_0
    try clear hcz3_1
    try clear hcz3_2
    try clear hcz3_3
    try clear hcz3_4
    try clear hcz3_5
    try clear hcz3_6
    try clear hfz3_0
    try clear hfz3_1
    try clear hfz3_2
    try clear hfz3_3
    try clear hfz3_4
    try clear hfz3_5
    try clear hfz3_6
    obtain ⟨x3_1, x8_1, rfl, rfl, HA, HK1, BK865, HB⟩ := hrel
    cases gk with
    | zero => exact absurd HA.out (by simp [sashref05_Depth.l0])
    | succ k1 =>
      have H := HA.out
      clear HA
      simp only [sashref05_Depth.l0] at H
      by_cases c4 : x8_1 < (l0_6.length : Int)
      · rw [if_pos c4] at H
        have c4b0 : decide (x8_1 < (l0_6.length : Int)) = true := decide_eq_true c4
        clear c4
        by_cases c5 : 0 ≤ x8_1
        · rw [if_pos c5] at H
          have c5b0 : decide (0 ≤ x8_1) = true := decide_eq_true c5
          clear c5
          by_cases c6 : x8_1 < (l0_6.length : Int)
          · rw [if_pos c6] at H
            have c6b0 : decide (x8_1 < (l0_6.length : Int)) = true := decide_eq_true c6
            clear c6
            replace H := Option.bind_eq_some_iff.mp H
            obtain ⟨t867, A70, H⟩ := H
            replace H : (if t867 > x3_1 then ((sashref05_Depth.f k1 ((rd_T26 l0_6 x8_1).f0) ((rd_T26 l0_6 x8_1).f1.f0) ((rd_T26 l0_6 x8_1).f1.f1) ((rd_T26 l0_6 x8_1).f1.f2) ((rd_T26 l0_6 x8_1).f1.f3) ((rd_T26 l0_6 x8_1).f2) ((rd_T26 l0_6 x8_1).f3)).bind fun t869 => (sashref05_Depth.l0 k1 t869 (l0_6.length : Int) (wrap64 (x8_1 + 1)) a0_0 a0_1 a0_2 a0_3 a0_4 a0_5 l0_6)) else (sashref05_Depth.l0 k1 x3_1 (l0_6.length : Int) (wrap64 (x8_1 + 1)) a0_0 a0_1 a0_2 a0_3 a0_4 a0_5 l0_6)) = some r := H
            have A7 := Aside0.mk A70
            clear A70
            by_cases c8 : t867 > x3_1
            · rw [if_pos c8] at H
              have c8b0 : decide (x3_1 < t867) = true := decide_eq_true c8
              clear c8
              replace H := Option.bind_eq_some_iff.mp H
              obtain ⟨t869, A90, H⟩ := H
              replace H : (sashref05_Depth.l0 k1 t869 (l0_6.length : Int) (wrap64 (x8_1 + 1)) a0_0 a0_1 a0_2 a0_3 a0_4 a0_5 l0_6) = some r := H
              have A9 := Aside0.mk A90
              clear A90
              have H' := Aside0.mk H
              clear H
              have hcz10_0 : wr.cell? ⟨gb865, 0, none⟩ = some (.int .u8 a0_0) := (blk_cell BK865.out 0).trans rfl
              have hcz10_1 : wr.cell? ⟨gb865, 1, none⟩ = some (.int .i64 a0_1) := (blk_cell BK865.out 1).trans rfl
              have hcz10_2 : wr.cell? ⟨gb865, 2, none⟩ = some (.int .i64 a0_2) := (blk_cell BK865.out 2).trans rfl
              have hcz10_3 : wr.cell? ⟨gb865, 3, none⟩ = some (.int .i64 a0_3) := (blk_cell BK865.out 3).trans rfl
              have hcz10_4 : wr.cell? ⟨gb865, 4, none⟩ = some (.int .i64 a0_4) := (blk_cell BK865.out 4).trans rfl
              have hcz10_5 : wr.cell? ⟨gb865, 5, none⟩ = some (.int .i64 a0_5) := (blk_cell BK865.out 5).trans rfl
              have hcz10_6 : wr.cell? ⟨gb865, 6, none⟩ = some (.slice A0_6 l0_6.length c0_6) := (blk_cell BK865.out 6).trans rfl
              have hfz10_0 := blk_frozen BK865.out 0
              have hfz10_1 := blk_frozen BK865.out 1
              have hfz10_2 := blk_frozen BK865.out 2
              have hfz10_3 := blk_frozen BK865.out 3
              have hfz10_4 := blk_frozen BK865.out 4
              have hfz10_5 := blk_frozen BK865.out 5
              have hfz10_6 := blk_frozen BK865.out 6
              have p866 : 0 ≤ (x8_1 : Int) := of_decide_eq_true (by first | (with_reducible assumption) | assumption)
              have q866 : x8_1 < (l0_6.length : Int) := of_decide_eq_true (by first | (with_reducible assumption) | assumption)
              obtain ⟨ad866, A866_6, c866_6, e866, hx866_0, hx866_1, hx866_2, hx866_3, hx866_4, hx866_5, hx866_6, hl866_6, hi866_6⟩ := at_T26 HR0_6.out x8_1 p866 q866
              cases e866
              replace hx866_0 := (HB.out.cell (World.block_lt_of_cell? w _ hx866_0)).trans hx866_0
              replace hx866_1 := (HB.out.cell (World.block_lt_of_cell? w _ hx866_1)).trans hx866_1
              replace hx866_2 := (HB.out.cell (World.block_lt_of_cell? w _ hx866_2)).trans hx866_2
              replace hx866_3 := (HB.out.cell (World.block_lt_of_cell? w _ hx866_3)).trans hx866_3
              replace hx866_4 := (HB.out.cell (World.block_lt_of_cell? w _ hx866_4)).trans hx866_4
              replace hx866_5 := (HB.out.cell (World.block_lt_of_cell? w _ hx866_5)).trans hx866_5
              replace hx866_6 := (HB.out.cell (World.block_lt_of_cell? w _ hx866_6)).trans hx866_6
              have HR866_6 := Aside0.mk hi866_6
              have HC866_6 := Aside0.mk hl866_6
              clear hi866_6 hl866_6
              replace p866 := eq_true p866
              replace q866 := eq_true q866
              go_wp2_with (first | ((with_reducible refine gate_callee (f := 81) rfl ?_); refine goesL_ (some 16) rfl rfl Try.func81 (by kernel_rfl) rfl #[.agg #[.int .u8 ((rd_T26 l0_6 x8_1).f0), .int .i64 ((rd_T26 l0_6 x8_1).f1.f0), .int .i64 ((rd_T26 l0_6 x8_1).f1.f1), .int .i64 ((rd_T26 l0_6 x8_1).f1.f2), .int .i64 ((rd_T26 l0_6 x8_1).f1.f3), .int .i64 ((rd_T26 l0_6 x8_1).f2), .slice A866_6 ((rd_T26 l0_6 x8_1).f3).length c866_6]] rfl (by (try simp only [List.map_toArray, List.map_cons, List.map_nil]); first | done | rfl | (simp only [List.length_drop, List.length_take]; rfl)) ?_; (with_reducible refine (ih k1 (by have := HK1.out; omega) ((rd_T26 l0_6 x8_1).f0) ((rd_T26 l0_6 x8_1).f1.f0) ((rd_T26 l0_6 x8_1).f1.f1) ((rd_T26 l0_6 x8_1).f1.f2) ((rd_T26 l0_6 x8_1).f1.f3) ((rd_T26 l0_6 x8_1).f2) _ _ ((rd_T26 l0_6 x8_1).f3) t867 _ ?side1 ?side2 A7.out).mono ?_); (case side1 => repeat (first | exact (Kd.C_below HR866_6.out HB.out) | (with_reducible refine Kd.C_alloc ?_ _) | (with_reducible refine Kd.C_drewN ?_ _) | (with_reducible refine Kd.C_drew ?_))); (case side2 => exact HC866_6.out); rintro e w11 ⟨rfl, hb⟩; refine ⟨_, rfl, ?_⟩; have n0_ := Aside0.mk (blk_below (g := gb865) (o := .cells #[.int .u8 a0_0, .int .i64 a0_1, .int .i64 a0_2, .int .i64 a0_3, .int .i64 a0_4, .int .i64 a0_5, .slice (some ad866) l0_6.length c0_6] 26 (0, 0)) (by (with_reducible repeat (first | refine blk_drewN ?_ _ | refine blk_drew ?_ | refine blk_alloc ?_ _)); exact BK865.out) hb); have n1_ := Aside0.mk (below_step (by repeat (first | (with_reducible first | exact HB.out | apply below_alloc | apply pw_below_drewN | apply below_drew1 | refine below_set ?_ GE865.out) | exact HB.out)) hb); clear BK865; clear HB; have BK865 := n0_; have HB := n1_; clear n0_ n1_; (try clear hb); (try clear hb2); (try clear hk); (try clear hi); have hcz12_0 : w11.cell? ⟨gb865, 0, none⟩ = some (.int .u8 a0_0) := (blk_cell BK865.out 0).trans rfl; have hcz12_1 : w11.cell? ⟨gb865, 1, none⟩ = some (.int .i64 a0_1) := (blk_cell BK865.out 1).trans rfl; have hcz12_2 : w11.cell? ⟨gb865, 2, none⟩ = some (.int .i64 a0_2) := (blk_cell BK865.out 2).trans rfl; have hcz12_3 : w11.cell? ⟨gb865, 3, none⟩ = some (.int .i64 a0_3) := (blk_cell BK865.out 3).trans rfl; have hcz12_4 : w11.cell? ⟨gb865, 4, none⟩ = some (.int .i64 a0_4) := (blk_cell BK865.out 4).trans rfl; have hcz12_5 : w11.cell? ⟨gb865, 5, none⟩ = some (.int .i64 a0_5) := (blk_cell BK865.out 5).trans rfl; have hcz12_6 : w11.cell? ⟨gb865, 6, none⟩ = some (.slice (some ad866) l0_6.length c0_6) := (blk_cell BK865.out 6).trans rfl; have hfz12_0 := blk_frozen BK865.out 0; have hfz12_1 := blk_frozen BK865.out 1; have hfz12_2 := blk_frozen BK865.out 2; have hfz12_3 := blk_frozen BK865.out 3; have hfz12_4 := blk_frozen BK865.out 4; have hfz12_5 := blk_frozen BK865.out 5; have hfz12_6 := blk_frozen BK865.out 6; have p868 : 0 ≤ (x8_1 : Int) := of_decide_eq_true (by first | (with_reducible assumption) | assumption); have q868 : x8_1 < (l0_6.length : Int) := of_decide_eq_true (by first | (with_reducible assumption) | assumption); obtain ⟨ad868, A868_6, c868_6, e868, hx868_0, hx868_1, hx868_2, hx868_3, hx868_4, hx868_5, hx868_6, hl868_6, hi868_6⟩ := at_T26 HR0_6.out x8_1 p868 q868; obtain rfl : ad866 = ad868 := (by injection e868); replace hx868_0 := (HB.out.cell (World.block_lt_of_cell? w _ hx868_0)).trans hx868_0; replace hx868_1 := (HB.out.cell (World.block_lt_of_cell? w _ hx868_1)).trans hx868_1; replace hx868_2 := (HB.out.cell (World.block_lt_of_cell? w _ hx868_2)).trans hx868_2; replace hx868_3 := (HB.out.cell (World.block_lt_of_cell? w _ hx868_3)).trans hx868_3; replace hx868_4 := (HB.out.cell (World.block_lt_of_cell? w _ hx868_4)).trans hx868_4; replace hx868_5 := (HB.out.cell (World.block_lt_of_cell? w _ hx868_5)).trans hx868_5; replace hx868_6 := (HB.out.cell (World.block_lt_of_cell? w _ hx868_6)).trans hx868_6; have HR868_6 := Aside0.mk hi868_6; have HC868_6 := Aside0.mk hl868_6; clear hi868_6 hl868_6; replace p868 := eq_true p868; replace q868 := eq_true q868) | ((with_reducible refine gate_callee (f := 81) rfl ?_); refine goesL_ (some 24) rfl rfl Try.func81 (by kernel_rfl) rfl #[.agg #[.int .u8 ((rd_T26 l0_6 x8_1).f0), .int .i64 ((rd_T26 l0_6 x8_1).f1.f0), .int .i64 ((rd_T26 l0_6 x8_1).f1.f1), .int .i64 ((rd_T26 l0_6 x8_1).f1.f2), .int .i64 ((rd_T26 l0_6 x8_1).f1.f3), .int .i64 ((rd_T26 l0_6 x8_1).f2), .slice A868_6 ((rd_T26 l0_6 x8_1).f3).length c868_6]] rfl (by (try simp only [List.map_toArray, List.map_cons, List.map_nil]); first | done | rfl | (simp only [List.length_drop, List.length_take]; rfl)) ?_; (with_reducible refine (ih k1 (by have := HK1.out; omega) ((rd_T26 l0_6 x8_1).f0) ((rd_T26 l0_6 x8_1).f1.f0) ((rd_T26 l0_6 x8_1).f1.f1) ((rd_T26 l0_6 x8_1).f1.f2) ((rd_T26 l0_6 x8_1).f1.f3) ((rd_T26 l0_6 x8_1).f2) _ _ ((rd_T26 l0_6 x8_1).f3) t869 _ ?side1 ?side2 A9.out).mono ?_); (case side1 => repeat (first | exact (Kd.C_below HR868_6.out HB.out) | (with_reducible refine Kd.C_alloc ?_ _) | (with_reducible refine Kd.C_drewN ?_ _) | (with_reducible refine Kd.C_drew ?_))); (case side2 => exact HC868_6.out); rintro e w13 ⟨rfl, hb⟩; refine ⟨_, rfl, ?_⟩; have n0_ := Aside0.mk (blk_below (g := gb865) (o := .cells #[.int .u8 a0_0, .int .i64 a0_1, .int .i64 a0_2, .int .i64 a0_3, .int .i64 a0_4, .int .i64 a0_5, .slice (some ad866) l0_6.length c0_6] 26 (0, 0)) (by (with_reducible repeat (first | refine blk_drewN ?_ _ | refine blk_drew ?_ | refine blk_alloc ?_ _)); exact BK865.out) hb); have n1_ := Aside0.mk (below_step (by repeat (first | (with_reducible first | exact HB.out | apply below_alloc | apply pw_below_drewN | apply below_drew1 | refine below_set ?_ GE865.out) | exact HB.out)) hb); clear BK865; clear HB; have BK865 := n0_; have HB := n1_; clear n0_ n1_; (try clear hb); (try clear hb2); (try clear hk); (try clear hi)))
              go_roundg k1
              case measure => have := HK1.out; omega
              case rel => exact ⟨(t869), (wrap64 (x8_1 + 1)), (by first | rfl | (simp; done) | (simp [*]; done)), (by first | rfl | (simp; done) | (simp [*]; done)), H', ⟨by have := HK1.out; omega⟩, ⟨by (with_reducible repeat (first | refine blk_drewN ?_ _ | refine blk_drew ?_ | refine blk_alloc ?_ _)); exact BK865.out⟩, ⟨by repeat (first | (with_reducible first | exact HB.out | apply below_alloc | apply pw_below_drewN | apply below_drew1 | refine below_set ?_ GE865.out) | exact HB.out)⟩⟩
            · rw [if_neg c8] at H
              have c8b0 : decide (x3_1 < t867) = false := decide_eq_false c8
              clear c8
              have H' := Aside0.mk H
              clear H
              have hcz14_0 : wr.cell? ⟨gb865, 0, none⟩ = some (.int .u8 a0_0) := (blk_cell BK865.out 0).trans rfl
              have hcz14_1 : wr.cell? ⟨gb865, 1, none⟩ = some (.int .i64 a0_1) := (blk_cell BK865.out 1).trans rfl
              have hcz14_2 : wr.cell? ⟨gb865, 2, none⟩ = some (.int .i64 a0_2) := (blk_cell BK865.out 2).trans rfl
              have hcz14_3 : wr.cell? ⟨gb865, 3, none⟩ = some (.int .i64 a0_3) := (blk_cell BK865.out 3).trans rfl
              have hcz14_4 : wr.cell? ⟨gb865, 4, none⟩ = some (.int .i64 a0_4) := (blk_cell BK865.out 4).trans rfl
              have hcz14_5 : wr.cell? ⟨gb865, 5, none⟩ = some (.int .i64 a0_5) := (blk_cell BK865.out 5).trans rfl
              have hcz14_6 : wr.cell? ⟨gb865, 6, none⟩ = some (.slice A0_6 l0_6.length c0_6) := (blk_cell BK865.out 6).trans rfl
              have hfz14_0 := blk_frozen BK865.out 0
              have hfz14_1 := blk_frozen BK865.out 1
              have hfz14_2 := blk_frozen BK865.out 2
              have hfz14_3 := blk_frozen BK865.out 3
              have hfz14_4 := blk_frozen BK865.out 4
              have hfz14_5 := blk_frozen BK865.out 5
              have hfz14_6 := blk_frozen BK865.out 6
              have p866 : 0 ≤ (x8_1 : Int) := of_decide_eq_true (by first | (with_reducible assumption) | assumption)
              have q866 : x8_1 < (l0_6.length : Int) := of_decide_eq_true (by first | (with_reducible assumption) | assumption)
              obtain ⟨ad866, A866_6, c866_6, e866, hx866_0, hx866_1, hx866_2, hx866_3, hx866_4, hx866_5, hx866_6, hl866_6, hi866_6⟩ := at_T26 HR0_6.out x8_1 p866 q866
              cases e866
              replace hx866_0 := (HB.out.cell (World.block_lt_of_cell? w _ hx866_0)).trans hx866_0
              replace hx866_1 := (HB.out.cell (World.block_lt_of_cell? w _ hx866_1)).trans hx866_1
              replace hx866_2 := (HB.out.cell (World.block_lt_of_cell? w _ hx866_2)).trans hx866_2
              replace hx866_3 := (HB.out.cell (World.block_lt_of_cell? w _ hx866_3)).trans hx866_3
              replace hx866_4 := (HB.out.cell (World.block_lt_of_cell? w _ hx866_4)).trans hx866_4
              replace hx866_5 := (HB.out.cell (World.block_lt_of_cell? w _ hx866_5)).trans hx866_5
              replace hx866_6 := (HB.out.cell (World.block_lt_of_cell? w _ hx866_6)).trans hx866_6
              have HR866_6 := Aside0.mk hi866_6
              have HC866_6 := Aside0.mk hl866_6
              clear hi866_6 hl866_6
              replace p866 := eq_true p866
              replace q866 := eq_true q866
              go_wp2_with (first | ((with_reducible refine gate_callee (f := 81) rfl ?_); refine goesL_ (some 16) rfl rfl Try.func81 (by kernel_rfl) rfl #[.agg #[.int .u8 ((rd_T26 l0_6 x8_1).f0), .int .i64 ((rd_T26 l0_6 x8_1).f1.f0), .int .i64 ((rd_T26 l0_6 x8_1).f1.f1), .int .i64 ((rd_T26 l0_6 x8_1).f1.f2), .int .i64 ((rd_T26 l0_6 x8_1).f1.f3), .int .i64 ((rd_T26 l0_6 x8_1).f2), .slice A866_6 ((rd_T26 l0_6 x8_1).f3).length c866_6]] rfl (by (try simp only [List.map_toArray, List.map_cons, List.map_nil]); first | done | rfl | (simp only [List.length_drop, List.length_take]; rfl)) ?_; (with_reducible refine (ih k1 (by have := HK1.out; omega) ((rd_T26 l0_6 x8_1).f0) ((rd_T26 l0_6 x8_1).f1.f0) ((rd_T26 l0_6 x8_1).f1.f1) ((rd_T26 l0_6 x8_1).f1.f2) ((rd_T26 l0_6 x8_1).f1.f3) ((rd_T26 l0_6 x8_1).f2) _ _ ((rd_T26 l0_6 x8_1).f3) t867 _ ?side1 ?side2 A7.out).mono ?_); (case side1 => repeat (first | exact (Kd.C_below HR866_6.out HB.out) | (with_reducible refine Kd.C_alloc ?_ _) | (with_reducible refine Kd.C_drewN ?_ _) | (with_reducible refine Kd.C_drew ?_))); (case side2 => exact HC866_6.out); rintro e w15 ⟨rfl, hb⟩; refine ⟨_, rfl, ?_⟩; have n0_ := Aside0.mk (blk_below (g := gb865) (o := .cells #[.int .u8 a0_0, .int .i64 a0_1, .int .i64 a0_2, .int .i64 a0_3, .int .i64 a0_4, .int .i64 a0_5, .slice (some ad866) l0_6.length c0_6] 26 (0, 0)) (by (with_reducible repeat (first | refine blk_drewN ?_ _ | refine blk_drew ?_ | refine blk_alloc ?_ _)); exact BK865.out) hb); have n1_ := Aside0.mk (below_step (by repeat (first | (with_reducible first | exact HB.out | apply below_alloc | apply pw_below_drewN | apply below_drew1 | refine below_set ?_ GE865.out) | exact HB.out)) hb); clear BK865; clear HB; have BK865 := n0_; have HB := n1_; clear n0_ n1_; (try clear hb); (try clear hb2); (try clear hk); (try clear hi)))
              go_roundg k1
              case measure => have := HK1.out; omega
              case rel => exact ⟨(x3_1), (wrap64 (x8_1 + 1)), (by first | rfl | (simp; done) | (simp [*]; done)), (by first | rfl | (simp; done) | (simp [*]; done)), H', ⟨by have := HK1.out; omega⟩, ⟨by (with_reducible repeat (first | refine blk_drewN ?_ _ | refine blk_drew ?_ | refine blk_alloc ?_ _)); exact BK865.out⟩, ⟨by repeat (first | (with_reducible first | exact HB.out | apply below_alloc | apply pw_below_drewN | apply below_drew1 | refine below_set ?_ GE865.out) | exact HB.out)⟩⟩
          · rw [if_neg c6] at H
            exact absurd H (by simp)
        · rw [if_neg c5] at H
          exact absurd H (by simp)
      · rw [if_neg c4] at H
        have c4b0 : decide (x8_1 < (l0_6.length : Int)) = false := decide_eq_false c4
        clear c4
        obtain rfl := Option.some.inj H
        go_wp2
        go_ret
        exact ⟨by first | rfl | (simp [errW_none, errW_some] <;> rfl) | (simp [*, errW_none, errW_some] <;> rfl), by repeat (first | (with_reducible first | exact HB.out | apply below_alloc | apply pw_below_drewN | apply below_drew1 | refine below_set ?_ GE865.out) | exact HB.out)⟩

end Go.Proofs.Ytfdmfgaiblfbhaa.P
/- The layout of slices.Insert at []int in this program, for the library's contract. -/
namespace Go.Proofs.Ytfdmfgaiblfbhaa.P
open Go.Shelf
def ren21 : Ren := ⟨fun f => match f with | 21 => 150 | 27 => 181 | 28 => 182 | 35 => 198 | 39 => 208 | n => n, fun t => match t with | 22 => 41 | n => n, fun g => g⟩
theorem lay21 : Lays2.n21 Try.prog ren21 where
  mixed := by kernel_rfl
  f21 := Try.func150
  f27 := Try.func181
  f28 := Try.func182
  f35 := Try.func198
  f39 := Try.func208
  t0 := Try.underlying0
  a0 := fun w => by kernel_rfl
  z0 := fun w => by kernel_rfl
  v0 := fun w => by kernel_rfl
  t3 := Try.underlying3
  a3 := fun w => by kernel_rfl
  z3 := fun w => by kernel_rfl
  v3 := fun w => by kernel_rfl
  t4 := Try.underlying4
  a4 := fun w => by kernel_rfl
  z4 := fun w => by kernel_rfl
  v4 := fun w => by kernel_rfl
  t22 := Try.underlying41
  a22 := fun w => by kernel_rfl
  z22 := fun w => by kernel_rfl
  v22 := fun w => by kernel_rfl
  i3 := by kernel_rfl
end Go.Proofs.Ytfdmfgaiblfbhaa.P
/- A store into a block of one's own, as an event: the world behind it is a letter. -/
namespace Go.Proofs.Ytfdmfgaiblfbhaa.P
open Go.RowKit Go.Proofs.YtfdmfgaiblfbhaaW.PrintWords Go.Proofs.YtfdmfgaiblfbhaaW.PrintLast Go.Proofs.YtfdmfgaiblfbhaaW.PrintMore
section
variable {P : Program} {ops : Array Oper} {rest : List Oper} {o : Oper} {a : Act} {Q : Exit → Act → World → Prop}
theorem grown_below {w0 W w1 : World} {g base : Nat} (HB : Below base w0 W) (hg : W.grownBy w1 (some g)) (hbg : base ≤ g) (hs : base ≤ W.heap.size) : Below base w0 w1 := HB.trans ⟨hg.os, hg.tape, hg.output, hg.size, fun k hk => hg.block k (by omega) (fun he => by injection he with he; omega)⟩
/-- What a store into block g leaves. -/
theorem box_cells {W : World} {g j : Nat} {cs cs' : Array Value} {t0 : TypeId} {seg : List Value} (hb : W.heap[g]? = some (.cells cs t0 (0, 0))) (hj : j + seg.length ≤ cs.size) (he : cs.toList.take j ++ seg ++ cs.toList.drop (j + seg.length) = cs'.toList) :
    (W.setCells g j seg).heap[g]? = some (.cells cs' t0 (0, 0)) ∧ W.grownBy (W.setCells g j seg) (some g) := by
  obtain ⟨cur', h3, h4, h5⟩ := setCells_row seg j W cs hb hj
  obtain ⟨s1, s2, s3, s4⟩ := setCells_same g seg j W
  have hc : cur' = cs' := Array.toList_inj.1 (h5.trans he)
  subst hc
  exact ⟨h3, ⟨s1, s2, s3, by rw [s4]; exact Nat.le_refl _, fun k _ hk => setCells_far seg _ k (fun e => hk (by rw [e]))⟩⟩
theorem box_store {W w0 : World} (hN : o.dst = none) (hgd : o.guard = none) (t : TypeId) (p x : Operand) (ho : o.op = .store t p x) {g j base : Nat} {cs : Array Value} (cs' : Array Value) {t0 : TypeId} {u : Value} {seg : List Value}
    (haddr : a.eval p = .pointer (some ⟨g, j, none⟩)) (hx : a.eval x = u) (hu : u.cells.toList = seg) (ht : (P.info? t).map (·.size) = some seg.length) (h1 : ∀ q ∈ seg, q.oneCell' = true)
    (hb : W.heap[g]? = some (.cells cs t0 (0, 0))) (hj : j + seg.length ≤ cs.size) (he : cs.toList.take j ++ seg ++ cs.toList.drop (j + seg.length) = cs'.toList) (HB : Below base w0 W) (hbs : base ≤ W.heap.size) (hbg : base ≤ g)
    (h : ∀ w1, w1.heap[g]? = some (.cells cs' t0 (0, 0)) → Below base w0 w1 → W.grownBy w1 (some g) → wpList P ops Q rest a w1) : wpList P ops Q (o :: rest) a W := by
  obtain ⟨h2, h3⟩ := box_cells hb hj he
  refine wpList_plain hgd fun K hK => ?_
  have hrun := run_store_run (P := P) t u seg hb hu ht hj h1
  unfold Oper.wp execOp
  simp only [ho, haddr, hx, Sem.run_bind, Sem.run_pure, Result.andThen_ok, hrun]
  show K (a.put o.dst undef) _
  rw [hN]
  exact hK a _ (h _ h2 (grown_below HB h3 hbg hbs) h3)
theorem store_exec {W : World} (t : TypeId) (p x : Operand) (ho : o.op = .store t p x) {g j : Nat} {cs : Array Value} {t0 : TypeId} {u : Value} {seg : List Value}
    (haddr : a.eval p = .pointer (some ⟨g, j, none⟩)) (hx : a.eval x = u) (hu : u.cells.toList = seg) (ht : (P.info? t).map (·.size) = some seg.length) (h1 : ∀ q ∈ seg, q.oneCell' = true)
    (hb : W.heap[g]? = some (.cells cs t0 (0, 0))) (hj : j + seg.length ≤ cs.size) : (execOp a.eval o).run P W = .ok .skip (W.setCells g j seg) := by
  have hrun := run_store_run (P := P) t u seg hb hu ht hj h1
  unfold execOp
  simp only [ho, haddr, hx, Sem.run_bind, Sem.run_pure, Result.andThen_ok, hrun]
end
end Go.Proofs.Ytfdmfgaiblfbhaa.P
/- The contract of slices.Insert at []int, of one number ahead of a row of the call's own, by the library's own contract. Condition: at most 1000000 numbers. -/
namespace Go.Proofs.Ytfdmfgaiblfbhaa.P
open Go.RowKit Go.Shelf Go.Proofs.YtfdmfgaiblfbhaaW.PrintWords Go.Proofs.YtfdmfgaiblfbhaaW.PrintLast Go.Proofs.YtfdmfgaiblfbhaaW.PrintMore

theorem zc_size (n : Nat) : (Builtin.zeroCells (Value.int .i64 0).cells n).size = n := by simp [Builtin.zeroCells, Value.cells]
theorem drew_below {w w1 : World} {B : Nat} (h : Below B w.drew w1) : Below B w w1 := ⟨h.os, h.tape.trans rfl, h.output, h.size, h.block⟩
set_option maxHeartbeats 1000000 in
theorem ins150 (w : World) (base : Nat) (hbase : base ≤ w.heap.size) (v : Value) (xs : List Int) (x : Int) (vb vc : Nat) (hs : w.ownsRow base 3 1 v xs.length (encs (Value.int .i64) xs)) (hv : w.heap[vb]? = some (.cells #[.int .i64 x] 3 (0, 0))) (hne : v.ownBlock ≠ some vb) (hlen : xs.length ≤ 1000000) :
    Calls Try.prog 150 #[v, .int .i64 0, .slice (some ⟨vb, 0, none⟩) 1 vc] w fun e w' => ∃ v', e = .returned v' ∧ w'.ownsRow base 3 1 v' (x :: xs).length (encs (Value.int .i64) (x :: xs)) ∧ Below base w w' := by
  have hvs : ∀ j u, [Value.int .i64 x][j]? = some u → w.cell? ⟨vb, 0 + j, none⟩ = some u := by
    intro j u hj
    cases j with
    | zero => rw [blk_cell hv 0]; exact hj
    | succ j => simp at hj
  have h1v : ∀ u ∈ [Value.int .i64 x], u.oneCell' = true := by simp [Value.oneCell']
  have h1c : ∀ u ∈ encs (Value.int .i64) xs, u.oneCell' = true := by
    intro u hu
    obtain ⟨i, _, rfl⟩ := List.mem_map.1 hu
    rfl
  obtain ⟨hl, hcase⟩ := hs
  rcases hcase with ⟨rfl, h0⟩ | ⟨g, cap, cur, rfl, hbg, hh, hnc, hcm, hcs, htk⟩
  · obtain rfl : xs = [] := List.eq_nil_of_length_eq_zero h0
    refine (Any2.slices_Insert_int_end_grow lay21 none 0 0 vb 0 1 vc [] [.int .i64 x] w (by omega) (by omega) (by omega) (by omega) rfl rfl (fun _ => rfl) (fun a h => by cases h) hvs h1v).mono ?_
    rintro e w' ⟨rfl, rfl⟩
    have hg := grownCap_ge w (0 + 1) 0 3
    have hg2 := grownCap_le_maxLen w (0 + 1) 0 3 (by unfold maxLen; omega)
    refine ⟨_, rfl, ⟨rfl, .inr ⟨w.heap.size, _, _, rfl, hbase, heap_alloc_new w.drew _, hg, hg2, ?_, ?_⟩⟩, drew_below ((Below.refl base w.drew).alloc hbase _)⟩
    · rw [Array.size_append, zc_size]
      show 1 + (grownCap w (0 + 1) 0 3 - (0 + 1)) = grownCap w (0 + 1) 0 3 * 1
      omega
    · simp [encs]
  · have hcl : (encs (Value.int .i64) xs).length = xs.length := encs_length xs
    have hlt := blk_lt hh
    have hgv : vb ≠ g := fun e => hne (by rw [e]; rfl)
    have hcells : ∀ j u, (encs (Value.int .i64) xs)[j]? = some u → w.cell? ⟨g, 0 + j, none⟩ = some u := by
      intro j u hj
      rw [blk_cell hh, Nat.zero_add, ← Array.getElem?_toList]
      rw [← htk, Nat.mul_one, List.getElem?_take] at hj
      split at hj
      · exact hj
      · cases hj
    have hsp : ∀ j, j < cap → (w.cell? ⟨g, 0 + j, none⟩).isSome = true := by
      intro j hj
      rw [blk_cell hh, Nat.zero_add, Array.getElem?_eq_getElem (by omega)]
      rfl
    have hfz : ∀ j, w.frozen? ⟨g, 0 + j, none⟩ = false := fun j => blk_frozen hh _
    by_cases h0 : xs.length = 0
    · obtain rfl : xs = [] := List.eq_nil_of_length_eq_zero h0
      by_cases hr : 0 + 1 ≤ cap
      · refine (Any2.slices_Insert_int_end_room lay21 g 0 0 cap vb 0 1 vc [.int .i64 x] w (by omega) hr (by unfold maxLen at hcm; omega) rfl (fun j hj => by rw [Nat.add_assoc]; exact hsp (0 + j) (by omega)) (fun j _ => by rw [Nat.add_assoc]; exact hfz (0 + j)) hvs h1v).mono ?_
        rintro e w' ⟨rfl, rfl⟩
        obtain ⟨cur', h3, h4, h5⟩ := setCells_row [Value.int .i64 x] (0 + 0) w cur hh (by simp; omega)
        obtain ⟨_, hgr⟩ := box_cells hh (show (0 + 0) + [Value.int .i64 x].length ≤ cur.size by simp; omega) (cs' := cur') h5.symm
        refine ⟨_, rfl, ⟨rfl, .inr ⟨g, cap, cur', rfl, hbg, h3, hr, hcm, by rw [h4, hcs], ?_⟩⟩, grown_below (Below.refl base w) hgr hbg hbase⟩
        rw [h5]
        simp [encs]
      · refine (Any2.slices_Insert_int_end_grow lay21 (some ⟨g, 0, none⟩) 0 cap vb 0 1 vc [] [.int .i64 x] w (by omega) (by omega) (by omega) (by omega) rfl rfl (fun h => by cases h) (fun a h j u hj => by simp at hj) hvs h1v).mono ?_
        rintro e w' ⟨rfl, rfl⟩
        have hg := grownCap_ge w (0 + 1) cap 3
        have hg2 := grownCap_le_maxLen w (0 + 1) cap 3 (by unfold maxLen; omega)
        refine ⟨_, rfl, ⟨rfl, .inr ⟨w.heap.size, _, _, rfl, hbase, heap_alloc_new w.drew _, hg, hg2, ?_, ?_⟩⟩, drew_below ((Below.refl base w.drew).alloc hbase _)⟩
        · rw [Array.size_append, zc_size]
          show 1 + (grownCap w (0 + 1) cap 3 - (0 + 1)) = grownCap w (0 + 1) cap 3 * 1
          omega
        · simp [encs]
    · by_cases hr : xs.length + 1 ≤ cap
      · refine (Any2.slices_Insert_int_shift lay21 g 0 xs.length cap 0 vb 0 1 vc (encs (Value.int .i64) xs) [.int .i64 x] w (by omega) (by omega) hr (by unfold maxLen at hcm; omega) hgv hcl rfl hcells (fun j hj => hsp j (by omega)) (fun j _ => hfz j) hvs h1c h1v
          3 3 1 cap (by simp [World.shape?, hv]) (by simp [World.shape?, hh, hcs]) (by omega) (blk_frozen hv 0) (blk_frozen hv 1)).mono ?_
        rintro e w' ⟨rfl, rfl⟩
        have hh' : w.drew.heap[g]? = some (.cells cur 3 (0, 0)) := hh
        have e1 : 0 + (0 + 1) + ((encs (Value.int .i64) xs).drop 0).length ≤ cur.size := by rw [List.drop_zero, hcl]; omega
        obtain ⟨c1, h3, h4, h5⟩ := setCells_row ((encs (Value.int .i64) xs).drop 0) (0 + (0 + 1)) w.drew cur hh' e1
        obtain ⟨_, hgr1⟩ := box_cells hh' e1 (cs' := c1) h5.symm
        have e2 : (0 + 0) + [Value.int .i64 x].length ≤ c1.size := by simp; omega
        obtain ⟨c2, h6, h7, h8⟩ := setCells_row [Value.int .i64 x] (0 + 0) _ c1 h3 e2
        obtain ⟨_, hgr2⟩ := box_cells h3 e2 (cs' := c2) h8.symm
        refine ⟨_, rfl, ⟨by rw [encs_length, Nat.mul_one], .inr ⟨g, cap, c2, rfl, hbg, h6, hr, hcm, by rw [h7, h4, hcs], ?_⟩⟩, drew_below (grown_below (grown_below (Below.refl base w.drew) hgr1 hbg hbase) hgr2 hbg (Nat.le_trans hbase hgr1.size))⟩
        rw [h8, h5]
        have hc1 : cur.toList.length = cap := by rw [Array.length_toList]; omega
        simp only [List.drop_zero, Nat.zero_add, List.take_zero, List.nil_append, List.length_singleton, List.length_cons, List.length_nil]
        have ht : (cur.toList.take 1).length = 1 := by rw [List.length_take]; omega
        rw [List.append_assoc, List.drop_left' ht, Nat.mul_one]
        show (Value.int .i64 x :: (encs (Value.int .i64) xs ++ cur.toList.drop (1 + (encs (Value.int .i64) xs).length))).take (xs.length + 1) = encs (Value.int .i64) (x :: xs)
        rw [List.take_succ_cons, List.take_append_of_le_length (by omega), List.take_of_length_le (by omega)]
        rfl
      · refine (Any2.slices_Insert_int_grow lay21 g 0 xs.length cap 0 vb 0 1 vc (encs (Value.int .i64) xs) [.int .i64 x] w (by omega) (by omega) hnc (by omega) (by omega) hcl rfl hcells hvs h1c h1v).mono ?_
        rintro e w' ⟨rfl, rfl⟩
        have hg := grownCap_ge w (xs.length + 1) cap 3
        have hg2 := grownCap_le_maxLen w (xs.length + 1) cap 3 (by unfold maxLen; omega)
        have hh0 := heap_alloc_new w (.cells (((encs (Value.int .i64) xs).take 0).toArray ++ Builtin.zeroCells (Value.int .i64 0).cells (xs.length + 1 - 0) ++ Builtin.zeroCells (Value.int .i64 0).cells (grownCap w (xs.length + 1) cap (ren21.t 3) - (xs.length + 1))) (ren21.t 3))
        generalize hcur : ((((encs (Value.int .i64) xs).take 0).toArray ++ Builtin.zeroCells (Value.int .i64 0).cells (xs.length + 1 - 0) ++ Builtin.zeroCells (Value.int .i64 0).cells (grownCap w (xs.length + 1) cap (ren21.t 3) - (xs.length + 1)))) = cur0 at hh0 ⊢
        have hsz0 : cur0.size = grownCap w (xs.length + 1) cap 3 := by
          rw [← hcur, Array.size_append, Array.size_append, zc_size, zc_size]
          show 0 + (xs.length + 1 - 0) + (grownCap w (xs.length + 1) cap 3 - (xs.length + 1)) = _
          omega
        have hal : Below base w (w.alloc (.cells cur0 (ren21.t 3))) := (Below.refl base w).alloc hbase _
        generalize w.alloc (.cells cur0 (ren21.t 3)) = wa at hh0 hal ⊢
        have hh1 : wa.drew.heap[w.heap.size]? = some (.cells cur0 3 (0, 0)) := hh0
        have e1 : 0 + [Value.int .i64 x].length ≤ cur0.size := by rw [hsz0]; simp; omega
        obtain ⟨c1, h3, h4, h5⟩ := setCells_row [Value.int .i64 x] 0 wa.drew cur0 hh1 e1
        obtain ⟨_, hgr1⟩ := box_cells hh1 e1 (cs' := c1) h5.symm
        generalize wa.drew.setCells w.heap.size 0 [Value.int .i64 x] = wb at h3 hgr1 ⊢
        have hh2 : wb.drew.heap[w.heap.size]? = some (.cells c1 3 (0, 0)) := h3
        have e2 : (0 + 1) + ((encs (Value.int .i64) xs).drop 0).length ≤ c1.size := by rw [List.drop_zero, hcl, h4, hsz0]; omega
        obtain ⟨c2, h6, h7, h8⟩ := setCells_row ((encs (Value.int .i64) xs).drop 0) (0 + 1) wb.drew c1 hh2 e2
        obtain ⟨_, hgr2⟩ := box_cells hh2 e2 (cs' := c2) h8.symm
        have hB1 : Below base w wa.drew := below_drew1 hal
        have hB2 : Below base w wb := grown_below hB1 hgr1 hbase (Nat.le_trans hbase hB1.size)
        refine ⟨_, rfl, ⟨by rw [encs_length, Nat.mul_one], .inr ⟨w.heap.size, _, c2, rfl, hbase, h6, hg, hg2, by rw [h7, h4, hsz0]; exact (Nat.mul_one _).symm, ?_⟩⟩, grown_below (below_drew1 hB2) hgr2 hbase (Nat.le_trans hbase hB2.size)⟩
        rw [h8, h5]
        simp only [List.drop_zero, Nat.zero_add, List.take_zero, List.nil_append, List.length_singleton, List.length_cons]
        rw [List.singleton_append, List.take_succ_cons, List.take_zero, Nat.mul_one, List.append_assoc]
        show (Value.int .i64 x :: (encs (Value.int .i64) xs ++ _)).take (xs.length + 1) = encs (Value.int .i64) (x :: xs)
        rw [List.take_succ_cons, List.take_append_of_le_length (by omega), List.take_of_length_le (by omega)]
        rfl
end Go.Proofs.Ytfdmfgaiblfbhaa.P
/- A tree's cells and their number: plain data. -/
namespace Go.Proofs.Ytfdmfgaiblfbhaa.P
open Go.RowKit Go.Proofs.YtfdmfgaiblfbhaaW.PrintWords Go.Proofs.YtfdmfgaiblfbhaaW.PrintLast Go.Proofs.YtfdmfgaiblfbhaaW.PrintMore

mutual
def allC : S26 → List S26
  | ⟨a, b, d, l⟩ => ⟨a, b, d, l⟩ :: allL l
def allL : List S26 → List S26
  | [] => []
  | c :: cs => allC c ++ allL cs
end
theorem allC_eq (c : S26) : allC c = c :: allL c.f3 := by cases c; simp [allC]
theorem allL_nil : allL [] = [] := by simp [allL]
theorem allL_cons (c : S26) (cs : List S26) : allL (c :: cs) = allC c ++ allL cs := by simp [allL]
theorem allL_app (a b : List S26) : allL (a ++ b) = allL a ++ allL b := by
  induction a with
  | nil => simp [allL_nil]
  | cons x xs ih => rw [List.cons_append, allL_cons, allL_cons, ih, List.append_assoc]
def sz (c : S26) : Nat := (allC c).length
def szL (l : List S26) : Nat := (allL l).length
theorem sz_eq (c : S26) : sz c = 1 + szL c.f3 := by unfold sz szL; rw [allC_eq, List.length_cons]; omega
theorem szL_nil : szL [] = 0 := by unfold szL; rw [allL_nil]; rfl
theorem szL_cons (c : S26) (cs : List S26) : szL (c :: cs) = sz c + szL cs := by unfold szL sz; rw [allL_cons, List.length_append]
theorem szL_app (a b : List S26) : szL (a ++ b) = szL a + szL b := by unfold szL; rw [allL_app, List.length_append]
theorem szL_len (l : List S26) : l.length ≤ szL l := by
  induction l with
  | nil => simp
  | cons x xs ih => rw [szL_cons, List.length_cons, sz_eq]; omega
theorem eta26 (c : S26) : (⟨c.f0, ⟨c.f1.f0, c.f1.f1, c.f1.f2, c.f1.f3⟩, c.f2, c.f3⟩ : S26) = c := by cases c; rfl
theorem szL_sum (l : List S26) : szL l = (l.map sz).sum := by
  induction l with
  | nil => rw [szL_nil]; rfl
  | cons x xs ih => rw [szL_cons, List.map_cons, List.sum_cons, ih]
end Go.Proofs.Ytfdmfgaiblfbhaa.P
/- The contract of cell.Find: the path to the first leaf with a number. Condition: at most 1000000 cells. -/
namespace Go.Proofs.Ytfdmfgaiblfbhaa.P
open Go.RowKit Go.Proofs.YtfdmfgaiblfbhaaW.PrintWords Go.Proofs.YtfdmfgaiblfbhaaW.PrintLast Go.Proofs.YtfdmfgaiblfbhaaW.PrintMore
set_option linter.unusedVariables false
set_option linter.unusedSimpArgs false
section
variable {P : Program} {ops : Array Oper} {rest : List Oper} {o : Oper} {a : Act} {Q : Exit → Act → World → Prop}
theorem row_event {W : World} (hgd : o.guard = none) {N : Tmp} (_hd : o.dst = some N) {cs : Array Value} {t : TypeId} {n c : Nat}
    (hrun : (execOp a.eval o).run P W = .ok (.value (.slice (some ⟨W.heap.size, 0, none⟩) n c)) (W.alloc (.cells cs t (0, 0))))
    (h : ∀ g, g = W.heap.size → ∀ w1, w1.heap[g]? = some (.cells cs t (0, 0)) → Below W.heap.size W w1 → wpList P ops Q rest (a.put o.dst (.slice (some ⟨g, 0, none⟩) n c)) w1) : wpList P ops Q (o :: rest) a W :=
  Kd.event_run hgd hrun (h _ rfl _ (blk_new W _) (below_alloc (Below.refl _ _) _))
end
mutual
def findC (id : Int) : S26 → Option (List Int)
  | ⟨a, _, d, l⟩ => if a = 1 ∧ d = id then some [] else findL id 0 l
def findL (id : Int) : Nat → List S26 → Option (List Int)
  | _, [] => none
  | i, k :: ks => match findC id k with
    | some p => some ((i : Int) :: p)
    | none => findL id (i + 1) ks
end
theorem findC_eq (id : Int) (c : S26) : findC id c = if c.f0 = 1 ∧ c.f2 = id then some [] else findL id 0 c.f3 := by cases c; simp [findC]
theorem findL_nil (id : Int) (i : Nat) : findL id i [] = none := by simp [findL]
theorem findL_cons (id : Int) (i : Nat) (k : S26) (ks : List S26) : findL id i (k :: ks) = match findC id k with | some p => some ((i : Int) :: p) | none => findL id (i + 1) ks := by simp [findL]
theorem find_len (id : Int) : ∀ (N : Nat), (∀ c : S26, sz c ≤ N → ∀ p, findC id c = some p → p.length ≤ sz c) ∧ (∀ l : List S26, szL l ≤ N → ∀ i p, findL id i l = some p → p.length ≤ 1 + szL l) := by
  intro N
  induction N with
  | zero =>
    refine ⟨fun c h => ?_, fun l h => ?_⟩
    · rw [sz_eq] at h; omega
    · cases l with
      | nil => intro i p hp; rw [findL_nil] at hp; cases hp
      | cons z zs => rw [szL_cons, sz_eq] at h; omega
  | succ N ih =>
    have hC : ∀ c : S26, sz c ≤ N + 1 → ∀ p, findC id c = some p → p.length ≤ sz c := by
      intro c h p hp
      have hs := sz_eq c
      rw [findC_eq] at hp
      split at hp
      · injection hp with hp; subst hp; simp
      · have := ih.2 c.f3 (by omega) 0 p hp
        omega
    refine ⟨hC, fun l => ?_⟩
    induction l with
    | nil => intro _ i p hp; rw [findL_nil] at hp; cases hp
    | cons z zs ihl =>
      intro h i p hp
      rw [szL_cons] at h ⊢
      rw [findL_cons] at hp
      cases hz : findC id z with
      | some q =>
        rw [hz] at hp
        injection hp with hp
        have := hC z (by omega) q hz
        rw [← hp, List.length_cons]
        omega
      | none =>
        rw [hz] at hp
        have := ihl (by omega) (i + 1) p hp
        omega
/-- What it answers. -/
def FindP (w : World) (r : Option (List Int)) (e : Ending) (w' : World) : Prop := ∃ v : Value, e = .returned (.tuple #[v, .bool r.isSome]) ∧ (Kd.int .i64).R 3 w' w.heap.size (fun _ => True) v (r.getD []) ∧ Below w.heap.size w w'
set_option maxHeartbeats 4000000 in
set_option maxRecDepth 100000 in
theorem find89 (id : Int) : ∀ (N : Nat) (c : S26), sz c ≤ N → N ≤ 1000000 → ∀ (A : Option Addr) (cc : Nat) (w : World), Kd.C k26 w A c.f3.length c.f3 → c.f3.length ≤ cc →
    Calls Try.prog 89 #[.agg #[.int .u8 c.f0, .int .i64 c.f1.f0, .int .i64 c.f1.f1, .int .i64 c.f1.f2, .int .i64 c.f1.f3, .int .i64 c.f2, .slice A c.f3.length cc], .int .i64 id] w (FindP w (findC id c)) := by
  intro N
  induction N with
  | zero => intro c h; rw [sz_eq] at h; omega
  | succ N ih =>
    intro c hc hN A cc w hr hlc
    have hsz := sz_eq c
    have hlen := szL_len c.f3
    have hkz : ∀ k : S26, k ∈ c.f3 → sz k ≤ N := by
      intro k hk
      have : sz k ≤ szL c.f3 := by
        obtain ⟨p, q, e⟩ := List.append_of_mem hk
        rw [e, szL_app, szL_cons]; omega
      omega
    have IH := Aside0.mk fun (k : S26) (hk : k ∈ c.f3) => ih k (hkz k hk) (by omega)
    have HLP := Aside0.mk fun (k : S26) (hk : k ∈ c.f3) (p : List Int) (hp : findC id k = some p) => Nat.le_trans ((find_len id (sz k)).1 k (Nat.le_refl _) p hp) (Nat.le_trans (hkz k hk) (by omega : N ≤ 1000000))
    have HR := Aside0.mk hr
    have HLC := Aside0.mk hlc
    have HL := Aside0.mk (show c.f3.length ≤ 1000000 by omega)
    have HB := Aside0.mk (Below.refl w.heap.size w)
    rw [findC_eq]
    clear ih hkz hr hlc hc hN hsz hlen
    obtain ⟨ck, ⟨cx, cy, cw, ch⟩, cid, l⟩ := c
    simp only [] at HR HLC HL IH HLP ⊢
    by_cases h1 : ck = 1
    · have h1b : (ck == 1) = true := beq_iff_eq.mpr h1
      by_cases h2 : cid = id
      · have h2b : (cid == id) = true := beq_iff_eq.mpr h2
        rw [if_pos ⟨h1, h2⟩]
        clear h1 h2
        go_enter Try.func89, Try.ntmps89
        go_wp2_with (first | ((with_reducible refine gate_dst (N := 2) rfl ?_); refine box_event ?hg (N := 2) ?hd (cs := #[.int .u8 ck, .int .i64 cx, .int .i64 cy, .int .i64 cw, .int .i64 ch, .int .i64 cid, .slice A l.length cc]) (t := 26) ?hr ?_; (case hd => rfl); (case hg => rfl); (case hr => first | (go_simp; done) | (go_simp; rfl)); intro b2 hg w2 hbox hb; have K2 := Aside0.mk hbox; have q_ := Aside0.mk (below_step HB.out hb); clear HB; have HB := q_; clear q_; clear hb hbox hg; have c0 := (blk_cell K2.out 0).trans rfl; have c1 := (blk_cell K2.out 1).trans rfl; have c2 := (blk_cell K2.out 2).trans rfl; have c3 := (blk_cell K2.out 3).trans rfl; have c4 := (blk_cell K2.out 4).trans rfl; have c5 := (blk_cell K2.out 5).trans rfl; have c6 := (blk_cell K2.out 6).trans rfl) | fail)
        go_ret2
        exact ⟨_, rfl, Kd.R_nil _ _ _ _ _, HB.out⟩
      · have h2b : (cid == id) = false := beq_eq_false_iff_ne.mpr h2
        rw [if_neg (fun h => h2 h.2)]
        clear h1 h2
        go_enter Try.func89, Try.ntmps89
        go_wp2_with (first | ((with_reducible refine gate_dst (N := 2) rfl ?_); refine box_event ?hg (N := 2) ?hd (cs := #[.int .u8 ck, .int .i64 cx, .int .i64 cy, .int .i64 cw, .int .i64 ch, .int .i64 cid, .slice A l.length cc]) (t := 26) ?hr ?_; (case hd => rfl); (case hg => rfl); (case hr => first | (go_simp; done) | (go_simp; rfl)); intro b2 hg w2 hbox hb; have K2 := Aside0.mk hbox; have q_ := Aside0.mk (below_step HB.out hb); clear HB; have HB := q_; clear q_; clear hb hbox hg; have c0 := (blk_cell K2.out 0).trans rfl; have c1 := (blk_cell K2.out 1).trans rfl; have c2 := (blk_cell K2.out 2).trans rfl; have c3 := (blk_cell K2.out 3).trans rfl; have c4 := (blk_cell K2.out 4).trans rfl; have c5 := (blk_cell K2.out 5).trans rfl; have c6 := (blk_cell K2.out 6).trans rfl) | fail)
        clear c0 c1 c2 c3 c4 c5 c6
        go_loopg [22] l.length (fun gg v22 wr => ∃ (pre rest : List S26), v22 = .int .i64 (pre.length : Int) ∧ Aside0 (pre ++ rest = l) ∧ rest.length ≤ gg ∧ Aside0 (findL id 0 l = findL id pre.length rest) ∧ Aside0 (Below w.heap.size w wr))
        case atStart => exact ⟨[], l, rfl, ⟨rfl⟩, Nat.le_refl _, ⟨rfl⟩, HB⟩
        case round =>
          clear HB K2
          obtain ⟨pre, rest, rfl, HE, hgg, HF, HB⟩ := hrel
          cases rest with
          | nil =>
            have hlt : ¬ ((pre.length : Int) < (l.length : Int)) := by have := HE.out; rw [List.append_nil] at this; rw [this]; omega
            clear hgg
            go_wp2
            go_ret2
            rw [HF.out, findL_nil]
            exact ⟨_, rfl, Kd.R_nil _ _ _ _ _, HB.out⟩
          | cons k rest =>
            have hk : k ∈ l := by rw [← HE.out]; simp
            have hlt : (pre.length : Int) < (l.length : Int) := by rw [← HE.out, List.length_append, List.length_cons]; omega
            have hw : wrap64 ((pre.length : Int) + 1) = ((pre ++ [k]).length : Int) := by rw [List.length_append, List.length_singleton]; unfold wrap64; have := HL.out; omega
            have hrd : rd_T26 l (pre.length : Int) = k := by rw [← HE.out]; simp [rd_T26, List.getD_eq_getElem?_getD]
            obtain ⟨ad, ua, uc, rfl, h0, h1, h2, h3, h4, h5, h6, hlu, hgu⟩ := at_T26 HR.out (pre.length : Int) (Int.natCast_nonneg _) hlt
            rw [hrd] at h0 h1 h2 h3 h4 h5 h6 hlu hgu
            simp only [Int.toNat_natCast] at h0 h1 h2 h3 h4 h5 h6
            replace h0 := (HB.out.cell (World.block_lt_of_cell? w _ h0)).trans h0
            replace h1 := (HB.out.cell (World.block_lt_of_cell? w _ h1)).trans h1
            replace h2 := (HB.out.cell (World.block_lt_of_cell? w _ h2)).trans h2
            replace h3 := (HB.out.cell (World.block_lt_of_cell? w _ h3)).trans h3
            replace h4 := (HB.out.cell (World.block_lt_of_cell? w _ h4)).trans h4
            replace h5 := (HB.out.cell (World.block_lt_of_cell? w _ h5)).trans h5
            replace h6 := (HB.out.cell (World.block_lt_of_cell? w _ h6)).trans h6
            have HU := Aside0.mk hgu
            have LU := Aside0.mk hlu
            have HW := Aside0.mk hw
            have HK := Aside0.mk hk
            have HG := Aside0.mk hgg
            clear hgu hlu hw hk hgg hrd
            go_wp2_with (first
              | ((with_reducible refine gate_dst (N := 7) rfl ?_); refine box_event ?hg (N := 7) ?hd (cs := #[.int .u8 0, .int .i64 0, .int .i64 0, .int .i64 0, .int .i64 0, .int .i64 0, .slice none 0 0]) (t := 26) ?hr ?_; (case hd => rfl); (case hg => rfl); (case hr => first | (go_simp; done) | (go_simp; rfl)); intro b7 hg w7 hbox hb; have K7 := Aside0.mk hbox; have G7 := Aside0.mk (show w.heap.size ≤ b7 by rw [hg]; exact HB.out.size); have q_ := Aside0.mk (below_step HB.out hb); clear HB; have HB := q_; clear q_; clear hb hbox hg)
              | ((with_reducible refine gate_ (.store 26 (.tmp 7) (.tmp 26)) rfl ?_); go_loud (refine box_store (w0 := w) rfl rfl 26 (.tmp 7) (.tmp 26) rfl (g := b7) (j := 0) (base := w.heap.size) #[.int .u8 k.f0, .int .i64 k.f1.f0, .int .i64 k.f1.f1, .int .i64 k.f1.f2, .int .i64 k.f1.f3, .int .i64 k.f2, .slice ua k.f3.length uc] (u := .agg #[.int .u8 k.f0, .int .i64 k.f1.f0, .int .i64 k.f1.f1, .int .i64 k.f1.f2, .int .i64 k.f1.f3, .int .i64 k.f2, .slice ua k.f3.length uc]) (seg := [.int .u8 k.f0, .int .i64 k.f1.f0, .int .i64 k.f1.f1, .int .i64 k.f1.f2, .int .i64 k.f1.f3, .int .i64 k.f2, .slice ua k.f3.length uc]) ?sA ?sX rfl ?sT ?s1 K7.out ?sJ rfl HB.out HB.out.size G7.out ?_; (case sA => rfl); (case sX => rfl); (case sT => rfl); (case s1 => (simp [Value.oneCell'])); (case sJ => (first | decide | simp)); intro ws hbk hbb hgg; clear K7 HB; have K7 := Aside0.mk hbk; have HB := Aside0.mk hbb; clear hbk hbb hgg h0 h1 h2 h3 h4 h5 h6; have d0 := (blk_cell K7.out 0).trans rfl; have d1 := (blk_cell K7.out 1).trans rfl; have d2 := (blk_cell K7.out 2).trans rfl; have d3 := (blk_cell K7.out 3).trans rfl; have d4 := (blk_cell K7.out 4).trans rfl; have d5 := (blk_cell K7.out 5).trans rfl; have d6 := (blk_cell K7.out 6).trans rfl))
              | fail)
            clear d0 d1 d2 d3 d4 d5 d6 K7
            refine (IH.out k HK.out ua uc _ (Kd.C_below HU.out HB.out) LU.out).mono ?_
            rintro e wk ⟨v, rfl, ho, hb⟩
            have HO := Aside0.mk (Kd.R_lower ho HB.out.size)
            have q_ := Aside0.mk (below_step HB.out hb); clear HB; have HB := q_; clear q_
            clear ho hb
            cases hf : findC id k with
            | none =>
              rw [hf] at HO
              have HF2 := Aside0.mk hf
              simp only [hf, Option.isSome_none]
              clear hf
              go_wp2
              go_roundg rest.length
              case measure => exact Nat.lt_of_lt_of_le (Nat.lt_succ_self _) HG.out
              case rel => exact ⟨pre ++ [k], rest, (by rw [HW.out]), ⟨by rw [List.append_assoc]; exact HE.out⟩, Nat.le_refl _, ⟨by rw [HF.out, findL_cons, HF2.out, List.length_append]; rfl⟩, HB⟩
            | some p =>
              rw [hf] at HO
              have HF2 := Aside0.mk hf
              have HP := Aside0.mk (HLP.out k HK.out p hf)
              simp only [hf, Option.isSome_some]
              clear hf
              obtain ⟨Ap, cp, ep⟩ := Kd.R_slice HO.out
              subst ep
              go_wp2_with (first
                | ((with_reducible refine gate_dst (N := 36) rfl ?_); refine row_event ?hg (N := 36) ?hd (cs := #[.int .i64 (pre.length : Int)]) (t := 3) (n := 1) (c := 1) ?hr ?_; (case hd => rfl); (case hg => rfl); (case hr => first | (go_simp; done) | (go_simp; rfl)); intro b9 hg w9 hbox hb; have K9 := Aside0.mk hbox; have NE := Aside0.mk (fun e_ => Nat.lt_irrefl _ (hg ▸ Kd.R_lt HO.out b9 e_) : ¬ (Value.slice Ap ((some p).getD []).length cp).ownBlock = some b9); have q1_ := Aside0.mk (Kd.R_below HO.out hb); clear HO; have HO := q1_; clear q1_; have q_ := Aside0.mk (below_step HB.out hb); clear HB; have HB := q_; clear q_; clear hb hbox hg)
                | fail)
              refine (ins150 _ w.heap.size HB.out.size _ p (pre.length : Int) b9 1 (Kd.own_of_R HO.out) K9.out NE.out HP.out).mono ?_
              rintro e wi ⟨v', rfl, ho, hb⟩
              have HO2 := Aside0.mk ho
              have HB2 := Aside0.mk (HB.out.trans hb)
              clear ho hb
              go_wp2
              go_ret2
              rw [HF.out, findL_cons, HF2.out]
              exact ⟨_, rfl, Kd.R_of_own HO2.out (fun _ _ => trivial), HB2.out⟩
    · have h1b : (ck == 1) = false := beq_eq_false_iff_ne.mpr h1
      rw [if_neg (fun h => h1 h.1)]
      clear h1
      go_enter Try.func89, Try.ntmps89
      go_wp2_with (first | ((with_reducible refine gate_dst (N := 2) rfl ?_); refine box_event ?hg (N := 2) ?hd (cs := #[.int .u8 ck, .int .i64 cx, .int .i64 cy, .int .i64 cw, .int .i64 ch, .int .i64 cid, .slice A l.length cc]) (t := 26) ?hr ?_; (case hd => rfl); (case hg => rfl); (case hr => first | (go_simp; done) | (go_simp; rfl)); intro b2 hg w2 hbox hb; have K2 := Aside0.mk hbox; have q_ := Aside0.mk (below_step HB.out hb); clear HB; have HB := q_; clear q_; clear hb hbox hg; have c0 := (blk_cell K2.out 0).trans rfl; have c1 := (blk_cell K2.out 1).trans rfl; have c2 := (blk_cell K2.out 2).trans rfl; have c3 := (blk_cell K2.out 3).trans rfl; have c4 := (blk_cell K2.out 4).trans rfl; have c5 := (blk_cell K2.out 5).trans rfl; have c6 := (blk_cell K2.out 6).trans rfl) | fail)
      clear c0 c1 c2 c3 c4 c5 c6
      go_loopg [22] l.length (fun gg v22 wr => ∃ (pre rest : List S26), v22 = .int .i64 (pre.length : Int) ∧ Aside0 (pre ++ rest = l) ∧ rest.length ≤ gg ∧ Aside0 (findL id 0 l = findL id pre.length rest) ∧ Aside0 (Below w.heap.size w wr))
      case atStart => exact ⟨[], l, rfl, ⟨rfl⟩, Nat.le_refl _, ⟨rfl⟩, HB⟩
      case round =>
        clear HB K2
        obtain ⟨pre, rest, rfl, HE, hgg, HF, HB⟩ := hrel
        cases rest with
        | nil =>
          have hlt : ¬ ((pre.length : Int) < (l.length : Int)) := by have := HE.out; rw [List.append_nil] at this; rw [this]; omega
          clear hgg
          go_wp2
          go_ret2
          rw [HF.out, findL_nil]
          exact ⟨_, rfl, Kd.R_nil _ _ _ _ _, HB.out⟩
        | cons k rest =>
          have hk : k ∈ l := by rw [← HE.out]; simp
          have hlt : (pre.length : Int) < (l.length : Int) := by rw [← HE.out, List.length_append, List.length_cons]; omega
          have hw : wrap64 ((pre.length : Int) + 1) = ((pre ++ [k]).length : Int) := by rw [List.length_append, List.length_singleton]; unfold wrap64; have := HL.out; omega
          have hrd : rd_T26 l (pre.length : Int) = k := by rw [← HE.out]; simp [rd_T26, List.getD_eq_getElem?_getD]
          obtain ⟨ad, ua, uc, rfl, h0, h1, h2, h3, h4, h5, h6, hlu, hgu⟩ := at_T26 HR.out (pre.length : Int) (Int.natCast_nonneg _) hlt
          rw [hrd] at h0 h1 h2 h3 h4 h5 h6 hlu hgu
          simp only [Int.toNat_natCast] at h0 h1 h2 h3 h4 h5 h6
          replace h0 := (HB.out.cell (World.block_lt_of_cell? w _ h0)).trans h0
          replace h1 := (HB.out.cell (World.block_lt_of_cell? w _ h1)).trans h1
          replace h2 := (HB.out.cell (World.block_lt_of_cell? w _ h2)).trans h2
          replace h3 := (HB.out.cell (World.block_lt_of_cell? w _ h3)).trans h3
          replace h4 := (HB.out.cell (World.block_lt_of_cell? w _ h4)).trans h4
          replace h5 := (HB.out.cell (World.block_lt_of_cell? w _ h5)).trans h5
          replace h6 := (HB.out.cell (World.block_lt_of_cell? w _ h6)).trans h6
          have HU := Aside0.mk hgu
          have LU := Aside0.mk hlu
          have HW := Aside0.mk hw
          have HK := Aside0.mk hk
          have HG := Aside0.mk hgg
          clear hgu hlu hw hk hgg hrd
          go_wp2_with (first
            | ((with_reducible refine gate_dst (N := 7) rfl ?_); refine box_event ?hg (N := 7) ?hd (cs := #[.int .u8 0, .int .i64 0, .int .i64 0, .int .i64 0, .int .i64 0, .int .i64 0, .slice none 0 0]) (t := 26) ?hr ?_; (case hd => rfl); (case hg => rfl); (case hr => first | (go_simp; done) | (go_simp; rfl)); intro b7 hg w7 hbox hb; have K7 := Aside0.mk hbox; have G7 := Aside0.mk (show w.heap.size ≤ b7 by rw [hg]; exact HB.out.size); have q_ := Aside0.mk (below_step HB.out hb); clear HB; have HB := q_; clear q_; clear hb hbox hg)
            | ((with_reducible refine gate_ (.store 26 (.tmp 7) (.tmp 26)) rfl ?_); go_loud (refine box_store (w0 := w) rfl rfl 26 (.tmp 7) (.tmp 26) rfl (g := b7) (j := 0) (base := w.heap.size) #[.int .u8 k.f0, .int .i64 k.f1.f0, .int .i64 k.f1.f1, .int .i64 k.f1.f2, .int .i64 k.f1.f3, .int .i64 k.f2, .slice ua k.f3.length uc] (u := .agg #[.int .u8 k.f0, .int .i64 k.f1.f0, .int .i64 k.f1.f1, .int .i64 k.f1.f2, .int .i64 k.f1.f3, .int .i64 k.f2, .slice ua k.f3.length uc]) (seg := [.int .u8 k.f0, .int .i64 k.f1.f0, .int .i64 k.f1.f1, .int .i64 k.f1.f2, .int .i64 k.f1.f3, .int .i64 k.f2, .slice ua k.f3.length uc]) ?sA ?sX rfl ?sT ?s1 K7.out ?sJ rfl HB.out HB.out.size G7.out ?_; (case sA => rfl); (case sX => rfl); (case sT => rfl); (case s1 => (simp [Value.oneCell'])); (case sJ => (first | decide | simp)); intro ws hbk hbb hgg; clear K7 HB; have K7 := Aside0.mk hbk; have HB := Aside0.mk hbb; clear hbk hbb hgg h0 h1 h2 h3 h4 h5 h6; have d0 := (blk_cell K7.out 0).trans rfl; have d1 := (blk_cell K7.out 1).trans rfl; have d2 := (blk_cell K7.out 2).trans rfl; have d3 := (blk_cell K7.out 3).trans rfl; have d4 := (blk_cell K7.out 4).trans rfl; have d5 := (blk_cell K7.out 5).trans rfl; have d6 := (blk_cell K7.out 6).trans rfl))
            | fail)
          clear d0 d1 d2 d3 d4 d5 d6 K7
          refine (IH.out k HK.out ua uc _ (Kd.C_below HU.out HB.out) LU.out).mono ?_
          rintro e wk ⟨v, rfl, ho, hb⟩
          have HO := Aside0.mk (Kd.R_lower ho HB.out.size)
          have q_ := Aside0.mk (below_step HB.out hb); clear HB; have HB := q_; clear q_
          clear ho hb
          cases hf : findC id k with
          | none =>
            rw [hf] at HO
            have HF2 := Aside0.mk hf
            simp only [hf, Option.isSome_none]
            clear hf
            go_wp2
            go_roundg rest.length
            case measure => exact Nat.lt_of_lt_of_le (Nat.lt_succ_self _) HG.out
            case rel => exact ⟨pre ++ [k], rest, (by rw [HW.out]), ⟨by rw [List.append_assoc]; exact HE.out⟩, Nat.le_refl _, ⟨by rw [HF.out, findL_cons, HF2.out, List.length_append]; rfl⟩, HB⟩
          | some p =>
            rw [hf] at HO
            have HF2 := Aside0.mk hf
            have HP := Aside0.mk (HLP.out k HK.out p hf)
            simp only [hf, Option.isSome_some]
            clear hf
            obtain ⟨Ap, cp, ep⟩ := Kd.R_slice HO.out
            subst ep
            go_wp2_with (first
              | ((with_reducible refine gate_dst (N := 36) rfl ?_); refine row_event ?hg (N := 36) ?hd (cs := #[.int .i64 (pre.length : Int)]) (t := 3) (n := 1) (c := 1) ?hr ?_; (case hd => rfl); (case hg => rfl); (case hr => first | (go_simp; done) | (go_simp; rfl)); intro b9 hg w9 hbox hb; have K9 := Aside0.mk hbox; have NE := Aside0.mk (fun e_ => Nat.lt_irrefl _ (hg ▸ Kd.R_lt HO.out b9 e_) : ¬ (Value.slice Ap ((some p).getD []).length cp).ownBlock = some b9); have q1_ := Aside0.mk (Kd.R_below HO.out hb); clear HO; have HO := q1_; clear q1_; have q_ := Aside0.mk (below_step HB.out hb); clear HB; have HB := q_; clear q_; clear hb hbox hg)
              | fail)
            refine (ins150 _ w.heap.size HB.out.size _ p (pre.length : Int) b9 1 (Kd.own_of_R HO.out) K9.out NE.out HP.out).mono ?_
            rintro e wi ⟨v', rfl, ho, hb⟩
            have HO2 := Aside0.mk ho
            have HB2 := Aside0.mk (HB.out.trans hb)
            clear ho hb
            go_wp2
            go_ret2
            rw [HF.out, findL_cons, HF2.out]
            exact ⟨_, rfl, Kd.R_of_own HO2.out (fun _ _ => trivial), HB2.out⟩
def cell_Find.f (a0 a1 a2 a3 a4 a5 : Int) (l : List S26) (id : Int) : Option (List Int × Bool) := if sz ⟨a0, ⟨a1, a2, a3, a4⟩, a5, l⟩ ≤ 1000000 then some ((findC id ⟨a0, ⟨a1, a2, a3, a4⟩, a5, l⟩).getD [], (findC id ⟨a0, ⟨a1, a2, a3, a4⟩, a5, l⟩).isSome) else none
theorem cell_Find.calls (a0_0 a0_1 a0_2 a0_3 a0_4 a0_5 : Int) (A0_6 : Option Addr) (c0_6 : Nat) (l0_6 : List S26) (a1 : Int) (r1 : List Int) (r2 : Bool) (w : World) (hr0_6 : Kd.C k26 w A0_6 l0_6.length l0_6) (hc0_6 : l0_6.length ≤ c0_6) (h : cell_Find.f a0_0 a0_1 a0_2 a0_3 a0_4 a0_5 l0_6 a1 = some (r1, r2)) :
    Calls Try.prog 89 #[.agg #[.int .u8 a0_0, .int .i64 a0_1, .int .i64 a0_2, .int .i64 a0_3, .int .i64 a0_4, .int .i64 a0_5, .slice A0_6 l0_6.length c0_6], .int .i64 a1] w fun e w' => ∃ v0_ : Value, e = .returned (.tuple #[v0_, .bool r2]) ∧ Kd.R (Kd.int .i64) 3 w' w.heap.size (fun _ => True) v0_ r1 ∧ Below w.heap.size w w' := by
  unfold cell_Find.f at h
  split at h
  · rename_i hz
    simp only [Option.some.injEq, Prod.mk.injEq] at h
    obtain ⟨rfl, rfl⟩ := h
    exact find89 a1 1000000 ⟨a0_0, ⟨a0_1, a0_2, a0_3, a0_4⟩, a0_5, l0_6⟩ hz (Nat.le_refl _) A0_6 c0_6 w hr0_6 hc0_6
  · exact absurd h (by simp)
end Go.Proofs.Ytfdmfgaiblfbhaa.P
/- A row gone through till a test says yes: plain words. -/
namespace Go.Proofs.Ytfdmfgaiblfbhaa.P
open Go.RowKit Go.Proofs.YtfdmfgaiblfbhaaW.PrintWords Go.Proofs.YtfdmfgaiblfbhaaW.PrintLast Go.Proofs.YtfdmfgaiblfbhaaW.PrintMore
/-- A call of a function that has a body enters it. -/
theorem enters_fn {P : Program} {f : FuncId} {fn : Func} (hf : P.funcs[f]? = some fn) (hname : (fn.name == "runtime.NumGoroutine") = false) (hb : fn.body.isSome = true) : ∀ args w, (callFunc f args).run P w = .ok (.enter f args) w := by
  intro args w
  obtain ⟨c, hc⟩ := Option.isSome_iff_exists.1 hb
  have h1 : fn.name ≠ "runtime.NumGoroutine" := by simpa using hname
  simp [callFunc, hf, h1, hc, mark]
section
variable {σ α : Type}
/-- Where the test first says yes (-1), and the state behind. -/
def scanI (step : σ → α → Bool × σ) : Int → σ → List α → Int × σ
  | _, s, [] => (-1, s)
  | i, s, x :: xs => if (step s x).1 = true then (i, (step s x).2) else scanI step (i + 1) (step s x).2 xs
/-- Whether it ever does. -/
def scanB (step : σ → α → Bool × σ) : σ → List α → Bool × σ
  | s, [] => (false, s)
  | s, x :: xs => if (step s x).1 = true then (true, (step s x).2) else scanB step (step s x).2 xs
theorem scanI_B (step : σ → α → Bool × σ) : ∀ (l : List α) (i : Int) (s : σ), 0 ≤ i → (scanB step s l).1 = decide (0 ≤ (scanI step i s l).1) ∧ (scanB step s l).2 = (scanI step i s l).2 := by
  intro l
  induction l with
  | nil => intro i s h; exact ⟨by simp [scanB, scanI], rfl⟩
  | cons x xs ih =>
    intro i s h
    simp only [scanB, scanI]
    split
    · exact ⟨by simp [h], rfl⟩
    · exact ih (i + 1) _ (by omega)
theorem scanB_eq (step : σ → α → Bool × σ) (s : σ) (l : List α) : scanB step s l = (decide (0 ≤ (scanI step 0 s l).1), (scanI step 0 s l).2) := by
  have h := scanI_B step l 0 s (by omega)
  exact Prod.ext h.1 h.2
theorem scan_at (step : σ → α → Bool × σ) (z : α) (l : List α) (k : Nat) (h : k < l.length) (t : σ) :
    scanI step k t (l.drop k) = if (step t (l.getD (k : Int).toNat z)).1 = true then ((k : Int), (step t (l.getD (k : Int).toNat z)).2) else scanI step ((k + 1 : Nat) : Int) (step t (l.getD (k : Int).toNat z)).2 (l.drop (k + 1)) := by
  rw [List.drop_eq_getElem_cons h]
  simp only [scanI, Int.toNat_natCast, List.getD_eq_getElem?_getD, List.getElem?_eq_getElem h, Option.getD_some]
  rfl
theorem scan_mem (z : α) (l : List α) (k : Nat) (h : k < l.length) : l.getD (k : Int).toNat z ∈ l := by
  simp only [Int.toNat_natCast, List.getD_eq_getElem?_getD, List.getElem?_eq_getElem h, Option.getD_some]
  exact List.getElem_mem h
/-- A test without a state. -/
theorem scanB_any (p : α → Bool) : ∀ (l : List α) (s : Unit), scanB (fun _ x => (p x, ())) s l = (l.any p, ()) := by
  intro l
  induction l with
  | nil => intro s; rfl
  | cons x xs ih =>
    intro s
    simp only [scanB, List.any_cons]
    cases h : p x with
    | true => simp
    | false => simp [ih]
end
end Go.Proofs.Ytfdmfgaiblfbhaa.P
/- A tree's cells gone through, as long as a test says yes: plain words. -/
namespace Go.Proofs.Ytfdmfgaiblfbhaa.P
open Go.RowKit Go.Proofs.YtfdmfgaiblfbhaaW.PrintWords Go.Proofs.YtfdmfgaiblfbhaaW.PrintLast Go.Proofs.YtfdmfgaiblfbhaaW.PrintMore
section
variable {σ : Type} (step : σ → S26 → Bool × σ)
mutual
def allS : S26 → σ → Bool × σ
  | ⟨a, b, d, l⟩, s => if (step s ⟨a, b, d, l⟩).1 = true then noneS l (step s ⟨a, b, d, l⟩).2 else (false, (step s ⟨a, b, d, l⟩).2)
def noneS : List S26 → σ → Bool × σ
  | [], s => (true, s)
  | k :: ks, s => if (allS k s).1 = true then noneS ks (allS k s).2 else (false, (allS k s).2)
end
theorem allS_eq (c : S26) (s : σ) : allS step c s = if (step s c).1 = true then noneS step c.f3 (step s c).2 else (false, (step s c).2) := by cases c; simp [allS]
theorem noneS_nil (s : σ) : noneS step [] s = (true, s) := by simp [noneS]
theorem noneS_cons (k : S26) (ks : List S26) (s : σ) : noneS step (k :: ks) s = if (allS step k s).1 = true then noneS step ks (allS step k s).2 else (false, (allS step k s).2) := by simp [noneS]
theorem scan_none : ∀ (l : List S26) (s : σ), scanB (fun s k => (!(allS step k s).1, (allS step k s).2)) s l = (!(noneS step l s).1, (noneS step l s).2) := by
  intro l
  induction l with
  | nil => intro s; rw [noneS_nil]; rfl
  | cons k ks ih =>
    intro s
    rw [noneS_cons]
    simp only [scanB]
    cases h : (allS step k s).1 with
    | true => simp [ih]
    | false => simp
/-- One cell after the other. -/
def seqS : List S26 → σ → Bool × σ
  | [], s => (true, s)
  | k :: ks, s => if (step s k).1 = true then seqS ks (step s k).2 else (false, (step s k).2)
theorem seqS_app : ∀ (a b : List S26) (s : σ), seqS step (a ++ b) s = if (seqS step a s).1 = true then seqS step b (seqS step a s).2 else (false, (seqS step a s).2) := by
  intro a
  induction a with
  | nil => intro b s; simp [seqS]
  | cons k ks ih =>
    intro b s
    simp only [List.cons_append, seqS]
    by_cases h : (step s k).1 = true
    · simp [h, ih]
    · simp [h]
theorem allS_seq : ∀ (N : Nat), (∀ c : S26, sz c ≤ N → ∀ s, allS step c s = seqS step (allC c) s) ∧ (∀ l : List S26, szL l ≤ N → ∀ s, noneS step l s = seqS step (allL l) s) := by
  intro N
  induction N with
  | zero =>
    refine ⟨fun c h => ?_, fun l h => ?_⟩
    · rw [sz_eq] at h; omega
    · cases l with
      | nil => intro s; rw [noneS_nil, allL_nil]; rfl
      | cons x xs => rw [szL_cons, sz_eq] at h; omega
  | succ N ih =>
    have hC : ∀ c : S26, sz c ≤ N + 1 → ∀ s, allS step c s = seqS step (allC c) s := by
      intro c h s
      rw [sz_eq] at h
      rw [allS_eq, allC_eq]
      simp only [seqS]
      rw [ih.2 c.f3 (by omega)]
    refine ⟨hC, fun l => ?_⟩
    induction l with
    | nil => intro _ s; rw [noneS_nil, allL_nil]; rfl
    | cons x xs ihl =>
      intro h s
      rw [szL_cons] at h
      rw [noneS_cons, allL_cons, seqS_app, hC x (by omega), ihl (by omega)]
end
end Go.Proofs.Ytfdmfgaiblfbhaa.P
