/- CellPuts: part 3 of 5 of this claim's texts, one behind the other. The words of the kit's printer stand in it cut down, by a program, to those that are used. -/
import Derived.Test.YtfdmfgaiblfbhaaProg
import Derived.Below
import Derived.Deep.Draws
import Derived.Deep.AppendLies
import Derived.Maps.AppendAt
import Derived.OwnWalk
import Derived.Laws.BytesArg
import Derived.Laws.MakeOwn
import Derived.Laws.OwnMore
import Derived.Deep.OwnRows
import Derived.Tactics
import Derived.Lib.ConvBytes
import Derived.Laws.Slices
import Derived.WalkKit
import Derived.KernelRfl
import Derived.RowKit3
import Derived.Deep.LoopGhost
import Derived.Deep.QuietTactic
import Derived.BigQuiet
import Derived.WideLaws
import Derived.Deep.DeepCutAuto
import Derived.Deep.CutBlock
import Derived.Deep.RegionHeld3
import Derived.Laws.Rows
import Derived.Lib.AppendStr
import Derived.ArgAppend
import Derived.Laws.IdiomCopy
import Derived.OrdersHeld
import Derived.Laws.BitsLemmas
import Derived.RowKit
import Derived.Test.YtfdmfgaiblfbhaaMCellPutsa
import Derived.Test.YtfdmfgaiblfbhaaMCellPutsb
import Derived.Shelf.Spec.SlicesInsert
import Derived.Shelf.Spec.SlicesInsertGrow
import Derived.Lib.Hide
import Derived.Maps.OwnOps
import Derived.Maps.Views
namespace Go.Proofs.Ytfdmfgaiblfbhaa.P
open Go.RowKit Go.Proofs.YtfdmfgaiblfbhaaW.PrintWords Go.Proofs.YtfdmfgaiblfbhaaW.PrintLast Go.Proofs.YtfdmfgaiblfbhaaW.PrintMore
attribute [local go_sem] max2_int min2_int max_two min_two max_three min_three max_four min_four   -- for this text's walks alone
set_option linter.unusedVariables false
set_option linter.unusedSimpArgs false



def errW : Option Int → Value
  | none => .nilIface
  | some c => .iface 0 (.int .i64 c)
theorem errW_none : errW none = .nilIface := rfl
theorem errW_some (c : Int) : errW (some c) = .iface 0 (.int .i64 c) := rfl

theorem info3 : (Try.prog.info? 3).map (fun i => (i.zero, i.size, i.bytes)) = some (some (.int .i64 0), 1, 8) := by kernel_rfl
theorem info26 : (Try.prog.info? 26).map (fun i => (i.zero, i.size, i.bytes)) = some (some (.agg #[(.int .u8 0), (.int .i64 0), (.int .i64 0), (.int .i64 0), (.int .i64 0), (.int .i64 0), (.slice none 0 0)]), 7, 72) := by kernel_rfl
-- the values' own types
/-! #### struct type 23 -/
structure S23 where
  f0 : Int
  f1 : Int
  f2 : Int
  f3 : Int
def z23 : S23 := ⟨(0 : Int), (0 : Int), (0 : Int), (0 : Int)⟩
def k23 : Kd S23 := Kd.iso (Kd.pair (Kd.int .i64) (Kd.pair (Kd.int .i64) (Kd.pair (Kd.int .i64) (Kd.int .i64)))) (fun x : S23 => (x.f0, x.f1, x.f2, x.f3))
theorem k23_heap : Kd.Heap k23 := Kd.heap_iso _ (Kd.heap_pair (Kd.heap_int .i64) (Kd.heap_pair (Kd.heap_int .i64) (Kd.heap_pair (Kd.heap_int .i64) (Kd.heap_int .i64))))
theorem k23_open {w : World} {x : S23} {cs : List Value} (h : k23.K w x cs) : cs = [.int .i64 x.f0, .int .i64 x.f1, .int .i64 x.f2, .int .i64 x.f3] := by
  obtain ⟨_, _, rfl, rfl, ⟨_, _, rfl, rfl, ⟨_, _, rfl, rfl, rfl⟩⟩⟩ := h
  exact rfl
theorem k23_mk (w : World) (x : S23)  : k23.K w x [.int .i64 x.f0, .int .i64 x.f1, .int .i64 x.f2, .int .i64 x.f3] := ⟨[.int .i64 x.f0], [.int .i64 x.f1, .int .i64 x.f2, .int .i64 x.f3], rfl, rfl, ⟨[.int .i64 x.f1], [.int .i64 x.f2, .int .i64 x.f3], rfl, rfl, ⟨[.int .i64 x.f2], [.int .i64 x.f3], rfl, rfl, rfl⟩⟩⟩
theorem k23_mkM (w : World) (base : Nat) (ok : Nat → Prop) (x : S23)  : k23.M w base ok x [.int .i64 x.f0, .int .i64 x.f1, .int .i64 x.f2, .int .i64 x.f3] := ⟨[.int .i64 x.f0], [.int .i64 x.f1, .int .i64 x.f2, .int .i64 x.f3], rfl, rfl, ⟨[.int .i64 x.f1], [.int .i64 x.f2, .int .i64 x.f3], rfl, rfl, ⟨[.int .i64 x.f2], [.int .i64 x.f3], rfl, rfl, rfl⟩⟩⟩
def rd_T23 (xs : List S23) (i : Int) : S23 := xs.getD i.toNat z23
theorem at_T23 {w : World} {A : Option Addr} {n : Nat} {xs : List S23} (h : Kd.C k23 w A n xs) (i : Int) (h0 : 0 ≤ i) (h1 : i < n) : ∃ ad , A = some ad ∧ w.cell? (ad.add (i.toNat * 4)) = some (.int .i64 (rd_T23 xs i).f0) ∧ w.cell? ⟨(ad.add (i.toNat * 4)).block, (ad.add (i.toNat * 4)).off + 1, none⟩ = some (.int .i64 (rd_T23 xs i).f1) ∧ w.cell? ⟨(ad.add (i.toNat * 4)).block, (ad.add (i.toNat * 4)).off + 2, none⟩ = some (.int .i64 (rd_T23 xs i).f2) ∧ w.cell? ⟨(ad.add (i.toNat * 4)).block, (ad.add (i.toNat * 4)).off + 3, none⟩ = some (.int .i64 (rd_T23 xs i).f3) := by
  obtain ⟨ad, c, e, _, hK, hc0⟩ := Kd.C_get h z23 i h0 h1
  have hc : ∀ j u, c[j]? = some u → w.cell? (ad.add (i.toNat * 4 + j)) = some u := hc0
  obtain rfl := k23_open hK
  exact ⟨ad, e, hc 0 _ rfl, by rw [← add_field _ _ 1 (by omega)]; exact hc 1 _ rfl, by rw [← add_field _ _ 2 (by omega)]; exact hc 2 _ rfl, by rw [← add_field _ _ 3 (by omega)]; exact hc 3 _ rfl⟩

/-! #### struct type 26, nested in itself -/
structure S26 where
  f0 : Int
  f1 : S23
  f2 : Int
  f3 : (List S26)
def z26 : S26 := ⟨(0 : Int), z23, (0 : Int), ([] : List S26)⟩
def F26 (d : Kd S26) : Kd S26 := Kd.iso (Kd.pair (Kd.int .u8) (Kd.pair k23 (Kd.pair (Kd.int .i64) (Kd.slice 26 d)))) (fun x : S26 => (x.f0, x.f1, x.f2, x.f3))
theorem mono26 : Kd.Mono F26 := Kd.mono_iso _ (Kd.mono_pair (Kd.mono_const _) (Kd.mono_pair (Kd.mono_const _) (Kd.mono_pair (Kd.mono_const _) (Kd.mono_slice 26 Kd.mono_id))))
theorem sub26 : Kd.Sub F26 [26] := Kd.sub_iso _ (Kd.sub_pair (Kd.sub_const _ (by decide)) (Kd.sub_pair (Kd.sub_const _ (by decide)) (Kd.sub_pair (Kd.sub_const _ (by decide)) (Kd.sub_slice 26 (by decide) Kd.sub_id))))
theorem sz26 : ∀ n, (Kd.upto F26 7 [26] n).sz = 7 := Kd.upto_sz (fun _ => rfl)
def k26 : Kd S26 := Kd.fix F26 7 [26] sz26 (Kd.upto_E sub26)
theorem k26_heap : Kd.Heap k26 := Kd.heap_fix (fun _ h_ => Kd.heap_iso _ (Kd.heap_pair (Kd.heap_int .u8) (Kd.heap_pair k23_heap (Kd.heap_pair (Kd.heap_int .i64) (Kd.heap_slice 26 h_)))))
theorem k26_open {w : World} {x : S26} {cs : List Value} (h : k26.K w x cs) : ∃ A6 c6, cs = [.int .u8 x.f0, .int .i64 x.f1.f0, .int .i64 x.f1.f1, .int .i64 x.f1.f2, .int .i64 x.f1.f3, .int .i64 x.f2, .slice A6 x.f3.length c6] ∧ x.f3.length ≤ c6 ∧ k26.C w A6 x.f3.length x.f3 := by
  obtain ⟨n, h⟩ := h
  cases n with
  | zero => exact h.elim
  | succ n =>
    obtain ⟨_, _, rfl, rfl, ⟨_, _, rfl, s1, ⟨_, _, rfl, rfl, ⟨A6, c6, rfl, l6, g6⟩⟩⟩⟩ := h
    obtain rfl := k23_open s1
    exact ⟨A6, c6, rfl, l6, Kd.fix_C g6⟩
theorem k26_mk (w : World) (x : S26) {A6 : Option Addr} {c6 : Nat} (l6 : x.f3.length ≤ c6) (g6 : k26.C w A6 x.f3.length x.f3) : k26.K w x [.int .u8 x.f0, .int .i64 x.f1.f0, .int .i64 x.f1.f1, .int .i64 x.f1.f2, .int .i64 x.f1.f3, .int .i64 x.f2, .slice A6 x.f3.length c6] := by
  obtain ⟨n6, q6⟩ := Kd.fix_C_back mono26 g6
  have r6 := Kd.upto_C_le mono26 sz26 (show n6 ≤ n6 by omega) q6
  exact ⟨n6 + 1, ⟨[.int .u8 x.f0], [.int .i64 x.f1.f0, .int .i64 x.f1.f1, .int .i64 x.f1.f2, .int .i64 x.f1.f3, .int .i64 x.f2, .slice A6 x.f3.length c6], rfl, rfl, ⟨[.int .i64 x.f1.f0, .int .i64 x.f1.f1, .int .i64 x.f1.f2, .int .i64 x.f1.f3], [.int .i64 x.f2, .slice A6 x.f3.length c6], rfl, (k23_mk w x.f1 ), ⟨[.int .i64 x.f2], [.slice A6 x.f3.length c6], rfl, rfl, ⟨A6, c6, rfl, l6, r6⟩⟩⟩⟩⟩
theorem k26_openF {W : World} {ok : Nat → Prop} {x : S26} {cs : List Value} (h : Kd.FK k26 W ok x cs) : ∃ A6 c6, cs = [.int .u8 x.f0, .int .i64 x.f1.f0, .int .i64 x.f1.f1, .int .i64 x.f1.f2, .int .i64 x.f1.f3, .int .i64 x.f2, .slice A6 x.f3.length c6] ∧ x.f3.length ≤ c6 ∧ Kd.F k26 W ok A6 x.f3.length x.f3 := by
  obtain ⟨A6, c6, rfl, l6, _⟩ := k26_open (Kd.FK_now h)
  exact ⟨A6, c6, rfl, l6, (fun W' hW => by obtain ⟨A6_, c6_, he, l6_, g6_⟩ := k26_open (h W' hW); injection (Option.some.inj (show some (Value.slice A6 x.f3.length c6) = some (Value.slice A6_ x.f3.length c6_) from congrArg (fun l => l[6]?) he)) with ha_ _ _; rw [ha_]; exact g6_)⟩
theorem k26_mkF (W : World) (ok : Nat → Prop) (x : S26) {A6 : Option Addr} {c6 : Nat} (l6 : x.f3.length ≤ c6) (g6 : Kd.F k26 W ok A6 x.f3.length x.f3) : Kd.FK k26 W ok x [.int .u8 x.f0, .int .i64 x.f1.f0, .int .i64 x.f1.f1, .int .i64 x.f1.f2, .int .i64 x.f1.f3, .int .i64 x.f2, .slice A6 x.f3.length c6] := fun W2 hW => k26_mk W2 x l6 (g6 W2 hW)
def rd_T26 (xs : List S26) (i : Int) : S26 := xs.getD i.toNat z26
theorem at_T26 {w : World} {A : Option Addr} {n : Nat} {xs : List S26} (h : Kd.C k26 w A n xs) (i : Int) (h0 : 0 ≤ i) (h1 : i < n) : ∃ ad A6 c6, A = some ad ∧ w.cell? (ad.add (i.toNat * 7)) = some (.int .u8 (rd_T26 xs i).f0) ∧ w.cell? ⟨(ad.add (i.toNat * 7)).block, (ad.add (i.toNat * 7)).off + 1, none⟩ = some (.int .i64 (rd_T26 xs i).f1.f0) ∧ w.cell? ⟨(ad.add (i.toNat * 7)).block, (ad.add (i.toNat * 7)).off + 2, none⟩ = some (.int .i64 (rd_T26 xs i).f1.f1) ∧ w.cell? ⟨(ad.add (i.toNat * 7)).block, (ad.add (i.toNat * 7)).off + 3, none⟩ = some (.int .i64 (rd_T26 xs i).f1.f2) ∧ w.cell? ⟨(ad.add (i.toNat * 7)).block, (ad.add (i.toNat * 7)).off + 4, none⟩ = some (.int .i64 (rd_T26 xs i).f1.f3) ∧ w.cell? ⟨(ad.add (i.toNat * 7)).block, (ad.add (i.toNat * 7)).off + 5, none⟩ = some (.int .i64 (rd_T26 xs i).f2) ∧ w.cell? ⟨(ad.add (i.toNat * 7)).block, (ad.add (i.toNat * 7)).off + 6, none⟩ = some (.slice A6 (rd_T26 xs i).f3.length c6) ∧ (rd_T26 xs i).f3.length ≤ c6 ∧ k26.C w A6 (rd_T26 xs i).f3.length (rd_T26 xs i).f3 := by
  obtain ⟨ad, c, e, _, hK, hc0⟩ := Kd.C_get h z26 i h0 h1
  have hc : ∀ j u, c[j]? = some u → w.cell? (ad.add (i.toNat * 7 + j)) = some u := hc0
  obtain ⟨A6, c6, rfl, l6, g6⟩ := k26_open hK
  exact ⟨ad, A6, c6, e, hc 0 _ rfl, by rw [← add_field _ _ 1 (by omega)]; exact hc 1 _ rfl, by rw [← add_field _ _ 2 (by omega)]; exact hc 2 _ rfl, by rw [← add_field _ _ 3 (by omega)]; exact hc 3 _ rfl, by rw [← add_field _ _ 4 (by omega)]; exact hc 4 _ rfl, by rw [← add_field _ _ 5 (by omega)]; exact hc 5 _ rfl, by rw [← add_field _ _ 6 (by omega)]; exact hc 6 _ rfl, l6, g6⟩

/-! #### struct type 35 -/
structure S35 where
  f0 : Int
  f1 : S23
def z35 : S35 := ⟨(0 : Int), z23⟩
def k35 : Kd S35 := Kd.iso (Kd.pair (Kd.int .i64) k23) (fun x : S35 => (x.f0, x.f1))
def rd_T35 (xs : List S35) (i : Int) : S35 := xs.getD i.toNat z35
def rd_L5 (xs : List (List S35)) (i : Int) : (List S35) := xs.getD i.toNat ([] : List S35)
def rd_L6 (xs : List (List Int)) (i : Int) : (List Int) := xs.getD i.toNat ([] : List Int)
def rd_L8 (xs : List (List S23)) (i : Int) : (List S23) := xs.getD i.toNat ([] : List S23)
def rd_L9 (xs : List (List S26)) (i : Int) : (List S26) := xs.getD i.toNat ([] : List S26)
def rd_L10 (xs : List (List Int)) (i : Int) : (List Int) := xs.getD i.toNat ([] : List Int)
end Go.Proofs.Ytfdmfgaiblfbhaa.P
/- A store into a block of one's own, as an event: the world behind it is a letter. -/
namespace Go.Proofs.Ytfdmfgaiblfbhaa.P
open Go.RowKit Go.Proofs.YtfdmfgaiblfbhaaW.PrintWords Go.Proofs.YtfdmfgaiblfbhaaW.PrintLast Go.Proofs.YtfdmfgaiblfbhaaW.PrintMore
section
variable {P : Program} {ops : Array Oper} {rest : List Oper} {o : Oper} {a : Act} {Q : Exit → Act → World → Prop}
theorem grown_below {w0 W w1 : World} {g base : Nat} (HB : Below base w0 W) (hg : W.grownBy w1 (some g)) (hbg : base ≤ g) (hs : base ≤ W.heap.size) : Below base w0 w1 := HB.trans ⟨hg.os, hg.tape, hg.output, hg.size, fun k hk => hg.block k (by omega) (fun he => by injection he with he; omega)⟩
/-- What a store into block g leaves. -/
theorem box_cells {W : World} {g j : Nat} {cs cs' : Array Value} {t0 : TypeId} {seg : List Value} (hb : W.heap[g]? = some (.cells cs t0 (0, 0))) (hj : j + seg.length ≤ cs.size) (he : cs.toList.take j ++ seg ++ cs.toList.drop (j + seg.length) = cs'.toList) :
    (W.setCells g j seg).heap[g]? = some (.cells cs' t0 (0, 0)) ∧ W.grownBy (W.setCells g j seg) (some g) := by
  obtain ⟨cur', h3, h4, h5⟩ := setCells_row seg j W cs hb hj
  obtain ⟨s1, s2, s3, s4⟩ := setCells_same g seg j W
  have hc : cur' = cs' := Array.toList_inj.1 (h5.trans he)
  subst hc
  exact ⟨h3, ⟨s1, s2, s3, by rw [s4]; exact Nat.le_refl _, fun k _ hk => setCells_far seg _ k (fun e => hk (by rw [e]))⟩⟩
theorem box_store {W w0 : World} (hN : o.dst = none) (hgd : o.guard = none) (t : TypeId) (p x : Operand) (ho : o.op = .store t p x) {g j base : Nat} {cs : Array Value} (cs' : Array Value) {t0 : TypeId} {u : Value} {seg : List Value}
    (haddr : a.eval p = .pointer (some ⟨g, j, none⟩)) (hx : a.eval x = u) (hu : u.cells.toList = seg) (ht : (P.info? t).map (·.size) = some seg.length) (h1 : ∀ q ∈ seg, q.oneCell' = true)
    (hb : W.heap[g]? = some (.cells cs t0 (0, 0))) (hj : j + seg.length ≤ cs.size) (he : cs.toList.take j ++ seg ++ cs.toList.drop (j + seg.length) = cs'.toList) (HB : Below base w0 W) (hbs : base ≤ W.heap.size) (hbg : base ≤ g)
    (h : ∀ w1, w1.heap[g]? = some (.cells cs' t0 (0, 0)) → Below base w0 w1 → W.grownBy w1 (some g) → wpList P ops Q rest a w1) : wpList P ops Q (o :: rest) a W := by
  obtain ⟨h2, h3⟩ := box_cells hb hj he
  refine wpList_plain hgd fun K hK => ?_
  have hrun := run_store_run (P := P) t u seg hb hu ht hj h1
  unfold Oper.wp execOp
  simp only [ho, haddr, hx, Sem.run_bind, Sem.run_pure, Result.andThen_ok, hrun]
  show K (a.put o.dst undef) _
  rw [hN]
  exact hK a _ (h _ h2 (grown_below HB h3 hbg hbs) h3)
theorem store_exec {W : World} (t : TypeId) (p x : Operand) (ho : o.op = .store t p x) {g j : Nat} {cs : Array Value} {t0 : TypeId} {u : Value} {seg : List Value}
    (haddr : a.eval p = .pointer (some ⟨g, j, none⟩)) (hx : a.eval x = u) (hu : u.cells.toList = seg) (ht : (P.info? t).map (·.size) = some seg.length) (h1 : ∀ q ∈ seg, q.oneCell' = true)
    (hb : W.heap[g]? = some (.cells cs t0 (0, 0))) (hj : j + seg.length ≤ cs.size) : (execOp a.eval o).run P W = .ok .skip (W.setCells g j seg) := by
  have hrun := run_store_run (P := P) t u seg hb hu ht hj h1
  unfold execOp
  simp only [ho, haddr, hx, Sem.run_bind, Sem.run_pure, Result.andThen_ok, hrun]
end
/-- A row of the call's own, told of two blocks that stood. -/
theorem N_fresh2 {α : Type} {d : Kd α} {e base b c : Nat} {P : Nat → Prop} {W w1 : World} {v : Value} {xs : List α} (h : Kd.N d e w1 W.heap.size (fun k => ((P k ∧ k ≠ b) ∧ k ≠ c) ∨ W.heap.size ≤ k) v xs) (hb : b < W.heap.size) (hc : c < W.heap.size) (hs : base ≤ W.heap.size) :
    Kd.N d e w1 base (fun k => ((P k ∨ base ≤ k) ∧ k ≠ b) ∧ k ≠ c) v xs :=
  Kd.N_lower (Kd.N_mono h (fun k hk => hk.elim (fun q => ⟨⟨.inl q.1.1, q.1.2⟩, q.2⟩) (fun q => ⟨⟨.inr (by omega), by omega⟩, by omega⟩))) hs
end Go.Proofs.Ytfdmfgaiblfbhaa.P
/- The state of a walk over trees: the call's own boxes, a row of its own, trees that it sees, cells that it reads: one fact, turned at each event. -/
namespace Go.Proofs.Ytfdmfgaiblfbhaa.P
open Go.RowKit Go.Proofs.YtfdmfgaiblfbhaaW.PrintWords Go.Proofs.YtfdmfgaiblfbhaaW.PrintLast Go.Proofs.YtfdmfgaiblfbhaaW.PrintMore
def keys (bs : List (Nat × Obj)) (ow : List (Value × List S26)) : List Nat := bs.map (·.1) ++ ow.flatMap (fun r => r.1.ownBlock.toList)
def Ok (w : World) (P : Nat → Prop) (ks : List Nat) (k : Nat) : Prop := (P k ∨ w.heap.size ≤ k) ∧ k ∉ ks
structure St (w : World) (P : Nat → Prop) (bs : List (Nat × Obj)) (ow : List (Value × List S26)) (ts : List (Value × List S26)) (ro : List (Addr × Value)) (W : World) : Prop where
  below : Below w.heap.size w W
  blk : ∀ p, p ∈ bs → W.heap[p.1]? = some p.2
  new : ∀ k, k ∈ keys bs ow → w.heap.size ≤ k ∧ k < W.heap.size
  nd : (keys bs ow).Nodup
  tree : ∀ t, t ∈ ts → Kd.V k26 26 W 0 (Ok w P (keys bs ow)) t.1 t.2
  own : ∀ r, r ∈ ow → Kd.N k26 26 W w.heap.size (fun k => Ok w P (keys bs ow) k ∨ r.1.ownBlock = some k) r.1 r.2
  cell : ∀ c, c ∈ ro → W.cell? c.1 = some c.2 ∧ c.1.block ∉ keys bs ow
section
variable {w : World} {P : Nat → Prop} {bs : List (Nat × Obj)} {ow : List (Value × List S26)} {ts : List (Value × List S26)} {ro : List (Addr × Value)} {W W1 : World} {g b0 cap : Nat} {o o' : Obj} {v : Value} {l : List S26}
theorem V_any {α : Type} {d : Kd α} {e base base' : Nat} {ok : Nat → Prop} {W : World} {v : Value} {xs : List α} (h : Kd.V d e W base ok v xs) : Kd.V d e W base' ok v xs := Kd.V_map h (fun _ hf => hf)
theorem St.start (h : ∀ t, t ∈ ts → Kd.V k26 26 w b0 P t.1 t.2) : St w P [] [] ts [] w where
  below := Below.refl _ _
  blk := fun _ h => by cases h
  new := fun _ h => by cases h
  nd := List.nodup_nil
  tree := fun t ht => V_any (Kd.V_mono (h t ht) (fun k hk => ⟨.inl hk, by simp [keys]⟩))
  own := fun _ h => by cases h
  cell := fun _ h => by cases h
theorem St.addcell (S : St w P [] [] ts ro W) {a : Addr} {u : Value} (h : W.cell? a = some u) : St w P [] [] ts ((a, u) :: ro) W :=
  ⟨S.below, S.blk, S.new, S.nd, S.tree, S.own, fun c hc => by
    rcases List.mem_cons.1 hc with rfl | hc
    · exact ⟨h, by simp [keys]⟩
    · exact S.cell c hc⟩
theorem St.lt (S : St w P bs ow ts ro W) {k : Nat} (h : k ∈ keys bs ow) : k < W.heap.size := (S.new k h).2
theorem St.box (S : St w P bs ow ts ro W) (hg : g = W.heap.size) (hbox : W1.heap[g]? = some o) (hb : Below W.heap.size W W1) : St w P ((g, o) :: bs) ow ts ro W1 where
  below := below_step S.below hb
  blk := fun p hp => by
    rcases List.mem_cons.1 hp with rfl | hp
    · exact hbox
    · exact blk_below (S.blk p hp) hb
  new := fun k hk => by
    rcases List.mem_cons.1 (show k ∈ g :: keys bs ow from hk) with rfl | hk
    · exact ⟨by rw [hg]; exact S.below.size, blk_lt hbox⟩
    · exact ⟨(S.new k hk).1, Nat.lt_of_lt_of_le (S.new k hk).2 hb.size⟩
  nd := show (g :: keys bs ow).Nodup from List.nodup_cons.2 ⟨fun h => by have := (S.new g h).2; omega, S.nd⟩
  tree := fun t ht => Kd.V_mono (Kd.V_below (Kd.V_elderB (S.tree t ht) g (Nat.le_of_eq hg.symm)) hb) (fun k hk => ⟨hk.1.1, fun h => (List.mem_cons.1 (show k ∈ g :: keys bs ow from h)).elim hk.2 hk.1.2⟩)
  own := fun r hr => Kd.N_mono (Kd.N_below (Kd.N_elderB (S.own r hr) g (Nat.le_of_eq hg.symm)) hb) (fun k hk => hk.1.elim (fun h1 => .inl ⟨h1.1, fun h => (List.mem_cons.1 (show k ∈ g :: keys bs ow from h)).elim hk.2 h1.2⟩) .inr)
  cell := fun c hc => ⟨(hb.cell (World.block_lt_of_cell? W _ (S.cell c hc).1)).trans (S.cell c hc).1, fun h => (List.mem_cons.1 (show c.1.block ∈ g :: keys bs ow from h)).elim (fun he => by have := World.block_lt_of_cell? W _ (S.cell c hc).1; omega) (S.cell c hc).2⟩
theorem St.call (S : St w P bs ow ts ro W) (hb : Below W.heap.size W W1) : St w P bs ow ts ro W1 where
  below := below_step S.below hb
  blk := fun p hp => blk_below (S.blk p hp) hb
  new := fun k hk => ⟨(S.new k hk).1, Nat.lt_of_lt_of_le (S.new k hk).2 hb.size⟩
  nd := S.nd
  tree := fun t ht => Kd.V_below (S.tree t ht) hb
  own := fun r hr => Kd.N_below (S.own r hr) hb
  cell := fun c hc => ⟨(hb.cell (World.block_lt_of_cell? W _ (S.cell c hc).1)).trans (S.cell c hc).1, (S.cell c hc).2⟩
theorem St.add (S : St w P bs ow ts ro W) (h : Kd.V k26 26 W b0 (Ok w P (keys bs ow)) v l) : St w P bs ow ((v, l) :: ts) ro W :=
  ⟨S.below, S.blk, S.new, S.nd, fun t ht => by
    rcases List.mem_cons.1 ht with rfl | ht
    · exact V_any h
    · exact S.tree t ht, S.own, S.cell⟩
theorem St.res (S : St w P bs ow ts ro W) (h : Kd.V k26 26 W1 b0 (fun k => Ok w P (keys bs ow) k ∨ W.heap.size ≤ k) v l) (hb : Below W.heap.size W W1) : St w P bs ow ((v, l) :: ts) ro W1 :=
  (S.call hb).add (Kd.V_mono h (fun k hk => hk.elim id (fun h1 => ⟨.inr (Nat.le_trans S.below.size h1), fun h2 => by have := S.lt h2; omega⟩)))
theorem keys_one {k : Nat} : k ∈ keys bs [(v, l)] ↔ k ∈ keys bs [] ∨ v.ownBlock = some k := by
  simp only [keys, List.flatMap_cons, List.flatMap_nil, List.append_nil, List.mem_append, Option.mem_toList]
theorem St.resN (S : St w P bs [] ts ro W) (h : Kd.N k26 26 W1 W.heap.size (fun k => Ok w P (keys bs []) k ∨ W.heap.size ≤ k) v l) (hb : Below W.heap.size W W1) : St w P bs [(v, l)] ts ro W1 := by
  have hgb : ∀ g, v.ownBlock = some g → W.heap.size ≤ g := Kd.N_base h
  have hgl : ∀ g, v.ownBlock = some g → g < W1.heap.size := Kd.N_lt h
  have hlt : ∀ k, k < W.heap.size → v.ownBlock ≠ some k := fun k hk e => by have := hgb k e; omega
  refine ⟨below_step S.below hb, fun p hp => blk_below (S.blk p hp) hb, fun k hk => ?_, ?_, fun t ht => ?_, fun r hr => ?_, fun c hc => ?_⟩
  · rcases keys_one.1 hk with h1 | h1
    · exact ⟨(S.new k h1).1, Nat.lt_of_lt_of_le (S.new k h1).2 hb.size⟩
    · exact ⟨Nat.le_trans S.below.size (hgb k h1), hgl k h1⟩
  · have h1 := S.nd
    simp only [keys, List.flatMap_nil, List.append_nil] at h1
    simp only [keys, List.flatMap_cons, List.flatMap_nil, List.append_nil]
    refine List.nodup_append.2 ⟨h1, by cases v.ownBlock <;> simp, fun a ha b hb2 => ?_⟩
    rintro rfl
    exact hlt a (S.lt (by simpa [keys] using ha)) (by simpa using hb2)
  · exact Kd.V_mono (Kd.V_below (Kd.V_bound (S.tree t ht)) hb) (fun k hk => ⟨hk.1.1, fun h2 => (keys_one.1 h2).elim hk.1.2 (hlt k hk.2)⟩)
  · rw [List.mem_singleton] at hr
    subst hr
    refine Kd.N_lower (Kd.N_mono h (fun k hk => ?_)) S.below.size
    by_cases hkg : v.ownBlock = some k
    · exact .inr hkg
    · refine .inl ?_
      rcases hk with h1 | h1
      · exact ⟨h1.1, fun h2 => (keys_one.1 h2).elim h1.2 hkg⟩
      · exact ⟨.inr (Nat.le_trans S.below.size h1), fun h2 => (keys_one.1 h2).elim (fun h3 => by have := S.lt h3; omega) hkg⟩
  · exact ⟨(hb.cell (World.block_lt_of_cell? W _ (S.cell c hc).1)).trans (S.cell c hc).1, fun h2 => (keys_one.1 h2).elim (S.cell c hc).2 (hlt _ (World.block_lt_of_cell? W _ (S.cell c hc).1))⟩
theorem cell_off {W W1 : World} {g : Nat} (hg : W.grownBy W1 (some g)) {a : Addr} {u : Value} (h : W.cell? a = some u) (hn : a.block ≠ g) : W1.cell? a = some u := cell_grown hg h (fun e => hn (Option.some.inj e))
theorem keys_set {i : Nat} : ∀ {bs : List (Nat × Obj)} (ow : List (Value × List S26)) (_ : bs[i]? = some (g, o)), keys (bs.set i (g, o')) ow = keys bs ow := by
  induction i with
  | zero => intro bs ow h; cases bs with
    | nil => simp at h
    | cons b bs => simp at h; subst h; rfl
  | succ i ih => intro bs ow h; cases bs with
    | nil => simp at h
    | cons b bs =>
      have := ih (bs := bs) ow (by simpa using h)
      simp only [keys, List.set_cons_succ, List.map_cons, List.cons_append] at this ⊢
      rw [this]
theorem nd_ne {i j : Nat} {bs : List (Nat × Obj)} (h : (keys bs ow).Nodup) {p q : Nat × Obj} (hi : bs[i]? = some p) (hj : bs[j]? = some q) (hij : i ≠ j) : p.1 ≠ q.1 := by
  have h1 : (bs.map (·.1)).Nodup := (List.nodup_append.1 h).1
  intro he
  obtain ⟨li, ei⟩ := List.getElem?_eq_some_iff.1 hi
  obtain ⟨lj, ej⟩ := List.getElem?_eq_some_iff.1 hj
  have := (List.getElem_inj (h₀ := by simpa using li) (h₁ := by simpa using lj) h1).1 (by rw [List.getElem_map, List.getElem_map, ei, ej]; exact he)
  exact hij this
theorem St.put (S : St w P bs ow ts ro W) (i : Nat) (hi : bs[i]? = some (g, o)) (hbk : W1.heap[g]? = some o') (hb : Below w.heap.size w W1) (hg : W.grownBy W1 (some g)) : St w P (bs.set i (g, o')) ow ts ro W1 := by
  have hk := keys_set (o' := o') ow hi
  have hm : g ∈ keys bs ow := by
    have := List.mem_of_getElem? hi
    simp only [keys, List.mem_append, List.mem_map]
    exact .inl ⟨_, this, rfl⟩
  refine ⟨hb, fun p hp => ?_, by rw [hk]; exact fun k h => ⟨(S.new k h).1, Nat.lt_of_lt_of_le (S.new k h).2 hg.size⟩, by rw [hk]; exact S.nd, fun t ht => ?_, fun r hr => ?_, fun c hc => ?_⟩
  · obtain ⟨j, hj⟩ := List.mem_iff_getElem?.1 hp
    rw [List.getElem?_set] at hj
    by_cases hij : i = j
    · subst hij
      rw [if_pos rfl] at hj
      split at hj
      · injection hj with e; subst e; exact hbk
      · cases hj
    · rw [if_neg hij] at hj
      exact blk_grown (S.blk p (List.mem_of_getElem? hj)) hg (fun e => nd_ne S.nd hi hj hij (Option.some.inj e).symm)
  · rw [hk]; exact Kd.V_grown (S.tree t ht) hg (fun k h e => h.2 (by rw [Option.some.inj e]; exact hm))
  · rw [hk]
    have hrg : r.1.ownBlock ≠ some g := fun e => (List.nodup_append.1 S.nd).2.2 g (by have := List.mem_of_getElem? hi; simp only [List.mem_map]; exact ⟨_, this, rfl⟩) g (List.mem_flatMap.2 ⟨r, hr, by simp [e]⟩) rfl
    exact Kd.N_grown (S.own r hr) hg (fun k h e => h.elim (fun h1 => h1.2 (by rw [Option.some.inj e]; exact hm)) (fun h1 => hrg (by rw [h1]; exact e)))
  · rw [hk]; exact ⟨cell_off hg (S.cell c hc).1 (fun e => (S.cell c hc).2 (by rw [e]; exact hm)), (S.cell c hc).2⟩
/-- The cells of a tree in a row, at its place. -/
def cellsT (x : S26) (A : Option Addr) (c : Nat) : List Value := [.int .u8 x.f0, .int .i64 x.f1.f0, .int .i64 x.f1.f1, .int .i64 x.f1.f2, .int .i64 x.f1.f3, .int .i64 x.f2, .slice A x.f3.length c]
theorem St.seg {n : Nat} (S : St w P bs [(.slice (some ⟨g, 0, none⟩) n cap, l)] ts ro W) (i : Int) (h0 : 0 ≤ i) (h1 : i < l.length) (x : S26) {A : Option Addr} {c : Nat} (hm : (.slice A x.f3.length c, x.f3) ∈ ts) (hW : W1 = W.setCells g (i.toNat * 7 + 0) (cellsT x A c)) :
    St w P bs [(.slice (some ⟨g, 0, none⟩) n cap, l.set i.toNat x)] ts ro W1 ∧ W.grownBy W1 (some g) := by
  have hN := S.own _ (List.mem_singleton.2 rfl)
  have hob : (Value.slice (some ⟨g, 0, none⟩) n cap).ownBlock = some g := by simp [Value.ownBlock]
  have hmem : g ∈ keys bs [(.slice (some ⟨g, 0, none⟩) n cap, l)] := keys_one.2 (.inr hob)
  have hn : n = l.length := (Kd.N_reads' hN).1
  obtain ⟨c0, hcl, hM, hcc, hfr⟩ := Kd.N_elem hN z26 i h0 (by rw [hn]; exact h1)
  obtain ⟨hl1, hl2, hF⟩ := Kd.V_at (S.tree _ hm)
  have hMk := k26_mkF W _ x hl2 hF
  have hseg := Kd.N_seg hN i h0 (by rw [hn]; exact h1) (seg := cellsT x A c) (j := 0) hcl hcc (show 0 + 7 ≤ 7 from by decide) (x' := x) (okp := Ok w P (keys bs [(.slice (some ⟨g, 0, none⟩) n cap, l)])) (by
    have e : c0.take 0 ++ cellsT x A c ++ c0.drop (0 + (cellsT x A c).length) = cellsT x A c := by
      rw [show (0 + (cellsT x A c).length) = c0.length by rw [hcl]; rfl, List.drop_length, List.take_zero, List.nil_append, List.append_nil]
    rw [e]; exact hMk) (fun k hk => ⟨.inl hk, fun e => hk.2 (by rw [e]; exact hmem)⟩)
  have hseg2 : Kd.N k26 26 W1 w.heap.size (fun k => Ok w P (keys bs [(.slice (some ⟨g, 0, none⟩) n cap, l)]) k ∨ (Value.slice (some ⟨g, 0, none⟩) n cap).ownBlock = some k) (.slice (some ⟨g, 0, none⟩) n cap) (l.set i.toNat x) ∧ W.grownBy W1 (some g) := by rw [hW]; exact hseg
  have hne : ∀ p, p ∈ bs → p.1 ≠ g := fun p hp e => (List.nodup_append.1 S.nd).2.2 p.1 (List.mem_map.2 ⟨p, hp, rfl⟩) g (by simp [hob]) e
  refine ⟨⟨grown_below S.below hseg2.2 (S.new g hmem).1 S.below.size, fun p hp => blk_grown (S.blk p hp) hseg2.2 (fun e => hne p hp (Option.some.inj e)), fun k h => ⟨(S.new k h).1, Nat.lt_of_lt_of_le (S.new k h).2 hseg2.2.size⟩, S.nd, fun t ht => ?_, fun r hr => ?_, fun c hc => ?_⟩, hseg2.2⟩
  · exact Kd.V_grown (S.tree t ht) hseg2.2 (fun k h e => h.2 (by rw [Option.some.inj e]; exact hmem))
  · rw [List.mem_singleton] at hr
    subst hr
    exact hseg2.1
  · exact ⟨cell_off hseg2.2 (S.cell c hc).1 (fun e => (S.cell c hc).2 (by rw [e]; exact hmem)), (S.cell c hc).2⟩
/-- The row of the call's own becomes a tree's row that it sees. -/
theorem St.free (S : St w P bs [(v, l)] ts ro W) : St w P bs [] ((v, l) :: ts) ro W := by
  have hk : ∀ k, k ∈ keys bs [] → k ∈ keys bs [(v, l)] := fun k h => keys_one.2 (.inl h)
  have hne : ∀ k, k ∈ keys bs [] → v.ownBlock ≠ some k := fun k h e => (List.nodup_append.1 S.nd).2.2 k (by simpa [keys] using h) k (by simp [e]) rfl
  refine ⟨S.below, S.blk, fun k h => S.new k (hk k h), ?_, fun t ht => ?_, fun _ h => (by cases h), fun c hc => ⟨(S.cell c hc).1, fun h => (S.cell c hc).2 (hk _ h)⟩⟩
  · simp only [keys, List.flatMap_nil, List.append_nil]; exact (List.nodup_append.1 S.nd).1
  · rcases List.mem_cons.1 ht with rfl | ht
    · exact Kd.V_mono (Kd.N_V (S.own _ (List.mem_singleton.2 rfl))) (fun k h => h.elim (fun h1 => ⟨h1.1, fun h2 => h1.2 (hk k h2)⟩) (fun h1 => ⟨.inr (S.new k (keys_one.2 (.inr h1))).1, fun h2 => hne k h2 h1⟩))
    · exact Kd.V_mono (S.tree t ht) (fun k h => ⟨h.1, fun h2 => h.2 (hk k h2)⟩)
/-- The row of the call's own, as a caller sees it. -/
theorem St.ownN (S : St w P bs [(v, l)] ts ro W) : Kd.N k26 26 W w.heap.size (fun k => P k ∨ w.heap.size ≤ k) v l :=
  Kd.N_mono (S.own _ (List.mem_singleton.2 rfl)) (fun k h => h.elim (fun h1 => h1.1) (fun h1 => .inr (S.new k (keys_one.2 (.inr h1))).1))
theorem St.outV (S : St w P bs ow ts ro W) (hm : (v, l) ∈ ts) : Kd.V k26 26 W b0 (fun k => P k ∨ w.heap.size ≤ k) v l := V_any (Kd.V_mono (S.tree _ hm) (fun _ h => h.1))
theorem St.at (S : St w P bs ow ts ro W) {cs : Array Value} {t : TypeId} (hm : (g, .cells cs t (0, 0)) ∈ bs) (j : Nat) : W.cell? ⟨g, j, none⟩ = cs[j]? := blk_cell (S.blk _ hm) j
/-- A tree of a row that is seen: its cells, and its own row as one more tree. -/
theorem St.elem (S : St w P bs ow ts ro W) {A : Option Addr} {n c : Nat} (hm : (.slice A n c, l) ∈ ts) (i : Int) (h0 : 0 ≤ i) (h1 : i < l.length) :
    ∃ ad ua uc, A = some ad ∧ St w P bs ow ((.slice ua (rd_T26 l i).f3.length uc, (rd_T26 l i).f3) :: ts) ((ad.add (i.toNat * 7), .int .u8 (rd_T26 l i).f0) :: (⟨(ad.add (i.toNat * 7)).block, (ad.add (i.toNat * 7)).off + 1, none⟩, .int .i64 (rd_T26 l i).f1.f0) :: (⟨(ad.add (i.toNat * 7)).block, (ad.add (i.toNat * 7)).off + 2, none⟩, .int .i64 (rd_T26 l i).f1.f1) :: (⟨(ad.add (i.toNat * 7)).block, (ad.add (i.toNat * 7)).off + 3, none⟩, .int .i64 (rd_T26 l i).f1.f2) :: (⟨(ad.add (i.toNat * 7)).block, (ad.add (i.toNat * 7)).off + 4, none⟩, .int .i64 (rd_T26 l i).f1.f3) :: (⟨(ad.add (i.toNat * 7)).block, (ad.add (i.toNat * 7)).off + 5, none⟩, .int .i64 (rd_T26 l i).f2) :: (⟨(ad.add (i.toNat * 7)).block, (ad.add (i.toNat * 7)).off + 6, none⟩, .slice ua (rd_T26 l i).f3.length uc) :: ro) W := by
  have hV := S.tree _ hm
  obtain ⟨hn, hl, hF⟩ := Kd.V_at hV
  obtain ⟨ad, ua, uc, ek, y0, y1, y2, y3, y4, y5, y6, hlu, hgu⟩ := at_T26 (Kd.F_now hF) i h0 h1
  subst ek
  obtain ⟨ad2, ce, e2, hcl, hFK, hcc, hok⟩ := Kd.F_get hF z26 i h0 h1
  injection e2 with e2
  subst e2
  obtain ⟨ub, ud, rfl, lub, fub⟩ := k26_openF hFK
  have e6 := hcc 6 _ rfl
  rw [show k26.sz = 7 from rfl, add_field _ _ 6 (by omega)] at e6
  have e7 := Option.some.inj (e6.symm.trans y6)
  injection e7 with ea en ec
  subst ea
  subst ec
  have hO := (hok (by decide)).2
  have hOa : (ad.add (i.toNat * 7)).block ∉ keys bs ow := by rw [add_block]; exact hO
  refine ⟨ad, ub, ud, rfl, (S.add (Kd.V_mk (base := 0) lub fub)).below, S.blk, S.new, S.nd, (S.add (Kd.V_mk (base := 0) lub fub)).tree, S.own, ?_⟩
  intro c hc
  rcases List.mem_cons.1 hc with rfl | hc
  · exact ⟨y0, hOa⟩
  rcases List.mem_cons.1 hc with rfl | hc
  · exact ⟨y1, hOa⟩
  rcases List.mem_cons.1 hc with rfl | hc
  · exact ⟨y2, hOa⟩
  rcases List.mem_cons.1 hc with rfl | hc
  · exact ⟨y3, hOa⟩
  rcases List.mem_cons.1 hc with rfl | hc
  · exact ⟨y4, hOa⟩
  rcases List.mem_cons.1 hc with rfl | hc
  · exact ⟨y5, hOa⟩
  rcases List.mem_cons.1 hc with rfl | hc
  · exact ⟨y6, hOa⟩
  exact S.cell c hc
end
section
variable {Pr : Program} {ops : Array Oper} {rest : List Oper} {op : Oper} {a : Act} {Q : Exit → Act → World → Prop} {w W : World} {P : Nat → Prop} {bs : List (Nat × Obj)} {ow : List (Value × List S26)} {ts : List (Value × List S26)} {ro : List (Addr × Value)}
/-- A box is laid. -/
theorem box_st {N : Tmp} (hd : op.dst = some N) (hgd : op.guard = none) (cs : Array Value) (t : TypeId) (S : St w P bs ow ts ro W)
    (hr : (execOp a.eval op).run Pr W = .ok (.value (.pointer (some ⟨W.heap.size, 0, none⟩))) (W.alloc (.cells cs t (0, 0))))
    (h : ∀ g w1, St w P ((g, .cells cs t (0, 0)) :: bs) ow ts ro w1 → wpList Pr ops Q rest (a.put op.dst (.pointer (some ⟨g, 0, none⟩))) w1) : wpList Pr ops Q (op :: rest) a W :=
  box_event hgd hd hr (fun g hg w1 hbox hb => h g w1 (S.box hg hbox hb))
/-- A store into a box. -/
theorem put_st (i : Nat) {g : Nat} {cs : Array Value} {t0 : TypeId} (hi : bs[i]? = some (g, .cells cs t0 (0, 0))) (t : TypeId) (p x : Operand) (ho : op.op = .store t p x) {j : Nat} (cs' : Array Value) {u : Value} {seg : List Value} (S : St w P bs ow ts ro W)
    (haddr : a.eval p = .pointer (some ⟨g, j, none⟩)) (hx : a.eval x = u) (hu : u.cells.toList = seg) (ht : (Pr.info? t).map (·.size) = some seg.length) (h1 : ∀ q ∈ seg, q.oneCell' = true) (hj : j + seg.length ≤ cs.size)
    (he : cs.toList.take j ++ seg ++ cs.toList.drop (j + seg.length) = cs'.toList) (hN : op.dst = none) (hgd : op.guard = none)
    (h : ∀ w1, St w P (bs.set i (g, .cells cs' t0 (0, 0))) ow ts ro w1 → wpList Pr ops Q rest a w1) : wpList Pr ops Q (op :: rest) a W := by
  have hm : g ∈ keys bs ow := by
    have := List.mem_of_getElem? hi
    simp only [keys, List.mem_append, List.mem_map]
    exact .inl ⟨_, this, rfl⟩
  exact box_store hN hgd t p x ho cs' haddr hx hu ht h1 (S.blk _ (List.mem_of_getElem? hi)) hj he S.below S.below.size (S.new g hm).1 (fun w1 h2 h3 h4 => h w1 (S.put i hi h2 h3 h4))
/-- A store into a box, in a region that draws. -/
theorem put_run (i : Nat) {g : Nat} {cs : Array Value} {t0 : TypeId} (hi : bs[i]? = some (g, .cells cs t0 (0, 0))) (t : TypeId) (p x : Operand) (ho : op.op = .store t p x) {j : Nat} (cs' : Array Value) {u : Value} {seg : List Value} (S : St w P bs ow ts ro W)
    (haddr : a.eval p = .pointer (some ⟨g, j, none⟩)) (hx : a.eval x = u) (hu : u.cells.toList = seg) (ht : (Pr.info? t).map (·.size) = some seg.length) (h1 : ∀ q ∈ seg, q.oneCell' = true) (hj : j + seg.length ≤ cs.size)
    (he : cs.toList.take j ++ seg ++ cs.toList.drop (j + seg.length) = cs'.toList) :
    (execOp a.eval op).run Pr W = .ok .skip (W.setCells g j seg) ∧ St w P (bs.set i (g, .cells cs' t0 (0, 0))) ow ts ro (W.setCells g j seg) := by
  have hm : g ∈ keys bs ow := by
    have := List.mem_of_getElem? hi
    simp only [keys, List.mem_append, List.mem_map]
    exact .inl ⟨_, this, rfl⟩
  have hb := S.blk _ (List.mem_of_getElem? hi)
  have hc := box_cells hb hj he
  exact ⟨store_exec t p x ho haddr hx hu ht h1 hb hj, S.put i hi hc.1 (grown_below S.below hc.2 (S.new g hm).1 S.below.size) hc.2⟩
/-- A tree is stored into the row of the call's own. -/
theorem seg_run {g n cap : Nat} {l : List S26} (i : Int) (x : S26) {A : Option Addr} {c : Nat} (p y : Operand) (ho : op.op = .store 26 p y) (S : St w P bs [(.slice (some ⟨g, 0, none⟩) n cap, l)] ts ro W) (h0 : 0 ≤ i) (h1 : i < l.length)
    (haddr : a.eval p = .pointer (some ⟨g, i.toNat * 7, none⟩)) (hx : a.eval y = .agg (cellsT x A c).toArray) (hsz : (Pr.info? 26).map (·.size) = some 7) (hm : (.slice A x.f3.length c, x.f3) ∈ ts) :
    ∃ w1, (execOp a.eval op).run Pr W = .ok .skip w1 ∧ St w P bs [(.slice (some ⟨g, 0, none⟩) n cap, l.set i.toNat x)] ts ro w1 := by
  obtain ⟨h2, h3⟩ := S.seg i h0 h1 x hm rfl
  obtain ⟨cells, hcells⟩ := Kd.N_typed (S.own _ (List.mem_singleton.2 rfl)) g (by simp [Value.ownBlock])
  have hN := S.own _ (List.mem_singleton.2 rfl)
  obtain ⟨c0, hcl, hM, hcc, hfr⟩ := Kd.N_elem hN z26 i h0 (by rw [(Kd.N_reads' hN).1]; exact h1)
  have hcl : c0.length = 7 := hcl
  have hlt : i.toNat * 7 + 7 ≤ cells.size := by
    have h4 := hcc 6 _ (List.getElem?_eq_getElem (by omega))
    have h5 := blk_cell hcells (i.toNat * 7 + 6)
    have h6 : W.cell? ⟨g, i.toNat * k26.sz + 6, none⟩ = W.cell? ⟨g, i.toNat * 7 + 6, none⟩ := rfl
    rw [h6, h5] at h4
    by_cases h7 : i.toNat * 7 + 6 < cells.size
    · omega
    · rw [Array.getElem?_eq_none (by omega)] at h4; cases h4
  refine ⟨_, ?_, h2⟩
  rw [show i.toNat * 7 + 0 = i.toNat * 7 from rfl]
  exact store_exec 26 p y ho haddr hx (by rfl) hsz (by simp [cellsT, Value.oneCell']) hcells (by simpa [cellsT] using hlt)
theorem put_eff {K : Act → World → Prop} (i : Nat) {g : Nat} {cs : Array Value} {t0 : TypeId} (hi : bs[i]? = some (g, .cells cs t0 (0, 0))) (t : TypeId) (p x : Operand) (ho : op.op = .store t p x) {j : Nat} (cs' : Array Value) {u : Value} {seg : List Value} (S : St w P bs ow ts ro W)
    (hw : Region.wanted op (yielded ops a.tmps) = true) (hN : op.dst = none)
    (haddr : a.eval p = .pointer (some ⟨g, j, none⟩)) (hx : a.eval x = u) (hu : u.cells.toList = seg) (ht : (Pr.info? t).map (·.size) = some seg.length) (h1 : ∀ q ∈ seg, q.oneCell' = true) (hj : j + seg.length ≤ cs.size)
    (he : cs.toList.take j ++ seg ++ cs.toList.drop (j + seg.length) = cs'.toList) (h : ∀ w1, St w P (bs.set i (g, .cells cs' t0 (0, 0))) ow ts ro w1 → K a w1) :
    if Region.wanted op (yielded ops a.tmps) = true then Oper.wp Pr op a W K Q else K (a.put none undef) W := by
  obtain ⟨h2, h3⟩ := put_run (a := a) (Pr := Pr) i hi t p x ho cs' S haddr hx hu ht h1 hj he
  exact skip_ hw hN h2 (h _ h3)
theorem seg_eff {K : Act → World → Prop} {g n cap : Nat} {l : List S26} (i : Int) (x : S26) {A : Option Addr} {c : Nat} (p y : Operand) (ho : op.op = .store 26 p y) (S : St w P bs [(.slice (some ⟨g, 0, none⟩) n cap, l)] ts ro W)
    (hw : Region.wanted op (yielded ops a.tmps) = true) (hN : op.dst = none) (h0 : 0 ≤ i) (h1 : i < l.length)
    (haddr : a.eval p = .pointer (some ⟨g, i.toNat * 7, none⟩)) (hx : a.eval y = .agg (cellsT x A c).toArray) (hsz : (Pr.info? 26).map (·.size) = some 7) (hm : (.slice A x.f3.length c, x.f3) ∈ ts) (h : ∀ w1, St w P bs [(.slice (some ⟨g, 0, none⟩) n cap, l.set i.toNat x)] ts ro w1 → K a w1) :
    if Region.wanted op (yielded ops a.tmps) = true then Oper.wp Pr op a W K Q else K (a.put none undef) W := by
  obtain ⟨w1, hr, S1⟩ := seg_run (a := a) (Pr := Pr) i x p y ho S h0 h1 haddr hx hsz hm
  exact skip_ hw hN hr (h _ S1)
theorem St.dropB {g : Nat} {o : Obj} (S : St w P ((g, o) :: bs) ow ts ro W) : St w P bs ow ts ro W where
  below := S.below
  blk := fun p hp => S.blk p (List.mem_cons_of_mem _ hp)
  new := fun k hk => S.new k (List.mem_cons_of_mem _ hk)
  nd := (List.nodup_cons.1 (show (g :: keys bs ow).Nodup from S.nd)).2
  tree := fun t ht => Kd.V_mono (S.tree t ht) (fun k h => ⟨h.1, fun h2 => h.2 (List.mem_cons_of_mem _ h2)⟩)
  own := fun r hr => Kd.N_mono (S.own r hr) (fun k h => h.elim (fun h1 => .inl ⟨h1.1, fun h2 => h1.2 (List.mem_cons_of_mem _ h2)⟩) .inr)
  cell := fun c hc => ⟨(S.cell c hc).1, fun h2 => (S.cell c hc).2 (List.mem_cons_of_mem _ h2)⟩
theorem St.dropT {t : Value × List S26} (S : St w P bs ow (t :: ts) ro W) : St w P bs ow ts ro W :=
  ⟨S.below, S.blk, S.new, S.nd, fun t ht => S.tree t (List.mem_cons_of_mem _ ht), S.own, S.cell⟩
theorem seg_st {g n cap : Nat} {l : List S26} (i : Int) (x : S26) {A : Option Addr} {c : Nat} (p y : Operand) (ho : op.op = .store 26 p y) (S : St w P bs [(.slice (some ⟨g, 0, none⟩) n cap, l)] ts ro W) (h0 : 0 ≤ i) (h1 : i < l.length)
    (haddr : a.eval p = .pointer (some ⟨g, i.toNat * 7, none⟩)) (hx : a.eval y = .agg (cellsT x A c).toArray) (hsz : (Pr.info? 26).map (·.size) = some 7) (hm : (.slice A x.f3.length c, x.f3) ∈ ts) (hN : op.dst = none) (hgd : op.guard = none)
    (h : ∀ w1, St w P bs [(.slice (some ⟨g, 0, none⟩) n cap, l.set i.toNat x)] ts ro w1 → wpList Pr ops Q rest a w1) : wpList Pr ops Q (op :: rest) a W := by
  obtain ⟨w1, hr, S1⟩ := seg_run (a := a) (Pr := Pr) i x p y ho S h0 h1 haddr hx hsz hm
  refine wpList_plain hgd fun K hK => ?_
  unfold Oper.wp
  rw [hr]
  show K (a.put op.dst undef) _
  rw [hN]
  exact hK a _ (h _ S1)
end
section
variable {Pr : Program} {ops : Array Oper} {rest : List Oper} {op : Oper} {a : Act} {Q : Exit → Act → World → Prop} {w W W1 : World} {P : Nat → Prop} {bs : List (Nat × Obj)} {ts : List (Value × List S26)} {ro : List (Addr × Value)} {v v1 : Value} {xs ys : List S26}
/-- The row of the call's own has grown, here or elsewhere. -/
theorem St.regrow (S : St w P bs [(v, xs)] ts ro W) (hb : Below w.heap.size w W1) (hg : W.grownBy W1 v.ownBlock) (hat : v1.ownBlock = v.ownBlock ∨ ∃ b, v1.ownBlock = some b ∧ W.heap.size ≤ b) (hN : Kd.N k26 26 W1 w.heap.size (Ok w P (keys bs [])) v1 ys) :
    St w P bs [(v1, ys)] ts ro W1 := by
  have hkeep : ∀ k, k ∉ keys bs [(v, xs)] → k < W.heap.size → k ∉ keys bs [(v1, ys)] := fun k h1 h2 h3 => by
    rcases keys_one.1 h3 with h4 | h4
    · exact h1 (keys_one.2 (.inl h4))
    · rcases hat with e | ⟨b, e, hle⟩
      · exact h1 (keys_one.2 (.inr (by rw [← e]; exact h4)))
      · rw [e] at h4; injection h4 with h4; omega
  have hin : ∀ k, k ∈ keys bs [] → k ∈ keys bs [(v, xs)] := fun k h => keys_one.2 (.inl h)
  have hnb : ∀ k, k ∈ keys bs [] → v1.ownBlock ≠ some k := fun k h e => (hN.1 k e).2 h
  refine ⟨hb, fun p hp => blk_grown (S.blk p hp) hg (fun e => (List.nodup_append.1 S.nd).2.2 p.1 (List.mem_map.2 ⟨p, hp, rfl⟩) p.1 (by simp [← e]) rfl), fun k hk => ?_, ?_, fun t ht => ?_, fun r hr => ?_, fun c hc => ?_⟩
  · rcases keys_one.1 hk with h1 | h1
    · exact ⟨(S.new k (hin k h1)).1, Nat.lt_of_lt_of_le (S.new k (hin k h1)).2 hg.size⟩
    · exact ⟨Kd.N_base hN k h1, Kd.N_lt hN k h1⟩
  · simp only [keys, List.flatMap_cons, List.flatMap_nil, List.append_nil]
    refine List.nodup_append.2 ⟨(List.nodup_append.1 S.nd).1, by cases v1.ownBlock <;> simp, fun q hq b hb2 => ?_⟩
    rintro rfl
    exact hnb q (by simpa [keys] using hq) (by simpa using hb2)
  · exact Kd.V_mono (Kd.V_grown (Kd.V_bound (S.tree t ht)) hg (fun k h e => h.1.2 (keys_one.2 (.inr e.symm)))) (fun k h => ⟨h.1.1, hkeep k h.1.2 h.2⟩)
  · rw [List.mem_singleton] at hr
    subst hr
    refine Kd.N_mono hN (fun k h => ?_)
    by_cases hk : v1.ownBlock = some k
    · exact .inr hk
    · exact .inl ⟨h.1, fun h2 => (keys_one.1 h2).elim h.2 hk⟩
  · exact ⟨cell_grown hg (S.cell c hc).1 (fun e => (S.cell c hc).2 (keys_one.2 (.inr e.symm))), hkeep _ (S.cell c hc).2 (World.block_lt_of_cell? W _ (S.cell c hc).1)⟩
theorem St.ownN0 (S : St w P bs [(v, xs)] ts ro W) : Kd.N k26 26 W w.heap.size (Ok w P (keys bs [])) v xs :=
  Kd.N_mono (S.own _ (List.mem_singleton.2 rfl)) (fun k h => h.elim (fun h1 => ⟨h1.1, fun h2 => h1.2 (keys_one.2 (.inl h2))⟩) (fun h1 => ⟨.inr (S.new k (keys_one.2 (.inr h1))).1, fun h2 => (List.nodup_append.1 S.nd).2.2 k (by simpa [keys] using h2) k (by simp [h1]) rfl⟩))
theorem grown_below0 {W W1 : World} (hg : W.grownBy W1 none) : Below W.heap.size W W1 := ⟨hg.os, hg.tape, hg.output, hg.size, fun k hk => hg.block k hk (by simp)⟩
/-- An empty row of the call's own is laid. -/
theorem lit_st {N : Tmp} (hd : op.dst = some N) (hgd : op.guard = none) (S : St w P bs [] ts ro W) (hrun : (execOp a.eval op).run Pr W = .ok (.value (.slice (some ⟨W.heap.size, 0, none⟩) 0 0)) (W.alloc (.cells #[] 26)))
    (h : ∀ A c w1, St w P bs [(.slice A 0 c, [])] ts ro w1 → wpList Pr ops Q rest (a.put op.dst (.slice A 0 c)) w1) : wpList Pr ops Q (op :: rest) a W :=
  Kd.N_lit k26 (w0 := W) W.heap.size 26 hgd hd (xs := []) (inner := []) (ok := fun k => Ok w P (keys bs []) k ∨ W.heap.size ≤ k) (okp := fun _ => False) hrun (Reps.none _ _) (fun _ h => h.elim) (.inr (Nat.le_refl _)) (Below.refl _ _) (Nat.le_refl _) (by simp) (fun v1 w1 hN _ hg _ => by
    obtain ⟨A, c, rfl⟩ := Kd.N_slice hN
    exact h A c w1 (S.resN hN (grown_below0 hg)))
/-- A whole row is appended to the one of the call's own. -/
theorem append_rows_st (t : TypeId) (s x : Operand) (hgd : op.guard = none) (ho : op.op = .call { callee := .builtin .append, args := #[s, x], argTypes := #[t, t] }) (ht : Pr.underlying t = some (.slice 26)) (hinfo : (Pr.info? 26).map (fun i => (i.zero, i.size, i.bytes)) = some (some (.agg #[(.int .u8 0), (.int .i64 0), (.int .i64 0), (.int .i64 0), (.int .i64 0), (.int .i64 0), (.slice none 0 0)]), 7, 72))
    (S : St w P bs [(v, xs)] ts ro W) {A : Option Addr} {m c : Nat} (hm : (.slice A m c, ys) ∈ ts) (hs : a.eval s = v) (hx : a.eval x = .slice A m c) (hl : xs.length + ys.length ≤ 1000000000)
    (h : ∀ A1 c1 w1, St w P bs [(.slice A1 (xs ++ ys).length c1, xs ++ ys)] ts ro w1 → wpList Pr ops Q rest (a.put op.dst (.slice A1 (xs ++ ys).length c1)) w1) : wpList Pr ops Q (op :: rest) a W := by
  have hV := S.tree _ hm
  have hmy : m = ys.length := (Kd.V_reads' hV).1
  exact Kd.N_append_rows k26 (w0 := w) w.heap.size hgd s x t 26 _ 72 ho ht hinfo rfl (by decide) (by omega) v xs ys A m c (Ok w P (keys bs [])) (Ok w P (keys bs [(v, xs)])) hs hx S.ownN0 (Kd.V_F hV)
    (fun k h => ⟨⟨h.1, fun h2 => h.2 (keys_one.2 (.inl h2))⟩, fun e => h.2 (keys_one.2 (.inr e.symm))⟩) (fun k h => ⟨.inr (Nat.le_trans S.below.size h), fun h2 => by have := S.lt ((keys_one (v := v) (l := xs)).2 (.inl h2)); omega⟩) S.below S.below.size (by omega)
    (fun v1 w1 hN hb hg hat => by
      obtain ⟨A1, c1, rfl⟩ := Kd.N_slice hN
      exact h A1 c1 w1 (S.regrow hb hg hat hN))
end
section
variable {Pr : Program} {ops : Array Oper} {md : Region.Mode} {Q : Exit → Act → World → Prop} {S : World → Prop} {ds : List Nat} {T : Bool × List (List Nat × List Nat)} {B : List Nat} {fuel : Nat} {l : Array Bool} {a a' : Act} {w : World} {v : Value} {oi : Oper}
/-- n marks, by a number's bits. -/
def bA (n m : Nat) : Array Bool := ((List.range n).map fun i => m.testBit i).toArray
/-- pure_, its side conditions filled in. -/
theorem pureS (i : Nat) (N : Tmp) (l' : Array Bool) (HT : Aside0 (rtab md ops = T)) (h : wpAnyLast Pr md ops Q S ds fuel l' a' w) (hi : ops[i]? = some oi := by rfl) (hN : oi.dst = some N := by rfl) (hc : anyT T l.toList l'.toList i = true := by kernel_rfl)
    (hQ : ∀ c a w, Q (.panic c) (a.put oi.dst v) w → Q (.panic c) a w := by exact fun _ _ _ h => h) (hw : Region.wanted oi (yielded ops a.tmps) = true := by rfl) (hv : ∀ w, (execOp a.eval oi).run Pr w = .ok (.value v) w := by intro w'; go_simp; with_reducible rfl)
    (ha : a.put (some N) v = a' := by simp only [Act.put, List.setIfInBounds_toArray, List.set_cons_zero, List.set_cons_succ, i64_w, i32_w]; rfl) : wpAnyLast Pr md ops Q S ds (fuel + 1) l a w :=
  pure_ l' hi hN (any_of HT.out hc) hQ (.inl ⟨hw, hv⟩) ha h
/-- take_, its side conditions filled in: what is read is told first. -/
theorem takeS (i : Nat) (N : Tmp) (l' : Array Bool) (HT : Aside0 (rtab md ops = T)) (HW : Aside0 (waitsOk T.2 B = true)) (hS : S w) (h : wpAnyLast Pr md ops Q S ds fuel l' a' w) (hi : ops[i]? = some oi := by rfl) (hN : oi.dst = some N := by rfl)
    (hc : takeW T B ds l.toList l'.toList i = true := by kernel_rfl) (hQ : ∀ c a w, Q (.panic c) (a.put oi.dst v) w → Q (.panic c) a w := by exact fun _ _ _ h => h) (hw : Region.wanted oi (yielded ops a.tmps) = true := by rfl) (hv : ∀ w, S w → (execOp a.eval oi).run Pr w = .ok (.value v) w)
    (ha : a.put (some N) v = a' := by simp only [Act.put, List.setIfInBounds_toArray, List.set_cons_zero, List.set_cons_succ, i64_w, i32_w]; rfl) : wpAnyLast Pr md ops Q S ds (fuel + 1) l a w :=
  take_ l' hi hN (take_ofW HT.out HW.out hc) hQ (.inl ⟨hw, hv⟩) hS ha h
end
end Go.Proofs.Ytfdmfgaiblfbhaa.P
/- The layout of slices.Insert at []int in this program, for the library's contract. -/
namespace Go.Proofs.Ytfdmfgaiblfbhaa.P
open Go.Shelf
def ren21 : Ren := ⟨fun f => match f with | 21 => 150 | 27 => 181 | 28 => 182 | 35 => 198 | 39 => 208 | n => n, fun t => match t with | 22 => 41 | n => n, fun g => g⟩
theorem lay21 : Lays2.n21 Try.prog ren21 where
  mixed := by kernel_rfl
  f21 := Try.func150
  f27 := Try.func181
  f28 := Try.func182
  f35 := Try.func198
  f39 := Try.func208
  t0 := Try.underlying0
  a0 := fun w => by kernel_rfl
  z0 := fun w => by kernel_rfl
  v0 := fun w => by kernel_rfl
  t3 := Try.underlying3
  a3 := fun w => by kernel_rfl
  z3 := fun w => by kernel_rfl
  v3 := fun w => by kernel_rfl
  t4 := Try.underlying4
  a4 := fun w => by kernel_rfl
  z4 := fun w => by kernel_rfl
  v4 := fun w => by kernel_rfl
  t22 := Try.underlying41
  a22 := fun w => by kernel_rfl
  z22 := fun w => by kernel_rfl
  v22 := fun w => by kernel_rfl
  i3 := by kernel_rfl
end Go.Proofs.Ytfdmfgaiblfbhaa.P
/- The contract of slices.Insert at []int, of one number ahead of a row of the call's own, by the library's own contract. Condition: at most 1000000 numbers. -/
namespace Go.Proofs.Ytfdmfgaiblfbhaa.P
open Go.RowKit Go.Shelf Go.Proofs.YtfdmfgaiblfbhaaW.PrintWords Go.Proofs.YtfdmfgaiblfbhaaW.PrintLast Go.Proofs.YtfdmfgaiblfbhaaW.PrintMore

theorem zc_size (n : Nat) : (Builtin.zeroCells (Value.int .i64 0).cells n).size = n := by simp [Builtin.zeroCells, Value.cells]
theorem drew_below {w w1 : World} {B : Nat} (h : Below B w.drew w1) : Below B w w1 := ⟨h.os, h.tape.trans rfl, h.output, h.size, h.block⟩
set_option maxHeartbeats 1000000 in
theorem ins150 (w : World) (base : Nat) (hbase : base ≤ w.heap.size) (v : Value) (xs : List Int) (x : Int) (vb vc : Nat) (hs : w.ownsRow base 3 1 v xs.length (encs (Value.int .i64) xs)) (hv : w.heap[vb]? = some (.cells #[.int .i64 x] 3 (0, 0))) (hne : v.ownBlock ≠ some vb) (hlen : xs.length ≤ 1000000) :
    Calls Try.prog 150 #[v, .int .i64 0, .slice (some ⟨vb, 0, none⟩) 1 vc] w fun e w' => ∃ v', e = .returned v' ∧ w'.ownsRow base 3 1 v' (x :: xs).length (encs (Value.int .i64) (x :: xs)) ∧ Below base w w' := by
  have hvs : ∀ j u, [Value.int .i64 x][j]? = some u → w.cell? ⟨vb, 0 + j, none⟩ = some u := by
    intro j u hj
    cases j with
    | zero => rw [blk_cell hv 0]; exact hj
    | succ j => simp at hj
  have h1v : ∀ u ∈ [Value.int .i64 x], u.oneCell' = true := by simp [Value.oneCell']
  have h1c : ∀ u ∈ encs (Value.int .i64) xs, u.oneCell' = true := by
    intro u hu
    obtain ⟨i, _, rfl⟩ := List.mem_map.1 hu
    rfl
  obtain ⟨hl, hcase⟩ := hs
  rcases hcase with ⟨rfl, h0⟩ | ⟨g, cap, cur, rfl, hbg, hh, hnc, hcm, hcs, htk⟩
  · obtain rfl : xs = [] := List.eq_nil_of_length_eq_zero h0
    refine (Any2.slices_Insert_int_end_grow lay21 none 0 0 vb 0 1 vc [] [.int .i64 x] w (by omega) (by omega) (by omega) (by omega) rfl rfl (fun _ => rfl) (fun a h => by cases h) hvs h1v).mono ?_
    rintro e w' ⟨rfl, rfl⟩
    have hg := grownCap_ge w (0 + 1) 0 3
    have hg2 := grownCap_le_maxLen w (0 + 1) 0 3 (by unfold maxLen; omega)
    refine ⟨_, rfl, ⟨rfl, .inr ⟨w.heap.size, _, _, rfl, hbase, heap_alloc_new w.drew _, hg, hg2, ?_, ?_⟩⟩, drew_below ((Below.refl base w.drew).alloc hbase _)⟩
    · rw [Array.size_append, zc_size]
      show 1 + (grownCap w (0 + 1) 0 3 - (0 + 1)) = grownCap w (0 + 1) 0 3 * 1
      omega
    · simp [encs]
  · have hcl : (encs (Value.int .i64) xs).length = xs.length := encs_length xs
    have hlt := blk_lt hh
    have hgv : vb ≠ g := fun e => hne (by rw [e]; rfl)
    have hcells : ∀ j u, (encs (Value.int .i64) xs)[j]? = some u → w.cell? ⟨g, 0 + j, none⟩ = some u := by
      intro j u hj
      rw [blk_cell hh, Nat.zero_add, ← Array.getElem?_toList]
      rw [← htk, Nat.mul_one, List.getElem?_take] at hj
      split at hj
      · exact hj
      · cases hj
    have hsp : ∀ j, j < cap → (w.cell? ⟨g, 0 + j, none⟩).isSome = true := by
      intro j hj
      rw [blk_cell hh, Nat.zero_add, Array.getElem?_eq_getElem (by omega)]
      rfl
    have hfz : ∀ j, w.frozen? ⟨g, 0 + j, none⟩ = false := fun j => blk_frozen hh _
    by_cases h0 : xs.length = 0
    · obtain rfl : xs = [] := List.eq_nil_of_length_eq_zero h0
      by_cases hr : 0 + 1 ≤ cap
      · refine (Any2.slices_Insert_int_end_room lay21 g 0 0 cap vb 0 1 vc [.int .i64 x] w (by omega) hr (by unfold maxLen at hcm; omega) rfl (fun j hj => by rw [Nat.add_assoc]; exact hsp (0 + j) (by omega)) (fun j _ => by rw [Nat.add_assoc]; exact hfz (0 + j)) hvs h1v).mono ?_
        rintro e w' ⟨rfl, rfl⟩
        obtain ⟨cur', h3, h4, h5⟩ := setCells_row [Value.int .i64 x] (0 + 0) w cur hh (by simp; omega)
        obtain ⟨_, hgr⟩ := box_cells hh (show (0 + 0) + [Value.int .i64 x].length ≤ cur.size by simp; omega) (cs' := cur') h5.symm
        refine ⟨_, rfl, ⟨rfl, .inr ⟨g, cap, cur', rfl, hbg, h3, hr, hcm, by rw [h4, hcs], ?_⟩⟩, grown_below (Below.refl base w) hgr hbg hbase⟩
        rw [h5]
        simp [encs]
      · refine (Any2.slices_Insert_int_end_grow lay21 (some ⟨g, 0, none⟩) 0 cap vb 0 1 vc [] [.int .i64 x] w (by omega) (by omega) (by omega) (by omega) rfl rfl (fun h => by cases h) (fun a h j u hj => by simp at hj) hvs h1v).mono ?_
        rintro e w' ⟨rfl, rfl⟩
        have hg := grownCap_ge w (0 + 1) cap 3
        have hg2 := grownCap_le_maxLen w (0 + 1) cap 3 (by unfold maxLen; omega)
        refine ⟨_, rfl, ⟨rfl, .inr ⟨w.heap.size, _, _, rfl, hbase, heap_alloc_new w.drew _, hg, hg2, ?_, ?_⟩⟩, drew_below ((Below.refl base w.drew).alloc hbase _)⟩
        · rw [Array.size_append, zc_size]
          show 1 + (grownCap w (0 + 1) cap 3 - (0 + 1)) = grownCap w (0 + 1) cap 3 * 1
          omega
        · simp [encs]
    · by_cases hr : xs.length + 1 ≤ cap
      · refine (Any2.slices_Insert_int_shift lay21 g 0 xs.length cap 0 vb 0 1 vc (encs (Value.int .i64) xs) [.int .i64 x] w (by omega) (by omega) hr (by unfold maxLen at hcm; omega) hgv hcl rfl hcells (fun j hj => hsp j (by omega)) (fun j _ => hfz j) hvs h1c h1v
          3 3 1 cap (by simp [World.shape?, hv]) (by simp [World.shape?, hh, hcs]) (by omega) (blk_frozen hv 0) (blk_frozen hv 1)).mono ?_
        rintro e w' ⟨rfl, rfl⟩
        have hh' : w.drew.heap[g]? = some (.cells cur 3 (0, 0)) := hh
        have e1 : 0 + (0 + 1) + ((encs (Value.int .i64) xs).drop 0).length ≤ cur.size := by rw [List.drop_zero, hcl]; omega
        obtain ⟨c1, h3, h4, h5⟩ := setCells_row ((encs (Value.int .i64) xs).drop 0) (0 + (0 + 1)) w.drew cur hh' e1
        obtain ⟨_, hgr1⟩ := box_cells hh' e1 (cs' := c1) h5.symm
        have e2 : (0 + 0) + [Value.int .i64 x].length ≤ c1.size := by simp; omega
        obtain ⟨c2, h6, h7, h8⟩ := setCells_row [Value.int .i64 x] (0 + 0) _ c1 h3 e2
        obtain ⟨_, hgr2⟩ := box_cells h3 e2 (cs' := c2) h8.symm
        refine ⟨_, rfl, ⟨by rw [encs_length, Nat.mul_one], .inr ⟨g, cap, c2, rfl, hbg, h6, hr, hcm, by rw [h7, h4, hcs], ?_⟩⟩, drew_below (grown_below (grown_below (Below.refl base w.drew) hgr1 hbg hbase) hgr2 hbg (Nat.le_trans hbase hgr1.size))⟩
        rw [h8, h5]
        have hc1 : cur.toList.length = cap := by rw [Array.length_toList]; omega
        simp only [List.drop_zero, Nat.zero_add, List.take_zero, List.nil_append, List.length_singleton, List.length_cons, List.length_nil]
        have ht : (cur.toList.take 1).length = 1 := by rw [List.length_take]; omega
        rw [List.append_assoc, List.drop_left' ht, Nat.mul_one]
        show (Value.int .i64 x :: (encs (Value.int .i64) xs ++ cur.toList.drop (1 + (encs (Value.int .i64) xs).length))).take (xs.length + 1) = encs (Value.int .i64) (x :: xs)
        rw [List.take_succ_cons, List.take_append_of_le_length (by omega), List.take_of_length_le (by omega)]
        rfl
      · refine (Any2.slices_Insert_int_grow lay21 g 0 xs.length cap 0 vb 0 1 vc (encs (Value.int .i64) xs) [.int .i64 x] w (by omega) (by omega) hnc (by omega) (by omega) hcl rfl hcells hvs h1c h1v).mono ?_
        rintro e w' ⟨rfl, rfl⟩
        have hg := grownCap_ge w (xs.length + 1) cap 3
        have hg2 := grownCap_le_maxLen w (xs.length + 1) cap 3 (by unfold maxLen; omega)
        have hh0 := heap_alloc_new w (.cells (((encs (Value.int .i64) xs).take 0).toArray ++ Builtin.zeroCells (Value.int .i64 0).cells (xs.length + 1 - 0) ++ Builtin.zeroCells (Value.int .i64 0).cells (grownCap w (xs.length + 1) cap (ren21.t 3) - (xs.length + 1))) (ren21.t 3))
        generalize hcur : ((((encs (Value.int .i64) xs).take 0).toArray ++ Builtin.zeroCells (Value.int .i64 0).cells (xs.length + 1 - 0) ++ Builtin.zeroCells (Value.int .i64 0).cells (grownCap w (xs.length + 1) cap (ren21.t 3) - (xs.length + 1)))) = cur0 at hh0 ⊢
        have hsz0 : cur0.size = grownCap w (xs.length + 1) cap 3 := by
          rw [← hcur, Array.size_append, Array.size_append, zc_size, zc_size]
          show 0 + (xs.length + 1 - 0) + (grownCap w (xs.length + 1) cap 3 - (xs.length + 1)) = _
          omega
        have hal : Below base w (w.alloc (.cells cur0 (ren21.t 3))) := (Below.refl base w).alloc hbase _
        generalize w.alloc (.cells cur0 (ren21.t 3)) = wa at hh0 hal ⊢
        have hh1 : wa.drew.heap[w.heap.size]? = some (.cells cur0 3 (0, 0)) := hh0
        have e1 : 0 + [Value.int .i64 x].length ≤ cur0.size := by rw [hsz0]; simp; omega
        obtain ⟨c1, h3, h4, h5⟩ := setCells_row [Value.int .i64 x] 0 wa.drew cur0 hh1 e1
        obtain ⟨_, hgr1⟩ := box_cells hh1 e1 (cs' := c1) h5.symm
        generalize wa.drew.setCells w.heap.size 0 [Value.int .i64 x] = wb at h3 hgr1 ⊢
        have hh2 : wb.drew.heap[w.heap.size]? = some (.cells c1 3 (0, 0)) := h3
        have e2 : (0 + 1) + ((encs (Value.int .i64) xs).drop 0).length ≤ c1.size := by rw [List.drop_zero, hcl, h4, hsz0]; omega
        obtain ⟨c2, h6, h7, h8⟩ := setCells_row ((encs (Value.int .i64) xs).drop 0) (0 + 1) wb.drew c1 hh2 e2
        obtain ⟨_, hgr2⟩ := box_cells hh2 e2 (cs' := c2) h8.symm
        have hB1 : Below base w wa.drew := below_drew1 hal
        have hB2 : Below base w wb := grown_below hB1 hgr1 hbase (Nat.le_trans hbase hB1.size)
        refine ⟨_, rfl, ⟨by rw [encs_length, Nat.mul_one], .inr ⟨w.heap.size, _, c2, rfl, hbase, h6, hg, hg2, by rw [h7, h4, hsz0]; exact (Nat.mul_one _).symm, ?_⟩⟩, grown_below (below_drew1 hB2) hgr2 hbase (Nat.le_trans hbase hB2.size)⟩
        rw [h8, h5]
        simp only [List.drop_zero, Nat.zero_add, List.take_zero, List.nil_append, List.length_singleton, List.length_cons]
        rw [List.singleton_append, List.take_succ_cons, List.take_zero, Nat.mul_one, List.append_assoc]
        show (Value.int .i64 x :: (encs (Value.int .i64) xs ++ _)).take (xs.length + 1) = encs (Value.int .i64) (x :: xs)
        rw [List.take_succ_cons, List.take_append_of_le_length (by omega), List.take_of_length_le (by omega)]
        rfl
end Go.Proofs.Ytfdmfgaiblfbhaa.P
/- A tree's cells and their number: plain data. -/
namespace Go.Proofs.Ytfdmfgaiblfbhaa.P
open Go.RowKit Go.Proofs.YtfdmfgaiblfbhaaW.PrintWords Go.Proofs.YtfdmfgaiblfbhaaW.PrintLast Go.Proofs.YtfdmfgaiblfbhaaW.PrintMore

mutual
def allC : S26 → List S26
  | ⟨a, b, d, l⟩ => ⟨a, b, d, l⟩ :: allL l
def allL : List S26 → List S26
  | [] => []
  | c :: cs => allC c ++ allL cs
end
theorem allC_eq (c : S26) : allC c = c :: allL c.f3 := by cases c; simp [allC]
theorem allL_nil : allL [] = [] := by simp [allL]
theorem allL_cons (c : S26) (cs : List S26) : allL (c :: cs) = allC c ++ allL cs := by simp [allL]
theorem allL_app (a b : List S26) : allL (a ++ b) = allL a ++ allL b := by
  induction a with
  | nil => simp [allL_nil]
  | cons x xs ih => rw [List.cons_append, allL_cons, allL_cons, ih, List.append_assoc]
def sz (c : S26) : Nat := (allC c).length
def szL (l : List S26) : Nat := (allL l).length
theorem sz_eq (c : S26) : sz c = 1 + szL c.f3 := by unfold sz szL; rw [allC_eq, List.length_cons]; omega
theorem szL_nil : szL [] = 0 := by unfold szL; rw [allL_nil]; rfl
theorem szL_cons (c : S26) (cs : List S26) : szL (c :: cs) = sz c + szL cs := by unfold szL sz; rw [allL_cons, List.length_append]
theorem szL_app (a b : List S26) : szL (a ++ b) = szL a + szL b := by unfold szL; rw [allL_app, List.length_append]
theorem szL_len (l : List S26) : l.length ≤ szL l := by
  induction l with
  | nil => simp
  | cons x xs ih => rw [szL_cons, List.length_cons, sz_eq]; omega
theorem eta26 (c : S26) : (⟨c.f0, ⟨c.f1.f0, c.f1.f1, c.f1.f2, c.f1.f3⟩, c.f2, c.f3⟩ : S26) = c := by cases c; rfl
theorem szL_sum (l : List S26) : szL l = (l.map sz).sum := by
  induction l with
  | nil => rw [szL_nil]; rfl
  | cons x xs ih => rw [szL_cons, List.map_cons, List.sum_cons, ih]
end Go.Proofs.Ytfdmfgaiblfbhaa.P
/- The contract of cell.Find: the path to the first leaf with a number. Condition: at most 1000000 cells. -/
namespace Go.Proofs.Ytfdmfgaiblfbhaa.P
open Go.RowKit Go.Proofs.YtfdmfgaiblfbhaaW.PrintWords Go.Proofs.YtfdmfgaiblfbhaaW.PrintLast Go.Proofs.YtfdmfgaiblfbhaaW.PrintMore
set_option linter.unusedVariables false
set_option linter.unusedSimpArgs false
section
variable {P : Program} {ops : Array Oper} {rest : List Oper} {o : Oper} {a : Act} {Q : Exit → Act → World → Prop}
theorem row_event {W : World} (hgd : o.guard = none) {N : Tmp} (_hd : o.dst = some N) {cs : Array Value} {t : TypeId} {n c : Nat}
    (hrun : (execOp a.eval o).run P W = .ok (.value (.slice (some ⟨W.heap.size, 0, none⟩) n c)) (W.alloc (.cells cs t (0, 0))))
    (h : ∀ g, g = W.heap.size → ∀ w1, w1.heap[g]? = some (.cells cs t (0, 0)) → Below W.heap.size W w1 → wpList P ops Q rest (a.put o.dst (.slice (some ⟨g, 0, none⟩) n c)) w1) : wpList P ops Q (o :: rest) a W :=
  Kd.event_run hgd hrun (h _ rfl _ (blk_new W _) (below_alloc (Below.refl _ _) _))
end
mutual
def findC (id : Int) : S26 → Option (List Int)
  | ⟨a, _, d, l⟩ => if a = 1 ∧ d = id then some [] else findL id 0 l
def findL (id : Int) : Nat → List S26 → Option (List Int)
  | _, [] => none
  | i, k :: ks => match findC id k with
    | some p => some ((i : Int) :: p)
    | none => findL id (i + 1) ks
end
theorem findC_eq (id : Int) (c : S26) : findC id c = if c.f0 = 1 ∧ c.f2 = id then some [] else findL id 0 c.f3 := by cases c; simp [findC]
theorem findL_nil (id : Int) (i : Nat) : findL id i [] = none := by simp [findL]
theorem findL_cons (id : Int) (i : Nat) (k : S26) (ks : List S26) : findL id i (k :: ks) = match findC id k with | some p => some ((i : Int) :: p) | none => findL id (i + 1) ks := by simp [findL]
theorem find_len (id : Int) : ∀ (N : Nat), (∀ c : S26, sz c ≤ N → ∀ p, findC id c = some p → p.length ≤ sz c) ∧ (∀ l : List S26, szL l ≤ N → ∀ i p, findL id i l = some p → p.length ≤ 1 + szL l) := by
  intro N
  induction N with
  | zero =>
    refine ⟨fun c h => ?_, fun l h => ?_⟩
    · rw [sz_eq] at h; omega
    · cases l with
      | nil => intro i p hp; rw [findL_nil] at hp; cases hp
      | cons z zs => rw [szL_cons, sz_eq] at h; omega
  | succ N ih =>
    have hC : ∀ c : S26, sz c ≤ N + 1 → ∀ p, findC id c = some p → p.length ≤ sz c := by
      intro c h p hp
      have hs := sz_eq c
      rw [findC_eq] at hp
      split at hp
      · injection hp with hp; subst hp; simp
      · have := ih.2 c.f3 (by omega) 0 p hp
        omega
    refine ⟨hC, fun l => ?_⟩
    induction l with
    | nil => intro _ i p hp; rw [findL_nil] at hp; cases hp
    | cons z zs ihl =>
      intro h i p hp
      rw [szL_cons] at h ⊢
      rw [findL_cons] at hp
      cases hz : findC id z with
      | some q =>
        rw [hz] at hp
        injection hp with hp
        have := hC z (by omega) q hz
        rw [← hp, List.length_cons]
        omega
      | none =>
        rw [hz] at hp
        have := ihl (by omega) (i + 1) p hp
        omega
/-- What it answers. -/
def FindP (w : World) (r : Option (List Int)) (e : Ending) (w' : World) : Prop := ∃ v : Value, e = .returned (.tuple #[v, .bool r.isSome]) ∧ (Kd.int .i64).R 3 w' w.heap.size (fun _ => True) v (r.getD []) ∧ Below w.heap.size w w'
set_option maxHeartbeats 4000000 in
set_option maxRecDepth 100000 in
theorem find89 (id : Int) : ∀ (N : Nat) (c : S26), sz c ≤ N → N ≤ 1000000 → ∀ (A : Option Addr) (cc : Nat) (w : World), Kd.C k26 w A c.f3.length c.f3 → c.f3.length ≤ cc →
    Calls Try.prog 89 #[.agg #[.int .u8 c.f0, .int .i64 c.f1.f0, .int .i64 c.f1.f1, .int .i64 c.f1.f2, .int .i64 c.f1.f3, .int .i64 c.f2, .slice A c.f3.length cc], .int .i64 id] w (FindP w (findC id c)) := by
  intro N
  induction N with
  | zero => intro c h; rw [sz_eq] at h; omega
  | succ N ih =>
    intro c hc hN A cc w hr hlc
    have hsz := sz_eq c
    have hlen := szL_len c.f3
    have hkz : ∀ k : S26, k ∈ c.f3 → sz k ≤ N := by
      intro k hk
      have : sz k ≤ szL c.f3 := by
        obtain ⟨p, q, e⟩ := List.append_of_mem hk
        rw [e, szL_app, szL_cons]; omega
      omega
    have IH := Aside0.mk fun (k : S26) (hk : k ∈ c.f3) => ih k (hkz k hk) (by omega)
    have HLP := Aside0.mk fun (k : S26) (hk : k ∈ c.f3) (p : List Int) (hp : findC id k = some p) => Nat.le_trans ((find_len id (sz k)).1 k (Nat.le_refl _) p hp) (Nat.le_trans (hkz k hk) (by omega : N ≤ 1000000))
    have HR := Aside0.mk hr
    have HLC := Aside0.mk hlc
    have HL := Aside0.mk (show c.f3.length ≤ 1000000 by omega)
    have HB := Aside0.mk (Below.refl w.heap.size w)
    rw [findC_eq]
    clear ih hkz hr hlc hc hN hsz hlen
    obtain ⟨ck, ⟨cx, cy, cw, ch⟩, cid, l⟩ := c
    simp only [] at HR HLC HL IH HLP ⊢
    by_cases h1 : ck = 1
    · have h1b : (ck == 1) = true := beq_iff_eq.mpr h1
      by_cases h2 : cid = id
      · have h2b : (cid == id) = true := beq_iff_eq.mpr h2
        rw [if_pos ⟨h1, h2⟩]
        clear h1 h2
        go_enter Try.func89, Try.ntmps89
        go_wp2_with (first | ((with_reducible refine gate_dst (N := 2) rfl ?_); refine box_event ?hg (N := 2) ?hd (cs := #[.int .u8 ck, .int .i64 cx, .int .i64 cy, .int .i64 cw, .int .i64 ch, .int .i64 cid, .slice A l.length cc]) (t := 26) ?hr ?_; (case hd => rfl); (case hg => rfl); (case hr => first | (go_simp; done) | (go_simp; rfl)); intro b2 hg w2 hbox hb; have K2 := Aside0.mk hbox; have q_ := Aside0.mk (below_step HB.out hb); clear HB; have HB := q_; clear q_; clear hb hbox hg; have c0 := (blk_cell K2.out 0).trans rfl; have c1 := (blk_cell K2.out 1).trans rfl; have c2 := (blk_cell K2.out 2).trans rfl; have c3 := (blk_cell K2.out 3).trans rfl; have c4 := (blk_cell K2.out 4).trans rfl; have c5 := (blk_cell K2.out 5).trans rfl; have c6 := (blk_cell K2.out 6).trans rfl) | fail)
        go_ret2
        exact ⟨_, rfl, Kd.R_nil _ _ _ _ _, HB.out⟩
      · have h2b : (cid == id) = false := beq_eq_false_iff_ne.mpr h2
        rw [if_neg (fun h => h2 h.2)]
        clear h1 h2
        go_enter Try.func89, Try.ntmps89
        go_wp2_with (first | ((with_reducible refine gate_dst (N := 2) rfl ?_); refine box_event ?hg (N := 2) ?hd (cs := #[.int .u8 ck, .int .i64 cx, .int .i64 cy, .int .i64 cw, .int .i64 ch, .int .i64 cid, .slice A l.length cc]) (t := 26) ?hr ?_; (case hd => rfl); (case hg => rfl); (case hr => first | (go_simp; done) | (go_simp; rfl)); intro b2 hg w2 hbox hb; have K2 := Aside0.mk hbox; have q_ := Aside0.mk (below_step HB.out hb); clear HB; have HB := q_; clear q_; clear hb hbox hg; have c0 := (blk_cell K2.out 0).trans rfl; have c1 := (blk_cell K2.out 1).trans rfl; have c2 := (blk_cell K2.out 2).trans rfl; have c3 := (blk_cell K2.out 3).trans rfl; have c4 := (blk_cell K2.out 4).trans rfl; have c5 := (blk_cell K2.out 5).trans rfl; have c6 := (blk_cell K2.out 6).trans rfl) | fail)
        clear c0 c1 c2 c3 c4 c5 c6
        go_loopg [22] l.length (fun gg v22 wr => ∃ (pre rest : List S26), v22 = .int .i64 (pre.length : Int) ∧ Aside0 (pre ++ rest = l) ∧ rest.length ≤ gg ∧ Aside0 (findL id 0 l = findL id pre.length rest) ∧ Aside0 (Below w.heap.size w wr))
        case atStart => exact ⟨[], l, rfl, ⟨rfl⟩, Nat.le_refl _, ⟨rfl⟩, HB⟩
        case round =>
          clear HB K2
          obtain ⟨pre, rest, rfl, HE, hgg, HF, HB⟩ := hrel
          cases rest with
          | nil =>
            have hlt : ¬ ((pre.length : Int) < (l.length : Int)) := by have := HE.out; rw [List.append_nil] at this; rw [this]; omega
            clear hgg
            go_wp2
            go_ret2
            rw [HF.out, findL_nil]
            exact ⟨_, rfl, Kd.R_nil _ _ _ _ _, HB.out⟩
          | cons k rest =>
            have hk : k ∈ l := by rw [← HE.out]; simp
            have hlt : (pre.length : Int) < (l.length : Int) := by rw [← HE.out, List.length_append, List.length_cons]; omega
            have hw : wrap64 ((pre.length : Int) + 1) = ((pre ++ [k]).length : Int) := by rw [List.length_append, List.length_singleton]; unfold wrap64; have := HL.out; omega
            have hrd : rd_T26 l (pre.length : Int) = k := by rw [← HE.out]; simp [rd_T26, List.getD_eq_getElem?_getD]
            obtain ⟨ad, ua, uc, rfl, h0, h1, h2, h3, h4, h5, h6, hlu, hgu⟩ := at_T26 HR.out (pre.length : Int) (Int.natCast_nonneg _) hlt
            rw [hrd] at h0 h1 h2 h3 h4 h5 h6 hlu hgu
            simp only [Int.toNat_natCast] at h0 h1 h2 h3 h4 h5 h6
            replace h0 := (HB.out.cell (World.block_lt_of_cell? w _ h0)).trans h0
            replace h1 := (HB.out.cell (World.block_lt_of_cell? w _ h1)).trans h1
            replace h2 := (HB.out.cell (World.block_lt_of_cell? w _ h2)).trans h2
            replace h3 := (HB.out.cell (World.block_lt_of_cell? w _ h3)).trans h3
            replace h4 := (HB.out.cell (World.block_lt_of_cell? w _ h4)).trans h4
            replace h5 := (HB.out.cell (World.block_lt_of_cell? w _ h5)).trans h5
            replace h6 := (HB.out.cell (World.block_lt_of_cell? w _ h6)).trans h6
            have HU := Aside0.mk hgu
            have LU := Aside0.mk hlu
            have HW := Aside0.mk hw
            have HK := Aside0.mk hk
            have HG := Aside0.mk hgg
            clear hgu hlu hw hk hgg hrd
            go_wp2_with (first
              | ((with_reducible refine gate_dst (N := 7) rfl ?_); refine box_event ?hg (N := 7) ?hd (cs := #[.int .u8 0, .int .i64 0, .int .i64 0, .int .i64 0, .int .i64 0, .int .i64 0, .slice none 0 0]) (t := 26) ?hr ?_; (case hd => rfl); (case hg => rfl); (case hr => first | (go_simp; done) | (go_simp; rfl)); intro b7 hg w7 hbox hb; have K7 := Aside0.mk hbox; have G7 := Aside0.mk (show w.heap.size ≤ b7 by rw [hg]; exact HB.out.size); have q_ := Aside0.mk (below_step HB.out hb); clear HB; have HB := q_; clear q_; clear hb hbox hg)
              | ((with_reducible refine gate_ (.store 26 (.tmp 7) (.tmp 26)) rfl ?_); go_loud (refine box_store (w0 := w) rfl rfl 26 (.tmp 7) (.tmp 26) rfl (g := b7) (j := 0) (base := w.heap.size) #[.int .u8 k.f0, .int .i64 k.f1.f0, .int .i64 k.f1.f1, .int .i64 k.f1.f2, .int .i64 k.f1.f3, .int .i64 k.f2, .slice ua k.f3.length uc] (u := .agg #[.int .u8 k.f0, .int .i64 k.f1.f0, .int .i64 k.f1.f1, .int .i64 k.f1.f2, .int .i64 k.f1.f3, .int .i64 k.f2, .slice ua k.f3.length uc]) (seg := [.int .u8 k.f0, .int .i64 k.f1.f0, .int .i64 k.f1.f1, .int .i64 k.f1.f2, .int .i64 k.f1.f3, .int .i64 k.f2, .slice ua k.f3.length uc]) ?sA ?sX rfl ?sT ?s1 K7.out ?sJ rfl HB.out HB.out.size G7.out ?_; (case sA => rfl); (case sX => rfl); (case sT => rfl); (case s1 => (simp [Value.oneCell'])); (case sJ => (first | decide | simp)); intro ws hbk hbb hgg; clear K7 HB; have K7 := Aside0.mk hbk; have HB := Aside0.mk hbb; clear hbk hbb hgg h0 h1 h2 h3 h4 h5 h6; have d0 := (blk_cell K7.out 0).trans rfl; have d1 := (blk_cell K7.out 1).trans rfl; have d2 := (blk_cell K7.out 2).trans rfl; have d3 := (blk_cell K7.out 3).trans rfl; have d4 := (blk_cell K7.out 4).trans rfl; have d5 := (blk_cell K7.out 5).trans rfl; have d6 := (blk_cell K7.out 6).trans rfl))
              | fail)
            clear d0 d1 d2 d3 d4 d5 d6 K7
            refine (IH.out k HK.out ua uc _ (Kd.C_below HU.out HB.out) LU.out).mono ?_
            rintro e wk ⟨v, rfl, ho, hb⟩
            have HO := Aside0.mk (Kd.R_lower ho HB.out.size)
            have q_ := Aside0.mk (below_step HB.out hb); clear HB; have HB := q_; clear q_
            clear ho hb
            cases hf : findC id k with
            | none =>
              rw [hf] at HO
              have HF2 := Aside0.mk hf
              simp only [hf, Option.isSome_none]
              clear hf
              go_wp2
              go_roundg rest.length
              case measure => exact Nat.lt_of_lt_of_le (Nat.lt_succ_self _) HG.out
              case rel => exact ⟨pre ++ [k], rest, (by rw [HW.out]), ⟨by rw [List.append_assoc]; exact HE.out⟩, Nat.le_refl _, ⟨by rw [HF.out, findL_cons, HF2.out, List.length_append]; rfl⟩, HB⟩
            | some p =>
              rw [hf] at HO
              have HF2 := Aside0.mk hf
              have HP := Aside0.mk (HLP.out k HK.out p hf)
              simp only [hf, Option.isSome_some]
              clear hf
              obtain ⟨Ap, cp, ep⟩ := Kd.R_slice HO.out
              subst ep
              go_wp2_with (first
                | ((with_reducible refine gate_dst (N := 36) rfl ?_); refine row_event ?hg (N := 36) ?hd (cs := #[.int .i64 (pre.length : Int)]) (t := 3) (n := 1) (c := 1) ?hr ?_; (case hd => rfl); (case hg => rfl); (case hr => first | (go_simp; done) | (go_simp; rfl)); intro b9 hg w9 hbox hb; have K9 := Aside0.mk hbox; have NE := Aside0.mk (fun e_ => Nat.lt_irrefl _ (hg ▸ Kd.R_lt HO.out b9 e_) : ¬ (Value.slice Ap ((some p).getD []).length cp).ownBlock = some b9); have q1_ := Aside0.mk (Kd.R_below HO.out hb); clear HO; have HO := q1_; clear q1_; have q_ := Aside0.mk (below_step HB.out hb); clear HB; have HB := q_; clear q_; clear hb hbox hg)
                | fail)
              refine (ins150 _ w.heap.size HB.out.size _ p (pre.length : Int) b9 1 (Kd.own_of_R HO.out) K9.out NE.out HP.out).mono ?_
              rintro e wi ⟨v', rfl, ho, hb⟩
              have HO2 := Aside0.mk ho
              have HB2 := Aside0.mk (HB.out.trans hb)
              clear ho hb
              go_wp2
              go_ret2
              rw [HF.out, findL_cons, HF2.out]
              exact ⟨_, rfl, Kd.R_of_own HO2.out (fun _ _ => trivial), HB2.out⟩
    · have h1b : (ck == 1) = false := beq_eq_false_iff_ne.mpr h1
      rw [if_neg (fun h => h1 h.1)]
      clear h1
      go_enter Try.func89, Try.ntmps89
      go_wp2_with (first | ((with_reducible refine gate_dst (N := 2) rfl ?_); refine box_event ?hg (N := 2) ?hd (cs := #[.int .u8 ck, .int .i64 cx, .int .i64 cy, .int .i64 cw, .int .i64 ch, .int .i64 cid, .slice A l.length cc]) (t := 26) ?hr ?_; (case hd => rfl); (case hg => rfl); (case hr => first | (go_simp; done) | (go_simp; rfl)); intro b2 hg w2 hbox hb; have K2 := Aside0.mk hbox; have q_ := Aside0.mk (below_step HB.out hb); clear HB; have HB := q_; clear q_; clear hb hbox hg; have c0 := (blk_cell K2.out 0).trans rfl; have c1 := (blk_cell K2.out 1).trans rfl; have c2 := (blk_cell K2.out 2).trans rfl; have c3 := (blk_cell K2.out 3).trans rfl; have c4 := (blk_cell K2.out 4).trans rfl; have c5 := (blk_cell K2.out 5).trans rfl; have c6 := (blk_cell K2.out 6).trans rfl) | fail)
      clear c0 c1 c2 c3 c4 c5 c6
      go_loopg [22] l.length (fun gg v22 wr => ∃ (pre rest : List S26), v22 = .int .i64 (pre.length : Int) ∧ Aside0 (pre ++ rest = l) ∧ rest.length ≤ gg ∧ Aside0 (findL id 0 l = findL id pre.length rest) ∧ Aside0 (Below w.heap.size w wr))
      case atStart => exact ⟨[], l, rfl, ⟨rfl⟩, Nat.le_refl _, ⟨rfl⟩, HB⟩
      case round =>
        clear HB K2
        obtain ⟨pre, rest, rfl, HE, hgg, HF, HB⟩ := hrel
        cases rest with
        | nil =>
          have hlt : ¬ ((pre.length : Int) < (l.length : Int)) := by have := HE.out; rw [List.append_nil] at this; rw [this]; omega
          clear hgg
          go_wp2
          go_ret2
          rw [HF.out, findL_nil]
          exact ⟨_, rfl, Kd.R_nil _ _ _ _ _, HB.out⟩
        | cons k rest =>
          have hk : k ∈ l := by rw [← HE.out]; simp
          have hlt : (pre.length : Int) < (l.length : Int) := by rw [← HE.out, List.length_append, List.length_cons]; omega
          have hw : wrap64 ((pre.length : Int) + 1) = ((pre ++ [k]).length : Int) := by rw [List.length_append, List.length_singleton]; unfold wrap64; have := HL.out; omega
          have hrd : rd_T26 l (pre.length : Int) = k := by rw [← HE.out]; simp [rd_T26, List.getD_eq_getElem?_getD]
          obtain ⟨ad, ua, uc, rfl, h0, h1, h2, h3, h4, h5, h6, hlu, hgu⟩ := at_T26 HR.out (pre.length : Int) (Int.natCast_nonneg _) hlt
          rw [hrd] at h0 h1 h2 h3 h4 h5 h6 hlu hgu
          simp only [Int.toNat_natCast] at h0 h1 h2 h3 h4 h5 h6
          replace h0 := (HB.out.cell (World.block_lt_of_cell? w _ h0)).trans h0
          replace h1 := (HB.out.cell (World.block_lt_of_cell? w _ h1)).trans h1
          replace h2 := (HB.out.cell (World.block_lt_of_cell? w _ h2)).trans h2
          replace h3 := (HB.out.cell (World.block_lt_of_cell? w _ h3)).trans h3
          replace h4 := (HB.out.cell (World.block_lt_of_cell? w _ h4)).trans h4
          replace h5 := (HB.out.cell (World.block_lt_of_cell? w _ h5)).trans h5
          replace h6 := (HB.out.cell (World.block_lt_of_cell? w _ h6)).trans h6
          have HU := Aside0.mk hgu
          have LU := Aside0.mk hlu
          have HW := Aside0.mk hw
          have HK := Aside0.mk hk
          have HG := Aside0.mk hgg
          clear hgu hlu hw hk hgg hrd
          go_wp2_with (first
            | ((with_reducible refine gate_dst (N := 7) rfl ?_); refine box_event ?hg (N := 7) ?hd (cs := #[.int .u8 0, .int .i64 0, .int .i64 0, .int .i64 0, .int .i64 0, .int .i64 0, .slice none 0 0]) (t := 26) ?hr ?_; (case hd => rfl); (case hg => rfl); (case hr => first | (go_simp; done) | (go_simp; rfl)); intro b7 hg w7 hbox hb; have K7 := Aside0.mk hbox; have G7 := Aside0.mk (show w.heap.size ≤ b7 by rw [hg]; exact HB.out.size); have q_ := Aside0.mk (below_step HB.out hb); clear HB; have HB := q_; clear q_; clear hb hbox hg)
            | ((with_reducible refine gate_ (.store 26 (.tmp 7) (.tmp 26)) rfl ?_); go_loud (refine box_store (w0 := w) rfl rfl 26 (.tmp 7) (.tmp 26) rfl (g := b7) (j := 0) (base := w.heap.size) #[.int .u8 k.f0, .int .i64 k.f1.f0, .int .i64 k.f1.f1, .int .i64 k.f1.f2, .int .i64 k.f1.f3, .int .i64 k.f2, .slice ua k.f3.length uc] (u := .agg #[.int .u8 k.f0, .int .i64 k.f1.f0, .int .i64 k.f1.f1, .int .i64 k.f1.f2, .int .i64 k.f1.f3, .int .i64 k.f2, .slice ua k.f3.length uc]) (seg := [.int .u8 k.f0, .int .i64 k.f1.f0, .int .i64 k.f1.f1, .int .i64 k.f1.f2, .int .i64 k.f1.f3, .int .i64 k.f2, .slice ua k.f3.length uc]) ?sA ?sX rfl ?sT ?s1 K7.out ?sJ rfl HB.out HB.out.size G7.out ?_; (case sA => rfl); (case sX => rfl); (case sT => rfl); (case s1 => (simp [Value.oneCell'])); (case sJ => (first | decide | simp)); intro ws hbk hbb hgg; clear K7 HB; have K7 := Aside0.mk hbk; have HB := Aside0.mk hbb; clear hbk hbb hgg h0 h1 h2 h3 h4 h5 h6; have d0 := (blk_cell K7.out 0).trans rfl; have d1 := (blk_cell K7.out 1).trans rfl; have d2 := (blk_cell K7.out 2).trans rfl; have d3 := (blk_cell K7.out 3).trans rfl; have d4 := (blk_cell K7.out 4).trans rfl; have d5 := (blk_cell K7.out 5).trans rfl; have d6 := (blk_cell K7.out 6).trans rfl))
            | fail)
          clear d0 d1 d2 d3 d4 d5 d6 K7
          refine (IH.out k HK.out ua uc _ (Kd.C_below HU.out HB.out) LU.out).mono ?_
          rintro e wk ⟨v, rfl, ho, hb⟩
          have HO := Aside0.mk (Kd.R_lower ho HB.out.size)
          have q_ := Aside0.mk (below_step HB.out hb); clear HB; have HB := q_; clear q_
          clear ho hb
          cases hf : findC id k with
          | none =>
            rw [hf] at HO
            have HF2 := Aside0.mk hf
            simp only [hf, Option.isSome_none]
            clear hf
            go_wp2
            go_roundg rest.length
            case measure => exact Nat.lt_of_lt_of_le (Nat.lt_succ_self _) HG.out
            case rel => exact ⟨pre ++ [k], rest, (by rw [HW.out]), ⟨by rw [List.append_assoc]; exact HE.out⟩, Nat.le_refl _, ⟨by rw [HF.out, findL_cons, HF2.out, List.length_append]; rfl⟩, HB⟩
          | some p =>
            rw [hf] at HO
            have HF2 := Aside0.mk hf
            have HP := Aside0.mk (HLP.out k HK.out p hf)
            simp only [hf, Option.isSome_some]
            clear hf
            obtain ⟨Ap, cp, ep⟩ := Kd.R_slice HO.out
            subst ep
            go_wp2_with (first
              | ((with_reducible refine gate_dst (N := 36) rfl ?_); refine row_event ?hg (N := 36) ?hd (cs := #[.int .i64 (pre.length : Int)]) (t := 3) (n := 1) (c := 1) ?hr ?_; (case hd => rfl); (case hg => rfl); (case hr => first | (go_simp; done) | (go_simp; rfl)); intro b9 hg w9 hbox hb; have K9 := Aside0.mk hbox; have NE := Aside0.mk (fun e_ => Nat.lt_irrefl _ (hg ▸ Kd.R_lt HO.out b9 e_) : ¬ (Value.slice Ap ((some p).getD []).length cp).ownBlock = some b9); have q1_ := Aside0.mk (Kd.R_below HO.out hb); clear HO; have HO := q1_; clear q1_; have q_ := Aside0.mk (below_step HB.out hb); clear HB; have HB := q_; clear q_; clear hb hbox hg)
              | fail)
            refine (ins150 _ w.heap.size HB.out.size _ p (pre.length : Int) b9 1 (Kd.own_of_R HO.out) K9.out NE.out HP.out).mono ?_
            rintro e wi ⟨v', rfl, ho, hb⟩
            have HO2 := Aside0.mk ho
            have HB2 := Aside0.mk (HB.out.trans hb)
            clear ho hb
            go_wp2
            go_ret2
            rw [HF.out, findL_cons, HF2.out]
            exact ⟨_, rfl, Kd.R_of_own HO2.out (fun _ _ => trivial), HB2.out⟩
def cell_Find.f (a0 a1 a2 a3 a4 a5 : Int) (l : List S26) (id : Int) : Option (List Int × Bool) := if sz ⟨a0, ⟨a1, a2, a3, a4⟩, a5, l⟩ ≤ 1000000 then some ((findC id ⟨a0, ⟨a1, a2, a3, a4⟩, a5, l⟩).getD [], (findC id ⟨a0, ⟨a1, a2, a3, a4⟩, a5, l⟩).isSome) else none
theorem cell_Find.calls (a0_0 a0_1 a0_2 a0_3 a0_4 a0_5 : Int) (A0_6 : Option Addr) (c0_6 : Nat) (l0_6 : List S26) (a1 : Int) (r1 : List Int) (r2 : Bool) (w : World) (hr0_6 : Kd.C k26 w A0_6 l0_6.length l0_6) (hc0_6 : l0_6.length ≤ c0_6) (h : cell_Find.f a0_0 a0_1 a0_2 a0_3 a0_4 a0_5 l0_6 a1 = some (r1, r2)) :
    Calls Try.prog 89 #[.agg #[.int .u8 a0_0, .int .i64 a0_1, .int .i64 a0_2, .int .i64 a0_3, .int .i64 a0_4, .int .i64 a0_5, .slice A0_6 l0_6.length c0_6], .int .i64 a1] w fun e w' => ∃ v0_ : Value, e = .returned (.tuple #[v0_, .bool r2]) ∧ Kd.R (Kd.int .i64) 3 w' w.heap.size (fun _ => True) v0_ r1 ∧ Below w.heap.size w w' := by
  unfold cell_Find.f at h
  split at h
  · rename_i hz
    simp only [Option.some.injEq, Prod.mk.injEq] at h
    obtain ⟨rfl, rfl⟩ := h
    exact find89 a1 1000000 ⟨a0_0, ⟨a0_1, a0_2, a0_3, a0_4⟩, a0_5, l0_6⟩ hz (Nat.le_refl _) A0_6 c0_6 w hr0_6 hc0_6
  · exact absurd h (by simp)
end Go.Proofs.Ytfdmfgaiblfbhaa.P
/- A row gone through till a test says yes: plain words. -/
namespace Go.Proofs.Ytfdmfgaiblfbhaa.P
open Go.RowKit Go.Proofs.YtfdmfgaiblfbhaaW.PrintWords Go.Proofs.YtfdmfgaiblfbhaaW.PrintLast Go.Proofs.YtfdmfgaiblfbhaaW.PrintMore
/-- A call of a function that has a body enters it. -/
theorem enters_fn {P : Program} {f : FuncId} {fn : Func} (hf : P.funcs[f]? = some fn) (hname : (fn.name == "runtime.NumGoroutine") = false) (hb : fn.body.isSome = true) : ∀ args w, (callFunc f args).run P w = .ok (.enter f args) w := by
  intro args w
  obtain ⟨c, hc⟩ := Option.isSome_iff_exists.1 hb
  have h1 : fn.name ≠ "runtime.NumGoroutine" := by simpa using hname
  simp [callFunc, hf, h1, hc, mark]
section
variable {σ α : Type}
/-- Where the test first says yes (-1), and the state behind. -/
def scanI (step : σ → α → Bool × σ) : Int → σ → List α → Int × σ
  | _, s, [] => (-1, s)
  | i, s, x :: xs => if (step s x).1 = true then (i, (step s x).2) else scanI step (i + 1) (step s x).2 xs
/-- Whether it ever does. -/
def scanB (step : σ → α → Bool × σ) : σ → List α → Bool × σ
  | s, [] => (false, s)
  | s, x :: xs => if (step s x).1 = true then (true, (step s x).2) else scanB step (step s x).2 xs
theorem scanI_B (step : σ → α → Bool × σ) : ∀ (l : List α) (i : Int) (s : σ), 0 ≤ i → (scanB step s l).1 = decide (0 ≤ (scanI step i s l).1) ∧ (scanB step s l).2 = (scanI step i s l).2 := by
  intro l
  induction l with
  | nil => intro i s h; exact ⟨by simp [scanB, scanI], rfl⟩
  | cons x xs ih =>
    intro i s h
    simp only [scanB, scanI]
    split
    · exact ⟨by simp [h], rfl⟩
    · exact ih (i + 1) _ (by omega)
theorem scanB_eq (step : σ → α → Bool × σ) (s : σ) (l : List α) : scanB step s l = (decide (0 ≤ (scanI step 0 s l).1), (scanI step 0 s l).2) := by
  have h := scanI_B step l 0 s (by omega)
  exact Prod.ext h.1 h.2
theorem scan_at (step : σ → α → Bool × σ) (z : α) (l : List α) (k : Nat) (h : k < l.length) (t : σ) :
    scanI step k t (l.drop k) = if (step t (l.getD (k : Int).toNat z)).1 = true then ((k : Int), (step t (l.getD (k : Int).toNat z)).2) else scanI step ((k + 1 : Nat) : Int) (step t (l.getD (k : Int).toNat z)).2 (l.drop (k + 1)) := by
  rw [List.drop_eq_getElem_cons h]
  simp only [scanI, Int.toNat_natCast, List.getD_eq_getElem?_getD, List.getElem?_eq_getElem h, Option.getD_some]
  rfl
theorem scan_mem (z : α) (l : List α) (k : Nat) (h : k < l.length) : l.getD (k : Int).toNat z ∈ l := by
  simp only [Int.toNat_natCast, List.getD_eq_getElem?_getD, List.getElem?_eq_getElem h, Option.getD_some]
  exact List.getElem_mem h
/-- A test without a state. -/
theorem scanB_any (p : α → Bool) : ∀ (l : List α) (s : Unit), scanB (fun _ x => (p x, ())) s l = (l.any p, ()) := by
  intro l
  induction l with
  | nil => intro s; rfl
  | cons x xs ih =>
    intro s
    simp only [scanB, List.any_cons]
    cases h : p x with
    | true => simp
    | false => simp [ih]
end
end Go.Proofs.Ytfdmfgaiblfbhaa.P
/- A tree's cells gone through, as long as a test says yes: plain words. -/
namespace Go.Proofs.Ytfdmfgaiblfbhaa.P
open Go.RowKit Go.Proofs.YtfdmfgaiblfbhaaW.PrintWords Go.Proofs.YtfdmfgaiblfbhaaW.PrintLast Go.Proofs.YtfdmfgaiblfbhaaW.PrintMore
section
variable {σ : Type} (step : σ → S26 → Bool × σ)
mutual
def allS : S26 → σ → Bool × σ
  | ⟨a, b, d, l⟩, s => if (step s ⟨a, b, d, l⟩).1 = true then noneS l (step s ⟨a, b, d, l⟩).2 else (false, (step s ⟨a, b, d, l⟩).2)
def noneS : List S26 → σ → Bool × σ
  | [], s => (true, s)
  | k :: ks, s => if (allS k s).1 = true then noneS ks (allS k s).2 else (false, (allS k s).2)
end
theorem allS_eq (c : S26) (s : σ) : allS step c s = if (step s c).1 = true then noneS step c.f3 (step s c).2 else (false, (step s c).2) := by cases c; simp [allS]
theorem noneS_nil (s : σ) : noneS step [] s = (true, s) := by simp [noneS]
theorem noneS_cons (k : S26) (ks : List S26) (s : σ) : noneS step (k :: ks) s = if (allS step k s).1 = true then noneS step ks (allS step k s).2 else (false, (allS step k s).2) := by simp [noneS]
theorem scan_none : ∀ (l : List S26) (s : σ), scanB (fun s k => (!(allS step k s).1, (allS step k s).2)) s l = (!(noneS step l s).1, (noneS step l s).2) := by
  intro l
  induction l with
  | nil => intro s; rw [noneS_nil]; rfl
  | cons k ks ih =>
    intro s
    rw [noneS_cons]
    simp only [scanB]
    cases h : (allS step k s).1 with
    | true => simp [ih]
    | false => simp
/-- One cell after the other. -/
def seqS : List S26 → σ → Bool × σ
  | [], s => (true, s)
  | k :: ks, s => if (step s k).1 = true then seqS ks (step s k).2 else (false, (step s k).2)
theorem seqS_app : ∀ (a b : List S26) (s : σ), seqS step (a ++ b) s = if (seqS step a s).1 = true then seqS step b (seqS step a s).2 else (false, (seqS step a s).2) := by
  intro a
  induction a with
  | nil => intro b s; simp [seqS]
  | cons k ks ih =>
    intro b s
    simp only [List.cons_append, seqS]
    by_cases h : (step s k).1 = true
    · simp [h, ih]
    · simp [h]
theorem allS_seq : ∀ (N : Nat), (∀ c : S26, sz c ≤ N → ∀ s, allS step c s = seqS step (allC c) s) ∧ (∀ l : List S26, szL l ≤ N → ∀ s, noneS step l s = seqS step (allL l) s) := by
  intro N
  induction N with
  | zero =>
    refine ⟨fun c h => ?_, fun l h => ?_⟩
    · rw [sz_eq] at h; omega
    · cases l with
      | nil => intro s; rw [noneS_nil, allL_nil]; rfl
      | cons x xs => rw [szL_cons, sz_eq] at h; omega
  | succ N ih =>
    have hC : ∀ c : S26, sz c ≤ N + 1 → ∀ s, allS step c s = seqS step (allC c) s := by
      intro c h s
      rw [sz_eq] at h
      rw [allS_eq, allC_eq]
      simp only [seqS]
      rw [ih.2 c.f3 (by omega)]
    refine ⟨hC, fun l => ?_⟩
    induction l with
    | nil => intro _ s; rw [noneS_nil, allL_nil]; rfl
    | cons x xs ihl =>
      intro h s
      rw [szL_cons] at h
      rw [noneS_cons, allL_cons, seqS_app, hC x (by omega), ihl (by omega)]
end
end Go.Proofs.Ytfdmfgaiblfbhaa.P
namespace Go.Proofs.Ytfdmfgaiblfbhaa.P
open Go.RowKit Go.Proofs.YtfdmfgaiblfbhaaW.PrintWords Go.Proofs.YtfdmfgaiblfbhaaW.PrintLast Go.Proofs.YtfdmfgaiblfbhaaW.PrintMore
attribute [local go_sem] max2_int min2_int max_two min_two max_three min_three max_four min_four   -- for this text's walks alone
set_option linter.unusedVariables false
set_option linter.unusedSimpArgs false

/-! ### rect_may: function 128 -/
def rect_may.f (a0_0 : Int) (a0_1 : Int) (a0_2 : Int) (a0_3 : Int) : Option (Bool) := if a0_0 ≥ 0 then (if a0_2 ≥ 1 then (if a0_2 ≤ 10000 then (if a0_0 ≤ (wrap64 (10000 - a0_2)) then (if a0_1 ≥ 0 then (if a0_3 ≥ 1 then (if a0_3 ≤ 10000 then (some (decide (a0_1 ≤ (wrap64 (10000 - a0_3))))) else (some false)) else (some false)) else (some false)) else (some false)) else (some false)) else (some false)) else (some false)
set_option maxHeartbeats 8000000 in
set_option maxRecDepth 100000 in
theorem rect_may.calls (a0_0 : Int) (a0_1 : Int) (a0_2 : Int) (a0_3 : Int) (r : Bool) (w : World) (h : rect_may.f a0_0 a0_1 a0_2 a0_3 = some r) :
  Calls Try.prog 128 #[.agg #[.int .i64 a0_0, .int .i64 a0_1, .int .i64 a0_2, .int .i64 a0_3]] w fun e w' => e = .returned (.bool r) ∧ Below w.heap.size w w' := by
 have hu23 := Try.underlying23
 have HB := Aside0.mk (Below.refl w.heap.size w)
 have H : (if a0_0 ≥ 0 then (if a0_2 ≥ 1 then (if a0_2 ≤ 10000 then (if a0_0 ≤ (wrap64 (10000 - a0_2)) then (if a0_1 ≥ 0 then (if a0_3 ≥ 1 then (if a0_3 ≤ 10000 then (some (decide (a0_1 ≤ (wrap64 (10000 - a0_3))))) else (some false)) else (some false)) else (some false)) else (some false)) else (some false)) else (some false)) else (some false)) = some r := h
 clear h
 by_cases c2 : a0_0 ≥ 0
 ·rw [if_pos c2] at H
  have c2b0 : decide (0 ≤ a0_0) = true := decide_eq_true c2
  clear c2
  by_cases c3 : a0_2 ≥ 1
  ·rw [if_pos c3] at H
   have c3b0 : decide (1 ≤ a0_2) = true := decide_eq_true c3
   clear c3
   by_cases c4 : a0_2 ≤ 10000
   ·rw [if_pos c4] at H
    have c4b0 : decide (a0_2 ≤ 10000) = true := decide_eq_true c4
    clear c4
    by_cases c5 : a0_0 ≤ (wrap64 (10000 - a0_2))
    ·rw [if_pos c5] at H
     have c5b0 : decide (a0_0 ≤ (wrap64 (10000 - a0_2))) = true := decide_eq_true c5
     clear c5
     by_cases c6 : a0_1 ≥ 0
     ·rw [if_pos c6] at H
      have c6b0 : decide (0 ≤ a0_1) = true := decide_eq_true c6
      clear c6
      by_cases c7 : a0_3 ≥ 1
      ·rw [if_pos c7] at H
       have c7b0 : decide (1 ≤ a0_3) = true := decide_eq_true c7
       clear c7
       by_cases c8 : a0_3 ≤ 10000
       ·rw [if_pos c8] at H
        have c8b0 : decide (a0_3 ≤ 10000) = true := decide_eq_true c8
        clear c8
        obtain rfl := Option.some.inj H
        go_enter Try.func128, Try.ntmps128
        go_wp2_with (((with_reducible refine gate_dst (N := 1) rfl ?_); refine box_event ?hg (N := 1) ?hd (cs := #[.int .i64 a0_0, .int .i64 a0_1, .int .i64 a0_2, .int .i64 a0_3]) (t := 23) ?hr ?_; (case hd => rfl); (case hg => rfl); (case hr => (go_simp; done)); intro gb245 hg w9 hbox hb; have BK245 := Aside0.mk (hbox); replace HB := Aside0.mk (below_step (by repeat ((with_reducible exact HB.out))) hb); clear hb hbox hg; have hcz10_0 : w9.cell? ⟨gb245, 0, none⟩ = some (.int .i64 a0_0) := (blk_cell BK245.out 0).trans rfl; have hcz10_1 : w9.cell? ⟨gb245, 1, none⟩ = some (.int .i64 a0_1) := (blk_cell BK245.out 1).trans rfl; have hcz10_2 : w9.cell? ⟨gb245, 2, none⟩ = some (.int .i64 a0_2) := (blk_cell BK245.out 2).trans rfl; have hcz10_3 : w9.cell? ⟨gb245, 3, none⟩ = some (.int .i64 a0_3) := (blk_cell BK245.out 3).trans rfl; have hfz10_0 := blk_frozen BK245.out 0; have hfz10_1 := blk_frozen BK245.out 1; have hfz10_2 := blk_frozen BK245.out 2; have hfz10_3 := blk_frozen BK245.out 3))
        go_ret
        exact ⟨by rfl, by repeat ((with_reducible exact HB.out))⟩
       ·rw [if_neg c8] at H
        have c8b0 : decide (a0_3 ≤ 10000) = false := decide_eq_false c8
        clear c8
        obtain rfl := Option.some.inj H
        go_enter Try.func128, Try.ntmps128
        go_wp2_with (((with_reducible refine gate_dst (N := 1) rfl ?_); refine box_event ?hg (N := 1) ?hd (cs := #[.int .i64 a0_0, .int .i64 a0_1, .int .i64 a0_2, .int .i64 a0_3]) (t := 23) ?hr ?_; (case hd => rfl); (case hg => rfl); (case hr => (go_simp; done)); intro gb245 hg w11 hbox hb; have BK245 := Aside0.mk (hbox); replace HB := Aside0.mk (below_step (by repeat ((with_reducible exact HB.out))) hb); clear hb hbox hg; have hcz12_0 : w11.cell? ⟨gb245, 0, none⟩ = some (.int .i64 a0_0) := (blk_cell BK245.out 0).trans rfl; have hcz12_1 : w11.cell? ⟨gb245, 1, none⟩ = some (.int .i64 a0_1) := (blk_cell BK245.out 1).trans rfl; have hcz12_2 : w11.cell? ⟨gb245, 2, none⟩ = some (.int .i64 a0_2) := (blk_cell BK245.out 2).trans rfl; have hcz12_3 : w11.cell? ⟨gb245, 3, none⟩ = some (.int .i64 a0_3) := (blk_cell BK245.out 3).trans rfl; have hfz12_0 := blk_frozen BK245.out 0; have hfz12_1 := blk_frozen BK245.out 1; have hfz12_2 := blk_frozen BK245.out 2; have hfz12_3 := blk_frozen BK245.out 3))
        go_ret
        exact ⟨by rfl, by repeat ((with_reducible exact HB.out))⟩
      ·rw [if_neg c7] at H
       have c7b0 : decide (1 ≤ a0_3) = false := decide_eq_false c7
       clear c7
       obtain rfl := Option.some.inj H
       go_enter Try.func128, Try.ntmps128
       go_wp2_with (((with_reducible refine gate_dst (N := 1) rfl ?_); refine box_event ?hg (N := 1) ?hd (cs := #[.int .i64 a0_0, .int .i64 a0_1, .int .i64 a0_2, .int .i64 a0_3]) (t := 23) ?hr ?_; (case hd => rfl); (case hg => rfl); (case hr => (go_simp; done)); intro gb245 hg w13 hbox hb; have BK245 := Aside0.mk (hbox); replace HB := Aside0.mk (below_step (by repeat ((with_reducible exact HB.out))) hb); clear hb hbox hg; have hcz14_0 : w13.cell? ⟨gb245, 0, none⟩ = some (.int .i64 a0_0) := (blk_cell BK245.out 0).trans rfl; have hcz14_1 : w13.cell? ⟨gb245, 1, none⟩ = some (.int .i64 a0_1) := (blk_cell BK245.out 1).trans rfl; have hcz14_2 : w13.cell? ⟨gb245, 2, none⟩ = some (.int .i64 a0_2) := (blk_cell BK245.out 2).trans rfl; have hcz14_3 : w13.cell? ⟨gb245, 3, none⟩ = some (.int .i64 a0_3) := (blk_cell BK245.out 3).trans rfl; have hfz14_0 := blk_frozen BK245.out 0; have hfz14_1 := blk_frozen BK245.out 1; have hfz14_2 := blk_frozen BK245.out 2; have hfz14_3 := blk_frozen BK245.out 3))
       go_ret
       exact ⟨by rfl, by repeat ((with_reducible exact HB.out))⟩
     ·rw [if_neg c6] at H
      have c6b0 : decide (0 ≤ a0_1) = false := decide_eq_false c6
      clear c6
      obtain rfl := Option.some.inj H
      go_enter Try.func128, Try.ntmps128
      go_wp2_with (((with_reducible refine gate_dst (N := 1) rfl ?_); refine box_event ?hg (N := 1) ?hd (cs := #[.int .i64 a0_0, .int .i64 a0_1, .int .i64 a0_2, .int .i64 a0_3]) (t := 23) ?hr ?_; (case hd => rfl); (case hg => rfl); (case hr => (go_simp; done)); intro gb245 hg w15 hbox hb; have BK245 := Aside0.mk (hbox); replace HB := Aside0.mk (below_step (by repeat ((with_reducible exact HB.out))) hb); clear hb hbox hg; have hcz16_0 : w15.cell? ⟨gb245, 0, none⟩ = some (.int .i64 a0_0) := (blk_cell BK245.out 0).trans rfl; have hcz16_1 : w15.cell? ⟨gb245, 1, none⟩ = some (.int .i64 a0_1) := (blk_cell BK245.out 1).trans rfl; have hcz16_2 : w15.cell? ⟨gb245, 2, none⟩ = some (.int .i64 a0_2) := (blk_cell BK245.out 2).trans rfl; have hcz16_3 : w15.cell? ⟨gb245, 3, none⟩ = some (.int .i64 a0_3) := (blk_cell BK245.out 3).trans rfl; have hfz16_0 := blk_frozen BK245.out 0; have hfz16_1 := blk_frozen BK245.out 1; have hfz16_2 := blk_frozen BK245.out 2; have hfz16_3 := blk_frozen BK245.out 3))
      go_ret
      exact ⟨by rfl, by repeat ((with_reducible exact HB.out))⟩
    ·rw [if_neg c5] at H
     have c5b0 : decide (a0_0 ≤ (wrap64 (10000 - a0_2))) = false := decide_eq_false c5
     clear c5
     obtain rfl := Option.some.inj H
     go_enter Try.func128, Try.ntmps128
     go_wp2_with (((with_reducible refine gate_dst (N := 1) rfl ?_); refine box_event ?hg (N := 1) ?hd (cs := #[.int .i64 a0_0, .int .i64 a0_1, .int .i64 a0_2, .int .i64 a0_3]) (t := 23) ?hr ?_; (case hd => rfl); (case hg => rfl); (case hr => (go_simp; done)); intro gb245 hg w17 hbox hb; have BK245 := Aside0.mk (hbox); replace HB := Aside0.mk (below_step (by repeat ((with_reducible exact HB.out))) hb); clear hb hbox hg; have hcz18_0 : w17.cell? ⟨gb245, 0, none⟩ = some (.int .i64 a0_0) := (blk_cell BK245.out 0).trans rfl; have hcz18_1 : w17.cell? ⟨gb245, 1, none⟩ = some (.int .i64 a0_1) := (blk_cell BK245.out 1).trans rfl; have hcz18_2 : w17.cell? ⟨gb245, 2, none⟩ = some (.int .i64 a0_2) := (blk_cell BK245.out 2).trans rfl; have hcz18_3 : w17.cell? ⟨gb245, 3, none⟩ = some (.int .i64 a0_3) := (blk_cell BK245.out 3).trans rfl; have hfz18_0 := blk_frozen BK245.out 0; have hfz18_1 := blk_frozen BK245.out 1; have hfz18_2 := blk_frozen BK245.out 2; have hfz18_3 := blk_frozen BK245.out 3))
     go_ret
     exact ⟨by rfl, by repeat ((with_reducible exact HB.out))⟩
   ·rw [if_neg c4] at H
    have c4b0 : decide (a0_2 ≤ 10000) = false := decide_eq_false c4
    clear c4
    obtain rfl := Option.some.inj H
    go_enter Try.func128, Try.ntmps128
    go_wp2_with (((with_reducible refine gate_dst (N := 1) rfl ?_); refine box_event ?hg (N := 1) ?hd (cs := #[.int .i64 a0_0, .int .i64 a0_1, .int .i64 a0_2, .int .i64 a0_3]) (t := 23) ?hr ?_; (case hd => rfl); (case hg => rfl); (case hr => (go_simp; done)); intro gb245 hg w19 hbox hb; have BK245 := Aside0.mk (hbox); replace HB := Aside0.mk (below_step (by repeat ((with_reducible exact HB.out))) hb); clear hb hbox hg; have hcz20_0 : w19.cell? ⟨gb245, 0, none⟩ = some (.int .i64 a0_0) := (blk_cell BK245.out 0).trans rfl; have hcz20_1 : w19.cell? ⟨gb245, 1, none⟩ = some (.int .i64 a0_1) := (blk_cell BK245.out 1).trans rfl; have hcz20_2 : w19.cell? ⟨gb245, 2, none⟩ = some (.int .i64 a0_2) := (blk_cell BK245.out 2).trans rfl; have hcz20_3 : w19.cell? ⟨gb245, 3, none⟩ = some (.int .i64 a0_3) := (blk_cell BK245.out 3).trans rfl; have hfz20_0 := blk_frozen BK245.out 0; have hfz20_1 := blk_frozen BK245.out 1; have hfz20_2 := blk_frozen BK245.out 2; have hfz20_3 := blk_frozen BK245.out 3))
    go_ret
    exact ⟨by rfl, by repeat ((with_reducible exact HB.out))⟩
  ·rw [if_neg c3] at H
   have c3b0 : decide (1 ≤ a0_2) = false := decide_eq_false c3
   clear c3
   obtain rfl := Option.some.inj H
   go_enter Try.func128, Try.ntmps128
   go_wp2_with (((with_reducible refine gate_dst (N := 1) rfl ?_); refine box_event ?hg (N := 1) ?hd (cs := #[.int .i64 a0_0, .int .i64 a0_1, .int .i64 a0_2, .int .i64 a0_3]) (t := 23) ?hr ?_; (case hd => rfl); (case hg => rfl); (case hr => (go_simp; done)); intro gb245 hg w21 hbox hb; have BK245 := Aside0.mk (hbox); replace HB := Aside0.mk (below_step (by repeat ((with_reducible exact HB.out))) hb); clear hb hbox hg; have hcz22_0 : w21.cell? ⟨gb245, 0, none⟩ = some (.int .i64 a0_0) := (blk_cell BK245.out 0).trans rfl; have hcz22_1 : w21.cell? ⟨gb245, 1, none⟩ = some (.int .i64 a0_1) := (blk_cell BK245.out 1).trans rfl; have hcz22_2 : w21.cell? ⟨gb245, 2, none⟩ = some (.int .i64 a0_2) := (blk_cell BK245.out 2).trans rfl; have hcz22_3 : w21.cell? ⟨gb245, 3, none⟩ = some (.int .i64 a0_3) := (blk_cell BK245.out 3).trans rfl; have hfz22_0 := blk_frozen BK245.out 0; have hfz22_1 := blk_frozen BK245.out 1; have hfz22_2 := blk_frozen BK245.out 2; have hfz22_3 := blk_frozen BK245.out 3))
   go_ret
   exact ⟨by rfl, by repeat ((with_reducible exact HB.out))⟩
 ·rw [if_neg c2] at H
  have c2b0 : decide (0 ≤ a0_0) = false := decide_eq_false c2
  clear c2
  obtain rfl := Option.some.inj H
  go_enter Try.func128, Try.ntmps128
  go_wp2_with (((with_reducible refine gate_dst (N := 1) rfl ?_); refine box_event ?hg (N := 1) ?hd (cs := #[.int .i64 a0_0, .int .i64 a0_1, .int .i64 a0_2, .int .i64 a0_3]) (t := 23) ?hr ?_; (case hd => rfl); (case hg => rfl); (case hr => (go_simp; done)); intro gb245 hg w23 hbox hb; have BK245 := Aside0.mk (hbox); replace HB := Aside0.mk (below_step (by repeat ((with_reducible exact HB.out))) hb); clear hb hbox hg; have hcz24_0 : w23.cell? ⟨gb245, 0, none⟩ = some (.int .i64 a0_0) := (blk_cell BK245.out 0).trans rfl; have hcz24_1 : w23.cell? ⟨gb245, 1, none⟩ = some (.int .i64 a0_1) := (blk_cell BK245.out 1).trans rfl; have hcz24_2 : w23.cell? ⟨gb245, 2, none⟩ = some (.int .i64 a0_2) := (blk_cell BK245.out 2).trans rfl; have hcz24_3 : w23.cell? ⟨gb245, 3, none⟩ = some (.int .i64 a0_3) := (blk_cell BK245.out 3).trans rfl; have hfz24_0 := blk_frozen BK245.out 0; have hfz24_1 := blk_frozen BK245.out 1; have hfz24_2 := blk_frozen BK245.out 2; have hfz24_3 := blk_frozen BK245.out 3))
  go_ret
  exact ⟨by rfl, by repeat ((with_reducible exact HB.out))⟩

end Go.Proofs.Ytfdmfgaiblfbhaa.P
namespace Go.Proofs.Ytfdmfgaiblfbhaa.P
open Go.RowKit Go.Proofs.YtfdmfgaiblfbhaaW.PrintWords Go.Proofs.YtfdmfgaiblfbhaaW.PrintLast Go.Proofs.YtfdmfgaiblfbhaaW.PrintMore
attribute [local go_sem] max2_int min2_int max_two min_two max_three min_three max_four min_four   -- for this text's walks alone
set_option linter.unusedVariables false
set_option linter.unusedSimpArgs false

/-! ### sashref04_May: function 57 -/
def sashref04_May.f (a0_0 : Int) (a0_1 : Int) (a0_2 : Int) (a0_3 : Int) : Option (Bool) := if a0_0 < 0 then (some false) else (if a0_0 > 10000 then (some false) else (if a0_1 < 0 then (some false) else (if a0_1 > 10000 then (some false) else (if a0_2 > 0 then (if a0_2 ≤ 10000 then (if a0_3 > 0 then (if a0_3 ≤ 10000 then (if (wrap64 (a0_0 + a0_2)) ≤ 10000 then (some (decide ((wrap64 (a0_1 + a0_3)) ≤ 10000))) else (some false)) else (some false)) else (some false)) else (some false)) else (some false)))))
end Go.Proofs.Ytfdmfgaiblfbhaa.P
/- May a rectangle be: plain words. -/
namespace Go.Proofs.Ytfdmfgaiblfbhaa.P
open Go.RowKit Go.Proofs.YtfdmfgaiblfbhaaW.PrintWords Go.Proofs.YtfdmfgaiblfbhaaW.PrintLast Go.Proofs.YtfdmfgaiblfbhaaW.PrintMore

theorem wq {x : Int} (h0 : -9223372036854775808 ≤ x) (h1 : x ≤ 9223372036854775807) : wrap64 x = x := by unfold wrap64; omega
theorem ev_pos {α : Type} {c : Prop} [Decidable c] {g f : Nat → Option α} {r : α} (hc : c) (h : Ev g r) : Ev (fun k => if c then g k else f k) r := by simp only [if_pos hc]; exact h
theorem ev_neg {α : Type} {c : Prop} [Decidable c] {g f : Nat → Option α} {r : α} (hc : ¬c) (h : Ev f r) : Ev (fun k => if c then g k else f k) r := by simp only [if_neg hc]; exact h
/-- May a rectangle be? -/
def mayB (X Y W H : Int) : Bool := decide (0 ≤ X ∧ 1 ≤ W ∧ W ≤ 10000 ∧ X + W ≤ 10000 ∧ 0 ≤ Y ∧ 1 ≤ H ∧ H ≤ 10000 ∧ Y + H ≤ 10000)
theorem may_some (X Y W H : Int) : rect_may.f X Y W H = some (mayB X Y W H) := by
  unfold rect_may.f mayB
  by_cases h1 : X ≥ 0
  · by_cases h2 : W ≥ 1
    · by_cases h3 : W ≤ 10000
      · rw [if_pos h1, if_pos h2, if_pos h3, wq (x := 10000 - W) (by omega) (by omega)]
        by_cases h4 : X ≤ 10000 - W
        · rw [if_pos h4]
          by_cases h5 : Y ≥ 0
          · by_cases h6 : H ≥ 1
            · by_cases h7 : H ≤ 10000
              · rw [if_pos h5, if_pos h6, if_pos h7, wq (x := 10000 - H) (by omega) (by omega)]
                congr 1
                rw [decide_eq_decide]
                omega
              · rw [if_pos h5, if_pos h6, if_neg h7, decide_eq_false (by omega)]
            · rw [if_pos h5, if_neg h6, decide_eq_false (by omega)]
          · rw [if_neg h5, decide_eq_false (by omega)]
        · rw [if_neg h4, decide_eq_false (by omega)]
      · rw [if_pos h1, if_pos h2, if_neg h3, decide_eq_false (by omega)]
    · rw [if_pos h1, if_neg h2, decide_eq_false (by omega)]
  · rw [if_neg h1, decide_eq_false (by omega)]
def mayR (r : S23) : Bool := mayB r.f0 r.f1 r.f2 r.f3
end Go.Proofs.Ytfdmfgaiblfbhaa.P
namespace Go.Proofs.Ytfdmfgaiblfbhaa.P
open Go.RowKit Go.Proofs.YtfdmfgaiblfbhaaW.PrintWords Go.Proofs.YtfdmfgaiblfbhaaW.PrintLast Go.Proofs.YtfdmfgaiblfbhaaW.PrintMore
attribute [local go_sem] max2_int min2_int max_two min_two max_three min_three max_four min_four   -- for this text's walks alone
set_option linter.unusedVariables false
set_option linter.unusedSimpArgs false

/-! ### sashref05_count: function 124 -/
mutual
def sashref05_count.l0 : Nat → Int → Int → Int → Int → Int → Int → Int → Int → Int → Int → List (S26) → Option (Int)
 | 0, _, _, _, _, _, _, _, _, _, _, _ => none
 | k + 1, x1, x5, x9, x10, x102000, x102001, x102002, x102003, x102004, x102005, x102006 => if x10 < x9 then (if x5 > x1 then (some x5) else (if 0 ≤ x10 then (if x10 < (x102006.length : Int) then ((sashref05_count.f k ((rd_T26 x102006 x10).f0) ((rd_T26 x102006 x10).f1.f0) ((rd_T26 x102006 x10).f1.f1) ((rd_T26 x102006 x10).f1.f2) ((rd_T26 x102006 x10).f1.f3) ((rd_T26 x102006 x10).f2) ((rd_T26 x102006 x10).f3) x1).bind fun t103 => (sashref05_count.l0 k x1 (wrap64 (x5 + t103)) x9 (wrap64 (x10 + 1)) x102000 x102001 x102002 x102003 x102004 x102005 x102006)) else (none)) else (none))) else (some x5)
def sashref05_count.f : Nat → Int → Int → Int → Int → Int → Int → List (S26) → Int → Option (Int)
 | 0, _, _, _, _, _, _, _, _ => none
 | k + 1, a0_0, a0_1, a0_2, a0_3, a0_4, a0_5, l0_6, a1 => sashref05_count.l0 k a1 1 (l0_6.length : Int) 0 a0_0 a0_1 a0_2 a0_3 a0_4 a0_5 l0_6
end
set_option maxHeartbeats 8000000 in
set_option maxRecDepth 100000 in
theorem sashref05_count.calls (k : Nat) : ∀ (a0_0 : Int) (a0_1 : Int) (a0_2 : Int) (a0_3 : Int) (a0_4 : Int) (a0_5 : Int) (A0_6 : Option Addr) (c0_6 : Nat) (l0_6 : List (S26)) (a1 : Int) (r : Int) (w : World) (hr0_6 : Kd.C k26 w A0_6 l0_6.length l0_6) (hc0_6 : l0_6.length ≤ c0_6) (h : sashref05_count.f k a0_0 a0_1 a0_2 a0_3 a0_4 a0_5 l0_6 a1 = some r),
  Calls Try.prog 124 #[.agg #[.int .u8 a0_0, .int .i64 a0_1, .int .i64 a0_2, .int .i64 a0_3, .int .i64 a0_4, .int .i64 a0_5, .slice A0_6 l0_6.length c0_6], .int .i64 a1] w fun e w' => e = .returned (.int .i64 r) ∧ Below w.heap.size w w' := by
 induction k using Nat.strongRecOn with
 | _ k ih =>
 intro a0_0 a0_1 a0_2 a0_3 a0_4 a0_5 A0_6 c0_6 l0_6 a1 r w hr0_6 hc0_6 h
 cases k with
 | zero => exact absurd h (by simp [sashref05_count.f])
 | succ k =>
 simp only [sashref05_count.f] at h
 have hu26 := Try.underlying26
 have HR0_6 := Aside0.mk hr0_6
 clear hr0_6 hc0_6
 have HB := Aside0.mk (Below.refl w.heap.size w)
 have H : (sashref05_count.l0 k a1 1 (l0_6.length : Int) 0 a0_0 a0_1 a0_2 a0_3 a0_4 a0_5 l0_6) = some r := h
 clear h
 have H' := Aside0.mk H
 clear H
 go_enter Try.func124, Try.ntmps124
 go_wp2_with (((with_reducible refine gate_dst (N := 2) rfl ?_); refine box_event ?hg (N := 2) ?hd (cs := #[.int .u8 a0_0, .int .i64 a0_1, .int .i64 a0_2, .int .i64 a0_3, .int .i64 a0_4, .int .i64 a0_5, .slice A0_6 l0_6.length c0_6]) (t := 26) ?hr ?_; (case hd => rfl); (case hg => rfl); (case hr => (go_simp; done)); intro gb101 hg w3 hbox hb; have BK101 := Aside0.mk (hbox); replace HB := Aside0.mk (below_step (by repeat ((with_reducible exact HB.out))) hb); clear hb hbox hg; have hcz4_0 : w3.cell? ⟨gb101, 0, none⟩ = some (.int .u8 a0_0) := (blk_cell BK101.out 0).trans rfl; have hcz4_1 : w3.cell? ⟨gb101, 1, none⟩ = some (.int .i64 a0_1) := (blk_cell BK101.out 1).trans rfl; have hcz4_2 : w3.cell? ⟨gb101, 2, none⟩ = some (.int .i64 a0_2) := (blk_cell BK101.out 2).trans rfl; have hcz4_3 : w3.cell? ⟨gb101, 3, none⟩ = some (.int .i64 a0_3) := (blk_cell BK101.out 3).trans rfl; have hcz4_4 : w3.cell? ⟨gb101, 4, none⟩ = some (.int .i64 a0_4) := (blk_cell BK101.out 4).trans rfl; have hcz4_5 : w3.cell? ⟨gb101, 5, none⟩ = some (.int .i64 a0_5) := (blk_cell BK101.out 5).trans rfl; have hcz4_6 : w3.cell? ⟨gb101, 6, none⟩ = some (.slice A0_6 l0_6.length c0_6) := (blk_cell BK101.out 6).trans rfl; have hfz4_0 := blk_frozen BK101.out 0; have hfz4_1 := blk_frozen BK101.out 1; have hfz4_2 := blk_frozen BK101.out 2; have hfz4_3 := blk_frozen BK101.out 3; have hfz4_4 := blk_frozen BK101.out 4; have hfz4_5 := blk_frozen BK101.out 5; have hfz4_6 := blk_frozen BK101.out 6))
 go_loopg [5, 10] k (fun kq v5 v10 w' => ∃ (x5_1 : Int) (x10_1 : Int), v5 = .int .i64 x5_1 ∧ v10 = .int .i64 x10_1 ∧ Aside0 (sashref05_count.l0 kq a1 x5_1 (l0_6.length : Int) x10_1 a0_0 a0_1 a0_2 a0_3 a0_4 a0_5 l0_6 = some r) ∧ Aside0 (kq ≤ k) ∧ Aside0 (w'.heap[gb101]? = some (.cells #[.int .u8 a0_0, .int .i64 a0_1, .int .i64 a0_2, .int .i64 a0_3, .int .i64 a0_4, .int .i64 a0_5, (.slice A0_6 l0_6.length c0_6)] 26 (0, 0))) ∧ Aside0 (Below w.heap.size w w'))
 case atStart => exact ⟨(1), (0), (by rfl), (by rfl), H', ⟨Nat.le_refl _⟩, ⟨by exact BK101.out⟩, ⟨by repeat ((with_reducible exact HB.out))⟩⟩
 case round =>
  clear H'
  clear hcz4_0 hcz4_1 hcz4_2 hcz4_3 hcz4_4 hcz4_5 hcz4_6 hfz4_0 hfz4_1 hfz4_2 hfz4_3 hfz4_4 hfz4_5 hfz4_6
  obtain ⟨x5_1, x10_1, rfl, rfl, HA, HK1, BK101, HB⟩ := hrel
  cases gk with
  | zero => exact absurd HA.out (by simp [sashref05_count.l0])
  | succ k1 =>
   have H := HA.out
   clear HA
   simp only [sashref05_count.l0] at H
   by_cases c5 : x10_1 < (l0_6.length : Int)
   ·rw [if_pos c5] at H
    have c5b0 : decide (x10_1 < (l0_6.length : Int)) = true := decide_eq_true c5
    clear c5
    by_cases c6 : x5_1 > a1
    ·rw [if_pos c6] at H
     have c6b0 : decide (a1 < x5_1) = true := decide_eq_true c6
     clear c6
     obtain rfl := Option.some.inj H
     go_wp2
     go_ret
     exact ⟨by rfl, by repeat ((with_reducible exact HB.out))⟩
    ·rw [if_neg c6] at H
     have c6b0 : decide (a1 < x5_1) = false := decide_eq_false c6
     clear c6
     by_cases c7 : 0 ≤ x10_1
     ·rw [if_pos c7] at H
      have c7b0 : decide (0 ≤ x10_1) = true := decide_eq_true c7
      clear c7
      by_cases c8 : x10_1 < (l0_6.length : Int)
      ·rw [if_pos c8] at H
       have c8b0 : decide (x10_1 < (l0_6.length : Int)) = true := decide_eq_true c8
       clear c8
       replace H := Option.bind_eq_some_iff.mp H
       obtain ⟨t103, A90, H⟩ := H
       replace H : (sashref05_count.l0 k1 a1 (wrap64 (x5_1 + t103)) (l0_6.length : Int) (wrap64 (x10_1 + 1)) a0_0 a0_1 a0_2 a0_3 a0_4 a0_5 l0_6) = some r := H
       have A9 := Aside0.mk A90
       clear A90
       have H' := Aside0.mk H
       clear H
       have hcz10_0 : wr.cell? ⟨gb101, 0, none⟩ = some (.int .u8 a0_0) := (blk_cell BK101.out 0).trans rfl
       have hcz10_1 : wr.cell? ⟨gb101, 1, none⟩ = some (.int .i64 a0_1) := (blk_cell BK101.out 1).trans rfl
       have hcz10_2 : wr.cell? ⟨gb101, 2, none⟩ = some (.int .i64 a0_2) := (blk_cell BK101.out 2).trans rfl
       have hcz10_3 : wr.cell? ⟨gb101, 3, none⟩ = some (.int .i64 a0_3) := (blk_cell BK101.out 3).trans rfl
       have hcz10_4 : wr.cell? ⟨gb101, 4, none⟩ = some (.int .i64 a0_4) := (blk_cell BK101.out 4).trans rfl
       have hcz10_5 : wr.cell? ⟨gb101, 5, none⟩ = some (.int .i64 a0_5) := (blk_cell BK101.out 5).trans rfl
       have hcz10_6 : wr.cell? ⟨gb101, 6, none⟩ = some (.slice A0_6 l0_6.length c0_6) := (blk_cell BK101.out 6).trans rfl
       have hfz10_0 := blk_frozen BK101.out 0
       have hfz10_1 := blk_frozen BK101.out 1
       have hfz10_2 := blk_frozen BK101.out 2
       have hfz10_3 := blk_frozen BK101.out 3
       have hfz10_4 := blk_frozen BK101.out 4
       have hfz10_5 := blk_frozen BK101.out 5
       have hfz10_6 := blk_frozen BK101.out 6
       have p102 : 0 ≤ (x10_1 : Int) := of_decide_eq_true (by (with_reducible assumption))
       have q102 : x10_1 < (l0_6.length : Int) := of_decide_eq_true (by (with_reducible assumption))
       obtain ⟨ad102, A102_6, c102_6, e102, hx102_0, hx102_1, hx102_2, hx102_3, hx102_4, hx102_5, hx102_6, hl102_6, hi102_6⟩ := at_T26 HR0_6.out x10_1 p102 q102
       cases e102
       replace hx102_0 := (HB.out.cell (World.block_lt_of_cell? w _ hx102_0)).trans hx102_0
       replace hx102_1 := (HB.out.cell (World.block_lt_of_cell? w _ hx102_1)).trans hx102_1
       replace hx102_2 := (HB.out.cell (World.block_lt_of_cell? w _ hx102_2)).trans hx102_2
       replace hx102_3 := (HB.out.cell (World.block_lt_of_cell? w _ hx102_3)).trans hx102_3
       replace hx102_4 := (HB.out.cell (World.block_lt_of_cell? w _ hx102_4)).trans hx102_4
       replace hx102_5 := (HB.out.cell (World.block_lt_of_cell? w _ hx102_5)).trans hx102_5
       replace hx102_6 := (HB.out.cell (World.block_lt_of_cell? w _ hx102_6)).trans hx102_6
       have HR102_6 := Aside0.mk hi102_6
       have HC102_6 := Aside0.mk hl102_6
       clear hi102_6 hl102_6
       replace p102 := eq_true p102
       replace q102 := eq_true q102
       go_wp2_with (((with_reducible refine gate_callee (f := 124) rfl ?_); refine goesL_ (some 24) rfl rfl Try.func124 (by kernel_rfl) rfl #[.agg #[.int .u8 ((rd_T26 l0_6 x10_1).f0), .int .i64 ((rd_T26 l0_6 x10_1).f1.f0), .int .i64 ((rd_T26 l0_6 x10_1).f1.f1), .int .i64 ((rd_T26 l0_6 x10_1).f1.f2), .int .i64 ((rd_T26 l0_6 x10_1).f1.f3), .int .i64 ((rd_T26 l0_6 x10_1).f2), .slice A102_6 ((rd_T26 l0_6 x10_1).f3).length c102_6], .int .i64 a1] rfl (by (try simp only [List.map_toArray, List.map_cons, List.map_nil]); rfl) ?_; (with_reducible refine (ih k1 (by have := HK1.out; omega) ((rd_T26 l0_6 x10_1).f0) ((rd_T26 l0_6 x10_1).f1.f0) ((rd_T26 l0_6 x10_1).f1.f1) ((rd_T26 l0_6 x10_1).f1.f2) ((rd_T26 l0_6 x10_1).f1.f3) ((rd_T26 l0_6 x10_1).f2) _ _ ((rd_T26 l0_6 x10_1).f3) a1 t103 _ ?side1 ?side2 A9.out).mono ?_); (case side1 => repeat (exact (Kd.C_below HR102_6.out HB.out))); (case side2 => exact HC102_6.out); rintro e w11 ⟨rfl, hb⟩; refine ⟨_, rfl, ?_⟩; replace BK101 := Aside0.mk (blk_below BK101.out hb); replace HB := Aside0.mk (below_step (by repeat ((with_reducible exact HB.out))) hb); (try clear hb)))
       go_roundg k1
       case measure => have := HK1.out; omega
       case rel => exact ⟨(wrap64 (x5_1 + t103)), (wrap64 (x10_1 + 1)), (by rfl), (by rfl), H', ⟨by have := HK1.out; omega⟩, ⟨by exact BK101.out⟩, ⟨by repeat ((with_reducible exact HB.out))⟩⟩
      ·rw [if_neg c8] at H
       exact absurd H (by simp)
     ·rw [if_neg c7] at H
      exact absurd H (by simp)
   ·rw [if_neg c5] at H
    have c5b0 : decide (x10_1 < (l0_6.length : Int)) = false := decide_eq_false c5
    clear c5
    obtain rfl := Option.some.inj H
    go_wp2
    go_ret
    exact ⟨by rfl, by repeat ((with_reducible exact HB.out))⟩

end Go.Proofs.Ytfdmfgaiblfbhaa.P
namespace Go.Proofs.Ytfdmfgaiblfbhaa.P
open Go.RowKit Go.Proofs.YtfdmfgaiblfbhaaW.PrintWords Go.Proofs.YtfdmfgaiblfbhaaW.PrintLast Go.Proofs.YtfdmfgaiblfbhaaW.PrintMore
attribute [local go_sem] max2_int min2_int max_two min_two max_three min_three max_four min_four   -- for this text's walks alone
set_option linter.unusedVariables false
set_option linter.unusedSimpArgs false

/-! ### sashref05_Great: function 34 -/
def sashref05_Great.f (k : Nat) (a0_0 : Int) (a0_1 : Int) (a0_2 : Int) (a0_3 : Int) (a0_4 : Int) (a0_5 : Int) (l0_6 : List (S26)) : Option (Bool) := (sashref05_count.f k a0_0 a0_1 a0_2 a0_3 a0_4 a0_5 l0_6 200).bind fun t105 => (some (decide (t105 > 200)))
set_option maxHeartbeats 8000000 in
set_option maxRecDepth 100000 in
theorem sashref05_Great.calls (k : Nat) (a0_0 : Int) (a0_1 : Int) (a0_2 : Int) (a0_3 : Int) (a0_4 : Int) (a0_5 : Int) (A0_6 : Option Addr) (c0_6 : Nat) (l0_6 : List (S26)) (r : Bool) (w : World) (hr0_6 : Kd.C k26 w A0_6 l0_6.length l0_6) (hc0_6 : l0_6.length ≤ c0_6) (h : sashref05_Great.f k a0_0 a0_1 a0_2 a0_3 a0_4 a0_5 l0_6 = some r) :
  Calls Try.prog 34 #[.agg #[.int .u8 a0_0, .int .i64 a0_1, .int .i64 a0_2, .int .i64 a0_3, .int .i64 a0_4, .int .i64 a0_5, .slice A0_6 l0_6.length c0_6]] w fun e w' => e = .returned (.bool r) ∧ Below w.heap.size w w' := by
 have hu26 := Try.underlying26
 have HR0_6 := Aside0.mk hr0_6
 have HC0_6 := Aside0.mk hc0_6
 clear hr0_6 hc0_6
 have HB := Aside0.mk (Below.refl w.heap.size w)
 have H : ((sashref05_count.f k a0_0 a0_1 a0_2 a0_3 a0_4 a0_5 l0_6 200).bind fun t105 => (some (decide (t105 > 200)))) = some r := h
 clear h
 replace H := Option.bind_eq_some_iff.mp H
 obtain ⟨t105, A20, H⟩ := H
 replace H : (some (decide (t105 > 200))) = some r := H
 have A2 := Aside0.mk A20
 clear A20
 obtain rfl := Option.some.inj H
 go_enter Try.func34, Try.ntmps34
 go_wp2_with (first | ((with_reducible refine gate_dst (N := 1) rfl ?_); refine box_event ?hg (N := 1) ?hd (cs := #[.int .u8 a0_0, .int .i64 a0_1, .int .i64 a0_2, .int .i64 a0_3, .int .i64 a0_4, .int .i64 a0_5, .slice A0_6 l0_6.length c0_6]) (t := 26) ?hr ?_; (case hd => rfl); (case hg => rfl); (case hr => (go_simp; done)); intro gb104 hg w3 hbox hb; have BK104 := Aside0.mk (hbox); replace HB := Aside0.mk (below_step (by repeat ((with_reducible exact HB.out))) hb); clear hb hbox hg; have hcz4_0 : w3.cell? ⟨gb104, 0, none⟩ = some (.int .u8 a0_0) := (blk_cell BK104.out 0).trans rfl; have hcz4_1 : w3.cell? ⟨gb104, 1, none⟩ = some (.int .i64 a0_1) := (blk_cell BK104.out 1).trans rfl; have hcz4_2 : w3.cell? ⟨gb104, 2, none⟩ = some (.int .i64 a0_2) := (blk_cell BK104.out 2).trans rfl; have hcz4_3 : w3.cell? ⟨gb104, 3, none⟩ = some (.int .i64 a0_3) := (blk_cell BK104.out 3).trans rfl; have hcz4_4 : w3.cell? ⟨gb104, 4, none⟩ = some (.int .i64 a0_4) := (blk_cell BK104.out 4).trans rfl; have hcz4_5 : w3.cell? ⟨gb104, 5, none⟩ = some (.int .i64 a0_5) := (blk_cell BK104.out 5).trans rfl; have hcz4_6 : w3.cell? ⟨gb104, 6, none⟩ = some (.slice A0_6 l0_6.length c0_6) := (blk_cell BK104.out 6).trans rfl; have hfz4_0 := blk_frozen BK104.out 0; have hfz4_1 := blk_frozen BK104.out 1; have hfz4_2 := blk_frozen BK104.out 2; have hfz4_3 := blk_frozen BK104.out 3; have hfz4_4 := blk_frozen BK104.out 4; have hfz4_5 := blk_frozen BK104.out 5; have hfz4_6 := blk_frozen BK104.out 6) | ((with_reducible refine gate_callee (f := 124) rfl ?_); refine goesL_ (some 4) rfl rfl Try.func124 (by kernel_rfl) rfl #[.agg #[.int .u8 a0_0, .int .i64 a0_1, .int .i64 a0_2, .int .i64 a0_3, .int .i64 a0_4, .int .i64 a0_5, .slice A0_6 l0_6.length c0_6], .int .i64 200] rfl (by (try simp only [List.map_toArray, List.map_cons, List.map_nil]); rfl) ?_; (with_reducible refine (sashref05_count.calls k a0_0 a0_1 a0_2 a0_3 a0_4 a0_5 _ _ l0_6 200 t105 _ ?side1 ?side2 A2.out).mono ?_); (case side1 => repeat (exact (Kd.C_below HR0_6.out HB.out))); (case side2 => exact HC0_6.out); rintro e w5 ⟨rfl, hb⟩; refine ⟨_, rfl, ?_⟩; replace BK104 := Aside0.mk (blk_below BK104.out hb); replace HB := Aside0.mk (below_step (by repeat ((with_reducible exact HB.out))) hb); (try clear hb)))
 go_ret
 exact ⟨by rfl, by repeat ((with_reducible exact HB.out))⟩

end Go.Proofs.Ytfdmfgaiblfbhaa.P
namespace Go.Proofs.Ytfdmfgaiblfbhaa.P
open Go.RowKit Go.Proofs.YtfdmfgaiblfbhaaW.PrintWords Go.Proofs.YtfdmfgaiblfbhaaW.PrintLast Go.Proofs.YtfdmfgaiblfbhaaW.PrintMore
attribute [local go_sem] max2_int min2_int max_two min_two max_three min_three max_four min_four   -- for this text's walks alone
set_option linter.unusedVariables false
set_option linter.unusedSimpArgs false

/-! ### sashref05_All: function 79 -/
mutual
def sashref05_All.l0 : Nat → List (S26) → Int → Int → Int → Int → Int → Int → Int → Int → List (S26) → Option ((List (S26)))
 | 0, _, _, _, _, _, _, _, _, _, _ => none
 | k + 1, x3, x9, x10, x132000, x132001, x132002, x132003, x132004, x132005, x132006 => if x10 < x9 then (if 0 ≤ x10 then (if x10 < (x132006.length : Int) then ((sashref05_All.f k ((rd_T26 x132006 x10).f0) ((rd_T26 x132006 x10).f1.f0) ((rd_T26 x132006 x10).f1.f1) ((rd_T26 x132006 x10).f1.f2) ((rd_T26 x132006 x10).f1.f3) ((rd_T26 x132006 x10).f2) ((rd_T26 x132006 x10).f3)).bind fun t136 => (if x3.length + t136.length < 1954687338268 then (sashref05_All.l0 k (x3 ++ t136) x9 (wrap64 (x10 + 1)) x132000 x132001 x132002 x132003 x132004 x132005 x132006) else (none))) else (none)) else (none)) else (some x3)
def sashref05_All.f : Nat → Int → Int → Int → Int → Int → Int → List (S26) → Option ((List (S26)))
 | 0, _, _, _, _, _, _, _ => none
 | k + 1, a0_0, a0_1, a0_2, a0_3, a0_4, a0_5, l0_6 => sashref05_All.l0 k (([(⟨a0_0, (⟨a0_1, a0_2, a0_3, a0_4⟩ : S23), a0_5, l0_6⟩ : S26)] : List (S26))) (l0_6.length : Int) 0 a0_0 a0_1 a0_2 a0_3 a0_4 a0_5 l0_6
end
end Go.Proofs.Ytfdmfgaiblfbhaa.P
namespace Go.Proofs.Ytfdmfgaiblfbhaa.P
open Go.RowKit Go.Proofs.YtfdmfgaiblfbhaaW.PrintWords Go.Proofs.YtfdmfgaiblfbhaaW.PrintLast Go.Proofs.YtfdmfgaiblfbhaaW.PrintMore
attribute [local go_sem] max2_int min2_int max_two min_two max_three min_three max_four min_four   -- for this text's walks alone
set_option linter.unusedVariables false
set_option linter.unusedSimpArgs false

/-! ### sashref05_Leaves: function 126 -/
def sashref05_Leaves.l0 : Nat → List (S26) → List (S26) → Int → Int → Option ((List (S26)))
 | 0, _, _, _, _ => none
 | k + 1, x3, x4, x10, x11 => if x11 < x10 then (if 0 ≤ x11 then (if x11 < (x4.length : Int) then (if ((rd_T26 x4 x11).f0) = 1 then (if x3.length < 1954687338268 then (sashref05_Leaves.l0 k (x3 ++ [(⟨(rd_T26 x4 x11).f0, (⟨(rd_T26 x4 x11).f1.f0, (rd_T26 x4 x11).f1.f1, (rd_T26 x4 x11).f1.f2, (rd_T26 x4 x11).f1.f3⟩ : S23), (rd_T26 x4 x11).f2, (rd_T26 x4 x11).f3⟩ : S26)]) x4 x10 (wrap64 (x11 + 1))) else (none)) else (sashref05_Leaves.l0 k x3 x4 x10 (wrap64 (x11 + 1)))) else (none)) else (none)) else (some x3)
def sashref05_Leaves.f (k : Nat) (a0_0 : Int) (a0_1 : Int) (a0_2 : Int) (a0_3 : Int) (a0_4 : Int) (a0_5 : Int) (l0_6 : List (S26)) : Option ((List (S26))) := (sashref05_All.f k a0_0 a0_1 a0_2 a0_3 a0_4 a0_5 l0_6).bind fun t146 => (sashref05_Leaves.l0 k (([] : List (S26))) t146 (t146.length : Int) 0)
end Go.Proofs.Ytfdmfgaiblfbhaa.P
/- Trees of cells: their size, their cells, their leaves, their panes: the reference's functions, as plain data. -/
namespace Go.Proofs.Ytfdmfgaiblfbhaa.P
open Go.RowKit Go.Proofs.YtfdmfgaiblfbhaaW.PrintWords Go.Proofs.YtfdmfgaiblfbhaaW.PrintLast Go.Proofs.YtfdmfgaiblfbhaaW.PrintMore

theorem rd26_in (pre : List S26) (p : S26) (rest : List S26) : rd_T26 (pre ++ p :: rest) (pre.length : Int) = p := by
  simp [rd_T26, List.getD_eq_getElem?_getD]
theorem up_in {α : Type} (pre : List α) (p : α) (rest : List α) (h : (pre ++ p :: rest).length ≤ 9223372036854775807) : wrap64 ((pre.length : Int) + 1) = ((pre ++ [p]).length : Int) := by
  simp only [List.length_append, List.length_cons, List.length_nil] at h ⊢
  rw [wq (by omega) (by omega)]
  omega

/-- THE COUNT, that ends once it is above a bound. -/
theorem count_ev (L : Int) : ∀ (N : Nat) (c : S26), sz c ≤ N → N ≤ 1048576 → ∃ n : Int, Ev (fun k => sashref05_count.f k c.f0 c.f1.f0 c.f1.f1 c.f1.f2 c.f1.f3 c.f2 c.f3 L) n ∧ 1 ≤ n ∧ n ≤ (sz c : Int) ∧ (n > L ∨ n = (sz c : Int)) := by
  intro N
  induction N with
  | zero => intro c h _; rw [sz_eq] at h; omega
  | succ N ih =>
    intro c hc hN
    have hs := sz_eq c
    have key : ∀ (rest pre : List S26), pre ++ rest = c.f3 → ∀ acc : Int, 1 ≤ acc → acc + (szL rest : Int) ≤ 1048576 → (acc > L ∨ acc = 1 + (szL pre : Int)) →
        ∃ n : Int, Ev (fun k => sashref05_count.l0 k L acc (c.f3.length : Int) (pre.length : Int) c.f0 c.f1.f0 c.f1.f1 c.f1.f2 c.f1.f3 c.f2 c.f3) n ∧ acc ≤ n ∧ n ≤ acc + (szL rest : Int) ∧ (n > L ∨ n = 1 + (szL c.f3 : Int)) := by
      intro rest
      induction rest with
      | nil =>
        intro pre hp acc h1 h2 h3
        rw [List.append_nil] at hp
        refine ⟨acc, Ev.step (f := fun _ => some acc) (fun k => ?_) (Ev.now _), by omega, by omega, by rw [← hp]; exact h3⟩
        simp only [sashref05_count.l0]
        rw [if_neg (by rw [hp]; omega)]
      | cons x xs ihr =>
        intro pre hp acc h1 h2 h3
        have hl : (pre.length : Int) < (c.f3.length : Int) := by rw [← hp, List.length_append, List.length_cons]; omega
        have hlen := szL_len c.f3
        by_cases hL : acc > L
        · refine ⟨acc, Ev.step (f := fun _ => some acc) (fun k => ?_) (Ev.now _), by omega, by omega, .inl hL⟩
          simp only [sashref05_count.l0]
          rw [if_pos hl, if_pos hL]
        · have h3' : acc = 1 + (szL pre : Int) := by omega
          have hsum : szL c.f3 = szL pre + (sz x + szL xs) := by rw [← hp, szL_app, szL_cons]
          obtain ⟨n1, e1, a1, b1, c1⟩ := ih x (by omega) (by omega)
          rw [szL_cons] at h2
          obtain ⟨n, e2, a2, b2, c2⟩ := ihr (pre ++ [x]) (by rw [List.append_assoc]; exact hp) (acc + n1) (by omega) (by omega) (by
            rw [szL_app, szL_cons, szL_nil]
            omega)
          refine ⟨n, ?_, by omega, by rw [szL_cons]; omega, c2⟩
          have hw : wrap64 (acc + n1) = acc + n1 := wq (by omega) (by omega)
          have hr : rd_T26 c.f3 (pre.length : Int) = x := by rw [← hp]; exact rd26_in pre x xs
          have hu : wrap64 ((pre.length : Int) + 1) = ((pre ++ [x]).length : Int) := up_in pre x xs (by rw [hp]; omega)
          refine Ev.step (f := fun k => (sashref05_count.f k x.f0 x.f1.f0 x.f1.f1 x.f1.f2 x.f1.f3 x.f2 x.f3 L).bind fun t => sashref05_count.l0 k L (wrap64 (acc + t)) (c.f3.length : Int) (wrap64 ((pre.length : Int) + 1)) c.f0 c.f1.f0 c.f1.f1 c.f1.f2 c.f1.f3 c.f2 c.f3) (fun k => ?_) (Ev.bind e1 ?_)
          · simp only [sashref05_count.l0]
            rw [if_pos hl, if_neg hL, if_pos (by omega), if_pos hl, hr]
          · rw [hw, hu]
            exact e2
    obtain ⟨n, e, a, b, d⟩ := key c.f3 [] rfl 1 (by omega) (by omega) (.inr (by rw [szL_nil]; rfl))
    refine ⟨n, Ev.step (fun k => ?_) e, a, by omega, by omega⟩
    simp only [sashref05_count.f]
    rfl
theorem great_ev (c : S26) (h : sz c ≤ 1048576) : ∃ b : Bool, Ev (fun k => sashref05_Great.f k c.f0 c.f1.f0 c.f1.f1 c.f1.f2 c.f1.f3 c.f2 c.f3) b ∧ (b = false → sz c ≤ 200) := by
  obtain ⟨n, e, h1, h2, h3⟩ := count_ev 200 1048576 c h (Nat.le_refl _)
  refine ⟨decide (n > 200), ?_, fun hb => ?_⟩
  · unfold sashref05_Great.f
    exact Ev.bind e (Ev.now _)
  · have := of_decide_eq_false hb
    omega

/-- The leaves. -/
def leavesC (c : S26) : List S26 := (allC c).filter fun x => decide (x.f0 = 1)
end Go.Proofs.Ytfdmfgaiblfbhaa.P
/- May a tree be: plain words. -/
namespace Go.Proofs.Ytfdmfgaiblfbhaa.P
open Go.RowKit Go.Proofs.YtfdmfgaiblfbhaaW.PrintWords Go.Proofs.YtfdmfgaiblfbhaaW.PrintLast Go.Proofs.YtfdmfgaiblfbhaaW.PrintMore

/-- May one cell be, by itself? -/
def okC (c : S26) : Bool := mayR c.f1 && decide (1 ≤ c.f0 ∧ c.f0 ≤ 3) && decide (c.f0 = 1 → c.f3.length = 0 ∧ 0 ≤ c.f2 ∧ c.f2 ≤ 2147483647) && decide (c.f0 > 1 → 2 ≤ c.f3.length ∧ c.f2 = 0)
/-- No number twice? -/
def distinctC : List S26 → Bool
  | [] => true
  | x :: xs => (xs.all fun y => decide (y.f2 ≠ x.f2)) && distinctC xs
def apartTo (pre : List S26) (x : S26) : Bool := pre.all fun y => decide (x.f2 ≠ y.f2)
theorem distinctC_app (pre : List S26) (x : S26) : distinctC (pre ++ [x]) = (distinctC pre && apartTo pre x) := by
  induction pre with
  | nil => simp [distinctC, apartTo]
  | cons y ys ih =>
    have : (decide (x.f2 ≠ y.f2)) = decide (¬ x.f2 = y.f2) := rfl
    simp only [List.cons_append, distinctC, ih, apartTo, List.all_append, List.all_cons, List.all_nil, Bool.and_true]
    cases (ys.all fun z => decide (z.f2 ≠ y.f2)) <;> cases (decide (x.f2 ≠ y.f2)) <;> cases distinctC ys <;> cases (ys.all fun z => decide (x.f2 ≠ z.f2)) <;> rfl
theorem distinctC_pre : ∀ (pre rest : List S26), distinctC pre = false → distinctC (pre ++ rest) = false := by
  intro pre rest h
  induction rest generalizing pre with
  | nil => rw [List.append_nil]; exact h
  | cons x xs ih =>
    have := ih (pre ++ [x]) (by rw [distinctC_app, h, Bool.false_and])
    rwa [List.append_assoc] at this
def mayC (c : S26) : Bool := decide (sz c ≤ 20000) && ((allC c).all okC && distinctC (leavesC c))
end Go.Proofs.Ytfdmfgaiblfbhaa.P
/- slices.IndexFunc, slices.ContainsFunc at S26: what they answer, with any function value that keeps an invariant of the world. -/
namespace Go.Proofs.Ytfdmfgaiblfbhaa.P
open Go.RowKit Go.Proofs.YtfdmfgaiblfbhaaW.PrintWords Go.Proofs.YtfdmfgaiblfbhaaW.PrintLast Go.Proofs.YtfdmfgaiblfbhaaW.PrintMore

set_option maxHeartbeats 2000000 in
set_option maxRecDepth 100000 in
theorem idx192 {σ : Type} (Inv : σ → World → Prop) (step : σ → S26 → Bool × σ) (g : Nat) (lb : Array Value) (eg : ∀ args w, (callFunc g args).run Try.prog w = .ok (.enter g args) w) (l : List S26) (A : Option Addr) (c : Nat)
    (w0 : World) (hR : Kd.C k26 w0 A l.length l) (hW : ∀ s W, Inv s W → Below w0.heap.size w0 W) (hD : ∀ s W n, Inv s W → Inv s (W.drewN n))
    (hcall : ∀ s W (x : S26) (B : Option Addr) (cb : Nat), x ∈ l → Inv s W → Kd.C k26 w0 B x.f3.length x.f3 → x.f3.length ≤ cb → Calls Try.prog g (#[.agg #[.int .u8 x.f0, .int .i64 x.f1.f0, .int .i64 x.f1.f1, .int .i64 x.f1.f2, .int .i64 x.f1.f3, .int .i64 x.f2, .slice B x.f3.length cb]] ++ lb) W fun e w' => e = .returned (.bool (step s x).1) ∧ Inv (step s x).2 w')
    (s : σ) (w : World) (hI : Inv s w) (hl : l.length ≤ 9223372036854775807) :
    Calls Try.prog 192 #[.slice A l.length c, .func (.func g) #[] lb] w fun e w' => e = .returned (.int .i64 (scanI step 0 s l).1) ∧ Inv (scanI step 0 s l).2 w' := by
  have HR := Aside0.mk hR
  have HW := Aside0.mk hW
  have HI := Aside0.mk hI
  have HCall := Aside0.mk hcall
  clear hR hW hcall hD hI
  go_enter Try.func192, Try.ntmps192
  go_wp2
  go_loopg [5, 8] l.length (fun gg _ v8 wr => ∃ (kk : Nat) (t : σ), kk ≤ l.length ∧ l.length - kk ≤ gg ∧ v8 = .int .i64 kk ∧ Aside0 (Inv t wr) ∧ Aside0 (scanI step 0 s l = scanI step kk t (l.drop kk)))
  case atStart => exact ⟨0, s, Nat.zero_le _, by omega, rfl, HI, ⟨by simp⟩⟩
  case round =>
    clear HI
    obtain ⟨kk, t, hkk, hg, rfl, HI, HS⟩ := hrel
    by_cases hlt : kk < l.length
    · have hltz : (kk : Int) < (l.length : Int) := by omega
      obtain ⟨ad, B, cb, rfl, hc0, hc1, hc2, hc3, hc4, hc5, hc6, hlb, hgb⟩ := at_T26 HR.out (kk : Int) (by omega) (by omega)
      have hbw := HW.out t wr HI.out
      replace hc0 := (hbw.cell (World.block_lt_of_cell? w0 _ hc0)).trans hc0
      replace hc1 := (hbw.cell (World.block_lt_of_cell? w0 _ hc1)).trans hc1
      replace hc2 := (hbw.cell (World.block_lt_of_cell? w0 _ hc2)).trans hc2
      replace hc3 := (hbw.cell (World.block_lt_of_cell? w0 _ hc3)).trans hc3
      replace hc4 := (hbw.cell (World.block_lt_of_cell? w0 _ hc4)).trans hc4
      replace hc5 := (hbw.cell (World.block_lt_of_cell? w0 _ hc5)).trans hc5
      replace hc6 := (hbw.cell (World.block_lt_of_cell? w0 _ hc6)).trans hc6
      clear hbw
      have HX : Aside0 (scanI step kk t (l.drop kk) = if (step t (rd_T26 l (kk : Int))).1 = true then ((kk : Int), (step t (rd_T26 l (kk : Int))).2) else scanI step ((kk + 1 : Nat) : Int) (step t (rd_T26 l (kk : Int))).2 (l.drop (kk + 1))) := ⟨scan_at step z26 l kk hlt t⟩
      have hmem : (rd_T26 l (kk : Int)) ∈ l := scan_mem z26 l kk hlt
      have hcall := HCall.out t wr _ B cb hmem HI.out hgb hlb
      clear hmem hgb hlb
      simp only [Int.toNat_natCast] at hc0 hc1 hc2 hc3 hc4 hc5 hc6
      generalize rd_T26 l (kk : Int) = x at hc0 hc1 hc2 hc3 hc4 hc5 hc6 HX hcall
      have HC := Aside0.mk hcall
      clear hcall
      cases hq : (step t x).1 with
      | true =>
        have h := HC.out
        rw [hq] at h
        have HH := Aside0.mk h
        have HQ := Aside0.mk hq
        clear hq HC h
        go_wp2_with fail
        refine HH.out.mono ?_
        rintro e w' ⟨rfl, hb'⟩
        have HB := Aside0.mk hb'
        clear hb'
        go_wp2
        go_ret
        rw [HS.out, HX.out, if_pos HQ.out]
        exact ⟨rfl, HB.out⟩
      | false =>
        have h := HC.out
        rw [hq] at h
        have HH := Aside0.mk h
        have HQ := Aside0.mk hq
        clear hq HC h
        go_wp2_with fail
        refine HH.out.mono ?_
        rintro e w' ⟨rfl, hb'⟩
        have HB := Aside0.mk hb'
        clear hb'
        go_wp2
        go_roundg (l.length - (kk + 1))
        case measure => omega
        case rel =>
          refine ⟨kk + 1, (step t x).2, by omega, by omega, by go_num, HB, ⟨?_⟩⟩
          rw [HS.out, HX.out, if_neg (by rw [HQ.out]; simp)]
    · have hltz : ¬ (kk : Int) < (l.length : Int) := by omega
      go_wp2
      go_ret
      rw [HS.out, List.drop_eq_nil_of_le (by omega)]
      exact ⟨rfl, HI.out⟩

set_option maxHeartbeats 1000000 in
theorem con174 {σ : Type} (Inv : σ → World → Prop) (step : σ → S26 → Bool × σ) (g : Nat) (lb : Array Value) (eg : ∀ args w, (callFunc g args).run Try.prog w = .ok (.enter g args) w) (l : List S26) (A : Option Addr) (c : Nat)
    (w0 : World) (hR : Kd.C k26 w0 A l.length l) (hW : ∀ s W, Inv s W → Below w0.heap.size w0 W) (hD : ∀ s W n, Inv s W → Inv s (W.drewN n))
    (hcall : ∀ s W (x : S26) (B : Option Addr) (cb : Nat), x ∈ l → Inv s W → Kd.C k26 w0 B x.f3.length x.f3 → x.f3.length ≤ cb → Calls Try.prog g (#[.agg #[.int .u8 x.f0, .int .i64 x.f1.f0, .int .i64 x.f1.f1, .int .i64 x.f1.f2, .int .i64 x.f1.f3, .int .i64 x.f2, .slice B x.f3.length cb]] ++ lb) W fun e w' => e = .returned (.bool (step s x).1) ∧ Inv (step s x).2 w')
    (s : σ) (w : World) (hI : Inv s w) (hl : l.length ≤ 9223372036854775807) :
    Calls Try.prog 174 #[.slice A l.length c, .func (.func g) #[] lb] w fun e w' => e = .returned (.bool (scanB step s l).1) ∧ Inv (scanB step s l).2 w' := by
  have hi := idx192 Inv step g lb eg l A c w0 hR hW hD hcall s w hI hl
  rw [scanB_eq]
  clear hR hW hD hcall hI
  generalize scanI step 0 s l = r at hi
  have HI := Aside0.mk hi
  clear hi
  go_enter Try.func174, Try.ntmps174
  go_wp2_with fail
  refine HI.out.mono ?_
  rintro e w' ⟨rfl, hb'⟩
  have HB := Aside0.mk hb'
  clear hb'
  go_wp2
  go_ret
  exact ⟨rfl, HB.out⟩
end Go.Proofs.Ytfdmfgaiblfbhaa.P
/- cell.all, cell.none: what they answer, with any function value that keeps an invariant of the world. -/
namespace Go.Proofs.Ytfdmfgaiblfbhaa.P
open Go.RowKit Go.Proofs.YtfdmfgaiblfbhaaW.PrintWords Go.Proofs.YtfdmfgaiblfbhaaW.PrintLast Go.Proofs.YtfdmfgaiblfbhaaW.PrintMore

set_option maxHeartbeats 1000000 in
/-- cell.none: whether the test says yes of none. -/
theorem none142 (l : List S26) (A : Option Addr) (c : Nat) (g : Nat) (lb : Array Value) (Q : World → Prop) (b : Bool) (w : World)
    (h : Calls Try.prog 174 #[.slice A l.length c, .func (.func g) #[] lb] w fun e w' => e = .returned (.bool b) ∧ Q w') (hD : ∀ W n, Q W → Q (W.drewN n)) :
    Calls Try.prog 142 #[.slice A l.length c, .func (.func g) #[] lb] w fun e w' => e = .returned (.bool (!b)) ∧ Q w' := by
  have H := Aside0.mk h
  clear h hD
  cases b
  all_goals
    go_enter Try.func142, Try.ntmps142
    go_wp2_with fail
    refine H.out.mono ?_
    rintro e w' ⟨rfl, hb⟩
    have HB := Aside0.mk hb
    clear hb
    go_wp2
    go_ret
    exact ⟨rfl, HB.out⟩
/-- Only new blocks, and those of S, may differ. -/
structure Kp (S : Nat → Prop) (W W' : World) : Prop where
  size : W.heap.size ≤ W'.heap.size
  blk : ∀ k, k < W.heap.size → ¬ S k → W'.heap[k]? = W.heap[k]?
theorem Kp.refl (S : Nat → Prop) (W : World) : Kp S W W := ⟨Nat.le_refl _, fun _ _ _ => rfl⟩
theorem Kp.trans {S : Nat → Prop} {W W1 W2 : World} (h : Kp S W W1) (k : Kp S W1 W2) : Kp S W W2 := ⟨Nat.le_trans h.size k.size, fun i hi hs => (k.blk i (Nat.lt_of_lt_of_le hi h.size) hs).trans (h.blk i hi hs)⟩
theorem Kp.below {S : Nat → Prop} {W W1 : World} (h : Below W.heap.size W W1) : Kp S W W1 := ⟨h.size, fun i hi _ => h.block i hi⟩
theorem Kp.at {S : Nat → Prop} {W W1 : World} {g : Nat} {o : Obj} (h : Kp S W W1) (hb : W.heap[g]? = some o) (hs : ¬ S g) : W1.heap[g]? = some o := (h.blk g (blk_lt hb) hs).trans hb
set_option maxHeartbeats 1000000 in
theorem clo193 (x : S26) (B : Option Addr) (cb g : Nat) (lb : Array Value) (b3 : Nat) (r : Bool) (R : World → Prop) (W : World) (hk : W.heap[b3]? = some (.cells #[.func (.func g) #[] lb] 27 (0, 0)))
    (h : ∀ W1, Below W.heap.size W W1 → Calls Try.prog 175 #[.agg #[.int .u8 x.f0, .int .i64 x.f1.f0, .int .i64 x.f1.f1, .int .i64 x.f1.f2, .int .i64 x.f1.f3, .int .i64 x.f2, .slice B x.f3.length cb], .func (.func g) #[] lb] W1 fun e w' => e = .returned (.bool r) ∧ R w') :
    Calls Try.prog 193 (#[.agg #[.int .u8 x.f0, .int .i64 x.f1.f0, .int .i64 x.f1.f1, .int .i64 x.f1.f2, .int .i64 x.f1.f3, .int .i64 x.f2, .slice B x.f3.length cb]] ++ #[.pointer (some ⟨b3, 0, none⟩)]) W fun e w' => e = .returned (.bool (!r)) ∧ R w' := by
  have HK := Aside0.mk hk
  have H := Aside0.mk h
  clear hk h
  simp only [List.append_toArray, List.cons_append, List.nil_append]
  cases r
  all_goals
    go_enter Try.func193, Try.ntmps193
    go_wp2_with (((with_reducible refine gate_dst (N := 2) rfl ?_); refine box_event ?hg (N := 2) ?hd (cs := #[.int .u8 x.f0, .int .i64 x.f1.f0, .int .i64 x.f1.f1, .int .i64 x.f1.f2, .int .i64 x.f1.f3, .int .i64 x.f2, .slice B x.f3.length cb]) (t := 26) ?hr ?_; (case hd => rfl); (case hg => rfl); (case hr => (go_simp; done)); intro b2 hg w2 hbox hb; have HB := Aside0.mk hb; have K2 := Aside0.mk hbox; have K3 := Aside0.mk (blk_below HK.out hb); clear hb hbox hg; have c0 := (blk_cell K2.out 0).trans rfl; have c1 := (blk_cell K2.out 1).trans rfl; have c2 := (blk_cell K2.out 2).trans rfl; have c3 := (blk_cell K2.out 3).trans rfl; have c4 := (blk_cell K2.out 4).trans rfl; have c5 := (blk_cell K2.out 5).trans rfl; have c6 := (blk_cell K2.out 6).trans rfl; have d0 := (blk_cell K3.out 0).trans rfl))
    clear c0 c1 c2 c3 c4 c5 c6 d0
    refine (H.out _ HB.out).mono ?_
    rintro e w' ⟨rfl, hR⟩
    have HR := Aside0.mk hR
    clear hR
    go_wp2
    go_ret
    exact ⟨rfl, HR.out⟩
set_option maxHeartbeats 4000000 in
set_option maxRecDepth 100000 in
theorem all175 {σ : Type} (S : Nat → Prop) (Inv : σ → World → Prop) (step : σ → S26 → Bool × σ) (g : Nat) (lb : Array Value) (eg : ∀ args w, (callFunc g args).run Try.prog w = .ok (.enter g args) w) (w0 : World)
    (hW : ∀ s W, Inv s W → Below w0.heap.size w0 W) (hB : ∀ s W W', Inv s W → Below W.heap.size W W' → Inv s W') (hS : ∀ s W, Inv s W → ∀ k, S k → k < W.heap.size)
    (hcall : ∀ s W (x : S26) (B : Option Addr) (cb : Nat), Inv s W → Kd.C k26 w0 B x.f3.length x.f3 → x.f3.length ≤ cb → Calls Try.prog g (#[.agg #[.int .u8 x.f0, .int .i64 x.f1.f0, .int .i64 x.f1.f1, .int .i64 x.f1.f2, .int .i64 x.f1.f3, .int .i64 x.f2, .slice B x.f3.length cb]] ++ lb) W fun e w' => e = .returned (.bool (step s x).1) ∧ Inv (step s x).2 w' ∧ Kp S W w') :
    ∀ (N : Nat) (c : S26), sz c ≤ N → ∀ (A : Option Addr) (cc : Nat), Kd.C k26 w0 A c.f3.length c.f3 → c.f3.length ≤ cc → ∀ s W, Inv s W →
      Calls Try.prog 175 #[.agg #[.int .u8 c.f0, .int .i64 c.f1.f0, .int .i64 c.f1.f1, .int .i64 c.f1.f2, .int .i64 c.f1.f3, .int .i64 c.f2, .slice A c.f3.length cc], .func (.func g) #[] lb] W fun e w' => e = .returned (.bool (allS step c s).1) ∧ Inv (allS step c s).2 w' ∧ Kp S W w' := by
  intro N
  induction N with
  | zero => intro c h; rw [sz_eq] at h; omega
  | succ N ih =>
    intro c hc A cc hr hlc s W hI
    have hsz := sz_eq c
    -- what the kids' test does
    have hNone : ∀ (b3 : Nat) (s1 : σ) (W1 : World), Inv s1 W1 → W1.heap[b3]? = some (.cells #[.func (.func g) #[] lb] 27 (0, 0)) → ¬ S b3 →
        Calls Try.prog 142 #[.slice A c.f3.length cc, .func (.func 193) #[] #[.pointer (some ⟨b3, 0, none⟩)]] W1 fun e w' => e = .returned (.bool (noneS step c.f3 s1).1) ∧ Inv (noneS step c.f3 s1).2 w' ∧ Kp S W1 w' := by
      intro b3 s1 W1 hI1 hk3 hs3
      have hcon := con174 (fun t w' => Inv t w' ∧ Kp S W1 w') (fun t k => (!(allS step k t).1, (allS step k t).2)) 193 #[.pointer (some ⟨b3, 0, none⟩)] (enters_fn Try.func193 (by decide +kernel) (by kernel_rfl)) c.f3 A cc w0 hr (fun t w' h => hW t w' h.1)
        (fun t w' n h => ⟨hB t w' _ h.1 (pw_below_drewN (Below.refl _ _) n), h.2.trans (Kp.below (pw_below_drewN (Below.refl _ _) n))⟩)
        (fun t w' x B cb hx h hCx hlx => by
          refine clo193 x B cb g lb b3 _ _ w' (h.2.at hk3 hs3) (fun W2 hb2 => ?_)
          refine (ih x ?_ B cb hCx hlx t W2 (hB t w' W2 h.1 hb2)).mono fun e w'' ⟨he, hi, hk⟩ => ⟨he, hi, (h.2.trans (Kp.below hb2)).trans hk⟩
          have : sz x ≤ szL c.f3 := by
            obtain ⟨p, q, e⟩ := List.append_of_mem hx
            rw [e, szL_app, szL_cons]; omega
          omega) s1 W1 ⟨hI1, Kp.refl S W1⟩ hr.2.1
      rw [scan_none] at hcon
      have := none142 c.f3 A cc 193 _ _ _ W1 hcon (fun w' n h => ⟨hB _ w' _ h.1 (pw_below_drewN (Below.refl _ _) n), h.2.trans (Kp.below (pw_below_drewN (Below.refl _ _) n))⟩)
      rw [Bool.not_not] at this
      exact this
    have hHS0 : ∀ k, S k → k < W.heap.size := hS s W hI
    have hE := allS_eq step c s
    have hcl := fun W1 (h : Inv s W1) => hcall s W1 c A cc h hr hlc
    rcases hst : step s c with ⟨q, s1⟩
    rw [hst] at hE hcl
    simp only [] at hE hcl
    rw [hE]
    have HN := Aside0.mk fun b3 W1 => hNone b3 s1 W1
    have HI := Aside0.mk hI
    have HCall := Aside0.mk hcl
    have HBb := Aside0.mk hB
    have HS := Aside0.mk hS
    have HS0 := Aside0.mk hHS0
    have HK := Aside0.mk (Kp.refl S W)
    clear hNone hI hcall hB hS ih hr hlc hsz hc hW hE hcl hst hHS0
    obtain ⟨ck, ⟨cx, cy, cw, ch⟩, cid, l⟩ := c
    simp only [] at HN HCall ⊢
    generalize noneS step l s1 = ns at HN ⊢
    obtain ⟨n1, n2⟩ := ns
    cases q with
    | false =>
      simp only [Bool.false_eq_true, if_false]
      clear HN
      go_enter Try.func175, Try.ntmps175
      go_wp2_with (first | ((with_reducible refine gate_dst (N := 2) rfl ?_); refine box_event ?hg (N := 2) ?hd (cs := #[.int .u8 ck, .int .i64 cx, .int .i64 cy, .int .i64 cw, .int .i64 ch, .int .i64 cid, .slice A l.length cc]) (t := 26) ?hr ?_; (case hd => rfl); (case hg => rfl); (case hr => (go_simp; done)); intro b2 hg wb2 hbox hb; have K2 := Aside0.mk hbox; have HS2 := Aside0.mk (show ¬ b2 < W.heap.size by rw [hg]; exact Nat.lt_irrefl _); have q1_ := Aside0.mk (HBb.out _ _ _ HI.out hb); have q2_ := Aside0.mk (HK.out.trans (Kp.below hb)); clear HI HK; have HI := q1_; have HK := q2_; clear q1_ q2_; clear hb hbox hg) | ((with_reducible refine gate_dst (N := 3) rfl ?_); refine box_event ?hg (N := 3) ?hd (cs := #[.func (.func g) #[] lb]) (t := 27) ?hr ?_; (case hd => rfl); (case hg => rfl); (case hr => (go_simp; done)); intro b3 hg wb3 hbox hb; have K3 := Aside0.mk hbox; have q3_ := Aside0.mk (blk_below K2.out hb); have NS := Aside0.mk (fun h => Nat.lt_irrefl _ (Nat.lt_of_lt_of_le (hg ▸ HS.out _ _ HI.out b3 h) (Nat.le_refl _)) : ¬ S b3); have NS2 := Aside0.mk (fun h => HS2.out (HS0.out b2 h) : ¬ S b2); clear K2; have K2 := q3_; clear q3_; have q1_ := Aside0.mk (HBb.out _ _ _ HI.out hb); have q2_ := Aside0.mk (HK.out.trans (Kp.below hb)); clear HI HK; have HI := q1_; have HK := q2_; clear q1_ q2_; clear hb hbox hg; have c0 := (blk_cell K2.out 0).trans rfl; have c1 := (blk_cell K2.out 1).trans rfl; have c2 := (blk_cell K2.out 2).trans rfl; have c3 := (blk_cell K2.out 3).trans rfl; have c4 := (blk_cell K2.out 4).trans rfl; have c5 := (blk_cell K2.out 5).trans rfl; have c6 := (blk_cell K2.out 6).trans rfl; have d0 := (blk_cell K3.out 0).trans rfl))
      clear c0 c1 c2 c3 c4 c5 c6 d0
      refine (HCall.out _ HI.out).mono ?_
      rintro e w' ⟨rfl, hi, hk⟩
      have HI' := Aside0.mk hi
      have HK' := Aside0.mk (HK.out.trans hk)
      clear hi hk
      go_wp2
      go_ret
      exact ⟨rfl, HI'.out, HK'.out⟩
    | true =>
      simp only [if_true]
      cases n1
      all_goals
        go_enter Try.func175, Try.ntmps175
        go_wp2_with (first | ((with_reducible refine gate_dst (N := 2) rfl ?_); refine box_event ?hg (N := 2) ?hd (cs := #[.int .u8 ck, .int .i64 cx, .int .i64 cy, .int .i64 cw, .int .i64 ch, .int .i64 cid, .slice A l.length cc]) (t := 26) ?hr ?_; (case hd => rfl); (case hg => rfl); (case hr => (go_simp; done)); intro b2 hg wb2 hbox hb; have K2 := Aside0.mk hbox; have HS2 := Aside0.mk (show ¬ b2 < W.heap.size by rw [hg]; exact Nat.lt_irrefl _); have q1_ := Aside0.mk (HBb.out _ _ _ HI.out hb); have q2_ := Aside0.mk (HK.out.trans (Kp.below hb)); clear HI HK; have HI := q1_; have HK := q2_; clear q1_ q2_; clear hb hbox hg) | ((with_reducible refine gate_dst (N := 3) rfl ?_); refine box_event ?hg (N := 3) ?hd (cs := #[.func (.func g) #[] lb]) (t := 27) ?hr ?_; (case hd => rfl); (case hg => rfl); (case hr => (go_simp; done)); intro b3 hg wb3 hbox hb; have K3 := Aside0.mk hbox; have q3_ := Aside0.mk (blk_below K2.out hb); have NS := Aside0.mk (fun h => Nat.lt_irrefl _ (Nat.lt_of_lt_of_le (hg ▸ HS.out _ _ HI.out b3 h) (Nat.le_refl _)) : ¬ S b3); have NS2 := Aside0.mk (fun h => HS2.out (HS0.out b2 h) : ¬ S b2); clear K2; have K2 := q3_; clear q3_; have q1_ := Aside0.mk (HBb.out _ _ _ HI.out hb); have q2_ := Aside0.mk (HK.out.trans (Kp.below hb)); clear HI HK; have HI := q1_; have HK := q2_; clear q1_ q2_; clear hb hbox hg; have c0 := (blk_cell K2.out 0).trans rfl; have c1 := (blk_cell K2.out 1).trans rfl; have c2 := (blk_cell K2.out 2).trans rfl; have c3 := (blk_cell K2.out 3).trans rfl; have c4 := (blk_cell K2.out 4).trans rfl; have c5 := (blk_cell K2.out 5).trans rfl; have c6 := (blk_cell K2.out 6).trans rfl; have d0 := (blk_cell K3.out 0).trans rfl))
        clear c0 c1 c2 c3 c4 c5 c6 d0
        refine (HCall.out _ HI.out).mono ?_
        rintro e w' ⟨rfl, hi, hk⟩
        have HI' := Aside0.mk hi
        have HK' := Aside0.mk (HK.out.trans hk)
        have K3' := Aside0.mk (hk.at K3.out NS.out)
        have K2' := Aside0.mk (hk.at K2.out NS2.out)
        clear hi hk
        have c6 : w'.cell? ⟨b2, 6, none⟩ = some (.slice A l.length cc) := (blk_cell K2'.out 6).trans rfl
        go_wp2_with fail
        clear c6
        refine (HN.out b3 w' HI'.out K3'.out NS.out).mono ?_
        rintro e w'' ⟨rfl, hi, hk⟩
        have HI2 := Aside0.mk hi
        have HK2 := Aside0.mk (HK'.out.trans hk)
        clear hi hk
        go_wp2
        go_ret
        exact ⟨rfl, HI2.out, HK2.out⟩
end Go.Proofs.Ytfdmfgaiblfbhaa.P
/- Whether a tree may be, cell by cell with the numbers met: plain words; and the numbers met as a map of the call's own. -/
namespace Go.Proofs.Ytfdmfgaiblfbhaa.P
open Go.RowKit Go.Proofs.YtfdmfgaiblfbhaaW.PrintWords Go.Proofs.YtfdmfgaiblfbhaaW.PrintLast Go.Proofs.YtfdmfgaiblfbhaaW.PrintMore

def nodeB (x : S26) : Bool := if x.f0 = 1 then decide (x.f3.length = 0) && (decide (0 ≤ x.f2) && decide (x.f2 ≤ 2147483647)) else if x.f0 = 2 ∨ x.f0 = 3 then decide (2 ≤ x.f3.length) && decide (x.f2 = 0) else false
theorem okC_node (x : S26) : okC x = (nodeB x && mayR x.f1) := by
  unfold okC nodeB
  by_cases h1 : x.f0 = 1
  · simp [h1, Bool.and_comm, Bool.and_assoc]
  · by_cases h2 : x.f0 = 2
    · simp [h2, Bool.and_comm]
    · by_cases h3 : x.f0 = 3
      · simp [h3, Bool.and_comm]
      · have : ¬ (1 ≤ x.f0 ∧ x.f0 ≤ 3) := by omega
        simp [h1, h2, h3, this]
/-- One cell: the count, and the numbers met. -/
def mStep (s : Int × List Int) (x : S26) : Bool × (Int × List Int) :=
  if 20000 < wrap64 (s.1 + 1) then (false, (wrap64 (s.1 + 1), s.2))
  else if okC x = false then (false, (wrap64 (s.1 + 1), s.2))
  else if x.f0 = 1 then (if x.f2 ∈ s.2 then (false, (wrap64 (s.1 + 1), s.2)) else (true, (wrap64 (s.1 + 1), x.f2 :: s.2)))
  else (true, (wrap64 (s.1 + 1), s.2))
def lv (l : List S26) : List S26 := l.filter fun x => decide (x.f0 = 1)
theorem mStep_seq : ∀ (rest pre : List S26), (pre ++ rest).length ≤ 1048576 → pre.length ≤ 20000 → distinctC (lv pre) = true →
    (seqS mStep rest ((pre.length : Int), ((lv pre).map (·.f2)).reverse)).1 = (decide (pre.length + rest.length ≤ 20000) && (rest.all okC && distinctC (lv (pre ++ rest)))) := by
  intro rest
  induction rest with
  | nil =>
    intro pre _ h2 h3
    simp [seqS, h3]
    exact h2
  | cons x xs ih =>
    intro pre h1 h2 h3
    have hlen : (pre ++ x :: xs).length = pre.length + xs.length + 1 := by simp; omega
    have hw : wrap64 ((pre.length : Int) + 1) = ((pre.length + 1 : Nat) : Int) := (wq (by omega) (by omega)).trans (by omega)
    have hsp : pre ++ x :: xs = (pre ++ [x]) ++ xs := by simp
    simp only [seqS]
    unfold mStep
    simp only [hw]
    by_cases c1 : (20000 : Int) < ((pre.length + 1 : Nat) : Int)
    · rw [if_pos c1]
      simp
      intro h
      omega
    · rw [if_neg c1]
      cases c2 : okC x with
      | false => simp [c2]
      | true =>
        simp only [Bool.true_eq_false, if_false, List.all_cons, c2, Bool.true_and]
        have hl1 : (pre ++ [x]).length = pre.length + 1 := by simp
        have hcnt : decide (pre.length + (x :: xs).length ≤ 20000) = decide ((pre ++ [x]).length + xs.length ≤ 20000) := by
          rw [hl1, List.length_cons, decide_eq_decide]; omega
        rw [hcnt]
        by_cases c3 : x.f0 = 1
        · rw [if_pos c3]
          have hlv : lv (pre ++ [x]) = lv pre ++ [x] := by simp [lv, c3]
          have hmem : x.f2 ∈ ((lv pre).map (·.f2)).reverse ↔ apartTo (lv pre) x = false := by
            simp [apartTo]
            constructor
            · rintro ⟨y, hy, e⟩; exact ⟨y, hy, e.symm⟩
            · rintro ⟨y, hy, e⟩; exact ⟨y, hy, e.symm⟩
          by_cases c4 : x.f2 ∈ ((lv pre).map (·.f2)).reverse
          · rw [if_pos c4]
            have hd : distinctC (lv (pre ++ x :: xs)) = false := by
              rw [hsp]
              unfold lv
              rw [List.filter_append]
              apply distinctC_pre
              have : List.filter (fun x => decide (x.f0 = 1)) (pre ++ [x]) = lv pre ++ [x] := hlv
              rw [this, distinctC_app, hmem.1 c4, Bool.and_false]
            simp [hd]
          · rw [if_neg c4]
            have ha : apartTo (lv pre) x = true := by
              cases h : apartTo (lv pre) x with
              | true => rfl
              | false => exact absurd (hmem.2 h) c4
            have e := ih (pre ++ [x]) (by rw [← hsp]; exact h1) (by rw [hl1]; omega) (by rw [hlv, distinctC_app, h3, ha]; rfl)
            rw [hlv, List.map_append, List.reverse_append, hl1, ← hsp] at e
            simp only [if_true]
            rw [hl1]
            exact e
        · rw [if_neg c3]
          have hlv : lv (pre ++ [x]) = lv pre := by simp [lv, c3]
          have e := ih (pre ++ [x]) (by rw [← hsp]; exact h1) (by rw [hl1]; omega) (by rw [hlv]; exact h3)
          rw [hlv, hl1, ← hsp] at e
          simp only [if_true]
          rw [hl1]
          exact e
theorem allS_may (c : S26) (h : sz c ≤ 1048576) : (allS mStep c (0, [])).1 = mayC c := by
  rw [(allS_seq mStep (sz c)).1 c (Nat.le_refl _)]
  have e := mStep_seq (allC c) [] (by rw [List.nil_append]; exact h) (by simp) rfl
  have e2 : (seqS mStep (allC c) (0, [])).1 = (decide (0 + (allC c).length ≤ 20000) && ((allC c).all okC && distinctC (lv ([] ++ allC c)))) := e
  rw [e2, Nat.zero_add, List.nil_append]
  rfl
/-- No more numbers than there are. -/
theorem nodup_le : ∀ (N : Nat) (l : List Int), l.Nodup → (∀ i ∈ l, 0 ≤ i ∧ i < (N : Int)) → l.length ≤ N := by
  intro N
  induction N with
  | zero =>
    intro l _ h
    cases l with
    | nil => simp
    | cons x xs => have := h x (by simp); omega
  | succ N ih =>
    intro l hn h
    have h1 := ih (l.filter fun i => decide (i ≠ (N : Int))) (hn.filter _) (fun i hi => by
      have h2 := List.mem_filter.1 hi
      have h3 := h i h2.1
      have h4 := of_decide_eq_true h2.2
      omega)
    have h5 : ∀ (m : List Int), m.Nodup → m.length ≤ (m.filter fun i => decide (i ≠ (N : Int))).length + 1 := by
      intro m
      induction m with
      | nil => intro _; simp
      | cons y ys ihm =>
        intro hm
        rw [List.nodup_cons] at hm
        by_cases hy : y = (N : Int)
        · have : ys.filter (fun i => decide (i ≠ (N : Int))) = ys := by
            rw [List.filter_eq_self]
            intro i hi
            exact decide_eq_true (fun e => hm.1 (by rw [hy, ← e]; exact hi))
          rw [List.filter_cons_of_neg (by simp [hy]), this, List.length_cons]
          exact Nat.le_refl _
        · rw [List.filter_cons_of_pos (by simpa using hy), List.length_cons, List.length_cons]
          have := ihm hm.2
          omega
    have := h5 l hn
    omega
/-- The numbers met, as a map's datum. -/
def setD (ids : List Int) : DataW Unit := ids.foldr (fun i D => D.put (.int .i64 i) (.lit (.bool true))) (.map [])
theorem setD_map : ∀ ids : List Int, Maps.IsMap (setD ids) := by
  intro ids
  induction ids with
  | nil => exact Maps.isMap_empty
  | cons x xs ih => exact Maps.IsMap.put ih _ _
theorem setD_at (i : Int) : ∀ ids : List Int, (setD ids).atKey (.int .i64 i) (.lit (.bool false)) = .lit (.bool (decide (i ∈ ids))) := by
  intro ids
  induction ids with
  | nil => rfl
  | cons x xs ih =>
    show (DataW.put (setD xs) (.int .i64 x) (.lit (.bool true))).atKey (.int .i64 i) (.lit (.bool false)) = _
    by_cases h : i = x
    · subst h
      rw [Maps.atKey_put_same (setD_map xs) (by simp [WideAt.IsKeyLit])]
      simp
    · rw [Maps.atKey_put_other (by intro e; injection e with _ e; exact h e), ih]
      simp [h]
/-- What cell.may holds: the count, the numbers met. -/
structure MayI (w0 : World) (bn bm B : Nat) (s : Int × List Int) (W : World) : Prop where
  hn : W.heap[bn]? = some (.cells #[.int .i64 s.1] 3 (0, 0))
  hm : W.heap[bm]? = some (.cells #[.map (some B)] 161 (0, 0))
  map : W.ownsMap (H := Unit) Try.prog 3 (plainElem Try.prog 4) B s.2.length (setD s.2)
  below : Below w0.heap.size w0 W
  gn : w0.heap.size ≤ bn
  gB : w0.heap.size ≤ B
  nd : s.2.Nodup
  rg : ∀ i ∈ s.2, 0 ≤ i ∧ i ≤ 2147483647
theorem below_grown {W W' : World} (h : Below W.heap.size W W') : W.grownBy W' none := ⟨h.os, h.tape, h.output, h.size, fun k hk _ => h.block k hk⟩
theorem MayI.step {w0 W W' : World} {bn bm B : Nat} {s : Int × List Int} (h : MayI w0 bn bm B s W) (hb : Below W.heap.size W W') : MayI w0 bn bm B s W' :=
  ⟨blk_below h.hn hb, blk_below h.hm hb, h.map.kept (below_grown hb) (by simp), below_step h.below hb, h.gn, h.gB, h.nd, h.rg⟩
theorem MayI.neB {w0 W : World} {bn bm B : Nat} {s : Int × List Int} (h : MayI w0 bn bm B s W) : bn ≠ B ∧ bm ≠ B ∧ bm ≠ bn := by
  obtain ⟨es, cl, hB, _⟩ := h.map
  refine ⟨fun e => ?_, fun e => ?_, blk_ne h.hm h.hn (by decide)⟩
  · have := h.hn; rw [e, hB] at this; cases this
  · have := h.hm; rw [e, hB] at this; cases this
def MayS (bn B : Nat) (k : Nat) : Prop := k = bn ∨ k = B
section
variable {P : Program} {ops : Array Oper} {rest : List Oper} {o : Oper} {a : Act} {Q : Exit → Act → World → Prop}
/-- A look-up in a map of bools of the call's own. -/
theorem lookup_bool (w : World) (hg : o.guard = none) (m x : Operand) (t : TypeId) (hop : o.op = Op.lookup t m x false)
    (k e : TypeId) (K : Maps.Keyed P k) (ht : P.underlying t = some (.map k e)) (he : P.underlying e = some .bool) (hz : (zeroValue e).run P w = .ok (.bool false) w) (b n : Nat) (D : DataW Unit)
    (hm : a.eval m = .map (some b)) (hown : w.ownsMap P k (plainElem P e) b n D) (key : Value) (kl : Lit) (hx : a.eval x = key) (hkey : keyOf P k key = some kl) (r : Bool) (hr : D.atKey kl (.lit (.bool false)) = .lit (.bool r))
    (hK : wpList P ops Q rest (a.put o.dst (.bool r)) w) : wpList P ops Q (o :: rest) a w := by
  refine wpList_plain hg fun K' hK' => ?_
  obtain ⟨v, ps, hrun, hv⟩ := hown.lookup K ht hz (plainElem_bool he false) hkey
  have hv2 : v = .bool r := by
    rw [hr] at hv
    unfold plainElem at hv
    rw [he] at hv
    cases v with
    | bool q =>
      simp only [Option.some.injEq, Prod.mk.injEq, DataW.lit.injEq, Lit.bool.injEq] at hv
      rw [hv.1]
    | _ => cases hv
  subst hv2
  unfold Oper.wp
  simp [execOp, hop, hm, hx, hrun, Result.andThen]
  exact hK' _ _ hK
end
end Go.Proofs.Ytfdmfgaiblfbhaa.P
/- The contract of cell.node: whether a cell alone is right. -/
namespace Go.Proofs.Ytfdmfgaiblfbhaa.P
open Go.RowKit Go.Proofs.YtfdmfgaiblfbhaaW.PrintWords Go.Proofs.YtfdmfgaiblfbhaaW.PrintLast Go.Proofs.YtfdmfgaiblfbhaaW.PrintMore
set_option linter.unusedVariables false
set_option linter.unusedSimpArgs false
set_option maxHeartbeats 2000000 in
set_option maxRecDepth 100000 in
theorem node177 (x : S26) (B : Option Addr) (cb : Nat) (w : World) : Calls Try.prog 177 #[.agg #[.int .u8 x.f0, .int .i64 x.f1.f0, .int .i64 x.f1.f1, .int .i64 x.f1.f2, .int .i64 x.f1.f3, .int .i64 x.f2, .slice B x.f3.length cb]] w fun e w' => e = .returned (.bool (nodeB x)) ∧ Below w.heap.size w w' := by
  unfold nodeB
  by_cases k1 : x.f0 = 1
  · rw [if_pos k1]
    have k1b : (x.f0 == 1) = true := beq_iff_eq.mpr k1
    clear k1
    by_cases l0 : x.f3.length = 0
    · rw [decide_eq_true l0, Bool.true_and]
      have l1 : ((x.f3.length : Int) == 0) = true := by simp [l0]
      have l2 : (x.f3.length == 0) = true := by simp [l0]
      clear l0
      by_cases i0 : 0 ≤ x.f2
      · rw [decide_eq_true i0, Bool.true_and]
        have i0b : decide (0 ≤ x.f2) = true := decide_eq_true i0
        by_cases i1 : x.f2 ≤ 2147483647
        · rw [decide_eq_true i1]
          have i1b : decide (x.f2 ≤ 2147483647) = true := decide_eq_true i1
          go_enter Try.func177, Try.ntmps177
          go_wp2_with (((with_reducible refine gate_dst (N := 1) rfl ?_); refine box_event ?hg (N := 1) ?hd (cs := #[.int .u8 x.f0, .int .i64 x.f1.f0, .int .i64 x.f1.f1, .int .i64 x.f1.f2, .int .i64 x.f1.f3, .int .i64 x.f2, .slice B x.f3.length cb]) (t := 26) ?hr ?_; (case hd => rfl); (case hg => rfl); (case hr => (go_simp; done)); intro b1 hg w1 hbox hb; have HB := Aside0.mk hb; have K1 := Aside0.mk hbox; clear hb hbox hg; have c0 := (blk_cell K1.out 0).trans rfl; have c1 := (blk_cell K1.out 1).trans rfl; have c2 := (blk_cell K1.out 2).trans rfl; have c3 := (blk_cell K1.out 3).trans rfl; have c4 := (blk_cell K1.out 4).trans rfl; have c5 := (blk_cell K1.out 5).trans rfl; have c6 := (blk_cell K1.out 6).trans rfl))
          go_ret
          exact ⟨rfl, HB.out⟩
        · rw [decide_eq_false i1]
          have i1b : decide (x.f2 ≤ 2147483647) = false := decide_eq_false i1
          go_enter Try.func177, Try.ntmps177
          go_wp2_with (((with_reducible refine gate_dst (N := 1) rfl ?_); refine box_event ?hg (N := 1) ?hd (cs := #[.int .u8 x.f0, .int .i64 x.f1.f0, .int .i64 x.f1.f1, .int .i64 x.f1.f2, .int .i64 x.f1.f3, .int .i64 x.f2, .slice B x.f3.length cb]) (t := 26) ?hr ?_; (case hd => rfl); (case hg => rfl); (case hr => (go_simp; done)); intro b1 hg w1 hbox hb; have HB := Aside0.mk hb; have K1 := Aside0.mk hbox; clear hb hbox hg; have c0 := (blk_cell K1.out 0).trans rfl; have c1 := (blk_cell K1.out 1).trans rfl; have c2 := (blk_cell K1.out 2).trans rfl; have c3 := (blk_cell K1.out 3).trans rfl; have c4 := (blk_cell K1.out 4).trans rfl; have c5 := (blk_cell K1.out 5).trans rfl; have c6 := (blk_cell K1.out 6).trans rfl))
          go_ret
          exact ⟨rfl, HB.out⟩
      · rw [decide_eq_false i0, Bool.false_and]
        have i0b : decide (0 ≤ x.f2) = false := decide_eq_false i0
        go_enter Try.func177, Try.ntmps177
        go_wp2_with (((with_reducible refine gate_dst (N := 1) rfl ?_); refine box_event ?hg (N := 1) ?hd (cs := #[.int .u8 x.f0, .int .i64 x.f1.f0, .int .i64 x.f1.f1, .int .i64 x.f1.f2, .int .i64 x.f1.f3, .int .i64 x.f2, .slice B x.f3.length cb]) (t := 26) ?hr ?_; (case hd => rfl); (case hg => rfl); (case hr => (go_simp; done)); intro b1 hg w1 hbox hb; have HB := Aside0.mk hb; have K1 := Aside0.mk hbox; clear hb hbox hg; have c0 := (blk_cell K1.out 0).trans rfl; have c1 := (blk_cell K1.out 1).trans rfl; have c2 := (blk_cell K1.out 2).trans rfl; have c3 := (blk_cell K1.out 3).trans rfl; have c4 := (blk_cell K1.out 4).trans rfl; have c5 := (blk_cell K1.out 5).trans rfl; have c6 := (blk_cell K1.out 6).trans rfl))
        go_ret
        exact ⟨rfl, HB.out⟩
    · rw [decide_eq_false l0, Bool.false_and]
      have l1 : ((x.f3.length : Int) == 0) = false := by simp; intro h; exact l0 (by simp [h])
      have l2 : (x.f3.length == 0) = false := by simpa using l0
      clear l0
      go_enter Try.func177, Try.ntmps177
      go_wp2_with (((with_reducible refine gate_dst (N := 1) rfl ?_); refine box_event ?hg (N := 1) ?hd (cs := #[.int .u8 x.f0, .int .i64 x.f1.f0, .int .i64 x.f1.f1, .int .i64 x.f1.f2, .int .i64 x.f1.f3, .int .i64 x.f2, .slice B x.f3.length cb]) (t := 26) ?hr ?_; (case hd => rfl); (case hg => rfl); (case hr => (go_simp; done)); intro b1 hg w1 hbox hb; have HB := Aside0.mk hb; have K1 := Aside0.mk hbox; clear hb hbox hg; have c0 := (blk_cell K1.out 0).trans rfl; have c1 := (blk_cell K1.out 1).trans rfl; have c2 := (blk_cell K1.out 2).trans rfl; have c3 := (blk_cell K1.out 3).trans rfl; have c4 := (blk_cell K1.out 4).trans rfl; have c5 := (blk_cell K1.out 5).trans rfl; have c6 := (blk_cell K1.out 6).trans rfl))
      go_ret
      exact ⟨rfl, HB.out⟩
  · rw [if_neg k1]
    have k1b : (x.f0 == 1) = false := beq_eq_false_iff_ne.mpr k1
    by_cases k2 : x.f0 = 2
    · rw [if_pos (.inl k2)]
      have k2b : (x.f0 == 2) = true := beq_iff_eq.mpr k2
      clear k2 k1
      by_cases l0 : 2 ≤ x.f3.length
      · rw [decide_eq_true l0, Bool.true_and]
        have l1 : (2 : Int) ≤ (x.f3.length : Int) := by omega
        by_cases i0 : x.f2 = 0
        · rw [decide_eq_true i0]
          have i0b : (x.f2 == 0) = true := beq_iff_eq.mpr i0
          clear i0
          go_enter Try.func177, Try.ntmps177
          go_wp2_with (((with_reducible refine gate_dst (N := 1) rfl ?_); refine box_event ?hg (N := 1) ?hd (cs := #[.int .u8 x.f0, .int .i64 x.f1.f0, .int .i64 x.f1.f1, .int .i64 x.f1.f2, .int .i64 x.f1.f3, .int .i64 x.f2, .slice B x.f3.length cb]) (t := 26) ?hr ?_; (case hd => rfl); (case hg => rfl); (case hr => (go_simp; done)); intro b1 hg w1 hbox hb; have HB := Aside0.mk hb; have K1 := Aside0.mk hbox; clear hb hbox hg; have c0 := (blk_cell K1.out 0).trans rfl; have c1 := (blk_cell K1.out 1).trans rfl; have c2 := (blk_cell K1.out 2).trans rfl; have c3 := (blk_cell K1.out 3).trans rfl; have c4 := (blk_cell K1.out 4).trans rfl; have c5 := (blk_cell K1.out 5).trans rfl; have c6 := (blk_cell K1.out 6).trans rfl))
          go_ret
          exact ⟨rfl, HB.out⟩
        · rw [decide_eq_false i0]
          have i0b : (x.f2 == 0) = false := beq_eq_false_iff_ne.mpr i0
          clear i0
          go_enter Try.func177, Try.ntmps177
          go_wp2_with (((with_reducible refine gate_dst (N := 1) rfl ?_); refine box_event ?hg (N := 1) ?hd (cs := #[.int .u8 x.f0, .int .i64 x.f1.f0, .int .i64 x.f1.f1, .int .i64 x.f1.f2, .int .i64 x.f1.f3, .int .i64 x.f2, .slice B x.f3.length cb]) (t := 26) ?hr ?_; (case hd => rfl); (case hg => rfl); (case hr => (go_simp; done)); intro b1 hg w1 hbox hb; have HB := Aside0.mk hb; have K1 := Aside0.mk hbox; clear hb hbox hg; have c0 := (blk_cell K1.out 0).trans rfl; have c1 := (blk_cell K1.out 1).trans rfl; have c2 := (blk_cell K1.out 2).trans rfl; have c3 := (blk_cell K1.out 3).trans rfl; have c4 := (blk_cell K1.out 4).trans rfl; have c5 := (blk_cell K1.out 5).trans rfl; have c6 := (blk_cell K1.out 6).trans rfl))
          go_ret
          exact ⟨rfl, HB.out⟩
      · rw [decide_eq_false l0, Bool.false_and]
        have l1 : ¬ (2 : Int) ≤ (x.f3.length : Int) := by omega
        go_enter Try.func177, Try.ntmps177
        go_wp2_with (((with_reducible refine gate_dst (N := 1) rfl ?_); refine box_event ?hg (N := 1) ?hd (cs := #[.int .u8 x.f0, .int .i64 x.f1.f0, .int .i64 x.f1.f1, .int .i64 x.f1.f2, .int .i64 x.f1.f3, .int .i64 x.f2, .slice B x.f3.length cb]) (t := 26) ?hr ?_; (case hd => rfl); (case hg => rfl); (case hr => (go_simp; done)); intro b1 hg w1 hbox hb; have HB := Aside0.mk hb; have K1 := Aside0.mk hbox; clear hb hbox hg; have c0 := (blk_cell K1.out 0).trans rfl; have c1 := (blk_cell K1.out 1).trans rfl; have c2 := (blk_cell K1.out 2).trans rfl; have c3 := (blk_cell K1.out 3).trans rfl; have c4 := (blk_cell K1.out 4).trans rfl; have c5 := (blk_cell K1.out 5).trans rfl; have c6 := (blk_cell K1.out 6).trans rfl))
        go_ret
        exact ⟨rfl, HB.out⟩
    · by_cases k3 : x.f0 = 3
      · rw [if_pos (.inr k3)]
        have k2b : (x.f0 == 2) = false := beq_eq_false_iff_ne.mpr k2
        have k3b : (x.f0 == 3) = true := beq_iff_eq.mpr k3
        clear k3 k2 k1
        by_cases l0 : 2 ≤ x.f3.length
        · rw [decide_eq_true l0, Bool.true_and]
          have l1 : (2 : Int) ≤ (x.f3.length : Int) := by omega
          by_cases i0 : x.f2 = 0
          · rw [decide_eq_true i0]
            have i0b : (x.f2 == 0) = true := beq_iff_eq.mpr i0
            clear i0
            go_enter Try.func177, Try.ntmps177
            go_wp2_with (((with_reducible refine gate_dst (N := 1) rfl ?_); refine box_event ?hg (N := 1) ?hd (cs := #[.int .u8 x.f0, .int .i64 x.f1.f0, .int .i64 x.f1.f1, .int .i64 x.f1.f2, .int .i64 x.f1.f3, .int .i64 x.f2, .slice B x.f3.length cb]) (t := 26) ?hr ?_; (case hd => rfl); (case hg => rfl); (case hr => (go_simp; done)); intro b1 hg w1 hbox hb; have HB := Aside0.mk hb; have K1 := Aside0.mk hbox; clear hb hbox hg; have c0 := (blk_cell K1.out 0).trans rfl; have c1 := (blk_cell K1.out 1).trans rfl; have c2 := (blk_cell K1.out 2).trans rfl; have c3 := (blk_cell K1.out 3).trans rfl; have c4 := (blk_cell K1.out 4).trans rfl; have c5 := (blk_cell K1.out 5).trans rfl; have c6 := (blk_cell K1.out 6).trans rfl))
            go_ret
            exact ⟨rfl, HB.out⟩
          · rw [decide_eq_false i0]
            have i0b : (x.f2 == 0) = false := beq_eq_false_iff_ne.mpr i0
            clear i0
            go_enter Try.func177, Try.ntmps177
            go_wp2_with (((with_reducible refine gate_dst (N := 1) rfl ?_); refine box_event ?hg (N := 1) ?hd (cs := #[.int .u8 x.f0, .int .i64 x.f1.f0, .int .i64 x.f1.f1, .int .i64 x.f1.f2, .int .i64 x.f1.f3, .int .i64 x.f2, .slice B x.f3.length cb]) (t := 26) ?hr ?_; (case hd => rfl); (case hg => rfl); (case hr => (go_simp; done)); intro b1 hg w1 hbox hb; have HB := Aside0.mk hb; have K1 := Aside0.mk hbox; clear hb hbox hg; have c0 := (blk_cell K1.out 0).trans rfl; have c1 := (blk_cell K1.out 1).trans rfl; have c2 := (blk_cell K1.out 2).trans rfl; have c3 := (blk_cell K1.out 3).trans rfl; have c4 := (blk_cell K1.out 4).trans rfl; have c5 := (blk_cell K1.out 5).trans rfl; have c6 := (blk_cell K1.out 6).trans rfl))
            go_ret
            exact ⟨rfl, HB.out⟩
        · rw [decide_eq_false l0, Bool.false_and]
          have l1 : ¬ (2 : Int) ≤ (x.f3.length : Int) := by omega
          go_enter Try.func177, Try.ntmps177
          go_wp2_with (((with_reducible refine gate_dst (N := 1) rfl ?_); refine box_event ?hg (N := 1) ?hd (cs := #[.int .u8 x.f0, .int .i64 x.f1.f0, .int .i64 x.f1.f1, .int .i64 x.f1.f2, .int .i64 x.f1.f3, .int .i64 x.f2, .slice B x.f3.length cb]) (t := 26) ?hr ?_; (case hd => rfl); (case hg => rfl); (case hr => (go_simp; done)); intro b1 hg w1 hbox hb; have HB := Aside0.mk hb; have K1 := Aside0.mk hbox; clear hb hbox hg; have c0 := (blk_cell K1.out 0).trans rfl; have c1 := (blk_cell K1.out 1).trans rfl; have c2 := (blk_cell K1.out 2).trans rfl; have c3 := (blk_cell K1.out 3).trans rfl; have c4 := (blk_cell K1.out 4).trans rfl; have c5 := (blk_cell K1.out 5).trans rfl; have c6 := (blk_cell K1.out 6).trans rfl))
          go_ret
          exact ⟨rfl, HB.out⟩
      · rw [if_neg (fun h => h.elim k2 k3)]
        have k2b : (x.f0 == 2) = false := beq_eq_false_iff_ne.mpr k2
        have k3b : (x.f0 == 3) = false := beq_eq_false_iff_ne.mpr k3
        go_enter Try.func177, Try.ntmps177
        go_wp2_with (((with_reducible refine gate_dst (N := 1) rfl ?_); refine box_event ?hg (N := 1) ?hd (cs := #[.int .u8 x.f0, .int .i64 x.f1.f0, .int .i64 x.f1.f1, .int .i64 x.f1.f2, .int .i64 x.f1.f3, .int .i64 x.f2, .slice B x.f3.length cb]) (t := 26) ?hr ?_; (case hd => rfl); (case hg => rfl); (case hr => (go_simp; done)); intro b1 hg w1 hbox hb; have HB := Aside0.mk hb; have K1 := Aside0.mk hbox; clear hb hbox hg; have c0 := (blk_cell K1.out 0).trans rfl; have c1 := (blk_cell K1.out 1).trans rfl; have c2 := (blk_cell K1.out 2).trans rfl; have c3 := (blk_cell K1.out 3).trans rfl; have c4 := (blk_cell K1.out 4).trans rfl; have c5 := (blk_cell K1.out 5).trans rfl; have c6 := (blk_cell K1.out 6).trans rfl))
        go_ret
        exact ⟨rfl, HB.out⟩
end Go.Proofs.Ytfdmfgaiblfbhaa.P
/- slices.IndexFunc, slices.ContainsFunc at S23: what they answer, with any function value that keeps an invariant of the world. -/
namespace Go.Proofs.Ytfdmfgaiblfbhaa.P
open Go.RowKit Go.Proofs.YtfdmfgaiblfbhaaW.PrintWords Go.Proofs.YtfdmfgaiblfbhaaW.PrintLast Go.Proofs.YtfdmfgaiblfbhaaW.PrintMore

set_option maxHeartbeats 2000000 in
set_option maxRecDepth 100000 in
theorem idx173 {σ : Type} (Inv : σ → World → Prop) (step : σ → S23 → Bool × σ) (g : Nat) (lb : Array Value) (eg : ∀ args w, (callFunc g args).run Try.prog w = .ok (.enter g args) w) (l : List S23) (A : Option Addr) (c : Nat)
    (hR : ∀ s W, Inv s W → Kd.C k23 W A l.length l) (hD : ∀ s W n, Inv s W → Inv s (W.drewN n))
    (hcall : ∀ s W (x : S23), x ∈ l → Inv s W → Calls Try.prog g (#[.agg #[.int .i64 x.f0, .int .i64 x.f1, .int .i64 x.f2, .int .i64 x.f3]] ++ lb) W fun e w' => e = .returned (.bool (step s x).1) ∧ Inv (step s x).2 w')
    (s : σ) (w : World) (hI : Inv s w) (hl : l.length ≤ 9223372036854775807) :
    Calls Try.prog 173 #[.slice A l.length c, .func (.func g) #[] lb] w fun e w' => e = .returned (.int .i64 (scanI step 0 s l).1) ∧ Inv (scanI step 0 s l).2 w' := by
  have HR := Aside0.mk hR
  have HI := Aside0.mk hI
  have HCall := Aside0.mk hcall
  clear hR hcall hD hI
  go_enter Try.func173, Try.ntmps173
  go_wp2
  go_loopg [5, 8] l.length (fun gg _ v8 wr => ∃ (kk : Nat) (t : σ), kk ≤ l.length ∧ l.length - kk ≤ gg ∧ v8 = .int .i64 kk ∧ Aside0 (Inv t wr) ∧ Aside0 (scanI step 0 s l = scanI step kk t (l.drop kk)))
  case atStart => exact ⟨0, s, Nat.zero_le _, by omega, rfl, HI, ⟨by simp⟩⟩
  case round =>
    clear HI
    obtain ⟨kk, t, hkk, hg, rfl, HI, HS⟩ := hrel
    by_cases hlt : kk < l.length
    · have hltz : (kk : Int) < (l.length : Int) := by omega
      obtain ⟨ad, rfl, hc0, hc1, hc2, hc3⟩ := at_T23 (HR.out t wr HI.out) (kk : Int) (by omega) (by omega)
      have HX : Aside0 (scanI step kk t (l.drop kk) = if (step t (rd_T23 l (kk : Int))).1 = true then ((kk : Int), (step t (rd_T23 l (kk : Int))).2) else scanI step ((kk + 1 : Nat) : Int) (step t (rd_T23 l (kk : Int))).2 (l.drop (kk + 1))) := ⟨scan_at step z23 l kk hlt t⟩
      have hmem : (rd_T23 l (kk : Int)) ∈ l := scan_mem z23 l kk hlt
      have hcall := HCall.out t wr _ hmem HI.out
      clear hmem
      simp only [Int.toNat_natCast] at hc0 hc1 hc2 hc3
      generalize rd_T23 l (kk : Int) = x at hc0 hc1 hc2 hc3 HX hcall
      have HC := Aside0.mk hcall
      clear hcall
      cases hq : (step t x).1 with
      | true =>
        have h := HC.out
        rw [hq] at h
        have HH := Aside0.mk h
        have HQ := Aside0.mk hq
        clear hq HC h
        go_wp2_with fail
        refine HH.out.mono ?_
        rintro e w' ⟨rfl, hb'⟩
        have HB := Aside0.mk hb'
        clear hb'
        go_wp2
        go_ret
        rw [HS.out, HX.out, if_pos HQ.out]
        exact ⟨rfl, HB.out⟩
      | false =>
        have h := HC.out
        rw [hq] at h
        have HH := Aside0.mk h
        have HQ := Aside0.mk hq
        clear hq HC h
        go_wp2_with fail
        refine HH.out.mono ?_
        rintro e w' ⟨rfl, hb'⟩
        have HB := Aside0.mk hb'
        clear hb'
        go_wp2
        go_roundg (l.length - (kk + 1))
        case measure => omega
        case rel =>
          refine ⟨kk + 1, (step t x).2, by omega, by omega, by go_num, HB, ⟨?_⟩⟩
          rw [HS.out, HX.out, if_neg (by rw [HQ.out]; simp)]
    · have hltz : ¬ (kk : Int) < (l.length : Int) := by omega
      go_wp2
      go_ret
      rw [HS.out, List.drop_eq_nil_of_le (by omega)]
      exact ⟨rfl, HI.out⟩

set_option maxHeartbeats 1000000 in
theorem con134 {σ : Type} (Inv : σ → World → Prop) (step : σ → S23 → Bool × σ) (g : Nat) (lb : Array Value) (eg : ∀ args w, (callFunc g args).run Try.prog w = .ok (.enter g args) w) (l : List S23) (A : Option Addr) (c : Nat)
    (hR : ∀ s W, Inv s W → Kd.C k23 W A l.length l) (hD : ∀ s W n, Inv s W → Inv s (W.drewN n))
    (hcall : ∀ s W (x : S23), x ∈ l → Inv s W → Calls Try.prog g (#[.agg #[.int .i64 x.f0, .int .i64 x.f1, .int .i64 x.f2, .int .i64 x.f3]] ++ lb) W fun e w' => e = .returned (.bool (step s x).1) ∧ Inv (step s x).2 w')
    (s : σ) (w : World) (hI : Inv s w) (hl : l.length ≤ 9223372036854775807) :
    Calls Try.prog 134 #[.slice A l.length c, .func (.func g) #[] lb] w fun e w' => e = .returned (.bool (scanB step s l).1) ∧ Inv (scanB step s l).2 w' := by
  have hi := idx173 Inv step g lb eg l A c hR hD hcall s w hI hl
  rw [scanB_eq]
  clear hR hD hcall hI
  generalize scanI step 0 s l = r at hi
  have HI := Aside0.mk hi
  clear hi
  go_enter Try.func134, Try.ntmps134
  go_wp2_with fail
  refine HI.out.mono ?_
  rintro e w' ⟨rfl, hb'⟩
  have HB := Aside0.mk hb'
  clear hb'
  go_wp2
  go_ret
  exact ⟨rfl, HB.out⟩
end Go.Proofs.Ytfdmfgaiblfbhaa.P
/- The contract of rect.May: whether all of some rectangles may be. -/
namespace Go.Proofs.Ytfdmfgaiblfbhaa.P
open Go.RowKit Go.Proofs.YtfdmfgaiblfbhaaW.PrintWords Go.Proofs.YtfdmfgaiblfbhaaW.PrintLast Go.Proofs.YtfdmfgaiblfbhaaW.PrintMore

set_option maxHeartbeats 1000000 in
theorem may1 (x : S23) (w : World) : Calls Try.prog 138 #[.agg #[.int .i64 x.f0, .int .i64 x.f1, .int .i64 x.f2, .int .i64 x.f3]] w fun e w' => e = .returned (.bool (!mayR x)) ∧ Below w.heap.size w w' := by
  have hc := fun W => rect_may.calls x.f0 x.f1 x.f2 x.f3 (mayR x) W (may_some _ _ _ _)
  have HC := Aside0.mk hc
  clear hc
  cases hm : mayR x with
  | true =>
    rw [hm] at HC
    clear hm
    go_enter Try.func138, Try.ntmps138
    go_wp2_with fail
    refine (HC.out _).mono ?_
    rintro e w' ⟨rfl, hb⟩
    have HB := Aside0.mk hb
    clear hb
    go_wp2
    go_ret
    exact ⟨rfl, below_then (below_alloc (Below.refl _ _) _) (by simp) HB.out⟩
  | false =>
    rw [hm] at HC
    clear hm
    go_enter Try.func138, Try.ntmps138
    go_wp2_with fail
    refine (HC.out _).mono ?_
    rintro e w' ⟨rfl, hb⟩
    have HB := Aside0.mk hb
    clear hb
    go_wp2
    go_ret
    exact ⟨rfl, below_then (below_alloc (Below.refl _ _) _) (by simp) HB.out⟩
def rect_May.f (l0 : List (S23)) : Option Bool := some (l0.all mayR)
set_option maxHeartbeats 1000000 in
theorem rect_May.calls (A0 : Option Addr) (c0 : Nat) (l0 : List (S23)) (r : Bool) (w : World) (hr0 : Kd.C k23 w A0 l0.length l0) (_hc0 : l0.length ≤ c0) (h : rect_May.f l0 = some r) :
    Calls Try.prog 68 #[.slice A0 l0.length c0] w fun e w' => e = .returned (.bool r) ∧ Below w.heap.size w w' := by
  have hcon := con134 (fun (_ : Unit) W => Below w.heap.size w W) (fun _ x => (!mayR x, ())) 138 #[] (enters_fn Try.func138 (by decide +kernel) (by kernel_rfl)) l0 A0 c0 (fun _ W hW => Kd.C_below hr0 hW) (fun _ W n hW => pw_below_drewN hW n)
    (fun _ W x _ hW => by
      rw [show (#[Value.agg #[.int .i64 x.f0, .int .i64 x.f1, .int .i64 x.f2, .int .i64 x.f3]] ++ #[] : Array Value) = #[.agg #[.int .i64 x.f0, .int .i64 x.f1, .int .i64 x.f2, .int .i64 x.f3]] by simp]
      exact (may1 x W).mono fun e w' ⟨he, hb⟩ => ⟨he, below_then hW hW.size hb⟩) () w (Below.refl _ _) hr0.2.1
  rw [scanB_any] at hcon
  have e1 : r = !(l0.any fun x => !mayR x) := by
    injection h with h
    rw [← h]
    clear h hcon hr0 _hc0
    induction l0 with
    | nil => rfl
    | cons x xs ih => simp only [List.all_cons, List.any_cons, ih, Bool.not_or, Bool.not_not]
  subst e1
  generalize (l0.any fun x => !mayR x) = b at hcon
  have HC := Aside0.mk hcon
  clear hcon h hr0
  go_enter Try.func68, Try.ntmps68
  go_wp2_with fail
  refine HC.out.mono ?_
  rintro e w' ⟨rfl, hb⟩
  have HB := Aside0.mk hb
  clear hb
  go_wp2
  go_ret
  exact ⟨rfl, HB.out⟩
end Go.Proofs.Ytfdmfgaiblfbhaa.P
/- The contract of cell.May: whether trees may be. Condition: each has at most 1048576 cells. -/
namespace Go.Proofs.Ytfdmfgaiblfbhaa.P
open Go.RowKit Go.Proofs.YtfdmfgaiblfbhaaW.PrintWords Go.Proofs.YtfdmfgaiblfbhaaW.PrintLast Go.Proofs.YtfdmfgaiblfbhaaW.PrintMore
set_option linter.unusedVariables false
set_option linter.unusedSimpArgs false
theorem Kp.grown {S : Nat → Prop} {W W1 : World} {g : Nat} (h : W.grownBy W1 (some g)) (hs : S g) : Kp S W W1 := ⟨h.size, fun k hk hn => h.block k hk (fun e => hn (by injection e with e; rw [e]; exact hs))⟩
theorem MayI.count {w0 W W1 : World} {bn bm B : Nat} {s : Int × List Int} {n : Int} (h : MayI w0 bn bm B s W) (hk : W1.heap[bn]? = some (.cells #[.int .i64 n] 3 (0, 0))) (hb : Below w0.heap.size w0 W1) (hg : W.grownBy W1 (some bn)) : MayI w0 bn bm B (n, s.2) W1 :=
  ⟨hk, blk_grown h.hm hg (fun e => h.neB.2.2 (Option.some.inj e)), h.map.kept hg (fun e => h.neB.1 (Option.some.inj e).symm), hb, h.gn, h.gB, h.nd, h.rg⟩
theorem MayI.met {w0 W W1 : World} {bn bm B : Nat} {s : Int × List Int} {i : Int} (h : MayI w0 bn bm B s W) (hm : W1.ownsMap (H := Unit) Try.prog 3 (plainElem Try.prog 4) B (s.2.length + 1) ((setD s.2).put (.int .i64 i) (.lit (.bool true)))) (hg : W.grownBy W1 (some B)) (hi : i ∉ s.2) (h0 : 0 ≤ i) (h1 : i ≤ 2147483647) : MayI w0 bn bm B (s.1, i :: s.2) W1 :=
  ⟨blk_grown h.hn hg (fun e => h.neB.1 (Option.some.inj e)), blk_grown h.hm hg (fun e => h.neB.2.1 (Option.some.inj e)), hm, grown_below h.below hg h.gB h.below.size, h.gn, h.gB, List.nodup_cons.2 ⟨hi, h.nd⟩, fun j hj => by
    rcases List.mem_cons.1 hj with rfl | hj
    · exact ⟨h0, h1⟩
    · exact h.rg j hj⟩
theorem zero4 (w : World) : (zeroValue 4).run Try.prog w = .ok (.bool false) w := by kernel_rfl
set_option maxHeartbeats 4000000 in
set_option maxRecDepth 100000 in
theorem may_A (w0 : World) (bn bm B : Nat) (s : Int × List Int) (W : World) (x : S26) (A : Option Addr) (cb : Nat) (hI : MayI w0 bn bm B s W) (h1 : 20000 < wrap64 (s.1 + 1)) :
    Calls Try.prog 176 (#[.agg #[.int .u8 x.f0, .int .i64 x.f1.f0, .int .i64 x.f1.f1, .int .i64 x.f1.f2, .int .i64 x.f1.f3, .int .i64 x.f2, .slice A x.f3.length cb]] ++ #[.pointer (some ⟨bn, 0, none⟩), .pointer (some ⟨bm, 0, none⟩)]) W fun e w' => e = .returned (.bool (mStep s x).1) ∧ MayI w0 bn bm B (mStep s x).2 w' ∧ Kp (MayS bn B) W w' := by
  rw [show mStep s x = (false, (wrap64 (s.1 + 1), s.2)) from by unfold mStep; rw [if_pos h1]]
  have HI := Aside0.mk hI
  have HK := Aside0.mk (Kp.refl (MayS bn B) W)
  clear hI
  simp only [List.append_toArray, List.cons_append, List.nil_append]
  go_enter Try.func176, Try.ntmps176
  go_wp2_with (first | ((with_reducible refine gate_dst (N := 3) rfl ?_); refine box_event ?hg (N := 3) ?hd (cs := #[.int .u8 x.f0, .int .i64 x.f1.f0, .int .i64 x.f1.f1, .int .i64 x.f1.f2, .int .i64 x.f1.f3, .int .i64 x.f2, .slice A x.f3.length cb]) (t := 26) ?hr ?_; (case hd => rfl); (case hg => rfl); (case hr => (go_simp; done)); intro b3 hg w3 hbox hb; have K3 := Aside0.mk hbox; have q1_ := Aside0.mk (HI.out.step hb); have q2_ := Aside0.mk (HK.out.trans (Kp.below hb)); clear HI HK; have HI := q1_; have HK := q2_; clear q1_ q2_; clear hb hbox hg; have cn := (blk_cell HI.out.hn 0).trans rfl) | ((with_reducible refine gate_ (.store 3 (.tmp 1) (.tmp 6)) rfl ?_); go_loud (clear cn; refine box_store (w0 := w0) rfl rfl 3 (.tmp 1) (.tmp 6) rfl (g := bn) (j := 0) (base := w0.heap.size) #[.int .i64 (wrap64 (s.1 + 1))] (u := .int .i64 (wrap64 (s.1 + 1))) (seg := [.int .i64 (wrap64 (s.1 + 1))]) ?sA ?sX rfl ?sT ?s1 HI.out.hn ?sJ rfl HI.out.below HI.out.below.size HI.out.gn ?_; (case sA => rfl); (case sX => rfl); (case sT => rfl); (case s1 => (simp [Value.oneCell'])); (case sJ => (simp)); intro ws hbk hbb hgg; have q1_ := Aside0.mk (HI.out.count hbk hbb hgg); have q2_ := Aside0.mk (HK.out.trans (Kp.grown hgg (Or.inl rfl))); have q3_ := Aside0.mk (blk_grown K3.out hgg (fun e_ => blk_ne K3.out HI.out.hn (by decide) (Option.some.inj e_))); clear HI HK K3 hbk hbb hgg; have HI := q1_; have HK := q2_; have K3 := q3_; clear q1_ q2_ q3_; have cn := (blk_cell HI.out.hn 0).trans rfl; have c0 := (blk_cell K3.out 0).trans rfl; have c1 := (blk_cell K3.out 1).trans rfl; have c2 := (blk_cell K3.out 2).trans rfl; have c3 := (blk_cell K3.out 3).trans rfl; have c4 := (blk_cell K3.out 4).trans rfl; have c5 := (blk_cell K3.out 5).trans rfl; have c6 := (blk_cell K3.out 6).trans rfl)))
  go_ret
  exact ⟨rfl, HI.out, HK.out⟩
set_option maxHeartbeats 4000000 in
set_option maxRecDepth 100000 in
theorem may_B (w0 : World) (bn bm B : Nat) (s : Int × List Int) (W : World) (x : S26) (A : Option Addr) (cb : Nat) (hI : MayI w0 bn bm B s W) (h1 : ¬ 20000 < wrap64 (s.1 + 1)) (h2 : nodeB x = false) :
    Calls Try.prog 176 (#[.agg #[.int .u8 x.f0, .int .i64 x.f1.f0, .int .i64 x.f1.f1, .int .i64 x.f1.f2, .int .i64 x.f1.f3, .int .i64 x.f2, .slice A x.f3.length cb]] ++ #[.pointer (some ⟨bn, 0, none⟩), .pointer (some ⟨bm, 0, none⟩)]) W fun e w' => e = .returned (.bool (mStep s x).1) ∧ MayI w0 bn bm B (mStep s x).2 w' ∧ Kp (MayS bn B) W w' := by
  rw [show mStep s x = (false, (wrap64 (s.1 + 1), s.2)) from by unfold mStep; rw [if_neg h1, okC_node, h2]; simp]
  have HN := Aside0.mk fun W => node177 x A cb W
  rw [h2] at HN
  clear h2
  have HI := Aside0.mk hI
  have HK := Aside0.mk (Kp.refl (MayS bn B) W)
  clear hI
  simp only [List.append_toArray, List.cons_append, List.nil_append]
  go_enter Try.func176, Try.ntmps176
  go_wp2_with (first | ((with_reducible refine gate_dst (N := 3) rfl ?_); refine box_event ?hg (N := 3) ?hd (cs := #[.int .u8 x.f0, .int .i64 x.f1.f0, .int .i64 x.f1.f1, .int .i64 x.f1.f2, .int .i64 x.f1.f3, .int .i64 x.f2, .slice A x.f3.length cb]) (t := 26) ?hr ?_; (case hd => rfl); (case hg => rfl); (case hr => (go_simp; done)); intro b3 hg w3 hbox hb; have K3 := Aside0.mk hbox; have q1_ := Aside0.mk (HI.out.step hb); have q2_ := Aside0.mk (HK.out.trans (Kp.below hb)); clear HI HK; have HI := q1_; have HK := q2_; clear q1_ q2_; clear hb hbox hg; have cn := (blk_cell HI.out.hn 0).trans rfl) | ((with_reducible refine gate_ (.store 3 (.tmp 1) (.tmp 6)) rfl ?_); go_loud (clear cn; refine box_store (w0 := w0) rfl rfl 3 (.tmp 1) (.tmp 6) rfl (g := bn) (j := 0) (base := w0.heap.size) #[.int .i64 (wrap64 (s.1 + 1))] (u := .int .i64 (wrap64 (s.1 + 1))) (seg := [.int .i64 (wrap64 (s.1 + 1))]) ?sA ?sX rfl ?sT ?s1 HI.out.hn ?sJ rfl HI.out.below HI.out.below.size HI.out.gn ?_; (case sA => rfl); (case sX => rfl); (case sT => rfl); (case s1 => (simp [Value.oneCell'])); (case sJ => (simp)); intro ws hbk hbb hgg; have q1_ := Aside0.mk (HI.out.count hbk hbb hgg); have q2_ := Aside0.mk (HK.out.trans (Kp.grown hgg (Or.inl rfl))); have q3_ := Aside0.mk (blk_grown K3.out hgg (fun e_ => blk_ne K3.out HI.out.hn (by decide) (Option.some.inj e_))); clear HI HK K3 hbk hbb hgg; have HI := q1_; have HK := q2_; have K3 := q3_; clear q1_ q2_ q3_; have cn := (blk_cell HI.out.hn 0).trans rfl; have c0 := (blk_cell K3.out 0).trans rfl; have c1 := (blk_cell K3.out 1).trans rfl; have c2 := (blk_cell K3.out 2).trans rfl; have c3 := (blk_cell K3.out 3).trans rfl; have c4 := (blk_cell K3.out 4).trans rfl; have c5 := (blk_cell K3.out 5).trans rfl; have c6 := (blk_cell K3.out 6).trans rfl)))
  clear cn
  clear c0 c1 c2 c3 c4 c5 c6
  refine (HN.out _).mono ?_
  rintro e wk ⟨rfl, hb⟩
  have q3_ := Aside0.mk (blk_below K3.out hb)
  clear K3
  have K3 := q3_
  clear q3_
  have q1_ := Aside0.mk (HI.out.step hb); have q2_ := Aside0.mk (HK.out.trans (Kp.below hb)); clear HI HK; have HI := q1_; have HK := q2_; clear q1_ q2_
  clear hb
  go_wp2
  go_ret
  exact ⟨rfl, HI.out, HK.out⟩
set_option maxHeartbeats 4000000 in
set_option maxRecDepth 100000 in
theorem may_C (w0 : World) (bn bm B : Nat) (s : Int × List Int) (W : World) (x : S26) (A : Option Addr) (cb : Nat) (hI : MayI w0 bn bm B s W) (h1 : ¬ 20000 < wrap64 (s.1 + 1)) (h2 : nodeB x = true) (h3 : mayR x.f1 = false) :
    Calls Try.prog 176 (#[.agg #[.int .u8 x.f0, .int .i64 x.f1.f0, .int .i64 x.f1.f1, .int .i64 x.f1.f2, .int .i64 x.f1.f3, .int .i64 x.f2, .slice A x.f3.length cb]] ++ #[.pointer (some ⟨bn, 0, none⟩), .pointer (some ⟨bm, 0, none⟩)]) W fun e w' => e = .returned (.bool (mStep s x).1) ∧ MayI w0 bn bm B (mStep s x).2 w' ∧ Kp (MayS bn B) W w' := by
  rw [show mStep s x = (false, (wrap64 (s.1 + 1), s.2)) from by unfold mStep; rw [if_neg h1, okC_node, h2, h3]; simp]
  have HN := Aside0.mk fun W => node177 x A cb W
  rw [h2] at HN
  clear h2
  have M1 := Aside0.mk (show rect_May.f [x.f1] = some false by simp [rect_May.f, h3])
  clear h3
  have HI := Aside0.mk hI
  have HK := Aside0.mk (Kp.refl (MayS bn B) W)
  clear hI
  simp only [List.append_toArray, List.cons_append, List.nil_append]
  go_enter Try.func176, Try.ntmps176
  go_wp2_with (first | ((with_reducible refine gate_dst (N := 3) rfl ?_); refine box_event ?hg (N := 3) ?hd (cs := #[.int .u8 x.f0, .int .i64 x.f1.f0, .int .i64 x.f1.f1, .int .i64 x.f1.f2, .int .i64 x.f1.f3, .int .i64 x.f2, .slice A x.f3.length cb]) (t := 26) ?hr ?_; (case hd => rfl); (case hg => rfl); (case hr => (go_simp; done)); intro b3 hg w3 hbox hb; have K3 := Aside0.mk hbox; have q1_ := Aside0.mk (HI.out.step hb); have q2_ := Aside0.mk (HK.out.trans (Kp.below hb)); clear HI HK; have HI := q1_; have HK := q2_; clear q1_ q2_; clear hb hbox hg; have cn := (blk_cell HI.out.hn 0).trans rfl) | ((with_reducible refine gate_ (.store 3 (.tmp 1) (.tmp 6)) rfl ?_); go_loud (clear cn; refine box_store (w0 := w0) rfl rfl 3 (.tmp 1) (.tmp 6) rfl (g := bn) (j := 0) (base := w0.heap.size) #[.int .i64 (wrap64 (s.1 + 1))] (u := .int .i64 (wrap64 (s.1 + 1))) (seg := [.int .i64 (wrap64 (s.1 + 1))]) ?sA ?sX rfl ?sT ?s1 HI.out.hn ?sJ rfl HI.out.below HI.out.below.size HI.out.gn ?_; (case sA => rfl); (case sX => rfl); (case sT => rfl); (case s1 => (simp [Value.oneCell'])); (case sJ => (simp)); intro ws hbk hbb hgg; have q1_ := Aside0.mk (HI.out.count hbk hbb hgg); have q2_ := Aside0.mk (HK.out.trans (Kp.grown hgg (Or.inl rfl))); have q3_ := Aside0.mk (blk_grown K3.out hgg (fun e_ => blk_ne K3.out HI.out.hn (by decide) (Option.some.inj e_))); clear HI HK K3 hbk hbb hgg; have HI := q1_; have HK := q2_; have K3 := q3_; clear q1_ q2_ q3_; have cn := (blk_cell HI.out.hn 0).trans rfl; have c0 := (blk_cell K3.out 0).trans rfl; have c1 := (blk_cell K3.out 1).trans rfl; have c2 := (blk_cell K3.out 2).trans rfl; have c3 := (blk_cell K3.out 3).trans rfl; have c4 := (blk_cell K3.out 4).trans rfl; have c5 := (blk_cell K3.out 5).trans rfl; have c6 := (blk_cell K3.out 6).trans rfl)))
  clear cn
  clear c0 c1 c2 c3 c4 c5 c6
  refine (HN.out _).mono ?_
  rintro e wk ⟨rfl, hb⟩
  have q3_ := Aside0.mk (blk_below K3.out hb)
  clear K3
  have K3 := q3_
  clear q3_
  have q1_ := Aside0.mk (HI.out.step hb); have q2_ := Aside0.mk (HK.out.trans (Kp.below hb)); clear HI HK; have HI := q1_; have HK := q2_; clear q1_ q2_
  clear hb
  have c0 := (blk_cell K3.out 0).trans rfl
  have c1 := (blk_cell K3.out 1).trans rfl
  have c2 := (blk_cell K3.out 2).trans rfl
  have c3 := (blk_cell K3.out 3).trans rfl
  have c4 := (blk_cell K3.out 4).trans rfl
  have c5 := (blk_cell K3.out 5).trans rfl
  have c6 := (blk_cell K3.out 6).trans rfl
  go_wp2_with (((with_reducible refine gate_dst (N := 17) rfl ?_); (try (refine gate_guard (by rfl) ?_; dsimp only)); refine Kd.R_lit k23 _ 23 ?hg (N := 17) ?hd (xs := ([x.f1] : List S23)) (inner := [.int .i64 x.f1.f0, .int .i64 x.f1.f1, .int .i64 x.f1.f2, .int .i64 x.f1.f3]) (ok := fun _ => True) (okp := fun _ => True) ?hr ?hp (fun _ hk => hk) trivial (Below.refl _ _) (Nat.le_refl _) (by simp) ?_; (case hd => rfl); (case hg => rfl); (case hr => (go_simp; done)); (case hp => exact (Reps.c4 (show Kd.M k23 _ _ _ x.f1 [.int .i64 x.f1.f0, .int .i64 x.f1.f1, .int .i64 x.f1.f2, .int .i64 x.f1.f3] from k23_mkM _ _ _ x.f1) (Reps.none _ _))); intro vr wr ho hb hg_ hnew_; clear hg_ hnew_; obtain ⟨Ar, cr, er⟩ := Kd.R_slice ho; subst er; have q3_ := Aside0.mk (blk_below K3.out hb); clear K3; have K3 := q3_; clear q3_; have q1_ := Aside0.mk (HI.out.step hb); have q2_ := Aside0.mk (HK.out.trans (Kp.below hb)); clear HI HK; have HI := q1_; have HK := q2_; clear q1_ q2_; have HR := Aside0.mk (Kd.R_reads' ho).2.2; have LR := Aside0.mk (Kd.R_reads' ho).2.1; clear ho hb))
  clear c0 c1 c2 c3 c4 c5 c6
  refine (rect_May.calls Ar cr [x.f1] false _ HR.out LR.out M1.out).mono ?_
  rintro e wk ⟨rfl, hb⟩
  have q3_ := Aside0.mk (blk_below K3.out hb)
  clear K3
  have K3 := q3_
  clear q3_
  have q1_ := Aside0.mk (HI.out.step hb); have q2_ := Aside0.mk (HK.out.trans (Kp.below hb)); clear HI HK; have HI := q1_; have HK := q2_; clear q1_ q2_
  clear hb
  go_wp2
  go_ret
  exact ⟨rfl, HI.out, HK.out⟩
set_option maxHeartbeats 4000000 in
set_option maxRecDepth 100000 in
theorem may_D (w0 : World) (bn bm B : Nat) (s : Int × List Int) (W : World) (x : S26) (A : Option Addr) (cb : Nat) (hI : MayI w0 bn bm B s W) (h1 : ¬ 20000 < wrap64 (s.1 + 1)) (h2 : nodeB x = true) (h3 : mayR x.f1 = true) (h4 : x.f0 ≠ 1) :
    Calls Try.prog 176 (#[.agg #[.int .u8 x.f0, .int .i64 x.f1.f0, .int .i64 x.f1.f1, .int .i64 x.f1.f2, .int .i64 x.f1.f3, .int .i64 x.f2, .slice A x.f3.length cb]] ++ #[.pointer (some ⟨bn, 0, none⟩), .pointer (some ⟨bm, 0, none⟩)]) W fun e w' => e = .returned (.bool (mStep s x).1) ∧ MayI w0 bn bm B (mStep s x).2 w' ∧ Kp (MayS bn B) W w' := by
  rw [show mStep s x = (true, (wrap64 (s.1 + 1), s.2)) from by unfold mStep; rw [if_neg h1, okC_node, h2, h3, if_neg (by simp), if_neg h4]]
  have HN := Aside0.mk fun W => node177 x A cb W
  rw [h2] at HN
  clear h2
  have M1 := Aside0.mk (show rect_May.f [x.f1] = some true by simp [rect_May.f, h3])
  clear h3
  have h4b : (x.f0 == 1) = false := beq_eq_false_iff_ne.mpr h4
  clear h4
  have HI := Aside0.mk hI
  have HK := Aside0.mk (Kp.refl (MayS bn B) W)
  clear hI
  simp only [List.append_toArray, List.cons_append, List.nil_append]
  go_enter Try.func176, Try.ntmps176
  go_wp2_with (first | ((with_reducible refine gate_dst (N := 3) rfl ?_); refine box_event ?hg (N := 3) ?hd (cs := #[.int .u8 x.f0, .int .i64 x.f1.f0, .int .i64 x.f1.f1, .int .i64 x.f1.f2, .int .i64 x.f1.f3, .int .i64 x.f2, .slice A x.f3.length cb]) (t := 26) ?hr ?_; (case hd => rfl); (case hg => rfl); (case hr => (go_simp; done)); intro b3 hg w3 hbox hb; have K3 := Aside0.mk hbox; have q1_ := Aside0.mk (HI.out.step hb); have q2_ := Aside0.mk (HK.out.trans (Kp.below hb)); clear HI HK; have HI := q1_; have HK := q2_; clear q1_ q2_; clear hb hbox hg; have cn := (blk_cell HI.out.hn 0).trans rfl) | ((with_reducible refine gate_ (.store 3 (.tmp 1) (.tmp 6)) rfl ?_); go_loud (clear cn; refine box_store (w0 := w0) rfl rfl 3 (.tmp 1) (.tmp 6) rfl (g := bn) (j := 0) (base := w0.heap.size) #[.int .i64 (wrap64 (s.1 + 1))] (u := .int .i64 (wrap64 (s.1 + 1))) (seg := [.int .i64 (wrap64 (s.1 + 1))]) ?sA ?sX rfl ?sT ?s1 HI.out.hn ?sJ rfl HI.out.below HI.out.below.size HI.out.gn ?_; (case sA => rfl); (case sX => rfl); (case sT => rfl); (case s1 => (simp [Value.oneCell'])); (case sJ => (simp)); intro ws hbk hbb hgg; have q1_ := Aside0.mk (HI.out.count hbk hbb hgg); have q2_ := Aside0.mk (HK.out.trans (Kp.grown hgg (Or.inl rfl))); have q3_ := Aside0.mk (blk_grown K3.out hgg (fun e_ => blk_ne K3.out HI.out.hn (by decide) (Option.some.inj e_))); clear HI HK K3 hbk hbb hgg; have HI := q1_; have HK := q2_; have K3 := q3_; clear q1_ q2_ q3_; have cn := (blk_cell HI.out.hn 0).trans rfl; have c0 := (blk_cell K3.out 0).trans rfl; have c1 := (blk_cell K3.out 1).trans rfl; have c2 := (blk_cell K3.out 2).trans rfl; have c3 := (blk_cell K3.out 3).trans rfl; have c4 := (blk_cell K3.out 4).trans rfl; have c5 := (blk_cell K3.out 5).trans rfl; have c6 := (blk_cell K3.out 6).trans rfl)))
  clear cn
  clear c0 c1 c2 c3 c4 c5 c6
  refine (HN.out _).mono ?_
  rintro e wk ⟨rfl, hb⟩
  have q3_ := Aside0.mk (blk_below K3.out hb)
  clear K3
  have K3 := q3_
  clear q3_
  have q1_ := Aside0.mk (HI.out.step hb); have q2_ := Aside0.mk (HK.out.trans (Kp.below hb)); clear HI HK; have HI := q1_; have HK := q2_; clear q1_ q2_
  clear hb
  have c0 := (blk_cell K3.out 0).trans rfl
  have c1 := (blk_cell K3.out 1).trans rfl
  have c2 := (blk_cell K3.out 2).trans rfl
  have c3 := (blk_cell K3.out 3).trans rfl
  have c4 := (blk_cell K3.out 4).trans rfl
  have c5 := (blk_cell K3.out 5).trans rfl
  have c6 := (blk_cell K3.out 6).trans rfl
  go_wp2_with (((with_reducible refine gate_dst (N := 17) rfl ?_); (try (refine gate_guard (by rfl) ?_; dsimp only)); refine Kd.R_lit k23 _ 23 ?hg (N := 17) ?hd (xs := ([x.f1] : List S23)) (inner := [.int .i64 x.f1.f0, .int .i64 x.f1.f1, .int .i64 x.f1.f2, .int .i64 x.f1.f3]) (ok := fun _ => True) (okp := fun _ => True) ?hr ?hp (fun _ hk => hk) trivial (Below.refl _ _) (Nat.le_refl _) (by simp) ?_; (case hd => rfl); (case hg => rfl); (case hr => (go_simp; done)); (case hp => exact (Reps.c4 (show Kd.M k23 _ _ _ x.f1 [.int .i64 x.f1.f0, .int .i64 x.f1.f1, .int .i64 x.f1.f2, .int .i64 x.f1.f3] from k23_mkM _ _ _ x.f1) (Reps.none _ _))); intro vr wr ho hb hg_ hnew_; clear hg_ hnew_; obtain ⟨Ar, cr, er⟩ := Kd.R_slice ho; subst er; have q3_ := Aside0.mk (blk_below K3.out hb); clear K3; have K3 := q3_; clear q3_; have q1_ := Aside0.mk (HI.out.step hb); have q2_ := Aside0.mk (HK.out.trans (Kp.below hb)); clear HI HK; have HI := q1_; have HK := q2_; clear q1_ q2_; have HR := Aside0.mk (Kd.R_reads' ho).2.2; have LR := Aside0.mk (Kd.R_reads' ho).2.1; clear ho hb))
  clear c0 c1 c2 c3 c4 c5 c6
  refine (rect_May.calls Ar cr [x.f1] true _ HR.out LR.out M1.out).mono ?_
  rintro e wk ⟨rfl, hb⟩
  have q3_ := Aside0.mk (blk_below K3.out hb)
  clear K3
  have K3 := q3_
  clear q3_
  have q1_ := Aside0.mk (HI.out.step hb); have q2_ := Aside0.mk (HK.out.trans (Kp.below hb)); clear HI HK; have HI := q1_; have HK := q2_; clear q1_ q2_
  clear hb
  have c0 := (blk_cell K3.out 0).trans rfl
  have c1 := (blk_cell K3.out 1).trans rfl
  have c2 := (blk_cell K3.out 2).trans rfl
  have c3 := (blk_cell K3.out 3).trans rfl
  have c4 := (blk_cell K3.out 4).trans rfl
  have c5 := (blk_cell K3.out 5).trans rfl
  have c6 := (blk_cell K3.out 6).trans rfl
  go_wp2
  go_ret
  exact ⟨rfl, HI.out, HK.out⟩
set_option maxHeartbeats 4000000 in
set_option maxRecDepth 100000 in
theorem may_E (w0 : World) (bn bm B : Nat) (s : Int × List Int) (W : World) (x : S26) (A : Option Addr) (cb : Nat) (hI : MayI w0 bn bm B s W) (h1 : ¬ 20000 < wrap64 (s.1 + 1)) (h2 : nodeB x = true) (h3 : mayR x.f1 = true) (h4 : x.f0 = 1) (h5 : 0 ≤ x.f2) (h6 : x.f2 ≤ 2147483647) (h7 : x.f2 ∈ s.2) :
    Calls Try.prog 176 (#[.agg #[.int .u8 x.f0, .int .i64 x.f1.f0, .int .i64 x.f1.f1, .int .i64 x.f1.f2, .int .i64 x.f1.f3, .int .i64 x.f2, .slice A x.f3.length cb]] ++ #[.pointer (some ⟨bn, 0, none⟩), .pointer (some ⟨bm, 0, none⟩)]) W fun e w' => e = .returned (.bool (mStep s x).1) ∧ MayI w0 bn bm B (mStep s x).2 w' ∧ Kp (MayS bn B) W w' := by
  rw [show mStep s x = (false, (wrap64 (s.1 + 1), s.2)) from by unfold mStep; rw [if_neg h1, okC_node, h2, h3, if_neg (by simp), if_pos h4, if_pos h7]]
  have HN := Aside0.mk fun W => node177 x A cb W
  rw [h2] at HN
  clear h2
  have M1 := Aside0.mk (show rect_May.f [x.f1] = some true by simp [rect_May.f, h3])
  clear h3
  have LK : Aside0 ((setD s.2).atKey (.int .i64 x.f2) (.lit (.bool false)) = .lit (.bool true)) := ⟨by rw [setD_at, decide_eq_true h7]⟩
  clear h7
  have WF : Aside0 ((Lit.int .i64 x.f2).wf = true) := ⟨WalkArith.wf_i64 (by omega)⟩
  have h4b : (x.f0 == 1) = true := beq_iff_eq.mpr h4
  clear h4 h5 h6
  have HI := Aside0.mk hI
  have HK := Aside0.mk (Kp.refl (MayS bn B) W)
  clear hI
  simp only [List.append_toArray, List.cons_append, List.nil_append]
  go_enter Try.func176, Try.ntmps176
  go_wp2_with (first | ((with_reducible refine gate_dst (N := 3) rfl ?_); refine box_event ?hg (N := 3) ?hd (cs := #[.int .u8 x.f0, .int .i64 x.f1.f0, .int .i64 x.f1.f1, .int .i64 x.f1.f2, .int .i64 x.f1.f3, .int .i64 x.f2, .slice A x.f3.length cb]) (t := 26) ?hr ?_; (case hd => rfl); (case hg => rfl); (case hr => (go_simp; done)); intro b3 hg w3 hbox hb; have K3 := Aside0.mk hbox; have q1_ := Aside0.mk (HI.out.step hb); have q2_ := Aside0.mk (HK.out.trans (Kp.below hb)); clear HI HK; have HI := q1_; have HK := q2_; clear q1_ q2_; clear hb hbox hg; have cn := (blk_cell HI.out.hn 0).trans rfl) | ((with_reducible refine gate_ (.store 3 (.tmp 1) (.tmp 6)) rfl ?_); go_loud (clear cn; refine box_store (w0 := w0) rfl rfl 3 (.tmp 1) (.tmp 6) rfl (g := bn) (j := 0) (base := w0.heap.size) #[.int .i64 (wrap64 (s.1 + 1))] (u := .int .i64 (wrap64 (s.1 + 1))) (seg := [.int .i64 (wrap64 (s.1 + 1))]) ?sA ?sX rfl ?sT ?s1 HI.out.hn ?sJ rfl HI.out.below HI.out.below.size HI.out.gn ?_; (case sA => rfl); (case sX => rfl); (case sT => rfl); (case s1 => (simp [Value.oneCell'])); (case sJ => (simp)); intro ws hbk hbb hgg; have q1_ := Aside0.mk (HI.out.count hbk hbb hgg); have q2_ := Aside0.mk (HK.out.trans (Kp.grown hgg (Or.inl rfl))); have q3_ := Aside0.mk (blk_grown K3.out hgg (fun e_ => blk_ne K3.out HI.out.hn (by decide) (Option.some.inj e_))); clear HI HK K3 hbk hbb hgg; have HI := q1_; have HK := q2_; have K3 := q3_; clear q1_ q2_ q3_; have cn := (blk_cell HI.out.hn 0).trans rfl; have c0 := (blk_cell K3.out 0).trans rfl; have c1 := (blk_cell K3.out 1).trans rfl; have c2 := (blk_cell K3.out 2).trans rfl; have c3 := (blk_cell K3.out 3).trans rfl; have c4 := (blk_cell K3.out 4).trans rfl; have c5 := (blk_cell K3.out 5).trans rfl; have c6 := (blk_cell K3.out 6).trans rfl)))
  clear cn
  clear c0 c1 c2 c3 c4 c5 c6
  refine (HN.out _).mono ?_
  rintro e wk ⟨rfl, hb⟩
  have q3_ := Aside0.mk (blk_below K3.out hb)
  clear K3
  have K3 := q3_
  clear q3_
  have q1_ := Aside0.mk (HI.out.step hb); have q2_ := Aside0.mk (HK.out.trans (Kp.below hb)); clear HI HK; have HI := q1_; have HK := q2_; clear q1_ q2_
  clear hb
  have c0 := (blk_cell K3.out 0).trans rfl
  have c1 := (blk_cell K3.out 1).trans rfl
  have c2 := (blk_cell K3.out 2).trans rfl
  have c3 := (blk_cell K3.out 3).trans rfl
  have c4 := (blk_cell K3.out 4).trans rfl
  have c5 := (blk_cell K3.out 5).trans rfl
  have c6 := (blk_cell K3.out 6).trans rfl
  go_wp2_with (((with_reducible refine gate_dst (N := 17) rfl ?_); (try (refine gate_guard (by rfl) ?_; dsimp only)); refine Kd.R_lit k23 _ 23 ?hg (N := 17) ?hd (xs := ([x.f1] : List S23)) (inner := [.int .i64 x.f1.f0, .int .i64 x.f1.f1, .int .i64 x.f1.f2, .int .i64 x.f1.f3]) (ok := fun _ => True) (okp := fun _ => True) ?hr ?hp (fun _ hk => hk) trivial (Below.refl _ _) (Nat.le_refl _) (by simp) ?_; (case hd => rfl); (case hg => rfl); (case hr => (go_simp; done)); (case hp => exact (Reps.c4 (show Kd.M k23 _ _ _ x.f1 [.int .i64 x.f1.f0, .int .i64 x.f1.f1, .int .i64 x.f1.f2, .int .i64 x.f1.f3] from k23_mkM _ _ _ x.f1) (Reps.none _ _))); intro vr wr ho hb hg_ hnew_; clear hg_ hnew_; obtain ⟨Ar, cr, er⟩ := Kd.R_slice ho; subst er; have q3_ := Aside0.mk (blk_below K3.out hb); clear K3; have K3 := q3_; clear q3_; have q1_ := Aside0.mk (HI.out.step hb); have q2_ := Aside0.mk (HK.out.trans (Kp.below hb)); clear HI HK; have HI := q1_; have HK := q2_; clear q1_ q2_; have HR := Aside0.mk (Kd.R_reads' ho).2.2; have LR := Aside0.mk (Kd.R_reads' ho).2.1; clear ho hb))
  clear c0 c1 c2 c3 c4 c5 c6
  refine (rect_May.calls Ar cr [x.f1] true _ HR.out LR.out M1.out).mono ?_
  rintro e wk ⟨rfl, hb⟩
  have q3_ := Aside0.mk (blk_below K3.out hb)
  clear K3
  have K3 := q3_
  clear q3_
  have q1_ := Aside0.mk (HI.out.step hb); have q2_ := Aside0.mk (HK.out.trans (Kp.below hb)); clear HI HK; have HI := q1_; have HK := q2_; clear q1_ q2_
  clear hb
  have c0 := (blk_cell K3.out 0).trans rfl
  have c1 := (blk_cell K3.out 1).trans rfl
  have c2 := (blk_cell K3.out 2).trans rfl
  have c3 := (blk_cell K3.out 3).trans rfl
  have c4 := (blk_cell K3.out 4).trans rfl
  have c5 := (blk_cell K3.out 5).trans rfl
  have c6 := (blk_cell K3.out 6).trans rfl
  have cm := (blk_cell HI.out.hm 0).trans rfl
  go_wp2_with (((with_reducible refine gate_dst (N := 29) rfl ?_); (try (refine gate_guard (by rfl) ?_; dsimp only)); refine lookup_bool _ rfl _ _ 161 rfl 3 4 (Maps.int_keyed Try.underlying3) Try.underlying161 Try.underlying4 (zero4 _) B _ _ rfl HI.out.map _ (.int .i64 x.f2) rfl (Maps.keyOf_int_mk Try.underlying3 WF.out) true LK.out ?_))
  go_ret
  exact ⟨rfl, HI.out, HK.out⟩
set_option maxHeartbeats 4000000 in
set_option maxRecDepth 100000 in
theorem may_F (w0 : World) (bn bm B : Nat) (s : Int × List Int) (W : World) (x : S26) (A : Option Addr) (cb : Nat) (hI : MayI w0 bn bm B s W) (h1 : ¬ 20000 < wrap64 (s.1 + 1)) (h2 : nodeB x = true) (h3 : mayR x.f1 = true) (h4 : x.f0 = 1) (h5 : 0 ≤ x.f2) (h6 : x.f2 ≤ 2147483647) (h7 : x.f2 ∉ s.2) :
    Calls Try.prog 176 (#[.agg #[.int .u8 x.f0, .int .i64 x.f1.f0, .int .i64 x.f1.f1, .int .i64 x.f1.f2, .int .i64 x.f1.f3, .int .i64 x.f2, .slice A x.f3.length cb]] ++ #[.pointer (some ⟨bn, 0, none⟩), .pointer (some ⟨bm, 0, none⟩)]) W fun e w' => e = .returned (.bool (mStep s x).1) ∧ MayI w0 bn bm B (mStep s x).2 w' ∧ Kp (MayS bn B) W w' := by
  rw [show mStep s x = (true, (wrap64 (s.1 + 1), x.f2 :: s.2)) from by unfold mStep; rw [if_neg h1, okC_node, h2, h3, if_neg (by simp), if_pos h4, if_neg h7]]
  have HN := Aside0.mk fun W => node177 x A cb W
  rw [h2] at HN
  clear h2
  have M1 := Aside0.mk (show rect_May.f [x.f1] = some true by simp [rect_May.f, h3])
  clear h3
  have LK : Aside0 ((setD s.2).atKey (.int .i64 x.f2) (.lit (.bool false)) = .lit (.bool false)) := ⟨by rw [setD_at, decide_eq_false h7]⟩
  have NM := Aside0.mk h7
  clear h7
  have HLN : Aside0 (s.2.length < maxLen) := ⟨by have h8 := nodup_le 2147483648 s.2 hI.nd (fun i hi => by have := hI.rg i hi; omega); unfold maxLen; omega⟩
  have I0 := Aside0.mk h5
  have I1 := Aside0.mk h6
  have WF : Aside0 ((Lit.int .i64 x.f2).wf = true) := ⟨WalkArith.wf_i64 (by omega)⟩
  have h4b : (x.f0 == 1) = true := beq_iff_eq.mpr h4
  clear h4 h5 h6
  have HI := Aside0.mk hI
  have HK := Aside0.mk (Kp.refl (MayS bn B) W)
  clear hI
  simp only [List.append_toArray, List.cons_append, List.nil_append]
  go_enter Try.func176, Try.ntmps176
  go_wp2_with (first | ((with_reducible refine gate_dst (N := 3) rfl ?_); refine box_event ?hg (N := 3) ?hd (cs := #[.int .u8 x.f0, .int .i64 x.f1.f0, .int .i64 x.f1.f1, .int .i64 x.f1.f2, .int .i64 x.f1.f3, .int .i64 x.f2, .slice A x.f3.length cb]) (t := 26) ?hr ?_; (case hd => rfl); (case hg => rfl); (case hr => (go_simp; done)); intro b3 hg w3 hbox hb; have K3 := Aside0.mk hbox; have q1_ := Aside0.mk (HI.out.step hb); have q2_ := Aside0.mk (HK.out.trans (Kp.below hb)); clear HI HK; have HI := q1_; have HK := q2_; clear q1_ q2_; clear hb hbox hg; have cn := (blk_cell HI.out.hn 0).trans rfl) | ((with_reducible refine gate_ (.store 3 (.tmp 1) (.tmp 6)) rfl ?_); go_loud (clear cn; refine box_store (w0 := w0) rfl rfl 3 (.tmp 1) (.tmp 6) rfl (g := bn) (j := 0) (base := w0.heap.size) #[.int .i64 (wrap64 (s.1 + 1))] (u := .int .i64 (wrap64 (s.1 + 1))) (seg := [.int .i64 (wrap64 (s.1 + 1))]) ?sA ?sX rfl ?sT ?s1 HI.out.hn ?sJ rfl HI.out.below HI.out.below.size HI.out.gn ?_; (case sA => rfl); (case sX => rfl); (case sT => rfl); (case s1 => (simp [Value.oneCell'])); (case sJ => (simp)); intro ws hbk hbb hgg; have q1_ := Aside0.mk (HI.out.count hbk hbb hgg); have q2_ := Aside0.mk (HK.out.trans (Kp.grown hgg (Or.inl rfl))); have q3_ := Aside0.mk (blk_grown K3.out hgg (fun e_ => blk_ne K3.out HI.out.hn (by decide) (Option.some.inj e_))); clear HI HK K3 hbk hbb hgg; have HI := q1_; have HK := q2_; have K3 := q3_; clear q1_ q2_ q3_; have cn := (blk_cell HI.out.hn 0).trans rfl; have c0 := (blk_cell K3.out 0).trans rfl; have c1 := (blk_cell K3.out 1).trans rfl; have c2 := (blk_cell K3.out 2).trans rfl; have c3 := (blk_cell K3.out 3).trans rfl; have c4 := (blk_cell K3.out 4).trans rfl; have c5 := (blk_cell K3.out 5).trans rfl; have c6 := (blk_cell K3.out 6).trans rfl)))
  clear cn
  clear c0 c1 c2 c3 c4 c5 c6
  refine (HN.out _).mono ?_
  rintro e wk ⟨rfl, hb⟩
  have q3_ := Aside0.mk (blk_below K3.out hb)
  clear K3
  have K3 := q3_
  clear q3_
  have q1_ := Aside0.mk (HI.out.step hb); have q2_ := Aside0.mk (HK.out.trans (Kp.below hb)); clear HI HK; have HI := q1_; have HK := q2_; clear q1_ q2_
  clear hb
  have c0 := (blk_cell K3.out 0).trans rfl
  have c1 := (blk_cell K3.out 1).trans rfl
  have c2 := (blk_cell K3.out 2).trans rfl
  have c3 := (blk_cell K3.out 3).trans rfl
  have c4 := (blk_cell K3.out 4).trans rfl
  have c5 := (blk_cell K3.out 5).trans rfl
  have c6 := (blk_cell K3.out 6).trans rfl
  go_wp2_with (((with_reducible refine gate_dst (N := 17) rfl ?_); (try (refine gate_guard (by rfl) ?_; dsimp only)); refine Kd.R_lit k23 _ 23 ?hg (N := 17) ?hd (xs := ([x.f1] : List S23)) (inner := [.int .i64 x.f1.f0, .int .i64 x.f1.f1, .int .i64 x.f1.f2, .int .i64 x.f1.f3]) (ok := fun _ => True) (okp := fun _ => True) ?hr ?hp (fun _ hk => hk) trivial (Below.refl _ _) (Nat.le_refl _) (by simp) ?_; (case hd => rfl); (case hg => rfl); (case hr => (go_simp; done)); (case hp => exact (Reps.c4 (show Kd.M k23 _ _ _ x.f1 [.int .i64 x.f1.f0, .int .i64 x.f1.f1, .int .i64 x.f1.f2, .int .i64 x.f1.f3] from k23_mkM _ _ _ x.f1) (Reps.none _ _))); intro vr wr ho hb hg_ hnew_; clear hg_ hnew_; obtain ⟨Ar, cr, er⟩ := Kd.R_slice ho; subst er; have q3_ := Aside0.mk (blk_below K3.out hb); clear K3; have K3 := q3_; clear q3_; have q1_ := Aside0.mk (HI.out.step hb); have q2_ := Aside0.mk (HK.out.trans (Kp.below hb)); clear HI HK; have HI := q1_; have HK := q2_; clear q1_ q2_; have HR := Aside0.mk (Kd.R_reads' ho).2.2; have LR := Aside0.mk (Kd.R_reads' ho).2.1; clear ho hb))
  clear c0 c1 c2 c3 c4 c5 c6
  refine (rect_May.calls Ar cr [x.f1] true _ HR.out LR.out M1.out).mono ?_
  rintro e wk ⟨rfl, hb⟩
  have q3_ := Aside0.mk (blk_below K3.out hb)
  clear K3
  have K3 := q3_
  clear q3_
  have q1_ := Aside0.mk (HI.out.step hb); have q2_ := Aside0.mk (HK.out.trans (Kp.below hb)); clear HI HK; have HI := q1_; have HK := q2_; clear q1_ q2_
  clear hb
  have c0 := (blk_cell K3.out 0).trans rfl
  have c1 := (blk_cell K3.out 1).trans rfl
  have c2 := (blk_cell K3.out 2).trans rfl
  have c3 := (blk_cell K3.out 3).trans rfl
  have c4 := (blk_cell K3.out 4).trans rfl
  have c5 := (blk_cell K3.out 5).trans rfl
  have c6 := (blk_cell K3.out 6).trans rfl
  have cm := (blk_cell HI.out.hm 0).trans rfl
  go_wp2_with (first | ((with_reducible refine gate_dst (N := 29) rfl ?_); (try (refine gate_guard (by rfl) ?_; dsimp only)); refine lookup_bool _ rfl _ _ 161 rfl 3 4 (Maps.int_keyed Try.underlying3) Try.underlying161 Try.underlying4 (zero4 _) B _ _ rfl HI.out.map _ (.int .i64 x.f2) rfl (Maps.keyOf_int_mk Try.underlying3 WF.out) false LK.out ?_) | (at_mapUpdate; refine wpList_mapUpdate_own _ rfl _ _ _ 161 rfl 3 4 (Maps.int_keyed Try.underlying3) Try.underlying161 _ B _ _ rfl HI.out.map HLN.out _ _ (.int .i64 x.f2) rfl rfl (Maps.keyOf_int_mk Try.underlying3 WF.out) (.lit (.bool true)) [] (plainElem_bool Try.underlying4 true) ?_; intro wu hown1 hgrow1; have q1_ := Aside0.mk (HI.out.met hown1 hgrow1 NM.out I0.out I1.out); have q2_ := Aside0.mk (HK.out.trans (Kp.grown hgrow1 (Or.inr rfl))); clear HI HK hown1 hgrow1; have HI := q1_; have HK := q2_; clear q1_ q2_))
  go_ret
  exact ⟨rfl, HI.out, HK.out⟩
theorem may176 (w0 : World) (bn bm B : Nat) (s : Int × List Int) (W : World) (x : S26) (A : Option Addr) (cb : Nat) (hI : MayI w0 bn bm B s W) :
    Calls Try.prog 176 (#[.agg #[.int .u8 x.f0, .int .i64 x.f1.f0, .int .i64 x.f1.f1, .int .i64 x.f1.f2, .int .i64 x.f1.f3, .int .i64 x.f2, .slice A x.f3.length cb]] ++ #[.pointer (some ⟨bn, 0, none⟩), .pointer (some ⟨bm, 0, none⟩)]) W fun e w' => e = .returned (.bool (mStep s x).1) ∧ MayI w0 bn bm B (mStep s x).2 w' ∧ Kp (MayS bn B) W w' := by
  by_cases h1 : 20000 < wrap64 (s.1 + 1)
  · exact may_A w0 bn bm B s W x A cb hI h1
  · cases h2 : nodeB x with
    | false => exact may_B w0 bn bm B s W x A cb hI h1 h2
    | true =>
      cases h3 : mayR x.f1 with
      | false => exact may_C w0 bn bm B s W x A cb hI h1 h2 h3
      | true =>
        by_cases h4 : x.f0 = 1
        · have h8 := h2
          unfold nodeB at h8
          rw [if_pos h4] at h8
          simp only [Bool.and_eq_true, decide_eq_true_eq] at h8
          by_cases h7 : x.f2 ∈ s.2
          · exact may_E w0 bn bm B s W x A cb hI h1 h2 h3 h4 h8.2.1 h8.2.2 h7
          · exact may_F w0 bn bm B s W x A cb hI h1 h2 h3 h4 h8.2.1 h8.2.2 h7
        · exact may_D w0 bn bm B s W x A cb hI h1 h2 h3 h4
end Go.Proofs.Ytfdmfgaiblfbhaa.P
/- The contract of cell.May: whether trees may be. Condition: each has at most 1048576 cells. -/
namespace Go.Proofs.Ytfdmfgaiblfbhaa.P
open Go.RowKit Go.Proofs.YtfdmfgaiblfbhaaW.PrintWords Go.Proofs.YtfdmfgaiblfbhaaW.PrintLast Go.Proofs.YtfdmfgaiblfbhaaW.PrintMore
set_option linter.unusedVariables false
set_option linter.unusedSimpArgs false
section
variable {P : Program} {ops : Array Oper} {rest : List Oper} {o : Oper} {a : Act} {Q : Exit → Act → World → Prop}
theorem map_event {W : World} (hgd : o.guard = none) {N : Tmp} (_hd : o.dst = some N) (t k e : TypeId) (ho : o.op = .makeMap t none)
    (h : ∀ g, g = W.heap.size → ∀ w1, Below W.heap.size W w1 → w1.ownsMap (H := Unit) P k (plainElem P e) g 0 (.map []) → wpList P ops Q rest (a.put o.dst (.map (some g))) w1) : wpList P ops Q (o :: rest) a W := by
  refine Kd.event_run hgd (w1 := W.alloc (.map #[] 0)) (v := .map (some W.heap.size)) ?_ (h _ rfl _ (below_alloc (Below.refl _ _) _) (World.ownsMap_made W P k _))
  unfold execOp
  simp [ho, run_makeMap, Result.andThen]
end
set_option maxHeartbeats 4000000 in
set_option maxRecDepth 100000 in
theorem may144 (c : S26) (A : Option Addr) (cc : Nat) (W : World) (hz : sz c ≤ 1048576) (hr : Kd.C k26 W A c.f3.length c.f3) (hc : c.f3.length ≤ cc) : Calls Try.prog 144 #[.agg #[.int .u8 c.f0, .int .i64 c.f1.f0, .int .i64 c.f1.f1, .int .i64 c.f1.f2, .int .i64 c.f1.f3, .int .i64 c.f2, .slice A c.f3.length cc]] W fun e w' => e = .returned (.bool (mayC c)) ∧ Below W.heap.size W w' := by
  have H175 := Aside0.mk fun (bn bm B : Nat) (W1 : World) (hI : MayI W bn bm B (0, []) W1) => all175 (MayS bn B) (MayI W bn bm B) mStep 176 #[.pointer (some ⟨bn, 0, none⟩), .pointer (some ⟨bm, 0, none⟩)] (enters_fn Try.func176 (by decide +kernel) (by kernel_rfl)) W (fun s w h => h.below) (fun s w w' h hb => h.step hb)
    (fun s w h k hk => hk.elim (fun e => e ▸ blk_lt h.hn) (fun e => e ▸ h.map.lt)) (fun s w x B' cb h _ _ => may176 W bn bm B s w x B' cb h) (sz c) c (Nat.le_refl _) A cc hr hc (0, []) W1 hI
  rw [allS_may c hz] at H175
  have HB := Aside0.mk (Below.refl W.heap.size W)
  clear hr hc hz
  generalize mayC c = r at H175 ⊢
  go_enter Try.func144, Try.ntmps144
  go_wp2_with (first | ((with_reducible refine gate_dst (N := 1) rfl ?_); refine box_event ?hg (N := 1) ?hd (cs := #[.int .u8 c.f0, .int .i64 c.f1.f0, .int .i64 c.f1.f1, .int .i64 c.f1.f2, .int .i64 c.f1.f3, .int .i64 c.f2, .slice A c.f3.length cc]) (t := 26) ?hr ?_; (case hd => rfl); (case hg => rfl); (case hr => (go_simp; done)); intro b1 hg wb1 hbox hb; have Kb1 := Aside0.mk hbox; have q_HB := Aside0.mk (below_step HB.out hb); clear HB; have HB := q_HB; clear q_HB; clear hb hbox hg) | ((with_reducible refine gate_dst (N := 5) rfl ?_); refine map_event rfl (N := 5) rfl 161 3 4 rfl ?_; intro B hg wB hb hM; have GB := Aside0.mk (show W.heap.size ≤ B by rw [hg]; exact HB.out.size); have HM := Aside0.mk hM; have q_HB := Aside0.mk (below_step HB.out hb); have q_Kb1 := Aside0.mk (blk_below Kb1.out hb); clear HB Kb1; have HB := q_HB; have Kb1 := q_Kb1; clear q_HB q_Kb1; clear hb hM hg) | ((with_reducible refine gate_dst (N := 3) rfl ?_); refine box_event ?hg (N := 3) ?hd (cs := #[.map none]) (t := 161) ?hr ?_; (case hd => rfl); (case hg => rfl); (case hr => (go_simp; done)); intro bm hg wbm hbox hb; have Kbm := Aside0.mk hbox; have Gbm := Aside0.mk (show W.heap.size ≤ bm by rw [hg]; exact HB.out.size); have q_HB := Aside0.mk (below_step HB.out hb); have q_Kb1 := Aside0.mk (blk_below Kb1.out hb); have q_HM := Aside0.mk (HM.out.kept (below_grown hb) (by simp)); clear HB Kb1 HM; have HB := q_HB; have Kb1 := q_Kb1; have HM := q_HM; clear q_HB q_Kb1 q_HM; clear hb hbox hg) | ((with_reducible refine gate_ (.store 161 (.tmp 3) (.tmp 5)) rfl ?_); go_loud (refine box_store (w0 := W) rfl rfl 161 (.tmp 3) (.tmp 5) rfl (g := bm) (j := 0) (base := W.heap.size) #[.map (some B)] (u := .map (some B)) (seg := [.map (some B)]) ?sA ?sX rfl ?sT ?s1 Kbm.out ?sJ rfl HB.out HB.out.size Gbm.out ?_; (case sA => rfl); (case sX => rfl); (case sT => rfl); (case s1 => (simp [Value.oneCell'])); (case sJ => (simp)); intro wsbm hbk hbb hgg; have NB : Aside0 (B ≠ bm) := ⟨fun e => by have hq := Kbm.out; obtain ⟨es, cl, hB, _⟩ := HM.out; rw [← e, hB] at hq; cases hq⟩; have q_Kb1 := Aside0.mk (blk_grown Kb1.out hgg (fun e_ => blk_ne Kb1.out Kbm.out (by decide) (Option.some.inj e_))); have q_HM := Aside0.mk (HM.out.kept hgg (fun e_ => NB.out (Option.some.inj e_))); clear Kb1 HM; have Kb1 := q_Kb1; have HM := q_HM; clear q_Kb1 q_HM; clear Kbm HB; have Kbm := Aside0.mk hbk; have HB := Aside0.mk hbb; clear hbk hbb hgg)) | ((with_reducible refine gate_dst (N := 4) rfl ?_); refine box_event ?hg (N := 4) ?hd (cs := #[.int .i64 0]) (t := 3) ?hr ?_; (case hd => rfl); (case hg => rfl); (case hr => (go_simp; done)); intro bn hg wbn hbox hb; have Kbn := Aside0.mk hbox; have Gbn := Aside0.mk (show W.heap.size ≤ bn by rw [hg]; exact HB.out.size); have q_HB := Aside0.mk (below_step HB.out hb); have q_Kb1 := Aside0.mk (blk_below Kb1.out hb); have q_Kbm := Aside0.mk (blk_below Kbm.out hb); have q_HM := Aside0.mk (HM.out.kept (below_grown hb) (by simp)); clear HB Kb1 Kbm HM; have HB := q_HB; have Kb1 := q_Kb1; have Kbm := q_Kbm; have HM := q_HM; clear q_HB q_Kb1 q_Kbm q_HM; clear hb hbox hg) | ((with_reducible refine gate_ (.store 3 (.tmp 4) (.const (.int .i64 0))) rfl ?_); go_loud (refine box_store (w0 := W) rfl rfl 3 (.tmp 4) (.const (.int .i64 0)) rfl (g := bn) (j := 0) (base := W.heap.size) #[.int .i64 0] (u := .int .i64 0) (seg := [.int .i64 0]) ?sA ?sX rfl ?sT ?s1 Kbn.out ?sJ rfl HB.out HB.out.size Gbn.out ?_; (case sA => rfl); (case sX => rfl); (case sT => rfl); (case s1 => (simp [Value.oneCell'])); (case sJ => (decide)); intro wsbn hbk hbb hgg; have NN : Aside0 (B ≠ bn) := ⟨fun e => by have hq := Kbn.out; obtain ⟨es, cl, hB, _⟩ := HM.out; rw [← e, hB] at hq; cases hq⟩; have q_Kb1 := Aside0.mk (blk_grown Kb1.out hgg (fun e_ => blk_ne Kb1.out Kbn.out (by decide) (Option.some.inj e_))); have q_Kbm := Aside0.mk (blk_grown Kbm.out hgg (fun e_ => blk_ne Kbm.out Kbn.out (by decide) (Option.some.inj e_))); have q_HM := Aside0.mk (HM.out.kept hgg (fun e_ => NN.out (Option.some.inj e_))); clear Kb1 Kbm HM; have Kb1 := q_Kb1; have Kbm := q_Kbm; have HM := q_HM; clear q_Kb1 q_Kbm q_HM; clear Kbn HB; have Kbn := Aside0.mk hbk; have HB := Aside0.mk hbb; clear hbk hbb hgg; have c0 := (blk_cell Kb1.out 0).trans rfl; have c1 := (blk_cell Kb1.out 1).trans rfl; have c2 := (blk_cell Kb1.out 2).trans rfl; have c3 := (blk_cell Kb1.out 3).trans rfl; have c4 := (blk_cell Kb1.out 4).trans rfl; have c5 := (blk_cell Kb1.out 5).trans rfl; have c6 := (blk_cell Kb1.out 6).trans rfl)))
  clear c0 c1 c2 c3 c4 c5 c6
  refine (H175.out bn bm B _ ⟨Kbn.out, Kbm.out, HM.out, HB.out, Gbn.out, GB.out, List.nodup_nil, fun i hi => absurd hi (by simp)⟩).mono ?_
  rintro e w' ⟨rfl, hi, _⟩
  have HI := Aside0.mk hi.below
  clear hi
  go_wp2
  go_ret
  exact ⟨rfl, HI.out⟩
set_option maxHeartbeats 2000000 in
set_option maxRecDepth 100000 in
theorem may143 (c : S26) (A : Option Addr) (cc : Nat) (W : World) (hz : sz c ≤ 1048576) (hr : Kd.C k26 W A c.f3.length c.f3) (hc : c.f3.length ≤ cc) : Calls Try.prog 143 #[.agg #[.int .u8 c.f0, .int .i64 c.f1.f0, .int .i64 c.f1.f1, .int .i64 c.f1.f2, .int .i64 c.f1.f3, .int .i64 c.f2, .slice A c.f3.length cc]] W fun e w' => e = .returned (.bool (!mayC c)) ∧ Below W.heap.size W w' := by
  have H := Aside0.mk fun (W1 : World) (hb : Below W.heap.size W W1) => may144 c A cc W1 hz (Kd.C_below hr hb) hc
  clear hr hc hz
  cases hm : mayC c
  all_goals
    rw [hm] at H
    clear hm
    go_enter Try.func143, Try.ntmps143
    go_wp2_with (((with_reducible refine gate_dst (N := 1) rfl ?_); refine box_event ?hg (N := 1) ?hd (cs := #[.int .u8 c.f0, .int .i64 c.f1.f0, .int .i64 c.f1.f1, .int .i64 c.f1.f2, .int .i64 c.f1.f3, .int .i64 c.f2, .slice A c.f3.length cc]) (t := 26) ?hr ?_; (case hd => rfl); (case hg => rfl); (case hr => (go_simp; done)); intro b1 hg w1 hbox hb; have HB := Aside0.mk hb; have K1 := Aside0.mk hbox; clear hb hbox hg; have c0 := (blk_cell K1.out 0).trans rfl; have c1 := (blk_cell K1.out 1).trans rfl; have c2 := (blk_cell K1.out 2).trans rfl; have c3 := (blk_cell K1.out 3).trans rfl; have c4 := (blk_cell K1.out 4).trans rfl; have c5 := (blk_cell K1.out 5).trans rfl; have c6 := (blk_cell K1.out 6).trans rfl))
    clear c0 c1 c2 c3 c4 c5 c6
    refine (H.out _ HB.out).mono ?_
    rintro e w' ⟨rfl, hb⟩
    have HB2 := Aside0.mk (below_step HB.out hb)
    clear hb
    go_wp2
    go_ret
    exact ⟨rfl, HB2.out⟩
def cell_May.f (l0 : List S26) : Option Bool := if l0.all (fun c => decide (sz c ≤ 1048576)) = true then some (l0.all mayC) else none
set_option maxHeartbeats 2000000 in
theorem cell_May.calls (A0 : Option Addr) (c0 : Nat) (l0 : List S26) (r : Bool) (w : World) (hr0 : Kd.C k26 w A0 l0.length l0) (hc0 : l0.length ≤ c0) (h : cell_May.f l0 = some r) :
    Calls Try.prog 76 #[.slice A0 l0.length c0] w fun e w' => e = .returned (.bool r) ∧ Below w.heap.size w w' := by
  unfold cell_May.f at h
  split at h
  · rename_i hz
    injection h with h
    have hcon := con174 (fun (_ : Unit) W => Below w.heap.size w W) (fun _ x => (!mayC x, ())) 143 #[] (enters_fn Try.func143 (by decide +kernel) (by kernel_rfl)) l0 A0 c0 w hr0 (fun _ W hW => hW) (fun _ W n hW => pw_below_drewN hW n)
      (fun _ W x B cb hx hW hC hl => by
        rw [show (#[Value.agg #[.int .u8 x.f0, .int .i64 x.f1.f0, .int .i64 x.f1.f1, .int .i64 x.f1.f2, .int .i64 x.f1.f3, .int .i64 x.f2, .slice B x.f3.length cb]] ++ #[] : Array Value) = #[.agg #[.int .u8 x.f0, .int .i64 x.f1.f0, .int .i64 x.f1.f1, .int .i64 x.f1.f2, .int .i64 x.f1.f3, .int .i64 x.f2, .slice B x.f3.length cb]] by simp]
        exact (may143 x B cb W (of_decide_eq_true (List.all_eq_true.1 hz x hx)) (Kd.C_below hC hW) hl).mono fun e w' ⟨he, hb⟩ => ⟨he, below_then hW hW.size hb⟩) () w (Below.refl _ _) hr0.2.1
    rw [scanB_any] at hcon
    have hnone := none142 l0 A0 c0 143 #[] _ _ w hcon (fun W n hW => pw_below_drewN hW n)
    have e1 : r = !(l0.any fun x => !mayC x) := by
      rw [← h]
      clear h hcon hr0 hc0 hz hnone
      induction l0 with
      | nil => rfl
      | cons x xs ih => simp only [List.all_cons, List.any_cons, ih, Bool.not_or, Bool.not_not]
    subst e1
    generalize (l0.any fun x => !mayC x) = b at hnone
    have HC := Aside0.mk hnone
    clear hcon h hr0 hnone hz
    go_enter Try.func76, Try.ntmps76
    go_wp2_with fail
    refine HC.out.mono ?_
    rintro e w' ⟨rfl, hb⟩
    have HB := Aside0.mk hb
    clear hb
    go_wp2
    go_ret
    exact ⟨rfl, HB.out⟩
  · exact absurd h (by simp)
end Go.Proofs.Ytfdmfgaiblfbhaa.P
namespace Go.Proofs.Ytfdmfgaiblfbhaa.P
open Go.RowKit Go.Proofs.YtfdmfgaiblfbhaaW.PrintWords Go.Proofs.YtfdmfgaiblfbhaaW.PrintLast Go.Proofs.YtfdmfgaiblfbhaaW.PrintMore
attribute [local go_sem] max2_int min2_int max_two min_two max_three min_three max_four min_four   -- for this text's walks alone
set_option linter.unusedVariables false
set_option linter.unusedSimpArgs false

/-! ### sashref05_Ints: function 51 -/
def sashref05_Ints.l0 : Nat → List Int → List Int → Int → Int → Option (Bool)
 | 0, _, _, _, _ => none
 | k + 1, x0, x1, x12, x13 => if x13 < x12 then (if 0 ≤ x13 then (if x13 < (x0.length : Int) then (if x13 < (x1.length : Int) then (if (rd x0 x13) = (rd x1 x13) then (sashref05_Ints.l0 k x0 x1 x12 (wrap64 (x13 + 1))) else (some false)) else (none)) else (none)) else (none)) else (some true)
def sashref05_Ints.f (k : Nat) (l0 : List Int) (l1 : List Int) : Option (Bool) := if (l0.length : Int) = (l1.length : Int) then (sashref05_Ints.l0 k l0 l1 (l0.length : Int) 0) else (some false)
set_option maxHeartbeats 8000000 in
set_option maxRecDepth 100000 in
theorem sashref05_Ints.calls (k : Nat) (A0 : Option Addr) (c0 : Nat) (l0 : List Int) (A1 : Option Addr) (c1 : Nat) (l1 : List Int) (r : Bool) (w : World) (hr0 : Kd.C (Kd.int .i64) w A0 l0.length l0) (hc0 : l0.length ≤ c0) (hr1 : Kd.C (Kd.int .i64) w A1 l1.length l1) (hc1 : l1.length ≤ c1) (h : sashref05_Ints.f k l0 l1 = some r) :
  Calls Try.prog 51 #[.slice A0 l0.length c0, .slice A1 l1.length c1] w fun e w' => e = .returned (.bool r) ∧ Drawn0 w w' := by
 have HR0 := Aside0.mk hr0
 have HC0 := Aside0.mk hc0
 clear hr0 hc0
 have HR1 := Aside0.mk hr1
 have HC1 := Aside0.mk hc1
 clear hr1 hc1
 have H : (if (l0.length : Int) = (l1.length : Int) then (sashref05_Ints.l0 k l0 l1 (l0.length : Int) 0) else (some false)) = some r := h
 clear h
 by_cases c3 : (l0.length : Int) = (l1.length : Int)
 ·rw [if_pos c3] at H
  have c3b0 : ((l0.length : Int) == (l1.length : Int)) = true := beq_iff_eq.mpr c3
  have c3b1 : ((l0.length : Int) != (l1.length : Int)) = false := bne_eq_false_iff_eq.mpr c3
  have c3b2 : (l0.length == l1.length) = true := by first | simpa using c3 | (simp at c3 ⊢; omega)
  clear c3
  have H' := Aside0.mk H
  clear H
  go_enter Try.func51, Try.ntmps51
  go_wp2
  repeat (go_quiet (fail); try go_wp2)
  go_loopg [13] k (fun kq v13 w' => ∃ (x13_1 : Int), v13 = .int .i64 x13_1 ∧ Aside0 (sashref05_Ints.l0 kq l0 l1 (l0.length : Int) x13_1 = some r) ∧ Aside0 (kq ≤ k) ∧ Drawn0 w w')
  case atStart => exact ⟨(0), (by first | rfl | (simp; done) | (simp [*]; done)), H', ⟨Nat.le_refl _⟩, by repeat (first | exact Drawn0.refl _ | apply Drawn0.step)⟩
  case round =>
   clear H'
   try clear c1
   try clear p2
   try clear c3
   try clear c3b0
   try clear c3b1
   try clear c3b2
   obtain ⟨x13_1, rfl, HA, HK1, ⟨m1, rfl⟩⟩ := hrel
   cases gk with
   | zero => exact absurd HA.out (by simp [sashref05_Ints.l0])
   | succ k1 =>
    have H := HA.out
    clear HA
    simp only [sashref05_Ints.l0] at H
    by_cases c4 : x13_1 < (l0.length : Int)
    ·rw [if_pos c4] at H
     have c4b0 : decide (x13_1 < (l0.length : Int)) = true := decide_eq_true c4
     clear c4
     by_cases c5 : 0 ≤ x13_1
     ·rw [if_pos c5] at H
      have c5b0 : decide (0 ≤ x13_1) = true := decide_eq_true c5
      clear c5
      by_cases c6 : x13_1 < (l0.length : Int)
      ·rw [if_pos c6] at H
       have c6b0 : decide (x13_1 < (l0.length : Int)) = true := decide_eq_true c6
       clear c6
       by_cases c7 : x13_1 < (l1.length : Int)
       ·rw [if_pos c7] at H
        have c7b0 : decide (x13_1 < (l1.length : Int)) = true := decide_eq_true c7
        clear c7
        by_cases c8 : (rd l0 x13_1) = (rd l1 x13_1)
        ·rw [if_pos c8] at H
         have c8b0 : ((rd l0 x13_1) == (rd l1 x13_1)) = true := beq_iff_eq.mpr c8
         have c8b1 : ((rd l0 x13_1) != (rd l1 x13_1)) = false := bne_eq_false_iff_eq.mpr c8
         clear c8
         have H' := Aside0.mk H
         clear H
         have p362 : 0 ≤ (x13_1 : Int) := of_decide_eq_true (by first | (with_reducible assumption) | assumption)
         have q362 : x13_1 < (l0.length : Int) := of_decide_eq_true (by first | (with_reducible assumption) | assumption)
         obtain ⟨ad362, e362, hx362_0⟩ := Kd.at_int HR0.out x13_1 p362 q362
         cases e362
         replace p362 := eq_true p362
         replace q362 := eq_true q362
         have p363 : 0 ≤ (x13_1 : Int) := of_decide_eq_true (by first | (with_reducible assumption) | assumption)
         have q363 : x13_1 < (l1.length : Int) := of_decide_eq_true (by first | (with_reducible assumption) | assumption)
         obtain ⟨ad363, e363, hx363_0⟩ := Kd.at_int HR1.out x13_1 p363 q363
         cases e363
         replace p363 := eq_true p363
         replace q363 := eq_true q363
         go_wp2
         repeat (go_quiet (fail); try go_wp2)
         go_roundg k1
         case measure => have := HK1.out; omega
         case rel => exact ⟨(wrap64 (x13_1 + 1)), (by first | rfl | (simp; done) | (simp [*]; done)), H', ⟨by have := HK1.out; omega⟩, by repeat (first | exact Drawn0.refl _ | apply Drawn0.step)⟩
        ·rw [if_neg c8] at H
         have c8b0 : ((rd l0 x13_1) == (rd l1 x13_1)) = false := beq_eq_false_iff_ne.mpr c8
         have c8b1 : ((rd l0 x13_1) != (rd l1 x13_1)) = true := bne_iff_ne.mpr c8
         obtain rfl := Option.some.inj H
         have p362 : 0 ≤ (x13_1 : Int) := of_decide_eq_true (by first | (with_reducible assumption) | assumption)
         have q362 : x13_1 < (l0.length : Int) := of_decide_eq_true (by first | (with_reducible assumption) | assumption)
         obtain ⟨ad362, e362, hx362_0⟩ := Kd.at_int HR0.out x13_1 p362 q362
         cases e362
         replace p362 := eq_true p362
         replace q362 := eq_true q362
         have p363 : 0 ≤ (x13_1 : Int) := of_decide_eq_true (by first | (with_reducible assumption) | assumption)
         have q363 : x13_1 < (l1.length : Int) := of_decide_eq_true (by first | (with_reducible assumption) | assumption)
         obtain ⟨ad363, e363, hx363_0⟩ := Kd.at_int HR1.out x13_1 p363 q363
         cases e363
         replace p363 := eq_true p363
         replace q363 := eq_true q363
         go_wp2
         repeat (go_quiet (fail); try go_wp2)
         go_ret
         exact ⟨by first | rfl | (simp; done) | (simp [*]; done), by repeat (first | exact Drawn0.refl _ | apply Drawn0.step)⟩
       ·rw [if_neg c7] at H
        exact absurd H (by simp)
      ·rw [if_neg c6] at H
       exact absurd H (by simp)
     ·rw [if_neg c5] at H
      exact absurd H (by simp)
    ·rw [if_neg c4] at H
     have c4b0 : decide (x13_1 < (l0.length : Int)) = false := decide_eq_false c4
     clear c4
     obtain rfl := Option.some.inj H
     go_wp2
     repeat (go_quiet (fail); try go_wp2)
     go_ret
     exact ⟨by first | rfl | (simp; done) | (simp [*]; done), by repeat (first | exact Drawn0.refl _ | apply Drawn0.step)⟩
 ·rw [if_neg c3] at H
  have c3b0 : ((l0.length : Int) == (l1.length : Int)) = false := beq_eq_false_iff_ne.mpr c3
  have c3b1 : ((l0.length : Int) != (l1.length : Int)) = true := bne_iff_ne.mpr c3
  have c3b2 : (l0.length == l1.length) = false := by first | simpa using c3 | (simp at c3 ⊢; omega)
  obtain rfl := Option.some.inj H
  go_enter Try.func51, Try.ntmps51
  go_wp2
  repeat (go_quiet (fail); try go_wp2)
  go_ret
  exact ⟨by first | rfl | (simp; done) | (simp [*]; done), by repeat (first | exact Drawn0.refl _ | apply Drawn0.step)⟩

end Go.Proofs.Ytfdmfgaiblfbhaa.P
namespace Go.Proofs.Ytfdmfgaiblfbhaa.P
open Go.RowKit Go.Proofs.YtfdmfgaiblfbhaaW.PrintWords Go.Proofs.YtfdmfgaiblfbhaaW.PrintLast Go.Proofs.YtfdmfgaiblfbhaaW.PrintMore
attribute [local go_sem] max2_int min2_int max_two min_two max_three min_three max_four min_four   -- for this text's walks alone
set_option linter.unusedVariables false
set_option linter.unusedSimpArgs false

/-! ### cell_Leaf: function 78 -/
def cell_Leaf.f (a0_0 : Int) (a0_1 : Int) (a0_2 : Int) (a0_3 : Int) (a1 : Int) : Option (Int × Int × Int × Int × Int × Int × (List (S26))) := some (1, a0_0, a0_1, a0_2, a0_3, a1, ([] : List (S26)))
set_option maxHeartbeats 8000000 in
set_option maxRecDepth 100000 in
theorem cell_Leaf.calls (a0_0 : Int) (a0_1 : Int) (a0_2 : Int) (a0_3 : Int) (a1 : Int) (r1 : Int) (r2 : Int) (r3 : Int) (r4 : Int) (r5 : Int) (r6 : Int) (r7 : List (S26)) (w : World) (h : cell_Leaf.f a0_0 a0_1 a0_2 a0_3 a1 = some (r1, r2, r3, r4, r5, r6, r7)) :
  Calls Try.prog 78 #[.agg #[.int .i64 a0_0, .int .i64 a0_1, .int .i64 a0_2, .int .i64 a0_3], .int .i64 a1] w fun e w' => ∃ v6_ : Value, e = .returned (.agg #[.int .u8 r1, .int .i64 r2, .int .i64 r3, .int .i64 r4, .int .i64 r5, .int .i64 r6, v6_]) ∧ Kd.R k26 26 w' w.heap.size (fun _ => True) v6_ r7 ∧ Below w.heap.size w w' := by
 have hu23 := Try.underlying23
 have hu26 := Try.underlying26
 have HB := Aside0.mk (Below.refl w.heap.size w)
 have H : (some (1, a0_0, a0_1, a0_2, a0_3, a1, ([] : List (S26)))) = some (r1, r2, r3, r4, r5, r6, r7) := h
 clear h
 simp only [Option.some.injEq, Prod.mk.injEq] at H
 obtain ⟨rfl, rfl, rfl, rfl, rfl, rfl, rfl⟩ := H
 go_enter Try.func78, Try.ntmps78
 go_wp2_with (first | ((with_reducible refine gate_dst (N := 2) rfl ?_); refine box_event ?hg (N := 2) ?hd (cs := #[.int .i64 a0_0, .int .i64 a0_1, .int .i64 a0_2, .int .i64 a0_3]) (t := 23) ?hr ?_; (case hd => rfl); (case hg => rfl); (case hr => first | (go_simp; done) | (go_simp; rfl)); intro gb826 hg w3 hbox hb; have n0_ := Aside0.mk (below_step (by repeat (first | (with_reducible first | exact HB.out | apply below_alloc | apply pw_below_drewN | apply below_drew1) | exact HB.out)) hb); have n1_ := Aside0.mk (hbox); have n2_ := Aside0.mk ((by rw [hg]; exact (below_size (by repeat (first | (with_reducible first | exact HB.out | apply below_alloc | apply pw_below_drewN | apply below_drew1) | exact HB.out))) : w.heap.size ≤ gb826)); have n3_ := Aside0.mk ((by rw [hg]; exact (below_size (by repeat (first | (with_reducible first | exact HB.out | apply below_alloc | apply pw_below_drewN | apply below_drew1) | exact HB.out))) : w.heap.size ≤ gb826)); clear HB; have HB := n0_; have BK826 := n1_; have GW826 := n2_; have GE826 := n3_; clear n0_ n1_ n2_ n3_; clear hb hbox hg) | ((with_reducible refine gate_dst (N := 4) rfl ?_); refine box_event ?hg (N := 4) ?hd (cs := #[.int .u8 0, .int .i64 0, .int .i64 0, .int .i64 0, .int .i64 0, .int .i64 0, .slice none 0 0]) (t := 26) ?hr ?_; (case hd => rfl); (case hg => rfl); (case hr => first | (go_simp; done) | (go_simp; rfl)); intro gb827 hg w4 hbox hb; have n0_ := Aside0.mk (blk_below (g := gb826) (o := .cells #[.int .i64 a0_0, .int .i64 a0_1, .int .i64 a0_2, .int .i64 a0_3] 23 (0, 0)) (by (with_reducible repeat (first | refine blk_drewN ?_ _ | refine blk_drew ?_ | refine blk_alloc ?_ _)); exact BK826.out) hb); have n1_ := Aside0.mk (below_step (by repeat (first | (with_reducible first | exact HB.out | apply below_alloc | apply pw_below_drewN | apply below_drew1 | refine below_set ?_ GE826.out) | exact HB.out)) hb); have n2_ := Aside0.mk (hbox); have n3_ := Aside0.mk ((by rw [hg]; exact (below_size (by repeat (first | (with_reducible first | exact HB.out | apply below_alloc | apply pw_below_drewN | apply below_drew1 | refine below_set ?_ GE826.out) | exact HB.out))) : w.heap.size ≤ gb827)); have n4_ := Aside0.mk ((by rw [hg]; exact (below_size (by repeat (first | (with_reducible first | exact HB.out | apply below_alloc | apply pw_below_drewN | apply below_drew1 | refine below_set ?_ GE826.out) | exact HB.out))) : w.heap.size ≤ gb827)); have n5_ := Aside0.mk ((by rw [hg]; exact Nat.ne_of_lt (blk_lt (g := gb826) (o := .cells #[.int .i64 a0_0, .int .i64 a0_1, .int .i64 a0_2, .int .i64 a0_3] 23 (0, 0)) (by (with_reducible repeat (first | refine blk_drewN ?_ _ | refine blk_drew ?_ | refine blk_alloc ?_ _)); exact BK826.out)) : gb826 ≠ gb827)); have n6_ := Aside0.mk ((by rw [hg]; exact Nat.ne_of_gt (blk_lt (g := gb826) (o := .cells #[.int .i64 a0_0, .int .i64 a0_1, .int .i64 a0_2, .int .i64 a0_3] 23 (0, 0)) (by (with_reducible repeat (first | refine blk_drewN ?_ _ | refine blk_drew ?_ | refine blk_alloc ?_ _)); exact BK826.out)) : gb827 ≠ gb826)); clear BK826; clear HB; have BK826 := n0_; have HB := n1_; have BK827 := n2_; have GW827 := n3_; have GE827 := n4_; have NB826_827 := n5_; have NB827_826 := n6_; clear n0_ n1_ n2_ n3_ n4_ n5_ n6_; clear hb hbox hg; have hnb5 := NB826_827.out; have hnc5 := NB827_826.out; have hcz6_0 : w4.cell? ⟨gb826, 0, none⟩ = some (.int .i64 a0_0) := (blk_cell BK826.out 0).trans rfl; have hcz6_1 : w4.cell? ⟨gb826, 1, none⟩ = some (.int .i64 a0_1) := (blk_cell BK826.out 1).trans rfl; have hcz6_2 : w4.cell? ⟨gb826, 2, none⟩ = some (.int .i64 a0_2) := (blk_cell BK826.out 2).trans rfl; have hcz6_3 : w4.cell? ⟨gb826, 3, none⟩ = some (.int .i64 a0_3) := (blk_cell BK826.out 3).trans rfl; have hfz6_0 := blk_frozen BK826.out 0; have hfz6_1 := blk_frozen BK826.out 1; have hfz6_2 := blk_frozen BK826.out 2; have hfz6_3 := blk_frozen BK826.out 3; have hcz7_0 : w4.cell? ⟨gb827, 0, none⟩ = some (.int .u8 0) := (blk_cell BK827.out 0).trans rfl; have hcz7_1 : w4.cell? ⟨gb827, 1, none⟩ = some (.int .i64 0) := (blk_cell BK827.out 1).trans rfl; have hcz7_2 : w4.cell? ⟨gb827, 2, none⟩ = some (.int .i64 0) := (blk_cell BK827.out 2).trans rfl; have hcz7_3 : w4.cell? ⟨gb827, 3, none⟩ = some (.int .i64 0) := (blk_cell BK827.out 3).trans rfl; have hcz7_4 : w4.cell? ⟨gb827, 4, none⟩ = some (.int .i64 0) := (blk_cell BK827.out 4).trans rfl; have hcz7_5 : w4.cell? ⟨gb827, 5, none⟩ = some (.int .i64 0) := (blk_cell BK827.out 5).trans rfl; have hcz7_6 : w4.cell? ⟨gb827, 6, none⟩ = some (.slice none 0 0) := (blk_cell BK827.out 6).trans rfl; have hfz7_0 := blk_frozen BK827.out 0; have hfz7_1 := blk_frozen BK827.out 1; have hfz7_2 := blk_frozen BK827.out 2; have hfz7_3 := blk_frozen BK827.out 3; have hfz7_4 := blk_frozen BK827.out 4; have hfz7_5 := blk_frozen BK827.out 5; have hfz7_6 := blk_frozen BK827.out 6))
 refine bodyPost_ret (results_cell_row rfl _ _ gb827 26 #[.int .u8 1, .int .i64 a0_0, .int .i64 a0_1, .int .i64 a0_2, .int .i64 a0_3, .int .i64 a1, .slice none 0 0] (0, 0) _ rfl (by (with_reducible repeat (first | refine blk_drewN ?_ _ | refine blk_drew ?_ | refine blk_alloc ?_ _)); refine blk_put (cs := #[.int .u8 1, .int .i64 a0_0, .int .i64 a0_1, .int .i64 a0_2, .int .i64 a0_3, .int .i64 a1, .slice none 0 0]) ?_ 6 _ rfl; (with_reducible repeat (first | refine blk_drewN ?_ _ | refine blk_drew ?_ | refine blk_alloc ?_ _)); refine blk_put (cs := #[.int .u8 1, .int .i64 a0_0, .int .i64 a0_1, .int .i64 a0_2, .int .i64 a0_3, .int .i64 0, .slice none 0 0]) ?_ 5 _ rfl; (with_reducible repeat (first | refine blk_drewN ?_ _ | refine blk_drew ?_ | refine blk_alloc ?_ _)); refine blk_put (cs := #[.int .u8 1, .int .i64 a0_0, .int .i64 a0_1, .int .i64 a0_2, .int .i64 0, .int .i64 0, .slice none 0 0]) ?_ 4 _ rfl; (with_reducible repeat (first | refine blk_drewN ?_ _ | refine blk_drew ?_ | refine blk_alloc ?_ _)); refine blk_put (cs := #[.int .u8 1, .int .i64 a0_0, .int .i64 a0_1, .int .i64 0, .int .i64 0, .int .i64 0, .slice none 0 0]) ?_ 3 _ rfl; (with_reducible repeat (first | refine blk_drewN ?_ _ | refine blk_drew ?_ | refine blk_alloc ?_ _)); refine blk_put (cs := #[.int .u8 1, .int .i64 a0_0, .int .i64 0, .int .i64 0, .int .i64 0, .int .i64 0, .slice none 0 0]) ?_ 2 _ rfl; (with_reducible repeat (first | refine blk_drewN ?_ _ | refine blk_drew ?_ | refine blk_alloc ?_ _)); refine blk_put (cs := #[.int .u8 1, .int .i64 0, .int .i64 0, .int .i64 0, .int .i64 0, .int .i64 0, .slice none 0 0]) ?_ 1 _ rfl; (with_reducible repeat (first | refine blk_drewN ?_ _ | refine blk_drew ?_ | refine blk_alloc ?_ _)); refine blk_put (cs := #[.int .u8 0, .int .i64 0, .int .i64 0, .int .i64 0, .int .i64 0, .int .i64 0, .slice none 0 0]) ?_ 0 _ rfl; (with_reducible repeat (first | refine blk_drewN ?_ _ | refine blk_drew ?_ | refine blk_alloc ?_ _)); exact BK827.out) Try.underlying26 rfl (by kernel_rfl)) rfl ?_
 exact ⟨_, by first | rfl | (simp [errW_none, errW_some] <;> rfl) | (simp [*, errW_none, errW_some] <;> rfl), by first | exact Kd.R_nil _ _ _ _ _ | exact Kd.N_nil _ _ _ _ _ | exact Kd.V_nil _ _ _ _ _ | exact Kd.Q_nil _ _ _ _ _ | exact Kd.S_nil _ _ _ _ _, by repeat (first | (with_reducible first | exact HB.out | apply below_alloc | apply pw_below_drewN | apply below_drew1 | refine below_set ?_ GE826.out | refine below_set ?_ GE827.out) | exact HB.out)⟩

end Go.Proofs.Ytfdmfgaiblfbhaa.P
namespace Go.Proofs.Ytfdmfgaiblfbhaa.P
open Go.RowKit Go.Proofs.YtfdmfgaiblfbhaaW.PrintWords Go.Proofs.YtfdmfgaiblfbhaaW.PrintLast Go.Proofs.YtfdmfgaiblfbhaaW.PrintMore
attribute [local go_sem] max2_int min2_int max_two min_two max_three min_three max_four min_four   -- for this text's walks alone
set_option linter.unusedVariables false
set_option linter.unusedSimpArgs false

/-! ### cell_Size: function 82 -/
mutual
def cell_Size.l0 : Nat → Int → List (S26) → Int → Int → Option (Int)
 | 0, _, _, _, _ => none
 | k + 1, x3, x8, x9, x10 => if x10 < x9 then (if 0 ≤ x10 then (if x10 < (x8.length : Int) then ((cell_Size.f k ((rd_T26 x8 x10).f3)).bind fun t830 => (cell_Size.l0 k (wrap64 (x3 + t830)) x8 x9 (wrap64 (x10 + 1)))) else (none)) else (none)) else (some x3)
def cell_Size.f : Nat → List (S26) → Option (Int)
 | 0, _ => none
 | k + 1, l0 => cell_Size.l0 k (l0.length : Int) l0 (l0.length : Int) 0
end
set_option maxHeartbeats 8000000 in
set_option maxRecDepth 100000 in
theorem cell_Size.calls (k : Nat) : ∀ (A0 : Option Addr) (c0 : Nat) (l0 : List (S26)) (r : Int) (w : World) (hr0 : Kd.C k26 w A0 l0.length l0) (hc0 : l0.length ≤ c0) (h : cell_Size.f k l0 = some r),
  Calls Try.prog 82 #[.slice A0 l0.length c0] w fun e w' => e = .returned (.int .i64 r) ∧ Below w.heap.size w w' := by
 induction k using Nat.strongRecOn with
 | _ k ih =>
 intro A0 c0 l0 r w hr0 hc0 h
 cases k with
 | zero => exact absurd h (by simp [cell_Size.f])
 | succ k =>
 simp only [cell_Size.f] at h
 have hu26 := Try.underlying26
 have HR0 := Aside0.mk hr0
 have HC0 := Aside0.mk hc0
 clear hr0 hc0
 have HB := Aside0.mk (Below.refl w.heap.size w)
 have H : (cell_Size.l0 k (l0.length : Int) l0 (l0.length : Int) 0) = some r := h
 clear h
 have H' := Aside0.mk H
 clear H
 go_enter Try.func82, Try.ntmps82
 go_wp2
 go_loopg [3, 10] k (fun kq v3 v10 w' => ∃ (x3_1 : Int) (x10_1 : Int), v3 = .int .i64 x3_1 ∧ v10 = .int .i64 x10_1 ∧ Aside0 (cell_Size.l0 kq x3_1 l0 (l0.length : Int) x10_1 = some r) ∧ Aside0 (kq ≤ k) ∧ Aside0 (Below w.heap.size w w'))
 case atStart => exact ⟨((l0.length : Int)), (0), (by first | rfl | (simp; done) | (simp [*]; done)), (by first | rfl | (simp; done) | (simp [*]; done)), H', ⟨Nat.le_refl _⟩, ⟨by repeat (first | (with_reducible first | exact HB.out | apply below_alloc | apply pw_below_drewN | apply below_drew1) | exact HB.out)⟩⟩
 case round =>
  clear H'
  obtain ⟨x3_1, x10_1, rfl, rfl, HA, HK1, HB⟩ := hrel
  cases gk with
  | zero => exact absurd HA.out (by simp [cell_Size.l0])
  | succ k1 =>
   have H := HA.out
   clear HA
   simp only [cell_Size.l0] at H
   by_cases c2 : x10_1 < (l0.length : Int)
   ·rw [if_pos c2] at H
    have c2b0 : decide (x10_1 < (l0.length : Int)) = true := decide_eq_true c2
    clear c2
    by_cases c3 : 0 ≤ x10_1
    ·rw [if_pos c3] at H
     have c3b0 : decide (0 ≤ x10_1) = true := decide_eq_true c3
     clear c3
     by_cases c4 : x10_1 < (l0.length : Int)
     ·rw [if_pos c4] at H
      have c4b0 : decide (x10_1 < (l0.length : Int)) = true := decide_eq_true c4
      clear c4
      replace H := Option.bind_eq_some_iff.mp H
      obtain ⟨t830, A50, H⟩ := H
      replace H : (cell_Size.l0 k1 (wrap64 (x3_1 + t830)) l0 (l0.length : Int) (wrap64 (x10_1 + 1))) = some r := H
      have A5 := Aside0.mk A50
      clear A50
      have H' := Aside0.mk H
      clear H
      have p828 : 0 ≤ (x10_1 : Int) := of_decide_eq_true (by first | (with_reducible assumption) | assumption)
      have q828 : x10_1 < (l0.length : Int) := of_decide_eq_true (by first | (with_reducible assumption) | assumption)
      obtain ⟨ad828, A828_6, c828_6, e828, hx828_0, hx828_1, hx828_2, hx828_3, hx828_4, hx828_5, hx828_6, hl828_6, hi828_6⟩ := at_T26 HR0.out x10_1 p828 q828
      cases e828
      replace hx828_0 := (HB.out.cell (World.block_lt_of_cell? w _ hx828_0)).trans hx828_0
      replace hx828_1 := (HB.out.cell (World.block_lt_of_cell? w _ hx828_1)).trans hx828_1
      replace hx828_2 := (HB.out.cell (World.block_lt_of_cell? w _ hx828_2)).trans hx828_2
      replace hx828_3 := (HB.out.cell (World.block_lt_of_cell? w _ hx828_3)).trans hx828_3
      replace hx828_4 := (HB.out.cell (World.block_lt_of_cell? w _ hx828_4)).trans hx828_4
      replace hx828_5 := (HB.out.cell (World.block_lt_of_cell? w _ hx828_5)).trans hx828_5
      replace hx828_6 := (HB.out.cell (World.block_lt_of_cell? w _ hx828_6)).trans hx828_6
      have HR828_6 := Aside0.mk hi828_6
      have HC828_6 := Aside0.mk hl828_6
      clear hi828_6 hl828_6
      replace p828 := eq_true p828
      replace q828 := eq_true q828
      go_wp2_with (first | ((with_reducible refine gate_dst (N := 5) rfl ?_); refine box_event ?hg (N := 5) ?hd (cs := #[.int .u8 0, .int .i64 0, .int .i64 0, .int .i64 0, .int .i64 0, .int .i64 0, .slice none 0 0]) (t := 26) ?hr ?_; (case hd => rfl); (case hg => rfl); (case hr => first | (go_simp; done) | (go_simp; rfl)); intro gb829 hg w6 hbox hb; have n0_ := Aside0.mk (below_step (by repeat (first | (with_reducible first | exact HB.out | apply below_alloc | apply pw_below_drewN | apply below_drew1) | exact HB.out)) hb); have n1_ := Aside0.mk (hbox); have n2_ := Aside0.mk ((by rw [hg]; exact (below_size (by repeat (first | (with_reducible first | exact HB.out | apply below_alloc | apply pw_below_drewN | apply below_drew1) | exact HB.out))) : w.heap.size ≤ gb829)); have n3_ := Aside0.mk ((by rw [hg]; exact (below_size (by repeat (first | (with_reducible first | exact HB.out | apply below_alloc | apply pw_below_drewN | apply below_drew1) | exact HB.out))) : w.heap.size ≤ gb829)); clear HB; have HB := n0_; have BK829 := n1_; have GW829 := n2_; have GE829 := n3_; clear n0_ n1_ n2_ n3_; clear hb hbox hg; have hcz7_0 : w6.cell? ⟨gb829, 0, none⟩ = some (.int .u8 0) := (blk_cell BK829.out 0).trans rfl; have hcz7_1 : w6.cell? ⟨gb829, 1, none⟩ = some (.int .i64 0) := (blk_cell BK829.out 1).trans rfl; have hcz7_2 : w6.cell? ⟨gb829, 2, none⟩ = some (.int .i64 0) := (blk_cell BK829.out 2).trans rfl; have hcz7_3 : w6.cell? ⟨gb829, 3, none⟩ = some (.int .i64 0) := (blk_cell BK829.out 3).trans rfl; have hcz7_4 : w6.cell? ⟨gb829, 4, none⟩ = some (.int .i64 0) := (blk_cell BK829.out 4).trans rfl; have hcz7_5 : w6.cell? ⟨gb829, 5, none⟩ = some (.int .i64 0) := (blk_cell BK829.out 5).trans rfl; have hcz7_6 : w6.cell? ⟨gb829, 6, none⟩ = some (.slice none 0 0) := (blk_cell BK829.out 6).trans rfl; have hfz7_0 := blk_frozen BK829.out 0; have hfz7_1 := blk_frozen BK829.out 1; have hfz7_2 := blk_frozen BK829.out 2; have hfz7_3 := blk_frozen BK829.out 3; have hfz7_4 := blk_frozen BK829.out 4; have hfz7_5 := blk_frozen BK829.out 5; have hfz7_6 := blk_frozen BK829.out 6) | ((with_reducible refine gate_callee (f := 82) rfl ?_); refine goesL_ (some 17) rfl rfl Try.func82 (by kernel_rfl) rfl #[.slice A828_6 ((rd_T26 l0 x10_1).f3).length c828_6] rfl (by (try simp only [List.map_toArray, List.map_cons, List.map_nil]); first | done | rfl | (simp only [List.length_drop, List.length_take]; rfl)) ?_; (with_reducible refine (ih k1 (by have := HK1.out; omega) _ _ ((rd_T26 l0 x10_1).f3) t830 _ ?side1 ?side2 A5.out).mono ?_); (case side1 => exact Kd.C_below HR828_6.out (by repeat (first | (with_reducible first | exact HB.out | apply below_alloc | apply pw_below_drewN | apply below_drew1 | refine below_set ?_ GE829.out) | exact HB.out))); (case side2 => exact HC828_6.out); rintro e w8 ⟨rfl, hb⟩; refine ⟨_, rfl, ?_⟩; have n0_ := Aside0.mk (blk_below (g := gb829) (o := .cells #[.int .u8 ((rd_T26 l0 x10_1).f0), .int .i64 ((rd_T26 l0 x10_1).f1.f0), .int .i64 ((rd_T26 l0 x10_1).f1.f1), .int .i64 ((rd_T26 l0 x10_1).f1.f2), .int .i64 ((rd_T26 l0 x10_1).f1.f3), .int .i64 ((rd_T26 l0 x10_1).f2), .slice A828_6 ((rd_T26 l0 x10_1).f3).length c828_6] 26 (0, 0)) (by (with_reducible repeat (first | refine blk_drewN ?_ _ | refine blk_drew ?_ | refine blk_alloc ?_ _)); refine blk_put (cs := #[.int .u8 ((rd_T26 l0 x10_1).f0), .int .i64 ((rd_T26 l0 x10_1).f1.f0), .int .i64 ((rd_T26 l0 x10_1).f1.f1), .int .i64 ((rd_T26 l0 x10_1).f1.f2), .int .i64 ((rd_T26 l0 x10_1).f1.f3), .int .i64 ((rd_T26 l0 x10_1).f2), .slice none 0 0]) ?_ 6 _ rfl; (with_reducible repeat (first | refine blk_drewN ?_ _ | refine blk_drew ?_ | refine blk_alloc ?_ _)); refine blk_put (cs := #[.int .u8 ((rd_T26 l0 x10_1).f0), .int .i64 ((rd_T26 l0 x10_1).f1.f0), .int .i64 ((rd_T26 l0 x10_1).f1.f1), .int .i64 ((rd_T26 l0 x10_1).f1.f2), .int .i64 ((rd_T26 l0 x10_1).f1.f3), .int .i64 0, .slice none 0 0]) ?_ 5 _ rfl; (with_reducible repeat (first | refine blk_drewN ?_ _ | refine blk_drew ?_ | refine blk_alloc ?_ _)); refine blk_put (cs := #[.int .u8 ((rd_T26 l0 x10_1).f0), .int .i64 ((rd_T26 l0 x10_1).f1.f0), .int .i64 ((rd_T26 l0 x10_1).f1.f1), .int .i64 ((rd_T26 l0 x10_1).f1.f2), .int .i64 0, .int .i64 0, .slice none 0 0]) ?_ 4 _ rfl; (with_reducible repeat (first | refine blk_drewN ?_ _ | refine blk_drew ?_ | refine blk_alloc ?_ _)); refine blk_put (cs := #[.int .u8 ((rd_T26 l0 x10_1).f0), .int .i64 ((rd_T26 l0 x10_1).f1.f0), .int .i64 ((rd_T26 l0 x10_1).f1.f1), .int .i64 0, .int .i64 0, .int .i64 0, .slice none 0 0]) ?_ 3 _ rfl; (with_reducible repeat (first | refine blk_drewN ?_ _ | refine blk_drew ?_ | refine blk_alloc ?_ _)); refine blk_put (cs := #[.int .u8 ((rd_T26 l0 x10_1).f0), .int .i64 ((rd_T26 l0 x10_1).f1.f0), .int .i64 0, .int .i64 0, .int .i64 0, .int .i64 0, .slice none 0 0]) ?_ 2 _ rfl; (with_reducible repeat (first | refine blk_drewN ?_ _ | refine blk_drew ?_ | refine blk_alloc ?_ _)); refine blk_put (cs := #[.int .u8 ((rd_T26 l0 x10_1).f0), .int .i64 0, .int .i64 0, .int .i64 0, .int .i64 0, .int .i64 0, .slice none 0 0]) ?_ 1 _ rfl; (with_reducible repeat (first | refine blk_drewN ?_ _ | refine blk_drew ?_ | refine blk_alloc ?_ _)); refine blk_put (cs := #[.int .u8 0, .int .i64 0, .int .i64 0, .int .i64 0, .int .i64 0, .int .i64 0, .slice none 0 0]) ?_ 0 _ rfl; (with_reducible repeat (first | refine blk_drewN ?_ _ | refine blk_drew ?_ | refine blk_alloc ?_ _)); exact BK829.out) hb); have n1_ := Aside0.mk (below_step (by repeat (first | (with_reducible first | exact HB.out | apply below_alloc | apply pw_below_drewN | apply below_drew1 | refine below_set ?_ GE829.out) | exact HB.out)) hb); clear BK829; clear HB; have BK829 := n0_; have HB := n1_; clear n0_ n1_; (try clear hb); (try clear hb2); (try clear hk); (try clear hi)))
      go_roundg k1
      case measure => have := HK1.out; omega
      case rel => exact ⟨(wrap64 (x3_1 + t830)), (wrap64 (x10_1 + 1)), (by first | rfl | (simp; done) | (simp [*]; done)), (by first | rfl | (simp; done) | (simp [*]; done)), H', ⟨by have := HK1.out; omega⟩, ⟨by repeat (first | (with_reducible first | exact HB.out | apply below_alloc | apply pw_below_drewN | apply below_drew1 | refine below_set ?_ GE829.out) | exact HB.out)⟩⟩
     ·rw [if_neg c4] at H
      exact absurd H (by simp)
    ·rw [if_neg c3] at H
     exact absurd H (by simp)
   ·rw [if_neg c2] at H
    have c2b0 : decide (x10_1 < (l0.length : Int)) = false := decide_eq_false c2
    clear c2
    obtain rfl := Option.some.inj H
    go_wp2
    go_ret
    exact ⟨by first | rfl | (simp [errW_none, errW_some] <;> rfl) | (simp [*, errW_none, errW_some] <;> rfl), by repeat (first | (with_reducible first | exact HB.out | apply below_alloc | apply pw_below_drewN | apply below_drew1) | exact HB.out)⟩

end Go.Proofs.Ytfdmfgaiblfbhaa.P
/- How many cells trees have, and how deep they are, by the code and by the reference: plain data. -/
namespace Go.Proofs.Ytfdmfgaiblfbhaa.P
open Go.RowKit Go.Proofs.YtfdmfgaiblfbhaaW.PrintWords Go.Proofs.YtfdmfgaiblfbhaaW.PrintLast Go.Proofs.YtfdmfgaiblfbhaaW.PrintMore

theorem cell_size_ev : ∀ (N : Nat) (l : List S26), szL l ≤ N → N ≤ 1048576000 → Ev (fun k => cell_Size.f k l) (szL l : Int) := by
  intro N
  induction N with
  | zero =>
    intro l h _
    cases l with
    | nil =>
      refine ⟨2, fun k hk => ?_⟩
      obtain ⟨m, rfl⟩ : ∃ m, k = m + 2 := ⟨k - 2, by omega⟩
      simp [cell_Size.f, cell_Size.l0, szL_nil]
    | cons x xs => rw [szL_cons, sz_eq] at h; omega
  | succ N ih =>
    intro l hl hN
    have hlen := szL_len l
    have key : ∀ (rest pre : List S26), pre ++ rest = l → Ev (fun k => cell_Size.l0 k ((l.length : Int) + ((szL pre : Int) - (pre.length : Int))) l (l.length : Int) (pre.length : Int)) (szL l : Int) := by
      intro rest
      induction rest with
      | nil =>
        intro pre hp
        rw [List.append_nil] at hp
        refine Ev.step (f := fun _ => some (szL l : Int)) (fun k => ?_) (Ev.now _)
        simp only [cell_Size.l0]
        rw [if_neg (by rw [hp]; omega), hp]
        congr 1
        omega
      | cons x xs ihr =>
        intro pre hp
        have hs := sz_eq x
        have hlt : (pre.length : Int) < (l.length : Int) := by rw [← hp, List.length_append, List.length_cons]; omega
        have hsum : szL l = szL pre + (sz x + szL xs) := by rw [← hp, szL_app, szL_cons]
        have hpl := szL_len pre
        have e2 := ihr (pre ++ [x]) (by rw [List.append_assoc]; exact hp)
        have hr : rd_T26 l (pre.length : Int) = x := by rw [← hp]; exact rd26_in pre x xs
        have hu : wrap64 ((pre.length : Int) + 1) = ((pre ++ [x]).length : Int) := up_in pre x xs (by rw [hp]; omega)
        have hpn : szL (pre ++ [x]) = szL pre + sz x := by rw [szL_app, szL_cons, szL_nil]; omega
        have hw : wrap64 ((l.length : Int) + ((szL pre : Int) - (pre.length : Int)) + (szL x.f3 : Int)) = (l.length : Int) + ((szL (pre ++ [x]) : Int) - ((pre ++ [x]).length : Int)) := by
          rw [wq (by omega) (by omega), hpn, List.length_append, List.length_singleton]
          omega
        refine Ev.step (f := fun k => (cell_Size.f k x.f3).bind fun t => cell_Size.l0 k (wrap64 ((l.length : Int) + ((szL pre : Int) - (pre.length : Int)) + t)) l (l.length : Int) ((pre ++ [x]).length : Int)) (fun k => ?_) (Ev.bind (ih x.f3 (by omega) (by omega)) ?_)
        · simp only [cell_Size.l0]
          rw [if_pos hlt, if_pos (by omega), if_pos hlt, hr, hu]
        · rw [hw]
          exact e2
    have e := key l [] rfl
    rw [szL_nil] at e
    refine Ev.step (fun k => ?_) e
    simp only [cell_Size.f]
    rw [show (l.length : Int) + (((0 : Nat) : Int) - (([] : List S26).length : Int)) = (l.length : Int) by simp]
    rfl
end Go.Proofs.Ytfdmfgaiblfbhaa.P
