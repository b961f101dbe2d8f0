/- PushOne: part 3 of 6 of this claim's texts, one behind the other, made small by a program: the words of the kit's printer cut down to those that are used, the claim's own names made short. -/
import Derived.Test.YtfdmfgaiblfbhaaProg
import Derived.Below
import Derived.Deep.Draws
import Derived.Deep.AppendLies
import Derived.Maps.AppendAt
import Derived.OwnWalk
import Derived.Laws.BytesArg
import Derived.Laws.MakeOwn
import Derived.Laws.OwnMore
import Derived.Deep.OwnRows
import Derived.Tactics
import Derived.Lib.ConvBytes
import Derived.Laws.Slices
import Derived.WalkKit
import Derived.KernelRfl
import Derived.RowKit3
import Derived.Deep.LoopGhost
import Derived.Deep.QuietTactic
import Derived.BigQuiet
import Derived.WideLaws
import Derived.Deep.DeepCutAuto
import Derived.Deep.CutBlock
import Derived.Deep.RegionHeld3
import Derived.Laws.Rows
import Derived.Lib.AppendStr
import Derived.ArgAppend
import Derived.Laws.IdiomCopy
import Derived.OrdersHeld
import Derived.Laws.BitsLemmas
import Derived.RowKit
import Derived.Test.YtfdmfgaiblfbhaaMPushOnea
import Derived.Test.YtfdmfgaiblfbhaaMPushOneb
import Derived.Shelf.Spec.SlicesInsert
import Derived.Shelf.Spec.SlicesInsertGrow
import Derived.Lib.Hide
import Derived.Maps.OwnOps
import Derived.Maps.Views
set_option maxHeartbeats 8000000
set_option maxRecDepth 100000
set_option linter.unusedVariables false
set_option linter.unusedSimpArgs false
namespace Go.Proofs.Ytfdmfgaiblfbhaa.P
open Go.RowKit Go.Proofs.ag.aQ Go.Proofs.ag.bu Go.Proofs.ag.bP
attribute [local go_sem] jo jC jU kH jS jT kU kW
theorem info3 : (Try.prog.info? 3).map (fun i => (i.zero, i.size, i.bytes)) = some (some (.int .i64 0), 1, 8) := by kernel_rfl
theorem info23 : (Try.prog.info? 23).map (fun i => (i.zero, i.size, i.bytes)) = some (some (.agg #[(.int .i64 0), (.int .i64 0), (.int .i64 0), (.int .i64 0)]), 4, 32) := by kernel_rfl
theorem info26 : (Try.prog.info? 26).map (fun i => (i.zero, i.size, i.bytes)) = some (some (.agg #[(.int .u8 0), (.int .i64 0), (.int .i64 0), (.int .i64 0), (.int .i64 0), (.int .i64 0), (.slice none 0 0)]), 7, 72) := by kernel_rfl
structure dw where
 f0 : Int
 f1 : Int
 f2 : Int
 f3 : Int
def z23 : dw := ⟨(0 : Int), (0 : Int), (0 : Int), (0 : Int)⟩
def k23 : Kd dw := Kd.Ub (Kd.pair (Kd.int .i64) (Kd.pair (Kd.int .i64) (Kd.pair (Kd.int .i64) (Kd.int .i64)))) (fun x : dw => (x.f0, x.f1, x.f2, x.f3))
theorem V9 : Kd.Heap k23 := Kd.MN _ (Kd.uQ (Kd.wK .i64) (Kd.uQ (Kd.wK .i64) (Kd.uQ (Kd.wK .i64) (Kd.wK .i64))))
theorem Fv {w : World} {x : dw} {cs : List Value} (h : k23.K w x cs) : cs = [.int .i64 x.f0, .int .i64 x.f1, .int .i64 x.f2, .int .i64 x.f3] := by
 obtain ⟨_, _, rfl, rfl, ⟨_, _, rfl, rfl, ⟨_, _, rfl, rfl, rfl⟩⟩⟩ := h
 exact rfl
theorem M_ (w : World) (x : dw)  : k23.K w x [.int .i64 x.f0, .int .i64 x.f1, .int .i64 x.f2, .int .i64 x.f3] := ⟨[.int .i64 x.f0], [.int .i64 x.f1, .int .i64 x.f2, .int .i64 x.f3], rfl, rfl, ⟨[.int .i64 x.f1], [.int .i64 x.f2, .int .i64 x.f3], rfl, rfl, ⟨[.int .i64 x.f2], [.int .i64 x.f3], rfl, rfl, rfl⟩⟩⟩
theorem qM (w : World) (base : Nat) (ok : Nat → Prop) (x : dw)  : k23.M w base ok x [.int .i64 x.f0, .int .i64 x.f1, .int .i64 x.f2, .int .i64 x.f3] := ⟨[.int .i64 x.f0], [.int .i64 x.f1, .int .i64 x.f2, .int .i64 x.f3], rfl, rfl, ⟨[.int .i64 x.f1], [.int .i64 x.f2, .int .i64 x.f3], rfl, rfl, ⟨[.int .i64 x.f2], [.int .i64 x.f3], rfl, rfl, rfl⟩⟩⟩
def pX (xs : List dw) (i : Int) : dw := xs.getD i.toNat z23
theorem Lh {w : World} {A : Option Addr} {n : Nat} {xs : List dw} (h : Kd.C k23 w A n xs) (i : Int) (h0 : 0 ≤ i) (h1 : i < n) : ∃ ad , A = some ad ∧ w.cell? (ad.add (i.toNat * 4)) = some (.int .i64 (pX xs i).f0) ∧ w.cell? ⟨(ad.add (i.toNat * 4)).block, (ad.add (i.toNat * 4)).off + 1, none⟩ = some (.int .i64 (pX xs i).f1) ∧ w.cell? ⟨(ad.add (i.toNat * 4)).block, (ad.add (i.toNat * 4)).off + 2, none⟩ = some (.int .i64 (pX xs i).f2) ∧ w.cell? ⟨(ad.add (i.toNat * 4)).block, (ad.add (i.toNat * 4)).off + 3, none⟩ = some (.int .i64 (pX xs i).f3) := by
 obtain ⟨ad, c, e, _, hK, hc0⟩ := Kd.FV h z23 i h0 h1
 have hc : ∀ j u, c[j]? = some u → w.cell? (ad.add (i.toNat * 4 + j)) = some u := hc0
 obtain rfl := Fv hK
 exact ⟨ad, e, hc 0 _ rfl, by rw [← jM _ _ 1 (by omega)]; exact hc 1 _ rfl, by rw [← jM _ _ 2 (by omega)]; exact hc 2 _ rfl, by rw [← jM _ _ 3 (by omega)]; exact hc 3 _ rfl⟩
structure ai where
 f0 : Int
 f1 : dw
 f2 : Int
 f3 : (List ai)
def z26 : ai := ⟨(0 : Int), z23, (0 : Int), ([] : List ai)⟩
def Oc (d : Kd ai) : Kd ai := Kd.Ub (Kd.pair (Kd.int .u8) (Kd.pair k23 (Kd.pair (Kd.int .i64) (Kd.slice 26 d)))) (fun x : ai => (x.f0, x.f1, x.f2, x.f3))
theorem Nh : Kd.u_ Oc := Kd.Wq _ (Kd.Dx (Kd.BL _) (Kd.Dx (Kd.BL _) (Kd.Dx (Kd.BL _) (Kd.QF 26 Kd.aaj))))
theorem afv : Kd.Sub Oc [26] := Kd.aay _ (Kd.FP (Kd.sub_const _ (by decide)) (Kd.FP (Kd.sub_const _ (by decide)) (Kd.FP (Kd.sub_const _ (by decide)) (Kd.UQ 26 (by decide) Kd.ad5))))
theorem QW : ∀ n, (Kd.upto Oc 7 [26] n).sz = 7 := Kd.aaH (fun _ => rfl)
def k26 : Kd ai := Kd.fix Oc 7 [26] QW (Kd.UX afv)
theorem nJ : Kd.Heap k26 := Kd.V4 (fun _ h_ => Kd.MN _ (Kd.uQ (Kd.wK .u8) (Kd.uQ V9 (Kd.uQ (Kd.wK .i64) (Kd.Qs 26 h_)))))
theorem BI {w : World} {x : ai} {cs : List Value} (h : k26.K w x cs) : ∃ A6 c6, cs = [.int .u8 x.f0, .int .i64 x.f1.f0, .int .i64 x.f1.f1, .int .i64 x.f1.f2, .int .i64 x.f1.f3, .int .i64 x.f2, .slice A6 x.f3.length c6] ∧ x.f3.length ≤ c6 ∧ k26.C w A6 x.f3.length x.f3 := by
 obtain ⟨n, h⟩ := h
 cases n with
 | zero => exact h.elim
 | succ n =>
  obtain ⟨_, _, rfl, rfl, ⟨_, _, rfl, s1, ⟨_, _, rfl, rfl, ⟨A6, c6, rfl, l6, g6⟩⟩⟩⟩ := h
  obtain rfl := Fv s1
  exact ⟨A6, c6, rfl, l6, Kd.afe g6⟩
theorem adD (w : World) (x : ai) {A6 : Option Addr} {c6 : Nat} (l6 : x.f3.length ≤ c6) (g6 : k26.C w A6 x.f3.length x.f3) : k26.K w x [.int .u8 x.f0, .int .i64 x.f1.f0, .int .i64 x.f1.f1, .int .i64 x.f1.f2, .int .i64 x.f1.f3, .int .i64 x.f2, .slice A6 x.f3.length c6] := by
 obtain ⟨n6, q6⟩ := Kd.Qh Nh g6
 have r6 := Kd.UW Nh QW (show n6 ≤ n6 by omega) q6
 exact ⟨n6 + 1, ⟨[.int .u8 x.f0], [.int .i64 x.f1.f0, .int .i64 x.f1.f1, .int .i64 x.f1.f2, .int .i64 x.f1.f3, .int .i64 x.f2, .slice A6 x.f3.length c6], rfl, rfl, ⟨[.int .i64 x.f1.f0, .int .i64 x.f1.f1, .int .i64 x.f1.f2, .int .i64 x.f1.f3], [.int .i64 x.f2, .slice A6 x.f3.length c6], rfl, (M_ w x.f1 ), ⟨[.int .i64 x.f2], [.slice A6 x.f3.length c6], rfl, rfl, ⟨A6, c6, rfl, l6, r6⟩⟩⟩⟩⟩
theorem mY {W : World} {ok : Nat → Prop} {x : ai} {cs : List Value} (h : Kd.FK k26 W ok x cs) : ∃ A6 c6, cs = [.int .u8 x.f0, .int .i64 x.f1.f0, .int .i64 x.f1.f1, .int .i64 x.f1.f2, .int .i64 x.f1.f3, .int .i64 x.f2, .slice A6 x.f3.length c6] ∧ x.f3.length ≤ c6 ∧ Kd.F k26 W ok A6 x.f3.length x.f3 := by
 obtain ⟨A6, c6, rfl, l6, _⟩ := BI (Kd.tK h)
 exact ⟨A6, c6, rfl, l6, (fun W' hW => by obtain ⟨A6_, c6_, he, l6_, g6_⟩ := BI (h W' hW); injection (Option.some.inj (show some (Value.slice A6 x.f3.length c6) = some (Value.slice A6_ x.f3.length c6_) from congrArg (fun l => l[6]?) he)) with ha_ _ _; rw [ha_]; exact g6_)⟩
theorem nY (W : World) (ok : Nat → Prop) (x : ai) {A6 : Option Addr} {c6 : Nat} (l6 : x.f3.length ≤ c6) (g6 : Kd.F k26 W ok A6 x.f3.length x.f3) : Kd.FK k26 W ok x [.int .u8 x.f0, .int .i64 x.f1.f0, .int .i64 x.f1.f1, .int .i64 x.f1.f2, .int .i64 x.f1.f3, .int .i64 x.f2, .slice A6 x.f3.length c6] := fun W2 hW => adD W2 x l6 (g6 W2 hW)
def az (xs : List ai) (i : Int) : ai := xs.getD i.toNat z26
theorem rF {w : World} {A : Option Addr} {n : Nat} {xs : List ai} (h : Kd.C k26 w A n xs) (i : Int) (h0 : 0 ≤ i) (h1 : i < n) : ∃ ad A6 c6, A = some ad ∧ w.cell? (ad.add (i.toNat * 7)) = some (.int .u8 (az xs i).f0) ∧ w.cell? ⟨(ad.add (i.toNat * 7)).block, (ad.add (i.toNat * 7)).off + 1, none⟩ = some (.int .i64 (az xs i).f1.f0) ∧ w.cell? ⟨(ad.add (i.toNat * 7)).block, (ad.add (i.toNat * 7)).off + 2, none⟩ = some (.int .i64 (az xs i).f1.f1) ∧ w.cell? ⟨(ad.add (i.toNat * 7)).block, (ad.add (i.toNat * 7)).off + 3, none⟩ = some (.int .i64 (az xs i).f1.f2) ∧ w.cell? ⟨(ad.add (i.toNat * 7)).block, (ad.add (i.toNat * 7)).off + 4, none⟩ = some (.int .i64 (az xs i).f1.f3) ∧ w.cell? ⟨(ad.add (i.toNat * 7)).block, (ad.add (i.toNat * 7)).off + 5, none⟩ = some (.int .i64 (az xs i).f2) ∧ w.cell? ⟨(ad.add (i.toNat * 7)).block, (ad.add (i.toNat * 7)).off + 6, none⟩ = some (.slice A6 (az xs i).f3.length c6) ∧ (az xs i).f3.length ≤ c6 ∧ k26.C w A6 (az xs i).f3.length (az xs i).f3 := by
 obtain ⟨ad, c, e, _, hK, hc0⟩ := Kd.FV h z26 i h0 h1
 have hc : ∀ j u, c[j]? = some u → w.cell? (ad.add (i.toNat * 7 + j)) = some u := hc0
 obtain ⟨A6, c6, rfl, l6, g6⟩ := BI hK
 exact ⟨ad, A6, c6, e, hc 0 _ rfl, by rw [← jM _ _ 1 (by omega)]; exact hc 1 _ rfl, by rw [← jM _ _ 2 (by omega)]; exact hc 2 _ rfl, by rw [← jM _ _ 3 (by omega)]; exact hc 3 _ rfl, by rw [← jM _ _ 4 (by omega)]; exact hc 4 _ rfl, by rw [← jM _ _ 5 (by omega)]; exact hc 5 _ rfl, by rw [← jM _ _ 6 (by omega)]; exact hc 6 _ rfl, l6, g6⟩
structure S35 where
 f0 : Int
 f1 : dw
end Go.Proofs.Ytfdmfgaiblfbhaa.P
namespace Go.Proofs.Ytfdmfgaiblfbhaa.P
open Go.RowKit Go.Proofs.ag.aQ Go.Proofs.ag.bu Go.Proofs.ag.bP
section
variable {P : Program} {ops : Array Oper} {rest : List Oper} {o : Oper} {a : Act} {Q : Exit → Act → World → Prop}
theorem grown_below {w0 W w1 : World} {g base : Nat} (HB : Below base w0 W) (hg : W.grownBy w1 (some g)) (hbg : base ≤ g) (hs : base ≤ W.heap.size) : Below base w0 w1 := HB.trans ⟨hg.os, hg.tape, hg.output, hg.size, fun k hk => hg.block k (by omega) (fun he => by injection he with he; omega)⟩
theorem qc {W : World} {g j : Nat} {cs cs' : Array Value} {t0 : TypeId} {bG : List Value} (hb : W.heap[g]? = some (.cells cs t0 (0, 0))) (hj : j + bG.length ≤ cs.size) (he : cs.toList.take j ++ bG ++ cs.toList.drop (j + bG.length) = cs'.toList) :
  (W.setCells g j bG).heap[g]? = some (.cells cs' t0 (0, 0)) ∧ W.grownBy (W.setCells g j bG) (some g) := by
 obtain ⟨cur', h3, h4, h5⟩ := lq bG j W cs hb hj
 obtain ⟨s1, s2, s3, s4⟩ := uA g bG j W
 have hc : cur' = cs' := Array.toList_inj.1 (h5.trans he)
 subst hc
 exact ⟨h3, ⟨s1, s2, s3, by rw [s4]; exact Nat.le_refl _, fun k _ hk => vY bG _ k (fun e => hk (by rw [e]))⟩⟩
theorem f_ {W w0 : World} (hN : o.dst = none) (hgd : o.guard = none) (t : TypeId) (p x : Operand) (ho : o.op = .store t p x) {g j base : Nat} {cs : Array Value} (cs' : Array Value) {t0 : TypeId} {u : Value} {bG : List Value}
  (kD : a.eval p = .pointer (some ⟨g, j, none⟩)) (hx : a.eval x = u) (hu : u.cells.toList = bG) (ht : (P.info? t).map (·.size) = some bG.length) (h1 : ∀ q ∈ bG, q.oneCell' = true)
  (hb : W.heap[g]? = some (.cells cs t0 (0, 0))) (hj : j + bG.length ≤ cs.size) (he : cs.toList.take j ++ bG ++ cs.toList.drop (j + bG.length) = cs'.toList) (HB : Below base w0 W) (hbs : base ≤ W.heap.size) (hbg : base ≤ g)
  (h : ∀ w1, w1.heap[g]? = some (.cells cs' t0 (0, 0)) → Below base w0 w1 → W.grownBy w1 (some g) → wpList P ops Q rest a w1) : wpList P ops Q (o :: rest) a W := by
 obtain ⟨h2, h3⟩ := qc hb hj he
 refine wpList_plain hgd fun K hK => ?_
 have hrun := Ci (P := P) t u bG hb hu ht hj h1
 unfold Oper.wp execOp
 simp only [ho, kD, hx, Sem.run_bind, Sem.run_pure, Result.andThen_ok, hrun]
 show K (a.put o.dst undef) _
 rw [hN]
 exact hK a _ (h _ h2 (grown_below HB h3 hbg hbs) h3)
theorem BX {W : World} (t : TypeId) (p x : Operand) (ho : o.op = .store t p x) {g j : Nat} {cs : Array Value} {t0 : TypeId} {u : Value} {bG : List Value}
  (kD : a.eval p = .pointer (some ⟨g, j, none⟩)) (hx : a.eval x = u) (hu : u.cells.toList = bG) (ht : (P.info? t).map (·.size) = some bG.length) (h1 : ∀ q ∈ bG, q.oneCell' = true)
  (hb : W.heap[g]? = some (.cells cs t0 (0, 0))) (hj : j + bG.length ≤ cs.size) : (execOp a.eval o).run P W = .ok .skip (W.setCells g j bG) := by
 have hrun := Ci (P := P) t u bG hb hu ht hj h1
 unfold execOp
 simp only [ho, kD, hx, Sem.run_bind, Sem.run_pure, Result.andThen_ok, hrun]
end
theorem KH {α : Type} {d : Kd α} {e base b c : Nat} {P : Nat → Prop} {W w1 : World} {v : Value} {xs : List α} (h : Kd.N d e w1 W.heap.size (fun k => ((P k ∧ k ≠ b) ∧ k ≠ c) ∨ W.heap.size ≤ k) v xs) (hb : b < W.heap.size) (hc : c < W.heap.size) (hs : base ≤ W.heap.size) :
  Kd.N d e w1 base (fun k => ((P k ∨ base ≤ k) ∧ k ≠ b) ∧ k ≠ c) v xs :=
 Kd.uM (Kd.iM h (fun k hk => hk.elim (fun q => ⟨⟨.inl q.1.1, q.1.2⟩, q.2⟩) (fun q => ⟨⟨.inr (by omega), by omega⟩, by omega⟩))) hs
def keys (bs : List (Option Nat × Obj)) (ow : List (Value × List ai)) : List Nat := bs.filterMap (·.1) ++ ow.flatMap (fun r => r.1.ownBlock.toList)
def Ok (w : World) (P : Nat → Prop) (ks : List Nat) (k : Nat) : Prop := (P k ∨ w.heap.size ≤ k) ∧ k ∉ ks
structure St (w : World) (P : Nat → Prop) (bs : List (Option Nat × Obj)) (ow : List (Value × List ai)) (ts : List (Value × List ai)) (ro : List (Addr × Value)) (W : World) : Prop where
 below : Below w.heap.size w W
 blk : ∀ p, p ∈ bs → ∀ g, p.1 = some g → W.heap[g]? = some p.2
 new : ∀ k, k ∈ keys bs ow → w.heap.size ≤ k ∧ k < W.heap.size
 nd : (keys bs ow).Nodup
 tree : ∀ t, t ∈ ts → Kd.V k26 26 W 0 (Ok w P (keys bs ow)) t.1 t.2
 own : ∀ r, r ∈ ow → Kd.N k26 26 W w.heap.size (fun k => Ok w P (keys bs ow) k ∨ r.1.ownBlock = some k) r.1 r.2
 cell : ∀ c, c ∈ ro → W.cell? c.1 = some c.2 ∧ c.1.block ∉ keys bs ow
section
variable {w : World} {P : Nat → Prop} {bs : List (Option Nat × Obj)} {ow : List (Value × List ai)} {ts : List (Value × List ai)} {ro : List (Addr × Value)} {W W1 : World} {g b0 cap : Nat} {o o' : Obj} {v : Value} {l : List ai}
theorem gQ {α : Type} {d : Kd α} {e base base' : Nat} {ok : Nat → Prop} {W : World} {v : Value} {xs : List α} (h : Kd.V d e W base ok v xs) : Kd.V d e W base' ok v xs := Kd.yD h (fun _ hf => hf)
theorem St.start (h : ∀ t, t ∈ ts → Kd.V k26 26 w b0 P t.1 t.2) : St w P [] [] ts [] w where
 below := Below.refl _ _
 blk := fun _ h => by cases h
 new := fun _ h => by cases h
 nd := List.nodup_nil
 tree := fun t ht => gQ (Kd.gJ (h t ht) (fun k hk => ⟨.inl hk, by simp [keys]⟩))
 own := fun _ h => by cases h
 cell := fun _ h => by cases h
theorem St.yL (S : St w P [] [] ts ro W) {a : Addr} {u : Value} (h : W.cell? a = some u) : St w P [] [] ts ((a, u) :: ro) W :=
 ⟨S.below, S.blk, S.new, S.nd, S.tree, S.own, fun c hc => by
  rcases List.mem_cons.1 hc with rfl | hc
  ·exact ⟨h, by simp [keys]⟩
  ·exact S.cell c hc⟩
theorem St.lt (S : St w P bs ow ts ro W) {k : Nat} (h : k ∈ keys bs ow) : k < W.heap.size := (S.new k h).2
theorem St.box (S : St w P bs ow ts ro W) (hg : g = W.heap.size) (hbox : W1.heap[g]? = some o) (hb : Below W.heap.size W W1) : St w P ((some g, o) :: bs) ow ts ro W1 where
 below := ak S.below hb
 blk := fun p hp q hq => by
  rcases List.mem_cons.1 hp with rfl | hp
  ·rw [← Option.some.inj hq]; exact hbox
  ·exact aI (S.blk p hp q hq) hb
 new := fun k hk => by
  rcases List.mem_cons.1 (show k ∈ g :: keys bs ow from hk) with rfl | hk
  ·exact ⟨by rw [hg]; exact S.below.size, fD hbox⟩
  ·exact ⟨(S.new k hk).1, Nat.lt_of_lt_of_le (S.new k hk).2 hb.size⟩
 nd := show (g :: keys bs ow).Nodup from List.nodup_cons.2 ⟨fun h => by have := (S.new g h).2; omega, S.nd⟩
 tree := fun t ht => Kd.gJ (Kd.ja (Kd.nG (S.tree t ht) g (Nat.le_of_eq hg.symm)) hb) (fun k hk => ⟨hk.1.1, fun h => (List.mem_cons.1 (show k ∈ g :: keys bs ow from h)).elim hk.2 hk.1.2⟩)
 own := fun r hr => Kd.iM (Kd.pF (Kd.Bg (S.own r hr) g (Nat.le_of_eq hg.symm)) hb) (fun k hk => hk.1.elim (fun h1 => .inl ⟨h1.1, fun h => (List.mem_cons.1 (show k ∈ g :: keys bs ow from h)).elim hk.2 h1.2⟩) .inr)
 cell := fun c hc => ⟨(hb.cell (World.block_lt_of_cell? W _ (S.cell c hc).1)).trans (S.cell c hc).1, fun h => (List.mem_cons.1 (show c.1.block ∈ g :: keys bs ow from h)).elim (fun he => by have := World.block_lt_of_cell? W _ (S.cell c hc).1; omega) (S.cell c hc).2⟩
theorem St.call (S : St w P bs ow ts ro W) (hb : Below W.heap.size W W1) : St w P bs ow ts ro W1 where
 below := ak S.below hb
 blk := fun p hp q hq => aI (S.blk p hp q hq) hb
 new := fun k hk => ⟨(S.new k hk).1, Nat.lt_of_lt_of_le (S.new k hk).2 hb.size⟩
 nd := S.nd
 tree := fun t ht => Kd.ja (S.tree t ht) hb
 own := fun r hr => Kd.pF (S.own r hr) hb
 cell := fun c hc => ⟨(hb.cell (World.block_lt_of_cell? W _ (S.cell c hc).1)).trans (S.cell c hc).1, (S.cell c hc).2⟩
theorem St.add (S : St w P bs ow ts ro W) (h : Kd.V k26 26 W b0 (Ok w P (keys bs ow)) v l) : St w P bs ow ((v, l) :: ts) ro W :=
 ⟨S.below, S.blk, S.new, S.nd, fun t ht => by
  rcases List.mem_cons.1 ht with rfl | ht
  ·exact gQ h
  ·exact S.tree t ht, S.own, S.cell⟩
theorem St.res (S : St w P bs ow ts ro W) (h : Kd.V k26 26 W1 b0 (fun k => Ok w P (keys bs ow) k ∨ W.heap.size ≤ k) v l) (hb : Below W.heap.size W W1) : St w P bs ow ((v, l) :: ts) ro W1 :=
 (S.call hb).add (Kd.gJ h (fun k hk => hk.elim id (fun h1 => ⟨.inr (Nat.le_trans S.below.size h1), fun h2 => by have := S.lt h2; omega⟩)))
theorem qp {k : Nat} : k ∈ keys bs [(v, l)] ↔ k ∈ keys bs [] ∨ v.ownBlock = some k := by
 simp only [keys, List.flatMap_cons, List.flatMap_nil, List.append_nil, List.mem_append, Option.mem_toList]
theorem St.yj (S : St w P bs [] ts ro W) (h : Kd.N k26 26 W1 W.heap.size (fun k => Ok w P (keys bs []) k ∨ W.heap.size ≤ k) v l) (hb : Below W.heap.size W W1) : St w P bs [(v, l)] ts ro W1 := by
 have hgb : ∀ g, v.ownBlock = some g → W.heap.size ≤ g := Kd.vk h
 have hgl : ∀ g, v.ownBlock = some g → g < W1.heap.size := Kd.EU h
 have hlt : ∀ k, k < W.heap.size → v.ownBlock ≠ some k := fun k hk e => by have := hgb k e; omega
 refine ⟨ak S.below hb, fun p hp q hq => aI (S.blk p hp q hq) hb, fun k hk => ?_, ?_, fun t ht => ?_, fun r hr => ?_, fun c hc => ?_⟩
 ·rcases qp.1 hk with h1 | h1
  ·exact ⟨(S.new k h1).1, Nat.lt_of_lt_of_le (S.new k h1).2 hb.size⟩
  ·exact ⟨Nat.le_trans S.below.size (hgb k h1), hgl k h1⟩
 ·have h1 := S.nd
  simp only [keys, List.flatMap_nil, List.append_nil] at h1
  simp only [keys, List.flatMap_cons, List.flatMap_nil, List.append_nil]
  refine List.nodup_append.2 ⟨h1, by cases v.ownBlock <;> simp, fun a ha b hb2 => ?_⟩
  rintro rfl
  exact hlt a (S.lt (by simpa [keys] using ha)) (by simpa using hb2)
 ·exact Kd.gJ (Kd.ja (Kd.D7 (S.tree t ht)) hb) (fun k hk => ⟨hk.1.1, fun h2 => (qp.1 h2).elim hk.1.2 (hlt k hk.2)⟩)
 ·rw [List.mem_singleton] at hr
  subst hr
  refine Kd.uM (Kd.iM h (fun k hk => ?_)) S.below.size
  by_cases hkg : v.ownBlock = some k
  ·exact .inr hkg
  ·refine .inl ?_
   rcases hk with h1 | h1
   ·exact ⟨h1.1, fun h2 => (qp.1 h2).elim h1.2 hkg⟩
   ·exact ⟨.inr (Nat.le_trans S.below.size h1), fun h2 => (qp.1 h2).elim (fun h3 => by have := S.lt h3; omega) hkg⟩
 ·exact ⟨(hb.cell (World.block_lt_of_cell? W _ (S.cell c hc).1)).trans (S.cell c hc).1, fun h2 => (qp.1 h2).elim (S.cell c hc).2 (hlt _ (World.block_lt_of_cell? W _ (S.cell c hc).1))⟩
theorem LJ {W W1 : World} {g : Nat} (hg : W.grownBy W1 (some g)) {a : Addr} {u : Value} (h : W.cell? a = some u) (hn : a.block ≠ g) : W1.cell? a = some u := cell_grown hg h (fun e => hn (Option.some.inj e))
theorem V_ {i : Nat} : ∀ {bs : List (Option Nat × Obj)} (ow : List (Value × List ai)) (_ : bs[i]? = some (some g, o)), keys (bs.set i (some g, o')) ow = keys bs ow := by
 induction i with
 | zero => intro bs ow h; cases bs with
  | nil => simp at h
  | cons b bs => simp at h; subst h; rfl
 | succ i ih => intro bs ow h; cases bs with
  | nil => simp at h
  | cons b bs =>
   have := ih (bs := bs) ow (by simpa using h)
   unfold keys at this ⊢
   have h2 := List.append_cancel_right this
   rw [List.set_cons_succ, List.filterMap_cons, List.filterMap_cons, h2]
theorem mem_keys {bs : List (Option Nat × Obj)} {ow : List (Value × List ai)} {p : Option Nat × Obj} {g : Nat} (hp : p ∈ bs) (hg : p.1 = some g) : g ∈ keys bs ow := List.mem_append.2 (.inl (List.mem_filterMap.2 ⟨p, hp, hg⟩))
theorem afq {p q : Option Nat × Obj} {g : Nat} : ∀ {bs : List (Option Nat × Obj)} {i j : Nat}, (bs.filterMap (·.1)).Nodup → bs[i]? = some p → bs[j]? = some q → i ≠ j → p.1 = some g → q.1 = some g → False := by
 intro bs
 induction bs with
 | nil => intro i j _ hi; simp at hi
 | cons b bs ih =>
  intro i j hn hi hj hij hp hq
  have hn' : (bs.filterMap (·.1)).Nodup := by
   rw [List.filterMap_cons] at hn
   split at hn
   ·exact hn
   ·exact (List.nodup_cons.1 hn).2
  cases i with
  | zero =>
   cases j with
   | zero => exact hij rfl
   | succ j =>
    simp at hi hj
    subst hi
    rw [List.filterMap_cons, hp] at hn
    exact (List.nodup_cons.1 hn).1 (List.mem_filterMap.2 ⟨q, List.mem_of_getElem? hj, hq⟩)
  | succ i =>
   cases j with
   | zero =>
    simp at hi hj
    subst hj
    rw [List.filterMap_cons, hq] at hn
    exact (List.nodup_cons.1 hn).1 (List.mem_filterMap.2 ⟨p, List.mem_of_getElem? hi, hp⟩)
   | succ j => exact ih hn' (by simpa using hi) (by simpa using hj) (by omega) hp hq
theorem St.put (S : St w P bs ow ts ro W) (i : Nat) (hi : bs[i]? = some (some g, o)) (hbk : W1.heap[g]? = some o') (hb : Below w.heap.size w W1) (hg : W.grownBy W1 (some g)) : St w P (bs.set i (some g, o')) ow ts ro W1 := by
 have hk := V_ (o' := o') ow hi
 have hm : g ∈ keys bs ow := mem_keys (List.mem_of_getElem? hi) rfl
 refine ⟨hb, fun p hp q hq => ?_, by rw [hk]; exact fun k h => ⟨(S.new k h).1, Nat.lt_of_lt_of_le (S.new k h).2 hg.size⟩, by rw [hk]; exact S.nd, fun t ht => ?_, fun r hr => ?_, fun c hc => ?_⟩
 ·obtain ⟨j, hj⟩ := List.mem_iff_getElem?.1 hp
  rw [List.getElem?_set] at hj
  by_cases hij : i = j
  ·subst hij
   rw [if_pos rfl] at hj
   split at hj
   ·injection hj with e; subst e; rw [← Option.some.inj hq]; exact hbk
   ·cases hj
  ·rw [if_neg hij] at hj
   exact cO (S.blk p (List.mem_of_getElem? hj) q hq) hg (fun e => afq (List.nodup_append.1 S.nd).1 hi hj hij rfl (by rw [hq]; exact e))
 ·rw [hk]; exact Kd.wG (S.tree t ht) hg (fun k h e => h.2 (by rw [Option.some.inj e]; exact hm))
 ·rw [hk]
  have hrg : r.1.ownBlock ≠ some g := fun e => (List.nodup_append.1 S.nd).2.2 g (List.mem_filterMap.2 ⟨_, List.mem_of_getElem? hi, rfl⟩) g (List.mem_flatMap.2 ⟨r, hr, by simp [e]⟩) rfl
  exact Kd.uK (S.own r hr) hg (fun k h e => h.elim (fun h1 => h1.2 (by rw [Option.some.inj e]; exact hm)) (fun h1 => hrg (by rw [h1]; exact e)))
 ·rw [hk]; exact ⟨LJ hg (S.cell c hc).1 (fun e => (S.cell c hc).2 (by rw [e]; exact hm)), (S.cell c hc).2⟩
def kT (x : ai) (A : Option Addr) (c : Nat) : List Value := [.int .u8 x.f0, .int .i64 x.f1.f0, .int .i64 x.f1.f1, .int .i64 x.f1.f2, .int .i64 x.f1.f3, .int .i64 x.f2, .slice A x.f3.length c]
theorem St.bG {n : Nat} (S : St w P bs [(.slice (some ⟨g, 0, none⟩) n cap, l)] ts ro W) (i : Int) (h0 : 0 ≤ i) (h1 : i < l.length) (x : ai) {A : Option Addr} {c : Nat} (hm : (.slice A x.f3.length c, x.f3) ∈ ts) (hW : W1 = W.setCells g (i.toNat * 7 + 0) (kT x A c)) :
  St w P bs [(.slice (some ⟨g, 0, none⟩) n cap, l.set i.toNat x)] ts ro W1 ∧ W.grownBy W1 (some g) := by
 have hN := S.own _ (List.mem_singleton.2 rfl)
 have hob : (Value.slice (some ⟨g, 0, none⟩) n cap).ownBlock = some g := by simp [Value.ownBlock]
 have hmem : g ∈ keys bs [(.slice (some ⟨g, 0, none⟩) n cap, l)] := qp.2 (.inr hob)
 have hn : n = l.length := (Kd.iO hN).1
 obtain ⟨c0, hcl, hM, hcc, hfr⟩ := Kd.xk hN z26 i h0 (by rw [hn]; exact h1)
 obtain ⟨hl1, hl2, hF⟩ := Kd.Bj (S.tree _ hm)
 have Jm := nY W _ x hl2 hF
 have hseg := Kd.PZ hN i h0 (by rw [hn]; exact h1) (bG := kT x A c) (j := 0) hcl hcc (show 0 + 7 ≤ 7 from by decide) (x' := x) (fB := Ok w P (keys bs [(.slice (some ⟨g, 0, none⟩) n cap, l)])) (by
  have e : c0.take 0 ++ kT x A c ++ c0.drop (0 + (kT x A c).length) = kT x A c := by
   rw [show (0 + (kT x A c).length) = c0.length by rw [hcl]; rfl, List.drop_length, List.take_zero, List.nil_append, List.append_nil]
  rw [e]; exact Jm) (fun k hk => ⟨.inl hk, fun e => hk.2 (by rw [e]; exact hmem)⟩)
 have BH : Kd.N k26 26 W1 w.heap.size (fun k => Ok w P (keys bs [(.slice (some ⟨g, 0, none⟩) n cap, l)]) k ∨ (Value.slice (some ⟨g, 0, none⟩) n cap).ownBlock = some k) (.slice (some ⟨g, 0, none⟩) n cap) (l.set i.toNat x) ∧ W.grownBy W1 (some g) := by rw [hW]; exact hseg
 have hne : ∀ p, p ∈ bs → p.1 ≠ some g := fun p hp e => (List.nodup_append.1 S.nd).2.2 g (List.mem_filterMap.2 ⟨p, hp, e⟩) g (by simp [hob]) rfl
 refine ⟨⟨grown_below S.below BH.2 (S.new g hmem).1 S.below.size, fun p hp q hq => cO (S.blk p hp q hq) BH.2 (fun e => hne p hp (by rw [hq]; exact e)), fun k h => ⟨(S.new k h).1, Nat.lt_of_lt_of_le (S.new k h).2 BH.2.size⟩, S.nd, fun t ht => ?_, fun r hr => ?_, fun c hc => ?_⟩, BH.2⟩
 ·exact Kd.wG (S.tree t ht) BH.2 (fun k h e => h.2 (by rw [Option.some.inj e]; exact hmem))
 ·rw [List.mem_singleton] at hr
  subst hr
  exact BH.1
 ·exact ⟨LJ BH.2 (S.cell c hc).1 (fun e => (S.cell c hc).2 (by rw [e]; exact hmem)), (S.cell c hc).2⟩
theorem St.free (S : St w P bs [(v, l)] ts ro W) : St w P bs [] ((v, l) :: ts) ro W := by
 have hk : ∀ k, k ∈ keys bs [] → k ∈ keys bs [(v, l)] := fun k h => qp.2 (.inl h)
 have hne : ∀ k, k ∈ keys bs [] → v.ownBlock ≠ some k := fun k h e => (List.nodup_append.1 S.nd).2.2 k (by simpa [keys] using h) k (by simp [e]) rfl
 refine ⟨S.below, S.blk, fun k h => S.new k (hk k h), ?_, fun t ht => ?_, fun _ h => (by cases h), fun c hc => ⟨(S.cell c hc).1, fun h => (S.cell c hc).2 (hk _ h)⟩⟩
 ·simp only [keys, List.flatMap_nil, List.append_nil]; exact (List.nodup_append.1 S.nd).1
 ·rcases List.mem_cons.1 ht with rfl | ht
  ·exact Kd.gJ (Kd.qF (S.own _ (List.mem_singleton.2 rfl))) (fun k h => h.elim (fun h1 => ⟨h1.1, fun h2 => h1.2 (hk k h2)⟩) (fun h1 => ⟨.inr (S.new k (qp.2 (.inr h1))).1, fun h2 => hne k h2 h1⟩))
  ·exact Kd.gJ (S.tree t ht) (fun k h => ⟨h.1, fun h2 => h.2 (hk k h2)⟩)
theorem St.yg (S : St w P bs [(v, l)] ts ro W) : Kd.N k26 26 W w.heap.size (fun k => P k ∨ w.heap.size ≤ k) v l :=
 Kd.iM (S.own _ (List.mem_singleton.2 rfl)) (fun k h => h.elim (fun h1 => h1.1) (fun h1 => .inr (S.new k (qp.2 (.inr h1))).1))
theorem St.Wy (S : St w P bs ow ts ro W) (hm : (v, l) ∈ ts) : Kd.V k26 26 W b0 (fun k => P k ∨ w.heap.size ≤ k) v l := gQ (Kd.gJ (S.tree _ hm) (fun _ h => h.1))
theorem St.at (S : St w P bs ow ts ro W) {cs : Array Value} {t : TypeId} (hm : (some g, .cells cs t (0, 0)) ∈ bs) (j : Nat) : W.cell? ⟨g, j, none⟩ = cs[j]? := af (S.blk _ hm g rfl) j
theorem St.elem (S : St w P bs ow ts ro W) {A : Option Addr} {n c : Nat} (hm : (.slice A n c, l) ∈ ts) (i : Int) (h0 : 0 ≤ i) (h1 : i < l.length) :
  ∃ ad ua uc, A = some ad ∧ St w P bs ow ((.slice ua (az l i).f3.length uc, (az l i).f3) :: ts) ((ad.add (i.toNat * 7), .int .u8 (az l i).f0) :: (⟨(ad.add (i.toNat * 7)).block, (ad.add (i.toNat * 7)).off + 1, none⟩, .int .i64 (az l i).f1.f0) :: (⟨(ad.add (i.toNat * 7)).block, (ad.add (i.toNat * 7)).off + 2, none⟩, .int .i64 (az l i).f1.f1) :: (⟨(ad.add (i.toNat * 7)).block, (ad.add (i.toNat * 7)).off + 3, none⟩, .int .i64 (az l i).f1.f2) :: (⟨(ad.add (i.toNat * 7)).block, (ad.add (i.toNat * 7)).off + 4, none⟩, .int .i64 (az l i).f1.f3) :: (⟨(ad.add (i.toNat * 7)).block, (ad.add (i.toNat * 7)).off + 5, none⟩, .int .i64 (az l i).f2) :: (⟨(ad.add (i.toNat * 7)).block, (ad.add (i.toNat * 7)).off + 6, none⟩, .slice ua (az l i).f3.length uc) :: ro) W := by
 have hV := S.tree _ hm
 obtain ⟨hn, hl, hF⟩ := Kd.Bj hV
 obtain ⟨ad, ua, uc, ek, y0, y1, y2, y3, y4, y5, y6, Jq, hgu⟩ := rF (Kd.FW hF) i h0 h1
 subst ek
 obtain ⟨ad2, ce, e2, hcl, hFK, hcc, hok⟩ := Kd.PQ hF z26 i h0 h1
 injection e2 with e2
 subst e2
 obtain ⟨ub, ud, rfl, lub, fub⟩ := mY hFK
 have e6 := hcc 6 _ rfl
 rw [show k26.sz = 7 from rfl, jM _ _ 6 (by omega)] at e6
 have e7 := Option.some.inj (e6.symm.trans y6)
 injection e7 with ea en ec
 subst ea
 subst ec
 have hO := (hok (by decide)).2
 have MF : (ad.add (i.toNat * 7)).block ∉ keys bs ow := by rw [add_block]; exact hO
 refine ⟨ad, ub, ud, rfl, (S.add (Kd.uD (base := 0) lub fub)).below, S.blk, S.new, S.nd, (S.add (Kd.uD (base := 0) lub fub)).tree, S.own, ?_⟩
 intro c hc
 rcases List.mem_cons.1 hc with rfl | hc
 ·exact ⟨y0, MF⟩
 rcases List.mem_cons.1 hc with rfl | hc
 ·exact ⟨y1, MF⟩
 rcases List.mem_cons.1 hc with rfl | hc
 ·exact ⟨y2, MF⟩
 rcases List.mem_cons.1 hc with rfl | hc
 ·exact ⟨y3, MF⟩
 rcases List.mem_cons.1 hc with rfl | hc
 ·exact ⟨y4, MF⟩
 rcases List.mem_cons.1 hc with rfl | hc
 ·exact ⟨y5, MF⟩
 rcases List.mem_cons.1 hc with rfl | hc
 ·exact ⟨y6, MF⟩
 exact S.cell c hc
end
section
variable {Pr : Program} {ops : Array Oper} {rest : List Oper} {op : Oper} {a : Act} {Q : Exit → Act → World → Prop} {w W : World} {P : Nat → Prop} {bs : List (Option Nat × Obj)} {ow : List (Value × List ai)} {ts : List (Value × List ai)} {ro : List (Addr × Value)}
theorem ab1 {N : Tmp} (hd : op.dst = some N) (hgd : op.guard = none) (cs : Array Value) (t : TypeId) (S : St w P bs ow ts ro W)
  (hr : (execOp a.eval op).run Pr W = .ok (.value (.pointer (some ⟨W.heap.size, 0, none⟩))) (W.alloc (.cells cs t (0, 0))))
  (h : ∀ g w1, St w P ((some g, .cells cs t (0, 0)) :: bs) ow ts ro w1 → wpList Pr ops Q rest (a.put op.dst (.pointer (some ⟨g, 0, none⟩))) w1) : wpList Pr ops Q (op :: rest) a W :=
 aK hgd hd hr (fun g hg w1 hbox hb => h g w1 (S.box hg hbox hb))
theorem adS (i : Nat) {g : Nat} {cs : Array Value} {t0 : TypeId} (hi : bs[i]? = some (some g, .cells cs t0 (0, 0))) (t : TypeId) (p x : Operand) (ho : op.op = .store t p x) {j : Nat} (cs' : Array Value) {u : Value} {bG : List Value} (S : St w P bs ow ts ro W)
  (kD : a.eval p = .pointer (some ⟨g, j, none⟩)) (hx : a.eval x = u) (hu : u.cells.toList = bG) (ht : (Pr.info? t).map (·.size) = some bG.length) (h1 : ∀ q ∈ bG, q.oneCell' = true) (hj : j + bG.length ≤ cs.size)
  (he : cs.toList.take j ++ bG ++ cs.toList.drop (j + bG.length) = cs'.toList) (hN : op.dst = none) (hgd : op.guard = none)
  (h : ∀ w1, St w P (bs.set i (some g, .cells cs' t0 (0, 0))) ow ts ro w1 → wpList Pr ops Q rest a w1) : wpList Pr ops Q (op :: rest) a W := by
 have hm : g ∈ keys bs ow := mem_keys (List.mem_of_getElem? hi) rfl
 exact f_ hN hgd t p x ho cs' kD hx hu ht h1 (S.blk _ (List.mem_of_getElem? hi) g rfl) hj he S.below S.below.size (S.new g hm).1 (fun w1 h2 h3 h4 => h w1 (S.put i hi h2 h3 h4))
theorem aaq (i : Nat) {g : Nat} {cs : Array Value} {t0 : TypeId} (hi : bs[i]? = some (some g, .cells cs t0 (0, 0))) (t : TypeId) (p x : Operand) (ho : op.op = .store t p x) {j : Nat} (cs' : Array Value) {u : Value} {bG : List Value} (S : St w P bs ow ts ro W)
  (kD : a.eval p = .pointer (some ⟨g, j, none⟩)) (hx : a.eval x = u) (hu : u.cells.toList = bG) (ht : (Pr.info? t).map (·.size) = some bG.length) (h1 : ∀ q ∈ bG, q.oneCell' = true) (hj : j + bG.length ≤ cs.size)
  (he : cs.toList.take j ++ bG ++ cs.toList.drop (j + bG.length) = cs'.toList) :
  (execOp a.eval op).run Pr W = .ok .skip (W.setCells g j bG) ∧ St w P (bs.set i (some g, .cells cs' t0 (0, 0))) ow ts ro (W.setCells g j bG) := by
 have hm : g ∈ keys bs ow := mem_keys (List.mem_of_getElem? hi) rfl
 have hb := S.blk _ (List.mem_of_getElem? hi) g rfl
 have hc := qc hb hj he
 exact ⟨BX t p x ho kD hx hu ht h1 hb hj, S.put i hi hc.1 (grown_below S.below hc.2 (S.new g hm).1 S.below.size) hc.2⟩
theorem Px {g n cap : Nat} {l : List ai} (i : Int) (x : ai) {A : Option Addr} {c : Nat} (p y : Operand) (ho : op.op = .store 26 p y) (S : St w P bs [(.slice (some ⟨g, 0, none⟩) n cap, l)] ts ro W) (h0 : 0 ≤ i) (h1 : i < l.length)
  (kD : a.eval p = .pointer (some ⟨g, i.toNat * 7, none⟩)) (hx : a.eval y = .agg (kT x A c).toArray) (hsz : (Pr.info? 26).map (·.size) = some 7) (hm : (.slice A x.f3.length c, x.f3) ∈ ts) :
  ∃ w1, (execOp a.eval op).run Pr W = .ok .skip w1 ∧ St w P bs [(.slice (some ⟨g, 0, none⟩) n cap, l.set i.toNat x)] ts ro w1 := by
 obtain ⟨h2, h3⟩ := S.bG i h0 h1 x hm rfl
 obtain ⟨cells, hcells⟩ := Kd.Yi (S.own _ (List.mem_singleton.2 rfl)) g (by simp [Value.ownBlock])
 have hN := S.own _ (List.mem_singleton.2 rfl)
 obtain ⟨c0, hcl, hM, hcc, hfr⟩ := Kd.xk hN z26 i h0 (by rw [(Kd.iO hN).1]; exact h1)
 have hcl : c0.length = 7 := hcl
 have hlt : i.toNat * 7 + 7 ≤ cells.size := by
  have h4 := hcc 6 _ (List.getElem?_eq_getElem (by omega))
  have h5 := af hcells (i.toNat * 7 + 6)
  have h6 : W.cell? ⟨g, i.toNat * k26.sz + 6, none⟩ = W.cell? ⟨g, i.toNat * 7 + 6, none⟩ := rfl
  rw [h6, h5] at h4
  by_cases h7 : i.toNat * 7 + 6 < cells.size
  ·omega
  ·rw [Array.getElem?_eq_none (by omega)] at h4; cases h4
 refine ⟨_, ?_, h2⟩
 rw [show i.toNat * 7 + 0 = i.toNat * 7 from rfl]
 exact BX 26 p y ho kD hx (by rfl) hsz (by simp [kT, Value.oneCell']) hcells (by simpa [kT] using hlt)
theorem n_ {K : Act → World → Prop} (i : Nat) {g : Nat} {cs : Array Value} {t0 : TypeId} (hi : bs[i]? = some (some g, .cells cs t0 (0, 0))) (t : TypeId) (p x : Operand) (ho : op.op = .store t p x) {j : Nat} (cs' : Array Value) {u : Value} {bG : List Value} (S : St w P bs ow ts ro W)
  (hw : Region.wanted op (yielded ops a.tmps) = true) (hN : op.dst = none)
  (kD : a.eval p = .pointer (some ⟨g, j, none⟩)) (hx : a.eval x = u) (hu : u.cells.toList = bG) (ht : (Pr.info? t).map (·.size) = some bG.length) (h1 : ∀ q ∈ bG, q.oneCell' = true) (hj : j + bG.length ≤ cs.size)
  (he : cs.toList.take j ++ bG ++ cs.toList.drop (j + bG.length) = cs'.toList) (h : ∀ w1, St w P (bs.set i (some g, .cells cs' t0 (0, 0))) ow ts ro w1 → K a w1) :
  if Region.wanted op (yielded ops a.tmps) = true then Oper.wp Pr op a W K Q else K (a.put none undef) W := by
 obtain ⟨h2, h3⟩ := aaq (a := a) (Pr := Pr) i hi t p x ho cs' S kD hx hu ht h1 hj he
 exact GZ hw hN h2 (h _ h3)
theorem Pv {K : Act → World → Prop} {g n cap : Nat} {l : List ai} (i : Int) (x : ai) {A : Option Addr} {c : Nat} (p y : Operand) (ho : op.op = .store 26 p y) (S : St w P bs [(.slice (some ⟨g, 0, none⟩) n cap, l)] ts ro W)
  (hw : Region.wanted op (yielded ops a.tmps) = true) (hN : op.dst = none) (h0 : 0 ≤ i) (h1 : i < l.length)
  (kD : a.eval p = .pointer (some ⟨g, i.toNat * 7, none⟩)) (hx : a.eval y = .agg (kT x A c).toArray) (hsz : (Pr.info? 26).map (·.size) = some 7) (hm : (.slice A x.f3.length c, x.f3) ∈ ts) (h : ∀ w1, St w P bs [(.slice (some ⟨g, 0, none⟩) n cap, l.set i.toNat x)] ts ro w1 → K a w1) :
  if Region.wanted op (yielded ops a.tmps) = true then Oper.wp Pr op a W K Q else K (a.put none undef) W := by
 obtain ⟨w1, hr, S1⟩ := Px (a := a) (Pr := Pr) i x p y ho S h0 h1 kD hx hsz hm
 exact GZ hw hN hr (h _ S1)
theorem St.dA {k : Option Nat} {o : Obj} (S : St w P ((k, o) :: bs) ow ts ro W) : St w P bs ow ts ro W := by
 have hin : ∀ x, x ∈ keys bs ow → x ∈ keys ((k, o) :: bs) ow := fun x h => by
  unfold keys at h ⊢
  rw [List.filterMap_cons]
  cases k with
  | none => exact h
  | some g => exact List.mem_cons_of_mem _ h
 refine ⟨S.below, fun p hp => S.blk p (List.mem_cons_of_mem _ hp), fun x hx => S.new x (hin x hx), ?_, fun t ht => Kd.gJ (S.tree t ht) (fun x h => ⟨h.1, fun h2 => h.2 (hin x h2)⟩), fun r hr => Kd.iM (S.own r hr) (fun x h => h.elim (fun h1 => .inl ⟨h1.1, fun h2 => h1.2 (hin x h2)⟩) .inr), fun c hc => ⟨(S.cell c hc).1, fun h2 => (S.cell c hc).2 (hin _ h2)⟩⟩
 have h := S.nd
 unfold keys at h ⊢
 rw [List.filterMap_cons] at h
 cases k with
 | none => exact h
 | some g => exact (List.nodup_cons.1 h).2
theorem St.dG {t : Value × List ai} (S : St w P bs ow (t :: ts) ro W) : St w P bs ow ts ro W :=
 ⟨S.below, S.blk, S.new, S.nd, fun t ht => S.tree t (List.mem_cons_of_mem _ ht), S.own, S.cell⟩
theorem St.afr {t : Value × List ai} (S : St w P bs ow ts ro W) (hm : t ∈ ts) : St w P bs ow [t] ro W :=
 ⟨S.below, S.blk, S.new, S.nd, fun x hx => by rw [List.mem_singleton.1 hx]; exact S.tree t hm, S.own, S.cell⟩
theorem St.bJ {c : Addr × Value} (S : St w P bs ow ts (c :: ro) W) : St w P bs ow ts ro W :=
 ⟨S.below, S.blk, S.new, S.nd, S.tree, S.own, fun c hc => S.cell c (List.mem_cons_of_mem _ hc)⟩
theorem adY {g n cap : Nat} {l : List ai} (i : Int) (x : ai) {A : Option Addr} {c : Nat} (p y : Operand) (ho : op.op = .store 26 p y) (S : St w P bs [(.slice (some ⟨g, 0, none⟩) n cap, l)] ts ro W) (h0 : 0 ≤ i) (h1 : i < l.length)
  (kD : a.eval p = .pointer (some ⟨g, i.toNat * 7, none⟩)) (hx : a.eval y = .agg (kT x A c).toArray) (hsz : (Pr.info? 26).map (·.size) = some 7) (hm : (.slice A x.f3.length c, x.f3) ∈ ts) (hN : op.dst = none) (hgd : op.guard = none)
  (h : ∀ w1, St w P bs [(.slice (some ⟨g, 0, none⟩) n cap, l.set i.toNat x)] ts ro w1 → wpList Pr ops Q rest a w1) : wpList Pr ops Q (op :: rest) a W := by
 obtain ⟨w1, hr, S1⟩ := Px (a := a) (Pr := Pr) i x p y ho S h0 h1 kD hx hsz hm
 refine wpList_plain hgd fun K hK => ?_
 unfold Oper.wp
 rw [hr]
 show K (a.put op.dst undef) _
 rw [hN]
 exact hK a _ (h _ S1)
end
section
variable {Pr : Program} {ops : Array Oper} {rest : List Oper} {op : Oper} {a : Act} {Q : Exit → Act → World → Prop} {w W W1 : World} {P : Nat → Prop} {bs : List (Option Nat × Obj)} {ts : List (Value × List ai)} {ro : List (Addr × Value)} {v v1 : Value} {xs ys : List ai}
theorem pO {W W1 : World} (hg : W.grownBy W1 none) : Below W.heap.size W W1 := ⟨hg.os, hg.tape, hg.output, hg.size, fun k hk => hg.block k hk (by simp)⟩
end
section
variable {w : World} {P : Nat → Prop} {bs bs' : List (Option Nat × Obj)} {ow : List (Value × List ai)} {ts : List (Value × List ai)} {ro : List (Addr × Value)} {W W1 : World} {b0 : Nat} {o o1 : Obj} {v v1 : Value} {xs : List Int} {ok : Nat → Prop}
def IR (base : Nat) (v : Value) (xs : List Int) (o : Obj) : Prop := ∀ W : World, (∀ g, v.ownBlock = some g → W.heap[g]? = some o) → (Kd.int .i64).R 3 W base (fun k => some k = v.ownBlock) v xs
theorem PX {b' : Nat} (h : (Kd.int .i64).R 3 W1 b0 ok v xs) (hb : b' ≤ b0) : ∃ o, (∀ g, v.ownBlock = some g → W1.heap[g]? = some o) ∧ IR b' v xs o := by
 have ht := Kd.pI (Kd.D6 rfl h) hb
 cases hv : v.ownBlock with
 | none => exact ⟨.cells #[] 0 (0, 0), fun g hg => (by cases hg), fun W hW => Kd.yP ht (fun k hk => (by rw [hv] at hk; cases hk))⟩
 | some g =>
  obtain ⟨cells, hc⟩ := Kd.Ho h g hv
  refine ⟨_, fun g' hg => (by injection hg with hg; rw [← hg]; exact hc), fun W hW => Kd.yP ht (fun k hk _ => ?_)⟩
  rw [hv] at hk
  injection hk with hk
  rw [hk, hc]
  exact hW g hv
theorem Yg {base n c : Nat} {ad : Addr} (h : IR base (.slice (some ad) n c) xs o) (hW : ∀ g, (Value.slice (some ad) n c).ownBlock = some g → W.heap[g]? = some o) (i : Int) (h0 : 0 ≤ i) (h1 : i < xs.length) : W.cell? (ad.add i.toNat) = some (.int .i64 (rd xs i)) := by
 have hC := (Kd.dP (h W hW)).2.2
 obtain ⟨ad', he, hc⟩ := Kd.iW hC i h0 h1
 injection he with he
 rw [he]
 exact hc
theorem Be {base n c : Nat} {ad : Addr} (h : IR base (.slice (some ad) n c) xs o) (hW : ∀ g, (Value.slice (some ad) n c).ownBlock = some g → W.heap[g]? = some o) (i : Nat) (h1 : (i : Int) < xs.length) : W.cell? (ad.add i) = some (.int .i64 (rd xs (i : Int))) := Yg h hW (i : Int) (Int.natCast_nonneg _) h1
theorem St.Ll (S : St w P bs ow ts ro W) (k : Option Nat) (hk : ∀ g, k = some g → W.heap.size ≤ g ∧ W1.heap[g]? = some o) (hb : Below W.heap.size W W1) : St w P ((k, o) :: bs) ow ts ro W1 := by
 cases k with
 | none =>
  have S1 := S.call hb
  exact ⟨S1.below, fun p hp q hq => by
   rcases List.mem_cons.1 hp with rfl | hp
   ·cases hq
   ·exact S1.blk p hp q hq, S1.new, S1.nd, S1.tree, S1.own, S1.cell⟩
 | some g =>
  obtain ⟨hg, hbox⟩ := hk g rfl
  refine ⟨ak S.below hb, fun p hp q hq => ?_, fun k hk => ?_, List.nodup_cons.2 ⟨fun h => by have := (S.new g h).2; omega, S.nd⟩, fun t ht => ?_, fun r hr => ?_, fun c hc => ?_⟩
  ·rcases List.mem_cons.1 hp with rfl | hp
   ·rw [← Option.some.inj hq]; exact hbox
   ·exact aI (S.blk p hp q hq) hb
  ·rcases List.mem_cons.1 (show k ∈ g :: keys bs ow from hk) with rfl | hk
   ·exact ⟨Nat.le_trans S.below.size hg, fD hbox⟩
   ·exact ⟨(S.new k hk).1, Nat.lt_of_lt_of_le (S.new k hk).2 hb.size⟩
  ·exact Kd.gJ (Kd.ja (Kd.nG (S.tree t ht) g hg) hb) (fun k hk => ⟨hk.1.1, fun h => (List.mem_cons.1 (show k ∈ g :: keys bs ow from h)).elim hk.2 hk.1.2⟩)
  ·exact Kd.iM (Kd.pF (Kd.Bg (S.own r hr) g hg) hb) (fun k hk => hk.1.elim (fun h1 => .inl ⟨h1.1, fun h => (List.mem_cons.1 (show k ∈ g :: keys bs ow from h)).elim hk.2 h1.2⟩) .inr)
  ·exact ⟨(hb.cell (World.block_lt_of_cell? W _ (S.cell c hc).1)).trans (S.cell c hc).1, fun h => (List.mem_cons.1 (show c.1.block ∈ g :: keys bs ow from h)).elim (fun he => by have := World.block_lt_of_cell? W _ (S.cell c hc).1; omega) (S.cell c hc).2⟩
theorem St.NH (S : St w P bs ow ts ro W) (h : (Kd.int .i64).R 3 W1 W.heap.size ok v xs) (hb : Below W.heap.size W W1) : ∃ o, St w P ((v.ownBlock, o) :: bs) ow ts ro W1 ∧ IR w.heap.size v xs o := by
 obtain ⟨o, h1, h2⟩ := PX h S.below.size
 exact ⟨o, S.Ll v.ownBlock (fun g hg => ⟨Kd.KJ h g hg, h1 g hg⟩) hb, h2⟩
theorem St.noI (S : St w P bs ow ts ro W) : ∃ o, St w P (((Value.slice none 0 0).ownBlock, o) :: bs) ow ts ro W ∧ IR w.heap.size (.slice none 0 0) [] o :=
 S.NH (ok := fun _ => True) (Kd.uz _ _ _ _ _) (Below.refl _ _)
theorem St.JX {p q : Option Nat × Obj} (S : St w P (p :: q :: bs) ow ts ro W) : St w P (q :: p :: bs) ow ts ro W := by
 have hp : (keys (q :: p :: bs) ow).Perm (keys (p :: q :: bs) ow) := by
  unfold keys
  refine List.Perm.append_right _ ?_
  rw [List.filterMap_cons, List.filterMap_cons, List.filterMap_cons, List.filterMap_cons]
  cases p.1 <;> cases q.1 <;> simp
  exact List.Perm.swap _ _ _
 have hm : ∀ k, k ∈ keys (q :: p :: bs) ow ↔ k ∈ keys (p :: q :: bs) ow := fun k => hp.mem_iff
 have hO : ∀ k, Ok w P (keys (p :: q :: bs) ow) k → Ok w P (keys (q :: p :: bs) ow) k := fun k h => ⟨h.1, fun h2 => h.2 ((hm k).1 h2)⟩
 exact ⟨S.below, fun x hx => S.blk x (by simp only [List.mem_cons] at hx ⊢; rcases hx with h | h | h <;> simp [h]), fun k hk => S.new k ((hm k).1 hk), hp.nodup_iff.2 S.nd, fun t ht => Kd.gJ (S.tree t ht) hO, fun r hr => Kd.iM (S.own r hr) (fun k h => h.imp (hO k) id), fun c hc => ⟨(S.cell c hc).1, fun h => (S.cell c hc).2 ((hm _).1 h)⟩⟩
theorem St.Bc (S : St w P ((v.ownBlock, o) :: bs) ow ts ro W) (hb : Below w.heap.size w W1) (hg : W.grownBy W1 v.ownBlock) (hat : v1.ownBlock = v.ownBlock ∨ ∃ b, v1.ownBlock = some b ∧ W.heap.size ≤ b) (ho : ∀ g, v1.ownBlock = some g → W1.heap[g]? = some o1) :
  St w P ((v1.ownBlock, o1) :: bs) ow ts ro W1 := by
 have kc : ∀ (x : Value) (o : Obj) k, k ∈ keys ((x.ownBlock, o) :: bs) ow ↔ x.ownBlock = some k ∨ k ∈ keys bs ow := fun x o k => by
  unfold keys
  rw [List.filterMap_cons]
  cases x.ownBlock with
  | none => simp
  | some g => simp [eq_comm]
 have hnv : ∀ k, k ∈ keys bs ow → v.ownBlock ≠ some k := fun k hk e => by
  have h := S.nd
  unfold keys at h hk
  rw [List.filterMap_cons, e] at h
  exact (List.nodup_cons.1 h).1 hk
 have hnb : (keys bs ow).Nodup := by
  have h := S.nd
  unfold keys at h ⊢
  rw [List.filterMap_cons] at h
  split at h
  ·exact h
  ·exact (List.nodup_cons.1 h).2
 have hin : ∀ k, k ∈ keys bs ow → k ∈ keys ((v.ownBlock, o) :: bs) ow := fun k h => (kc v o k).2 (.inr h)
 have hnew : ∀ k, k ∈ keys bs ow → v1.ownBlock ≠ some k := fun k hk e => by
  rcases hat with h | ⟨b, h, hle⟩
  ·exact hnv k hk (by rw [← h]; exact e)
  ·rw [h] at e; injection e with e; have := S.lt (hin k hk); omega
 have hkeep : ∀ k, k ∉ keys ((v.ownBlock, o) :: bs) ow → k < W.heap.size → k ∉ keys ((v1.ownBlock, o1) :: bs) ow := fun k h1 h2 h3 => by
  rcases (kc v1 o1 k).1 h3 with h4 | h4
  ·rcases hat with h | ⟨b, h, hle⟩
   ·exact h1 ((kc v o k).2 (.inl (by rw [← h]; exact h4)))
   ·rw [h] at h4; injection h4 with h4; omega
  ·exact h1 (hin k h4)
 refine ⟨hb, fun p hp q hq => ?_, fun k hk => ?_, ?_, fun t ht => ?_, fun r hr => ?_, fun c hc => ?_⟩
 ·rcases List.mem_cons.1 hp with rfl | hp
  ·exact ho q hq
  ·exact cO (S.blk p (List.mem_cons_of_mem _ hp) q hq) hg (fun e => hnv q (mem_keys hp hq) e.symm)
 ·rcases (kc v1 o1 k).1 hk with h1 | h1
  ·rcases hat with h | ⟨b, h, hle⟩
   ·have := S.new k ((kc v o k).2 (.inl (by rw [← h]; exact h1)))
    exact ⟨this.1, Nat.lt_of_lt_of_le this.2 hg.size⟩
   ·rw [h] at h1
    injection h1 with h1
    subst h1
    exact ⟨Nat.le_trans S.below.size hle, fD (ho b h)⟩
  ·exact ⟨(S.new k (hin k h1)).1, Nat.lt_of_lt_of_le (S.new k (hin k h1)).2 hg.size⟩
 ·unfold keys
  rw [List.filterMap_cons]
  cases hv1 : v1.ownBlock with
  | none => exact hnb
  | some g => exact List.nodup_cons.2 ⟨fun h => hnew g h hv1, hnb⟩
 ·exact Kd.gJ (Kd.wG (Kd.D7 (S.tree t ht)) hg (fun k h e => h.1.2 ((kc v o k).2 (.inl e.symm)))) (fun k h => ⟨h.1.1, hkeep k h.1.2 h.2⟩)
 ·have hrv : ∀ k, r.1.ownBlock = some k → some k ≠ v.ownBlock := fun k h1 e => hnv k (List.mem_append.2 (.inr (List.mem_flatMap.2 ⟨r, hr, by simp [h1]⟩))) e.symm
  exact Kd.iM (Kd.uK (Kd.Aj (S.own r hr)) hg (fun k h e => h.1.elim (fun h1 => h1.2 ((kc v o k).2 (.inl e.symm))) (fun h1 => hrv k h1 e))) (fun k h => h.1.imp (fun h1 => ⟨h1.1, hkeep k h1.2 h.2⟩) id)
 ·exact ⟨cell_grown hg (S.cell c hc).1 (fun e => (S.cell c hc).2 ((kc v o _).2 (.inl e.symm))), hkeep _ (S.cell c hc).2 (World.block_lt_of_cell? W _ (S.cell c hc).1)⟩
end
section
variable {Pr : Program} {ops : Array Oper} {rest : List Oper} {op : Oper} {a : Act} {Q : Exit → Act → World → Prop} {w W : World} {P : Nat → Prop} {bs : List (Option Nat × Obj)} {ow : List (Value × List ai)} {ts : List (Value × List ai)} {ro : List (Addr × Value)} {v : Value} {xs : List Int} {o : Obj}
theorem Yq (s x : Operand) (hgd : op.guard = none) (ho : op.op = .call { callee := .builtin .append, args := #[s, x], argTypes := #[41, 41] }) (ht : Pr.underlying 41 = some (.slice 3)) (hinfo : (Pr.info? 3).map (fun i => (i.zero, i.size, i.bytes)) = some (some (.int .i64 0), 1, 8))
  (S : St w P ((v.ownBlock, o) :: bs) ow ts ro W) (hI : IR w.heap.size v xs o) (y : Int) (hs : a.eval s = v) (hx : a.eval x = .slice (some ⟨W.heap.size, 0, none⟩) 1 1) (hl : xs.length ≤ 1000000000)
  (h : ∀ A1 c1 o1 w1, St w P (((Value.slice A1 (xs ++ [y]).length c1).ownBlock, o1) :: bs) ow ts ro w1 → IR w.heap.size (.slice A1 (xs ++ [y]).length c1) (xs ++ [y]) o1 → wpList Pr ops Q rest (a.put op.dst (.slice A1 (xs ++ [y]).length c1)) w1) :
  wpList Pr ops Q (op :: rest) a (W.alloc (.cells #[.int .i64 y] 3)) := by
 have hR := hI W (S.blk _ List.mem_cons_self)
 refine Kd.EX (Kd.int .i64) (w0 := w) w.heap.size hgd s x 41 3 (.int .i64 0) 8 ho ht hinfo rfl (by decide) (by omega) v xs y [.int .i64 y] (fun _ => True) (fun _ => False) hs hx rfl (fun _ hk => hk.elim) (fun _ _ => trivial) (Kd.tN hR (fun _ _ => trivial)) S.below S.below.size (by omega) ?_
 intro v1 w1 hr hb hg hat
 obtain ⟨A1, c1, rfl⟩ := Kd.fU hr
 obtain ⟨o1, h1, h2⟩ := PX hr (Nat.le_refl _)
 exact h A1 c1 o1 w1 (S.Bc hb hg hat h1) h2
end
section
variable {w : World} {P : Nat → Prop} {bs : List (Option Nat × Obj)} {ts : List (Value × List ai)} {ro : List (Addr × Value)} {W : World} {l : List ai} {g n cap : Nat}
theorem St.HY (S : St w P bs [(.slice (some ⟨g, 0, none⟩) n cap, l)] ts ro W) (i : Int) (h0 : 0 ≤ i) (h1 : i < l.length) :
  ∃ ua uc, St w P bs [(.slice (some ⟨g, 0, none⟩) n cap, l)] ((.slice ua (az l i).f3.length uc, (az l i).f3) :: ts) ro W ∧ ∀ (j : Nat) (u : Value), (kT (az l i) ua uc)[j]? = some u → W.cell? ⟨g, i.toNat * 7 + j, none⟩ = some u := by
 have hN := S.own _ (List.mem_singleton.2 rfl)
 have hob : (Value.slice (some ⟨g, 0, none⟩) n cap).ownBlock = some g := by simp [Value.ownBlock]
 obtain ⟨c0, hcl, hM, hcc, hfr⟩ := Kd.xk hN z26 i h0 (by rw [(Kd.iO hN).1]; exact h1)
 obtain ⟨A6, c6, rfl, l6, g6⟩ := mY hM
 have l6 : (az l i).f3.length ≤ c6 := l6
 have g6 : Kd.F k26 W _ A6 (az l i).f3.length (az l i).f3 := g6
 exact ⟨A6, c6, S.add (b0 := 0) (Kd.uD l6 (Kd.ru g6 (fun k hk => hk.1.elim id (fun e => absurd (by rw [hob] at e; exact (Option.some.inj e).symm) hk.2)))), fun j u h => hcc j u h⟩
end
section
variable {Pr : Program} {ops : Array Oper} {rest : List Oper} {op : Oper} {a : Act} {Q : Exit → Act → World → Prop} {Kc : Act → World → Prop} {w W : World} {P : Nat → Prop} {bs : List (Option Nat × Obj)} {ts : List (Value × List ai)} {ro : List (Addr × Value)}
end
section
variable {Pr : Program} {ops : Array Oper} {md : Region.Mode} {Q : Exit → Act → World → Prop} {S : World → Prop} {ds : List Nat} {T : Bool × List (List Nat × List Nat)} {B : List Nat} {fuel : Nat} {l : Array Bool} {a a' : Act} {w : World} {v : Value} {oi : Oper}
def bA (n m : Nat) : Array Bool := ((List.range n).map fun i => m.testBit i).toArray
theorem au (i : Nat) (N : Tmp) (l' : Array Bool) (HT : ae (iD md ops = T)) (h : bI Pr md ops Q S ds fuel l' a' w) (hi : ops[i]? = some oi := by rfl) (hN : oi.dst = some N := by rfl) (hc : Vl T l.toList l'.toList i = true := by kernel_rfl)
  (hQ : ∀ c a w, Q (.panic c) (a.put oi.dst v) w → Q (.panic c) a w := by exact fun _ _ _ h => h) (hw : Region.wanted oi (yielded ops a.tmps) = true := by rfl) (hv : ∀ w, (execOp a.eval oi).run Pr w = .ok (.value v) w := by intro w'; go_simp; with_reducible rfl)
  (ha : a.put (some N) v = a' := by simp only [Act.put, List.setIfInBounds_toArray, List.set_cons_zero, List.set_cons_succ, jR, jQ]; rfl) : bI Pr md ops Q S ds (fuel + 1) l a w :=
 qY l' hi hN (oG HT.out hc) hQ (.inl ⟨hw, hv⟩) ha h
theorem dO (i : Nat) (N : Tmp) (l' : Array Bool) (HT : ae (iD md ops = T)) (HW : ae (iG T.2 B = true)) (hS : S w) (h : bI Pr md ops Q S ds fuel l' a' w) (hi : ops[i]? = some oi := by rfl) (hN : oi.dst = some N := by rfl)
  (hc : Q3 T B ds l.toList l'.toList i = true := by kernel_rfl) (hQ : ∀ c a w, Q (.panic c) (a.put oi.dst v) w → Q (.panic c) a w := by exact fun _ _ _ h => h) (hw : Region.wanted oi (yielded ops a.tmps) = true := by rfl) (hv : ∀ w, S w → (execOp a.eval oi).run Pr w = .ok (.value v) w)
  (ha : a.put (some N) v = a' := by simp only [Act.put, List.setIfInBounds_toArray, List.set_cons_zero, List.set_cons_succ, jR, jQ]; rfl) : bI Pr md ops Q S ds (fuel + 1) l a w :=
 yJ l' hi hN (uG HT.out HW.out hc) hQ (.inl ⟨hw, hv⟩) hS ha h
end
theorem bz {α : Type} {a0 x : α} {l : List α} : x ∈ a0 :: x :: l := (.tail _ (.head _))
theorem dR {α : Type} {a0 a1 x : α} {l : List α} : x ∈ a0 :: a1 :: x :: l := (.tail _ (.tail _ (.head _)))
theorem kX {α : Type} {a0 a1 a2 x : α} {l : List α} : x ∈ a0 :: a1 :: a2 :: x :: l := (.tail _ (.tail _ (.tail _ (.head _))))
theorem qg {α : Type} {a0 a1 a2 a3 x : α} {l : List α} : x ∈ a0 :: a1 :: a2 :: a3 :: x :: l := (.tail _ (.tail _ (.tail _ (.tail _ (.head _)))))
theorem AZ {α : Type} {a0 a1 a2 a3 a4 x : α} {l : List α} : x ∈ a0 :: a1 :: a2 :: a3 :: a4 :: x :: l := (.tail _ (.tail _ (.tail _ (.tail _ (.tail _ (.head _))))))
theorem Cf {α : Type} {a0 a1 a2 a3 a4 a5 x : α} {l : List α} : x ∈ a0 :: a1 :: a2 :: a3 :: a4 :: a5 :: x :: l := (.tail _ (.tail _ (.tail _ (.tail _ (.tail _ (.tail _ (.head _)))))))
theorem O6 {α : Type} {a0 a1 a2 a3 a4 a5 a6 x : α} {l : List α} : x ∈ a0 :: a1 :: a2 :: a3 :: a4 :: a5 :: a6 :: x :: l := (.tail _ (.tail _ (.tail _ (.tail _ (.tail _ (.tail _ (.tail _ (.head _))))))))
theorem mm8 {α : Type} {a0 a1 a2 a3 a4 a5 a6 a7 x : α} {l : List α} : x ∈ a0 :: a1 :: a2 :: a3 :: a4 :: a5 :: a6 :: a7 :: x :: l := (.tail _ (.tail _ (.tail _ (.tail _ (.tail _ (.tail _ (.tail _ (.tail _ (.head _)))))))))
theorem mm9 {α : Type} {a0 a1 a2 a3 a4 a5 a6 a7 a8 x : α} {l : List α} : x ∈ a0 :: a1 :: a2 :: a3 :: a4 :: a5 :: a6 :: a7 :: a8 :: x :: l := (.tail _ (.tail _ (.tail _ (.tail _ (.tail _ (.tail _ (.tail _ (.tail _ (.tail _ (.head _))))))))))
theorem yT {a b : Int} (h : a = b) : (a == b) = true ∧ (a != b) = false ∧ decide (a = b) = true := ⟨beq_iff_eq.mpr h, bne_eq_false_iff_eq.mpr h, decide_eq_true h⟩
theorem eqF {a b : Int} (h : a ≠ b) : (a == b) = false ∧ (a != b) = true ∧ decide (a = b) = false := ⟨beq_eq_false_iff_ne.mpr h, bne_iff_ne.mpr h, decide_eq_false h⟩
theorem mZ {a b : Int} (h : a < b) : decide (a < b) = true ∧ decide (b > a) = true := ⟨decide_eq_true h, decide_eq_true h⟩
theorem lY {a b : Int} (h : ¬ a < b) : decide (a < b) = false ∧ decide (b > a) = false := ⟨decide_eq_false h, decide_eq_false h⟩
end Go.Proofs.Ytfdmfgaiblfbhaa.P
namespace Go.Proofs.Ytfdmfgaiblfbhaa.P
open Go.Shelf
def Ei : Ren := ⟨fun f => match f with | 21 => 150 | 27 => 181 | 28 => 182 | 35 => 198 | 39 => 208 | n => n, fun t => match t with | 22 => 41 | n => n, fun g => g⟩
theorem Gx : Lays2.n21 Try.prog Ei where
 mixed := by kernel_rfl
 f21 := Try.func150
 f27 := Try.func181
 f28 := Try.func182
 f35 := Try.func198
 f39 := Try.func208
 t0 := Try.underlying0
 a0 := fun w => by kernel_rfl
 z0 := fun w => by kernel_rfl
 v0 := fun w => by kernel_rfl
 t3 := Try.underlying3
 a3 := fun w => by kernel_rfl
 z3 := fun w => by kernel_rfl
 v3 := fun w => by kernel_rfl
 t4 := Try.underlying4
 a4 := fun w => by kernel_rfl
 z4 := fun w => by kernel_rfl
 v4 := fun w => by kernel_rfl
 t22 := Try.underlying41
 a22 := fun w => by kernel_rfl
 z22 := fun w => by kernel_rfl
 v22 := fun w => by kernel_rfl
 i3 := by kernel_rfl
end Go.Proofs.Ytfdmfgaiblfbhaa.P
namespace Go.Proofs.Ytfdmfgaiblfbhaa.P
open Go.RowKit Go.Shelf Go.Proofs.ag.aQ Go.Proofs.ag.bu Go.Proofs.ag.bP
theorem Em (n : Nat) : (Builtin.zeroCells (Value.int .i64 0).cells n).size = n := by simp [Builtin.zeroCells, Value.cells]
theorem BB {w w1 : World} {B : Nat} (h : Below B w.drew w1) : Below B w w1 := ⟨h.os, h.tape.trans rfl, h.output, h.size, h.block⟩
theorem Ua (w : World) (base : Nat) (hbase : base ≤ w.heap.size) (v : Value) (xs : List Int) (x : Int) (vb vc : Nat) (hs : w.ownsRow base 3 1 v xs.length (encs (Value.int .i64) xs)) (hv : w.heap[vb]? = some (.cells #[.int .i64 x] 3 (0, 0))) (hne : v.ownBlock ≠ some vb) (hlen : xs.length ≤ 1000000) :
  Calls Try.prog 150 #[v, .int .i64 0, .slice (some ⟨vb, 0, none⟩) 1 vc] w fun e w' => ∃ v', e = .returned v' ∧ w'.ownsRow base 3 1 v' (x :: xs).length (encs (Value.int .i64) (x :: xs)) ∧ Below base w w' := by
 have hvs : ∀ j u, [Value.int .i64 x][j]? = some u → w.cell? ⟨vb, 0 + j, none⟩ = some u := by
  intro j u hj
  cases j with
  | zero => rw [af hv 0]; exact hj
  | succ j => simp at hj
 have h1v : ∀ u ∈ [Value.int .i64 x], u.oneCell' = true := by simp [Value.oneCell']
 have h1c : ∀ u ∈ encs (Value.int .i64) xs, u.oneCell' = true := by
  intro u hu
  obtain ⟨i, _, rfl⟩ := List.mem_map.1 hu
  rfl
 obtain ⟨hl, hcase⟩ := hs
 rcases hcase with ⟨rfl, h0⟩ | ⟨g, cap, cur, rfl, hbg, hh, hnc, hcm, hcs, htk⟩
 ·obtain rfl : xs = [] := List.eq_nil_of_length_eq_zero h0
  refine (Any2.slices_Insert_int_end_grow Gx none 0 0 vb 0 1 vc [] [.int .i64 x] w (by omega) (by omega) (by omega) (by omega) rfl rfl (fun _ => rfl) (fun a h => by cases h) hvs h1v).mono ?_
  rintro e w' ⟨rfl, rfl⟩
  have hg := grownCap_ge w (0 + 1) 0 3
  have hg2 := grownCap_le_maxLen w (0 + 1) 0 3 (by unfold maxLen; omega)
  refine ⟨_, rfl, ⟨rfl, .inr ⟨w.heap.size, _, _, rfl, hbase, heap_alloc_new w.drew _, hg, hg2, ?_, ?_⟩⟩, BB ((Below.refl base w.drew).alloc hbase _)⟩
  ·rw [Array.size_append, Em]
   show 1 + (grownCap w (0 + 1) 0 3 - (0 + 1)) = grownCap w (0 + 1) 0 3 * 1
   omega
  ·simp [encs]
 ·have hcl : (encs (Value.int .i64) xs).length = xs.length := uk xs
  have hlt := fD hh
  have hgv : vb ≠ g := fun e => hne (by rw [e]; rfl)
  have hcells : ∀ j u, (encs (Value.int .i64) xs)[j]? = some u → w.cell? ⟨g, 0 + j, none⟩ = some u := by
   intro j u hj
   rw [af hh, Nat.zero_add, ← Array.getElem?_toList]
   rw [← htk, Nat.mul_one, List.getElem?_take] at hj
   split at hj
   ·exact hj
   ·cases hj
  have hsp : ∀ j, j < cap → (w.cell? ⟨g, 0 + j, none⟩).isSome = true := by
   intro j hj
   rw [af hh, Nat.zero_add, Array.getElem?_eq_getElem (by omega)]
   rfl
  have hfz : ∀ j, w.frozen? ⟨g, 0 + j, none⟩ = false := fun j => ah hh _
  by_cases h0 : xs.length = 0
  ·obtain rfl : xs = [] := List.eq_nil_of_length_eq_zero h0
   by_cases hr : 0 + 1 ≤ cap
   ·refine (Any2.slices_Insert_int_end_room Gx g 0 0 cap vb 0 1 vc [.int .i64 x] w (by omega) hr (by unfold maxLen at hcm; omega) rfl (fun j hj => by rw [Nat.add_assoc]; exact hsp (0 + j) (by omega)) (fun j _ => by rw [Nat.add_assoc]; exact hfz (0 + j)) hvs h1v).mono ?_
    rintro e w' ⟨rfl, rfl⟩
    obtain ⟨cur', h3, h4, h5⟩ := lq [Value.int .i64 x] (0 + 0) w cur hh (by simp; omega)
    obtain ⟨_, hgr⟩ := qc hh (show (0 + 0) + [Value.int .i64 x].length ≤ cur.size by simp; omega) (cs' := cur') h5.symm
    refine ⟨_, rfl, ⟨rfl, .inr ⟨g, cap, cur', rfl, hbg, h3, hr, hcm, by rw [h4, hcs], ?_⟩⟩, grown_below (Below.refl base w) hgr hbg hbase⟩
    rw [h5]
    simp [encs]
   ·refine (Any2.slices_Insert_int_end_grow Gx (some ⟨g, 0, none⟩) 0 cap vb 0 1 vc [] [.int .i64 x] w (by omega) (by omega) (by omega) (by omega) rfl rfl (fun h => by cases h) (fun a h j u hj => by simp at hj) hvs h1v).mono ?_
    rintro e w' ⟨rfl, rfl⟩
    have hg := grownCap_ge w (0 + 1) cap 3
    have hg2 := grownCap_le_maxLen w (0 + 1) cap 3 (by unfold maxLen; omega)
    refine ⟨_, rfl, ⟨rfl, .inr ⟨w.heap.size, _, _, rfl, hbase, heap_alloc_new w.drew _, hg, hg2, ?_, ?_⟩⟩, BB ((Below.refl base w.drew).alloc hbase _)⟩
    ·rw [Array.size_append, Em]
     show 1 + (grownCap w (0 + 1) cap 3 - (0 + 1)) = grownCap w (0 + 1) cap 3 * 1
     omega
    ·simp [encs]
  ·by_cases hr : xs.length + 1 ≤ cap
   ·refine (Any2.slices_Insert_int_shift Gx g 0 xs.length cap 0 vb 0 1 vc (encs (Value.int .i64) xs) [.int .i64 x] w (by omega) (by omega) hr (by unfold maxLen at hcm; omega) hgv hcl rfl hcells (fun j hj => hsp j (by omega)) (fun j _ => hfz j) hvs h1c h1v
     3 3 1 cap (by simp [World.shape?, hv]) (by simp [World.shape?, hh, hcs]) (by omega) (ah hv 0) (ah hv 1)).mono ?_
    rintro e w' ⟨rfl, rfl⟩
    have hh' : w.drew.heap[g]? = some (.cells cur 3 (0, 0)) := hh
    have e1 : 0 + (0 + 1) + ((encs (Value.int .i64) xs).drop 0).length ≤ cur.size := by rw [List.drop_zero, hcl]; omega
    obtain ⟨c1, h3, h4, h5⟩ := lq ((encs (Value.int .i64) xs).drop 0) (0 + (0 + 1)) w.drew cur hh' e1
    obtain ⟨_, MS⟩ := qc hh' e1 (cs' := c1) h5.symm
    have e2 : (0 + 0) + [Value.int .i64 x].length ≤ c1.size := by simp; omega
    obtain ⟨c2, h6, h7, h8⟩ := lq [Value.int .i64 x] (0 + 0) _ c1 h3 e2
    obtain ⟨_, V6⟩ := qc h3 e2 (cs' := c2) h8.symm
    refine ⟨_, rfl, ⟨by rw [uk, Nat.mul_one], .inr ⟨g, cap, c2, rfl, hbg, h6, hr, hcm, by rw [h7, h4, hcs], ?_⟩⟩, BB (grown_below (grown_below (Below.refl base w.drew) MS hbg hbase) V6 hbg (Nat.le_trans hbase MS.size))⟩
    rw [h8, h5]
    have hc1 : cur.toList.length = cap := by rw [Array.length_toList]; omega
    simp only [List.drop_zero, Nat.zero_add, List.take_zero, List.nil_append, List.length_singleton, List.length_cons, List.length_nil]
    have ht : (cur.toList.take 1).length = 1 := by rw [List.length_take]; omega
    rw [List.append_assoc, List.drop_left' ht, Nat.mul_one]
    show (Value.int .i64 x :: (encs (Value.int .i64) xs ++ cur.toList.drop (1 + (encs (Value.int .i64) xs).length))).take (xs.length + 1) = encs (Value.int .i64) (x :: xs)
    rw [List.take_succ_cons, List.take_append_of_le_length (by omega), List.take_of_length_le (by omega)]
    rfl
   ·refine (Any2.slices_Insert_int_grow Gx g 0 xs.length cap 0 vb 0 1 vc (encs (Value.int .i64) xs) [.int .i64 x] w (by omega) (by omega) hnc (by omega) (by omega) hcl rfl hcells hvs h1c h1v).mono ?_
    rintro e w' ⟨rfl, rfl⟩
    have hg := grownCap_ge w (xs.length + 1) cap 3
    have hg2 := grownCap_le_maxLen w (xs.length + 1) cap 3 (by unfold maxLen; omega)
    have hh0 := heap_alloc_new w (.cells (((encs (Value.int .i64) xs).take 0).toArray ++ Builtin.zeroCells (Value.int .i64 0).cells (xs.length + 1 - 0) ++ Builtin.zeroCells (Value.int .i64 0).cells (grownCap w (xs.length + 1) cap (Ei.t 3) - (xs.length + 1))) (Ei.t 3))
    generalize VZ : ((((encs (Value.int .i64) xs).take 0).toArray ++ Builtin.zeroCells (Value.int .i64 0).cells (xs.length + 1 - 0) ++ Builtin.zeroCells (Value.int .i64 0).cells (grownCap w (xs.length + 1) cap (Ei.t 3) - (xs.length + 1)))) = Hz at hh0 ⊢
    have hsz0 : Hz.size = grownCap w (xs.length + 1) cap 3 := by
     rw [← VZ, Array.size_append, Array.size_append, Em, Em]
     show 0 + (xs.length + 1 - 0) + (grownCap w (xs.length + 1) cap 3 - (xs.length + 1)) = _
     omega
    have hal : Below base w (w.alloc (.cells Hz (Ei.t 3))) := (Below.refl base w).alloc hbase _
    generalize w.alloc (.cells Hz (Ei.t 3)) = wa at hh0 hal ⊢
    have hh1 : wa.drew.heap[w.heap.size]? = some (.cells Hz 3 (0, 0)) := hh0
    have e1 : 0 + [Value.int .i64 x].length ≤ Hz.size := by rw [hsz0]; simp; omega
    obtain ⟨c1, h3, h4, h5⟩ := lq [Value.int .i64 x] 0 wa.drew Hz hh1 e1
    obtain ⟨_, MS⟩ := qc hh1 e1 (cs' := c1) h5.symm
    generalize wa.drew.setCells w.heap.size 0 [Value.int .i64 x] = wb at h3 MS ⊢
    have hh2 : wb.drew.heap[w.heap.size]? = some (.cells c1 3 (0, 0)) := h3
    have e2 : (0 + 1) + ((encs (Value.int .i64) xs).drop 0).length ≤ c1.size := by rw [List.drop_zero, hcl, h4, hsz0]; omega
    obtain ⟨c2, h6, h7, h8⟩ := lq ((encs (Value.int .i64) xs).drop 0) (0 + 1) wb.drew c1 hh2 e2
    obtain ⟨_, V6⟩ := qc hh2 e2 (cs' := c2) h8.symm
    have hB1 : Below base w wa.drew := tV hal
    have hB2 : Below base w wb := grown_below hB1 MS hbase (Nat.le_trans hbase hB1.size)
    refine ⟨_, rfl, ⟨by rw [uk, Nat.mul_one], .inr ⟨w.heap.size, _, c2, rfl, hbase, h6, hg, hg2, by rw [h7, h4, hsz0]; exact (Nat.mul_one _).symm, ?_⟩⟩, grown_below (tV hB2) V6 hbase (Nat.le_trans hbase hB2.size)⟩
    rw [h8, h5]
    simp only [List.drop_zero, Nat.zero_add, List.take_zero, List.nil_append, List.length_singleton, List.length_cons]
    rw [List.singleton_append, List.take_succ_cons, List.take_zero, Nat.mul_one, List.append_assoc]
    show (Value.int .i64 x :: (encs (Value.int .i64) xs ++ _)).take (xs.length + 1) = encs (Value.int .i64) (x :: xs)
    rw [List.take_succ_cons, List.take_append_of_le_length (by omega), List.take_of_length_le (by omega)]
    rfl
end Go.Proofs.Ytfdmfgaiblfbhaa.P
namespace Go.Proofs.Ytfdmfgaiblfbhaa.P
open Go.RowKit Go.Proofs.ag.aQ Go.Proofs.ag.bu Go.Proofs.ag.bP
mutual
def fP : ai → List ai
 | ⟨a, b, d, l⟩ => ⟨a, b, d, l⟩ :: allL l
def allL : List ai → List ai
 | [] => []
 | c :: cs => fP c ++ allL cs
end
theorem pJ (c : ai) : fP c = c :: allL c.f3 := by cases c; simp [fP]
theorem o5 : allL [] = [] := by simp [allL]
theorem lF (c : ai) (cs : List ai) : allL (c :: cs) = fP c ++ allL cs := by simp [allL]
theorem Bl (a b : List ai) : allL (a ++ b) = allL a ++ allL b := by
 induction a with
 | nil => simp [o5]
 | cons x xs ih => rw [List.cons_append, lF, lF, ih, List.append_assoc]
def sz (c : ai) : Nat := (fP c).length
def dN (l : List ai) : Nat := (allL l).length
theorem bZ (c : ai) : sz c = 1 + dN c.f3 := by unfold sz dN; rw [pJ, List.length_cons]; omega
theorem wP : dN [] = 0 := by unfold dN; rw [o5]; rfl
theorem bU (c : ai) (cs : List ai) : dN (c :: cs) = sz c + dN cs := by unfold dN sz; rw [lF, List.length_append]
theorem ou (a b : List ai) : dN (a ++ b) = dN a + dN b := by unfold dN; rw [Bl, List.length_append]
theorem jJ (l : List ai) : l.length ≤ dN l := by
 induction l with
 | nil => simp
 | cons x xs ih => rw [bU, List.length_cons, bZ]; omega
theorem Gs (c : ai) : (⟨c.f0, ⟨c.f1.f0, c.f1.f1, c.f1.f2, c.f1.f3⟩, c.f2, c.f3⟩ : ai) = c := by cases c; rfl
theorem aaB (l : List ai) : dN l = (l.map sz).sum := by
 induction l with
 | nil => rw [wP]; rfl
 | cons x xs ih => rw [bU, List.map_cons, List.sum_cons, ih]
section
variable {P : Program} {ops : Array Oper} {rest : List Oper} {o : Oper} {a : Act} {Q : Exit → Act → World → Prop}
theorem JA {W : World} (hgd : o.guard = none) {N : Tmp} (_hd : o.dst = some N) {cs : Array Value} {t : TypeId} {n c : Nat}
  (hrun : (execOp a.eval o).run P W = .ok (.value (.slice (some ⟨W.heap.size, 0, none⟩) n c)) (W.alloc (.cells cs t (0, 0))))
  (h : ∀ g, g = W.heap.size → ∀ w1, w1.heap[g]? = some (.cells cs t (0, 0)) → Below W.heap.size W w1 → wpList P ops Q rest (a.put o.dst (.slice (some ⟨g, 0, none⟩) n c)) w1) : wpList P ops Q (o :: rest) a W :=
 Kd.zH hgd hrun (h _ rfl _ (Hu W _) (iU (Below.refl _ _) _))
end
mutual
def gm (id : Int) : ai → Option (List Int)
 | ⟨a, _, d, l⟩ => if a = 1 ∧ d = id then some [] else oK id 0 l
def oK (id : Int) : Nat → List ai → Option (List Int)
 | _, [] => none
 | i, k :: ks => match gm id k with
  | some p => some ((i : Int) :: p)
  | none => oK id (i + 1) ks
end
theorem BC (id : Int) (c : ai) : gm id c = if c.f0 = 1 ∧ c.f2 = id then some [] else oK id 0 c.f3 := by cases c; simp [gm]
theorem rO (id : Int) (i : Nat) : oK id i [] = none := by simp [oK]
theorem oL (id : Int) (i : Nat) (k : ai) (ks : List ai) : oK id i (k :: ks) = match gm id k with | some p => some ((i : Int) :: p) | none => oK id (i + 1) ks := by simp [oK]
theorem yU (id : Int) : ∀ (N : Nat), (∀ c : ai, sz c ≤ N → ∀ p, gm id c = some p → p.length ≤ sz c) ∧ (∀ l : List ai, dN l ≤ N → ∀ i p, oK id i l = some p → p.length ≤ 1 + dN l) := by
 intro N
 induction N with
 | zero =>
  refine ⟨fun c h => ?_, fun l h => ?_⟩
  ·rw [bZ] at h; omega
  ·cases l with
   | nil => intro i p hp; rw [rO] at hp; cases hp
   | cons z zs => rw [bU, bZ] at h; omega
 | succ N ih =>
  have hC : ∀ c : ai, sz c ≤ N + 1 → ∀ p, gm id c = some p → p.length ≤ sz c := by
   intro c h p hp
   have hs := bZ c
   rw [BC] at hp
   split at hp
   ·injection hp with hp; subst hp; simp
   ·have := ih.2 c.f3 (by omega) 0 p hp
    omega
  refine ⟨hC, fun l => ?_⟩
  induction l with
  | nil => intro _ i p hp; rw [rO] at hp; cases hp
  | cons z zs ihl =>
   intro h i p hp
   rw [bU] at h ⊢
   rw [oL] at hp
   cases hz : gm id z with
   | some q =>
    rw [hz] at hp
    injection hp with hp
    have := hC z (by omega) q hz
    rw [← hp, List.length_cons]
    omega
   | none =>
    rw [hz] at hp
    have := ihl (by omega) (i + 1) p hp
    omega
def aeo (w : World) (r : Option (List Int)) (e : Ending) (w' : World) : Prop := ∃ v : Value, e = .returned (.tuple #[v, .bool r.isSome]) ∧ (Kd.int .i64).R 3 w' w.heap.size (fun _ => True) v (r.getD []) ∧ Below w.heap.size w w'
theorem acx (id : Int) : ∀ (N : Nat) (c : ai), sz c ≤ N → N ≤ 1000000 → ∀ (A : Option Addr) (cc : Nat) (w : World), Kd.C k26 w A c.f3.length c.f3 → c.f3.length ≤ cc →
  Calls Try.prog 89 #[.agg #[.int .u8 c.f0, .int .i64 c.f1.f0, .int .i64 c.f1.f1, .int .i64 c.f1.f2, .int .i64 c.f1.f3, .int .i64 c.f2, .slice A c.f3.length cc], .int .i64 id] w (aeo w (gm id c)) := by
 intro N
 induction N with
 | zero => intro c h; rw [bZ] at h; omega
 | succ N ih =>
  intro c hc hN A cc w hr hlc
  have hsz := bZ c
  have hlen := jJ c.f3
  have hkz : ∀ k : ai, k ∈ c.f3 → sz k ≤ N := by
   intro k hk
   have : sz k ≤ dN c.f3 := by
    obtain ⟨p, q, e⟩ := List.append_of_mem hk
    rw [e, ou, bU]; omega
   omega
  have IH := ae.mk fun (k : ai) (hk : k ∈ c.f3) => ih k (hkz k hk) (by omega)
  have Es := ae.mk fun (k : ai) (hk : k ∈ c.f3) (p : List Int) (hp : gm id k = some p) => Nat.le_trans ((yU id (sz k)).1 k (Nat.le_refl _) p hp) (Nat.le_trans (hkz k hk) (by omega : N ≤ 1000000))
  have HR := ae.mk hr
  have HLC := ae.mk hlc
  have HL := ae.mk (show c.f3.length ≤ 1000000 by omega)
  have HB := ae.mk (Below.refl w.heap.size w)
  rw [BC]
  clear ih hkz hr hlc hc hN hsz hlen
  obtain ⟨ck, ⟨cx, cy, cw, ch⟩, aT, l⟩ := c
  simp only [] at HR HLC HL IH Es ⊢
  by_cases h1 : ck = 1
  ·have h1b : (ck == 1) = true := beq_iff_eq.mpr h1
   by_cases h2 : aT = id
   ·have h2b : (aT == id) = true := beq_iff_eq.mpr h2
    rw [if_pos ⟨h1, h2⟩]
    clear h1 h2
    go_enter Try.func89, Try.ntmps89
    go_wp2_with (((with_reducible refine aC (N := 2) rfl ?_); refine aK ?hg (N := 2) ?hd (cs := #[.int .u8 ck, .int .i64 cx, .int .i64 cy, .int .i64 cw, .int .i64 ch, .int .i64 aT, .slice A l.length cc]) (t := 26) ?hr ?_; (case hd => rfl); (case hg => rfl); (case hr => (go_simp; done)); intro b2 hg w2 hbox hb; have K2 := ae.mk hbox; have q_ := ae.mk (ak HB.out hb); clear HB; have HB := q_; clear q_; clear hb hbox hg; have c0 := (af K2.out 0).trans rfl; have c1 := (af K2.out 1).trans rfl; have c2 := (af K2.out 2).trans rfl; have c3 := (af K2.out 3).trans rfl; have c4 := (af K2.out 4).trans rfl; have c5 := (af K2.out 5).trans rfl; have c6 := (af K2.out 6).trans rfl))
    go_ret2
    exact ⟨_, rfl, Kd.uz _ _ _ _ _, HB.out⟩
   ·have h2b : (aT == id) = false := beq_eq_false_iff_ne.mpr h2
    rw [if_neg (fun h => h2 h.2)]
    clear h1 h2
    go_enter Try.func89, Try.ntmps89
    go_wp2_with (((with_reducible refine aC (N := 2) rfl ?_); refine aK ?hg (N := 2) ?hd (cs := #[.int .u8 ck, .int .i64 cx, .int .i64 cy, .int .i64 cw, .int .i64 ch, .int .i64 aT, .slice A l.length cc]) (t := 26) ?hr ?_; (case hd => rfl); (case hg => rfl); (case hr => (go_simp; done)); intro b2 hg w2 hbox hb; have K2 := ae.mk hbox; have q_ := ae.mk (ak HB.out hb); clear HB; have HB := q_; clear q_; clear hb hbox hg; have c0 := (af K2.out 0).trans rfl; have c1 := (af K2.out 1).trans rfl; have c2 := (af K2.out 2).trans rfl; have c3 := (af K2.out 3).trans rfl; have c4 := (af K2.out 4).trans rfl; have c5 := (af K2.out 5).trans rfl; have c6 := (af K2.out 6).trans rfl))
    clear c0 c1 c2 c3 c4 c5 c6
    go_loopg [22] l.length (fun gg v22 wr => ∃ (pre rest : List ai), v22 = .int .i64 (pre.length : Int) ∧ ae (pre ++ rest = l) ∧ rest.length ≤ gg ∧ ae (oK id 0 l = oK id pre.length rest) ∧ ae (Below w.heap.size w wr))
    case atStart => exact ⟨[], l, rfl, ⟨rfl⟩, Nat.le_refl _, ⟨rfl⟩, HB⟩
    case round =>
     clear HB K2
     obtain ⟨pre, rest, rfl, HE, hgg, HF, HB⟩ := hrel
     cases rest with
     | nil =>
      have hlt : ¬ ((pre.length : Int) < (l.length : Int)) := by have := HE.out; rw [List.append_nil] at this; rw [this]; omega
      clear hgg
      go_wp2
      go_ret2
      rw [HF.out, rO]
      exact ⟨_, rfl, Kd.uz _ _ _ _ _, HB.out⟩
     | cons k rest =>
      have hk : k ∈ l := by rw [← HE.out]; simp
      have hlt : (pre.length : Int) < (l.length : Int) := by rw [← HE.out, List.length_append, List.length_cons]; omega
      have hw : wrap64 ((pre.length : Int) + 1) = ((pre ++ [k]).length : Int) := by rw [List.length_append, List.length_singleton]; unfold wrap64; have := HL.out; omega
      have hrd : az l (pre.length : Int) = k := by rw [← HE.out]; simp [az, List.getD_eq_getElem?_getD]
      obtain ⟨ad, ua, uc, rfl, h0, h1, h2, h3, h4, h5, h6, Jq, hgu⟩ := rF HR.out (pre.length : Int) (Int.natCast_nonneg _) hlt
      rw [hrd] at h0 h1 h2 h3 h4 h5 h6 Jq hgu
      simp only [Int.toNat_natCast] at h0 h1 h2 h3 h4 h5 h6
      replace h0 := (HB.out.cell (World.block_lt_of_cell? w _ h0)).trans h0
      replace h1 := (HB.out.cell (World.block_lt_of_cell? w _ h1)).trans h1
      replace h2 := (HB.out.cell (World.block_lt_of_cell? w _ h2)).trans h2
      replace h3 := (HB.out.cell (World.block_lt_of_cell? w _ h3)).trans h3
      replace h4 := (HB.out.cell (World.block_lt_of_cell? w _ h4)).trans h4
      replace h5 := (HB.out.cell (World.block_lt_of_cell? w _ h5)).trans h5
      replace h6 := (HB.out.cell (World.block_lt_of_cell? w _ h6)).trans h6
      have HU := ae.mk hgu
      have LU := ae.mk Jq
      have HW := ae.mk hw
      have HK := ae.mk hk
      have HG := ae.mk hgg
      clear hgu Jq hw hk hgg hrd
      go_wp2_with (first | ((with_reducible refine aC (N := 7) rfl ?_); refine aK ?hg (N := 7) ?hd (cs := #[.int .u8 0, .int .i64 0, .int .i64 0, .int .i64 0, .int .i64 0, .int .i64 0, .slice none 0 0]) (t := 26) ?hr ?_; (case hd => rfl); (case hg => rfl); (case hr => (go_simp; done)); intro b7 hg w7 hbox hb; have K7 := ae.mk hbox; have G7 := ae.mk (show w.heap.size ≤ b7 by rw [hg]; exact HB.out.size); have q_ := ae.mk (ak HB.out hb); clear HB; have HB := q_; clear q_; clear hb hbox hg) | ((with_reducible refine lH (.store 26 (.tmp 7) (.tmp 26)) rfl ?_); go_loud (refine f_ (w0 := w) rfl rfl 26 (.tmp 7) (.tmp 26) rfl (g := b7) (j := 0) (base := w.heap.size) #[.int .u8 k.f0, .int .i64 k.f1.f0, .int .i64 k.f1.f1, .int .i64 k.f1.f2, .int .i64 k.f1.f3, .int .i64 k.f2, .slice ua k.f3.length uc] (u := .agg #[.int .u8 k.f0, .int .i64 k.f1.f0, .int .i64 k.f1.f1, .int .i64 k.f1.f2, .int .i64 k.f1.f3, .int .i64 k.f2, .slice ua k.f3.length uc]) (bG := [.int .u8 k.f0, .int .i64 k.f1.f0, .int .i64 k.f1.f1, .int .i64 k.f1.f2, .int .i64 k.f1.f3, .int .i64 k.f2, .slice ua k.f3.length uc]) ?sA ?sX rfl ?sT ?s1 K7.out ?sJ rfl HB.out HB.out.size G7.out ?_; (case sA => rfl); (case sX => rfl); (case sT => rfl); (case s1 => (simp [Value.oneCell'])); (case sJ => (simp)); intro ws hbk hbb hgg; clear K7 HB; have K7 := ae.mk hbk; have HB := ae.mk hbb; clear hbk hbb hgg h0 h1 h2 h3 h4 h5 h6; have d0 := (af K7.out 0).trans rfl; have d1 := (af K7.out 1).trans rfl; have d2 := (af K7.out 2).trans rfl; have d3 := (af K7.out 3).trans rfl; have d4 := (af K7.out 4).trans rfl; have d5 := (af K7.out 5).trans rfl; have d6 := (af K7.out 6).trans rfl)))
      clear d0 d1 d2 d3 d4 d5 d6 K7
      refine (IH.out k HK.out ua uc _ (Kd.iq HU.out HB.out) LU.out).mono ?_
      rintro e wk ⟨v, rfl, ho, hb⟩
      have HO := ae.mk (Kd.pI ho HB.out.size)
      have q_ := ae.mk (ak HB.out hb); clear HB; have HB := q_; clear q_
      clear ho hb
      cases hf : gm id k with
      | none =>
       rw [hf] at HO
       have HF2 := ae.mk hf
       simp only [hf, Option.isSome_none]
       clear hf
       go_wp2
       go_roundg rest.length
       case measure => exact Nat.lt_of_lt_of_le (Nat.lt_succ_self _) HG.out
       case rel => exact ⟨pre ++ [k], rest, (by rw [HW.out]), ⟨by rw [List.append_assoc]; exact HE.out⟩, Nat.le_refl _, ⟨by rw [HF.out, oL, HF2.out, List.length_append]; rfl⟩, HB⟩
      | some p =>
       rw [hf] at HO
       have HF2 := ae.mk hf
       have HP := ae.mk (Es.out k HK.out p hf)
       simp only [hf, Option.isSome_some]
       clear hf
       obtain ⟨Ap, cp, ep⟩ := Kd.fU HO.out
       subst ep
       go_wp2_with (((with_reducible refine aC (N := 36) rfl ?_); refine JA ?hg (N := 36) ?hd (cs := #[.int .i64 (pre.length : Int)]) (t := 3) (n := 1) (c := 1) ?hr ?_; (case hd => rfl); (case hg => rfl); (case hr => (go_simp; done)); intro b9 hg w9 hbox hb; have K9 := ae.mk hbox; have NE := ae.mk (fun e_ => Nat.lt_irrefl _ (hg ▸ Kd.Ve HO.out b9 e_) : ¬ (Value.slice Ap ((some p).getD []).length cp).ownBlock = some b9); have dU := ae.mk (Kd.pG HO.out hb); clear HO; have HO := dU; clear dU; have q_ := ae.mk (ak HB.out hb); clear HB; have HB := q_; clear q_; clear hb hbox hg))
       refine (Ua _ w.heap.size HB.out.size _ p (pre.length : Int) b9 1 (Kd.BN HO.out) K9.out NE.out HP.out).mono ?_
       rintro e wi ⟨v', rfl, ho, hb⟩
       have qU := ae.mk ho
       have HB2 := ae.mk (HB.out.trans hb)
       clear ho hb
       go_wp2
       go_ret2
       rw [HF.out, oL, HF2.out]
       exact ⟨_, rfl, Kd.Bh qU.out (fun _ _ => trivial), HB2.out⟩
  ·have h1b : (ck == 1) = false := beq_eq_false_iff_ne.mpr h1
   rw [if_neg (fun h => h1 h.1)]
   clear h1
   go_enter Try.func89, Try.ntmps89
   go_wp2_with (((with_reducible refine aC (N := 2) rfl ?_); refine aK ?hg (N := 2) ?hd (cs := #[.int .u8 ck, .int .i64 cx, .int .i64 cy, .int .i64 cw, .int .i64 ch, .int .i64 aT, .slice A l.length cc]) (t := 26) ?hr ?_; (case hd => rfl); (case hg => rfl); (case hr => (go_simp; done)); intro b2 hg w2 hbox hb; have K2 := ae.mk hbox; have q_ := ae.mk (ak HB.out hb); clear HB; have HB := q_; clear q_; clear hb hbox hg; have c0 := (af K2.out 0).trans rfl; have c1 := (af K2.out 1).trans rfl; have c2 := (af K2.out 2).trans rfl; have c3 := (af K2.out 3).trans rfl; have c4 := (af K2.out 4).trans rfl; have c5 := (af K2.out 5).trans rfl; have c6 := (af K2.out 6).trans rfl))
   clear c0 c1 c2 c3 c4 c5 c6
   go_loopg [22] l.length (fun gg v22 wr => ∃ (pre rest : List ai), v22 = .int .i64 (pre.length : Int) ∧ ae (pre ++ rest = l) ∧ rest.length ≤ gg ∧ ae (oK id 0 l = oK id pre.length rest) ∧ ae (Below w.heap.size w wr))
   case atStart => exact ⟨[], l, rfl, ⟨rfl⟩, Nat.le_refl _, ⟨rfl⟩, HB⟩
   case round =>
    clear HB K2
    obtain ⟨pre, rest, rfl, HE, hgg, HF, HB⟩ := hrel
    cases rest with
    | nil =>
     have hlt : ¬ ((pre.length : Int) < (l.length : Int)) := by have := HE.out; rw [List.append_nil] at this; rw [this]; omega
     clear hgg
     go_wp2
     go_ret2
     rw [HF.out, rO]
     exact ⟨_, rfl, Kd.uz _ _ _ _ _, HB.out⟩
    | cons k rest =>
     have hk : k ∈ l := by rw [← HE.out]; simp
     have hlt : (pre.length : Int) < (l.length : Int) := by rw [← HE.out, List.length_append, List.length_cons]; omega
     have hw : wrap64 ((pre.length : Int) + 1) = ((pre ++ [k]).length : Int) := by rw [List.length_append, List.length_singleton]; unfold wrap64; have := HL.out; omega
     have hrd : az l (pre.length : Int) = k := by rw [← HE.out]; simp [az, List.getD_eq_getElem?_getD]
     obtain ⟨ad, ua, uc, rfl, h0, h1, h2, h3, h4, h5, h6, Jq, hgu⟩ := rF HR.out (pre.length : Int) (Int.natCast_nonneg _) hlt
     rw [hrd] at h0 h1 h2 h3 h4 h5 h6 Jq hgu
     simp only [Int.toNat_natCast] at h0 h1 h2 h3 h4 h5 h6
     replace h0 := (HB.out.cell (World.block_lt_of_cell? w _ h0)).trans h0
     replace h1 := (HB.out.cell (World.block_lt_of_cell? w _ h1)).trans h1
     replace h2 := (HB.out.cell (World.block_lt_of_cell? w _ h2)).trans h2
     replace h3 := (HB.out.cell (World.block_lt_of_cell? w _ h3)).trans h3
     replace h4 := (HB.out.cell (World.block_lt_of_cell? w _ h4)).trans h4
     replace h5 := (HB.out.cell (World.block_lt_of_cell? w _ h5)).trans h5
     replace h6 := (HB.out.cell (World.block_lt_of_cell? w _ h6)).trans h6
     have HU := ae.mk hgu
     have LU := ae.mk Jq
     have HW := ae.mk hw
     have HK := ae.mk hk
     have HG := ae.mk hgg
     clear hgu Jq hw hk hgg hrd
     go_wp2_with (first | ((with_reducible refine aC (N := 7) rfl ?_); refine aK ?hg (N := 7) ?hd (cs := #[.int .u8 0, .int .i64 0, .int .i64 0, .int .i64 0, .int .i64 0, .int .i64 0, .slice none 0 0]) (t := 26) ?hr ?_; (case hd => rfl); (case hg => rfl); (case hr => (go_simp; done)); intro b7 hg w7 hbox hb; have K7 := ae.mk hbox; have G7 := ae.mk (show w.heap.size ≤ b7 by rw [hg]; exact HB.out.size); have q_ := ae.mk (ak HB.out hb); clear HB; have HB := q_; clear q_; clear hb hbox hg) | ((with_reducible refine lH (.store 26 (.tmp 7) (.tmp 26)) rfl ?_); go_loud (refine f_ (w0 := w) rfl rfl 26 (.tmp 7) (.tmp 26) rfl (g := b7) (j := 0) (base := w.heap.size) #[.int .u8 k.f0, .int .i64 k.f1.f0, .int .i64 k.f1.f1, .int .i64 k.f1.f2, .int .i64 k.f1.f3, .int .i64 k.f2, .slice ua k.f3.length uc] (u := .agg #[.int .u8 k.f0, .int .i64 k.f1.f0, .int .i64 k.f1.f1, .int .i64 k.f1.f2, .int .i64 k.f1.f3, .int .i64 k.f2, .slice ua k.f3.length uc]) (bG := [.int .u8 k.f0, .int .i64 k.f1.f0, .int .i64 k.f1.f1, .int .i64 k.f1.f2, .int .i64 k.f1.f3, .int .i64 k.f2, .slice ua k.f3.length uc]) ?sA ?sX rfl ?sT ?s1 K7.out ?sJ rfl HB.out HB.out.size G7.out ?_; (case sA => rfl); (case sX => rfl); (case sT => rfl); (case s1 => (simp [Value.oneCell'])); (case sJ => (simp)); intro ws hbk hbb hgg; clear K7 HB; have K7 := ae.mk hbk; have HB := ae.mk hbb; clear hbk hbb hgg h0 h1 h2 h3 h4 h5 h6; have d0 := (af K7.out 0).trans rfl; have d1 := (af K7.out 1).trans rfl; have d2 := (af K7.out 2).trans rfl; have d3 := (af K7.out 3).trans rfl; have d4 := (af K7.out 4).trans rfl; have d5 := (af K7.out 5).trans rfl; have d6 := (af K7.out 6).trans rfl)))
     clear d0 d1 d2 d3 d4 d5 d6 K7
     refine (IH.out k HK.out ua uc _ (Kd.iq HU.out HB.out) LU.out).mono ?_
     rintro e wk ⟨v, rfl, ho, hb⟩
     have HO := ae.mk (Kd.pI ho HB.out.size)
     have q_ := ae.mk (ak HB.out hb); clear HB; have HB := q_; clear q_
     clear ho hb
     cases hf : gm id k with
     | none =>
      rw [hf] at HO
      have HF2 := ae.mk hf
      simp only [hf, Option.isSome_none]
      clear hf
      go_wp2
      go_roundg rest.length
      case measure => exact Nat.lt_of_lt_of_le (Nat.lt_succ_self _) HG.out
      case rel => exact ⟨pre ++ [k], rest, (by rw [HW.out]), ⟨by rw [List.append_assoc]; exact HE.out⟩, Nat.le_refl _, ⟨by rw [HF.out, oL, HF2.out, List.length_append]; rfl⟩, HB⟩
     | some p =>
      rw [hf] at HO
      have HF2 := ae.mk hf
      have HP := ae.mk (Es.out k HK.out p hf)
      simp only [hf, Option.isSome_some]
      clear hf
      obtain ⟨Ap, cp, ep⟩ := Kd.fU HO.out
      subst ep
      go_wp2_with (((with_reducible refine aC (N := 36) rfl ?_); refine JA ?hg (N := 36) ?hd (cs := #[.int .i64 (pre.length : Int)]) (t := 3) (n := 1) (c := 1) ?hr ?_; (case hd => rfl); (case hg => rfl); (case hr => (go_simp; done)); intro b9 hg w9 hbox hb; have K9 := ae.mk hbox; have NE := ae.mk (fun e_ => Nat.lt_irrefl _ (hg ▸ Kd.Ve HO.out b9 e_) : ¬ (Value.slice Ap ((some p).getD []).length cp).ownBlock = some b9); have dU := ae.mk (Kd.pG HO.out hb); clear HO; have HO := dU; clear dU; have q_ := ae.mk (ak HB.out hb); clear HB; have HB := q_; clear q_; clear hb hbox hg))
      refine (Ua _ w.heap.size HB.out.size _ p (pre.length : Int) b9 1 (Kd.BN HO.out) K9.out NE.out HP.out).mono ?_
      rintro e wi ⟨v', rfl, ho, hb⟩
      have qU := ae.mk ho
      have HB2 := ae.mk (HB.out.trans hb)
      clear ho hb
      go_wp2
      go_ret2
      rw [HF.out, oL, HF2.out]
      exact ⟨_, rfl, Kd.Bh qU.out (fun _ _ => trivial), HB2.out⟩
def af6.f (a0 a1 a2 a3 a4 a5 : Int) (l : List ai) (id : Int) : Option (List Int × Bool) := if sz ⟨a0, ⟨a1, a2, a3, a4⟩, a5, l⟩ ≤ 1000000 then some ((gm id ⟨a0, ⟨a1, a2, a3, a4⟩, a5, l⟩).getD [], (gm id ⟨a0, ⟨a1, a2, a3, a4⟩, a5, l⟩).isSome) else none
theorem rJ {P : Program} {f : FuncId} {fn : Func} (hf : P.funcs[f]? = some fn) (hname : (fn.name == "runtime.NumGoroutine") = false) (hb : fn.body.isSome = true) : ∀ args w, (callFunc f args).run P w = .ok (.enter f args) w := by
 intro args w
 obtain ⟨c, hc⟩ := Option.isSome_iff_exists.1 hb
 have h1 : fn.name ≠ "runtime.NumGoroutine" := by simpa using hname
 simp [callFunc, hf, h1, hc, mark]
section
variable {σ α : Type}
def kN (step : σ → α → Bool × σ) : Int → σ → List α → Int × σ
 | _, s, [] => (-1, s)
 | i, s, x :: xs => if (step s x).1 = true then (i, (step s x).2) else kN step (i + 1) (step s x).2 xs
def rf (step : σ → α → Bool × σ) : σ → List α → Bool × σ
 | s, [] => (false, s)
 | s, x :: xs => if (step s x).1 = true then (true, (step s x).2) else rf step (step s x).2 xs
theorem aav (step : σ → α → Bool × σ) : ∀ (l : List α) (i : Int) (s : σ), 0 ≤ i → (rf step s l).1 = decide (0 ≤ (kN step i s l).1) ∧ (rf step s l).2 = (kN step i s l).2 := by
 intro l
 induction l with
 | nil => intro i s h; exact ⟨by simp [rf, kN], rfl⟩
 | cons x xs ih =>
  intro i s h
  simp only [rf, kN]
  split
  ·exact ⟨by simp [h], rfl⟩
  ·exact ih (i + 1) _ (by omega)
theorem NJ (step : σ → α → Bool × σ) (s : σ) (l : List α) : rf step s l = (decide (0 ≤ (kN step 0 s l).1), (kN step 0 s l).2) := by
 have h := aav step l 0 s (by omega)
 exact Prod.ext h.1 h.2
theorem Pq (step : σ → α → Bool × σ) (z : α) (l : List α) (k : Nat) (h : k < l.length) (t : σ) :
  kN step k t (l.drop k) = if (step t (l.getD (k : Int).toNat z)).1 = true then ((k : Int), (step t (l.getD (k : Int).toNat z)).2) else kN step ((k + 1 : Nat) : Int) (step t (l.getD (k : Int).toNat z)).2 (l.drop (k + 1)) := by
 rw [List.drop_eq_getElem_cons h]
 simp only [kN, Int.toNat_natCast, List.getD_eq_getElem?_getD, List.getElem?_eq_getElem h, Option.getD_some]
 rfl
theorem BR (z : α) (l : List α) (k : Nat) (h : k < l.length) : l.getD (k : Int).toNat z ∈ l := by
 simp only [Int.toNat_natCast, List.getD_eq_getElem?_getD, List.getElem?_eq_getElem h, Option.getD_some]
 exact List.getElem_mem h
theorem JB (p : α → Bool) : ∀ (l : List α) (s : Unit), rf (fun _ x => (p x, ())) s l = (l.any p, ()) := by
 intro l
 induction l with
 | nil => intro s; rfl
 | cons x xs ih =>
  intro s
  simp only [rf, List.any_cons]
  cases h : p x with
  | true => simp
  | false => simp [ih]
end
section
variable {σ : Type} (step : σ → ai → Bool × σ)
mutual
def qQ : ai → σ → Bool × σ
 | ⟨a, b, d, l⟩, s => if (step s ⟨a, b, d, l⟩).1 = true then qX l (step s ⟨a, b, d, l⟩).2 else (false, (step s ⟨a, b, d, l⟩).2)
def qX : List ai → σ → Bool × σ
 | [], s => (true, s)
 | k :: ks, s => if (qQ k s).1 = true then qX ks (qQ k s).2 else (false, (qQ k s).2)
end
theorem Oq (c : ai) (s : σ) : qQ step c s = if (step s c).1 = true then qX step c.f3 (step s c).2 else (false, (step s c).2) := by cases c; simp [qQ]
theorem Dy (s : σ) : qX step [] s = (true, s) := by simp [qX]
theorem GK (k : ai) (ks : List ai) (s : σ) : qX step (k :: ks) s = if (qQ step k s).1 = true then qX step ks (qQ step k s).2 else (false, (qQ step k s).2) := by simp [qX]
theorem UH : ∀ (l : List ai) (s : σ), rf (fun s k => (!(qQ step k s).1, (qQ step k s).2)) s l = (!(qX step l s).1, (qX step l s).2) := by
 intro l
 induction l with
 | nil => intro s; rw [Dy]; rfl
 | cons k ks ih =>
  intro s
  rw [GK]
  simp only [rf]
  cases h : (qQ step k s).1 with
  | true => simp [ih]
  | false => simp
def tH : List ai → σ → Bool × σ
 | [], s => (true, s)
 | k :: ks, s => if (step s k).1 = true then tH ks (step s k).2 else (false, (step s k).2)
theorem WV : ∀ (a b : List ai) (s : σ), tH step (a ++ b) s = if (tH step a s).1 = true then tH step b (tH step a s).2 else (false, (tH step a s).2) := by
 intro a
 induction a with
 | nil => intro b s; simp [tH]
 | cons k ks ih =>
  intro b s
  simp only [List.cons_append, tH]
  by_cases h : (step s k).1 = true
  ·simp [h, ih]
  ·simp [h]
theorem Vj : ∀ (N : Nat), (∀ c : ai, sz c ≤ N → ∀ s, qQ step c s = tH step (fP c) s) ∧ (∀ l : List ai, dN l ≤ N → ∀ s, qX step l s = tH step (allL l) s) := by
 intro N
 induction N with
 | zero =>
  refine ⟨fun c h => ?_, fun l h => ?_⟩
  ·rw [bZ] at h; omega
  ·cases l with
   | nil => intro s; rw [Dy, o5]; rfl
   | cons x xs => rw [bU, bZ] at h; omega
 | succ N ih =>
  have hC : ∀ c : ai, sz c ≤ N + 1 → ∀ s, qQ step c s = tH step (fP c) s := by
   intro c h s
   rw [bZ] at h
   rw [Oq, pJ]
   simp only [tH]
   rw [ih.2 c.f3 (by omega)]
  refine ⟨hC, fun l => ?_⟩
  induction l with
  | nil => intro _ s; rw [Dy, o5]; rfl
  | cons x xs ihl =>
   intro h s
   rw [bU] at h
   rw [GK, lF, WV, hC x (by omega), ihl (by omega)]
end
end Go.Proofs.Ytfdmfgaiblfbhaa.P
namespace Go.Proofs.Ytfdmfgaiblfbhaa.P
open Go.RowKit Go.Proofs.ag.aQ Go.Proofs.ag.bu Go.Proofs.ag.bP
attribute [local go_sem] jo jC jU kH jS jT kU kW
def wM.f (ay : Int) (aH : Int) (aA : Int) (aG : Int) : Option (Bool) := if ay ≥ 0 then (if aA ≥ 1 then (if aA ≤ 10000 then (if ay ≤ (wrap64 (10000 - aA)) then (if aH ≥ 0 then (if aG ≥ 1 then (if aG ≤ 10000 then (some (decide (aH ≤ (wrap64 (10000 - aG))))) else (some false)) else (some false)) else (some false)) else (some false)) else (some false)) else (some false)) else (some false)
theorem wM.calls (ay : Int) (aH : Int) (aA : Int) (aG : Int) (r : Bool) (w : World) (h : wM.f ay aH aA aG = some r) :
  Calls Try.prog 128 #[.agg #[.int .i64 ay, .int .i64 aH, .int .i64 aA, .int .i64 aG]] w fun e w' => e = .returned (.bool r) ∧ Below w.heap.size w w' := by
 have MW := Try.underlying23
 have HB := ae.mk (Below.refl w.heap.size w)
 have H : (if ay ≥ 0 then (if aA ≥ 1 then (if aA ≤ 10000 then (if ay ≤ (wrap64 (10000 - aA)) then (if aH ≥ 0 then (if aG ≥ 1 then (if aG ≤ 10000 then (some (decide (aH ≤ (wrap64 (10000 - aG))))) else (some false)) else (some false)) else (some false)) else (some false)) else (some false)) else (some false)) else (some false)) = some r := h
 clear h
 by_cases c2 : ay ≥ 0
 ·rw [if_pos c2] at H
  have Lr : decide (0 ≤ ay) = true := decide_eq_true c2
  clear c2
  by_cases c3 : aA ≥ 1
  ·rw [if_pos c3] at H
   have tC : decide (1 ≤ aA) = true := decide_eq_true c3
   clear c3
   by_cases c4 : aA ≤ 10000
   ·rw [if_pos c4] at H
    have CQ : decide (aA ≤ 10000) = true := decide_eq_true c4
    clear c4
    by_cases c5 : ay ≤ (wrap64 (10000 - aA))
    ·rw [if_pos c5] at H
     have Hw : decide (ay ≤ (wrap64 (10000 - aA))) = true := decide_eq_true c5
     clear c5
     by_cases c6 : aH ≥ 0
     ·rw [if_pos c6] at H
      have Bv : decide (0 ≤ aH) = true := decide_eq_true c6
      clear c6
      by_cases c7 : aG ≥ 1
      ·rw [if_pos c7] at H
       have wH : decide (1 ≤ aG) = true := decide_eq_true c7
       clear c7
       by_cases c8 : aG ≤ 10000
       ·rw [if_pos c8] at H
        have CS : decide (aG ≤ 10000) = true := decide_eq_true c8
        clear c8
        obtain rfl := Option.some.inj H
        go_enter Try.func128, Try.ntmps128
        go_wp2_with (((with_reducible refine aC (N := 1) rfl ?_); refine aK ?hg (N := 1) ?hd (cs := #[.int .i64 ay, .int .i64 aH, .int .i64 aA, .int .i64 aG]) (t := 23) ?hr ?_; (case hd => rfl); (case hg => rfl); (case hr => (go_simp; done)); intro gz hg w9 hbox hb; have dn := ae.mk (hbox); replace HB := ae.mk (ak (by repeat ((with_reducible exact HB.out))) hb); clear hb hbox hg; have OH : w9.cell? ⟨gz, 0, none⟩ = some (.int .i64 ay) := (af dn.out 0).trans rfl; have OI : w9.cell? ⟨gz, 1, none⟩ = some (.int .i64 aH) := (af dn.out 1).trans rfl; have OJ : w9.cell? ⟨gz, 2, none⟩ = some (.int .i64 aA) := (af dn.out 2).trans rfl; have OL : w9.cell? ⟨gz, 3, none⟩ = some (.int .i64 aG) := (af dn.out 3).trans rfl; have OU := ah dn.out 0; have OV := ah dn.out 1; have OW := ah dn.out 2; have OX := ah dn.out 3))
        go_ret
        exact ⟨by rfl, by repeat ((with_reducible exact HB.out))⟩
       ·rw [if_neg c8] at H
        have CS : decide (aG ≤ 10000) = false := decide_eq_false c8
        clear c8
        obtain rfl := Option.some.inj H
        go_enter Try.func128, Try.ntmps128
        go_wp2_with (((with_reducible refine aC (N := 1) rfl ?_); refine aK ?hg (N := 1) ?hd (cs := #[.int .i64 ay, .int .i64 aH, .int .i64 aA, .int .i64 aG]) (t := 23) ?hr ?_; (case hd => rfl); (case hg => rfl); (case hr => (go_simp; done)); intro gz hg zO hbox hb; have dn := ae.mk (hbox); replace HB := ae.mk (ak (by repeat ((with_reducible exact HB.out))) hb); clear hb hbox hg; have YK : zO.cell? ⟨gz, 0, none⟩ = some (.int .i64 ay) := (af dn.out 0).trans rfl; have YL : zO.cell? ⟨gz, 1, none⟩ = some (.int .i64 aH) := (af dn.out 1).trans rfl; have YM : zO.cell? ⟨gz, 2, none⟩ = some (.int .i64 aA) := (af dn.out 2).trans rfl; have YN : zO.cell? ⟨gz, 3, none⟩ = some (.int .i64 aG) := (af dn.out 3).trans rfl; have Zl := ah dn.out 0; have Zm := ah dn.out 1; have Zn := ah dn.out 2; have Zo := ah dn.out 3))
        go_ret
        exact ⟨by rfl, by repeat ((with_reducible exact HB.out))⟩
      ·rw [if_neg c7] at H
       have wH : decide (1 ≤ aG) = false := decide_eq_false c7
       clear c7
       obtain rfl := Option.some.inj H
       go_enter Try.func128, Try.ntmps128
       go_wp2_with (((with_reducible refine aC (N := 1) rfl ?_); refine aK ?hg (N := 1) ?hd (cs := #[.int .i64 ay, .int .i64 aH, .int .i64 aA, .int .i64 aG]) (t := 23) ?hr ?_; (case hd => rfl); (case hg => rfl); (case hr => (go_simp; done)); intro gz hg sZ hbox hb; have dn := ae.mk (hbox); replace HB := ae.mk (ak (by repeat ((with_reducible exact HB.out))) hb); clear hb hbox hg; have H9 : sZ.cell? ⟨gz, 0, none⟩ = some (.int .i64 ay) := (af dn.out 0).trans rfl; have H_ : sZ.cell? ⟨gz, 1, none⟩ = some (.int .i64 aH) := (af dn.out 1).trans rfl; have Ia : sZ.cell? ⟨gz, 2, none⟩ = some (.int .i64 aA) := (af dn.out 2).trans rfl; have Ib : sZ.cell? ⟨gz, 3, none⟩ = some (.int .i64 aG) := (af dn.out 3).trans rfl; have Ic := ah dn.out 0; have Ie := ah dn.out 1; have Ig := ah dn.out 2; have Ih := ah dn.out 3))
       go_ret
       exact ⟨by rfl, by repeat ((with_reducible exact HB.out))⟩
     ·rw [if_neg c6] at H
      have Bv : decide (0 ≤ aH) = false := decide_eq_false c6
      clear c6
      obtain rfl := Option.some.inj H
      go_enter Try.func128, Try.ntmps128
      go_wp2_with (((with_reducible refine aC (N := 1) rfl ?_); refine aK ?hg (N := 1) ?hd (cs := #[.int .i64 ay, .int .i64 aH, .int .i64 aA, .int .i64 aG]) (t := 23) ?hr ?_; (case hd => rfl); (case hg => rfl); (case hr => (go_simp; done)); intro gz hg tq hbox hb; have dn := ae.mk (hbox); replace HB := ae.mk (ak (by repeat ((with_reducible exact HB.out))) hb); clear hb hbox hg; have OM : tq.cell? ⟨gz, 0, none⟩ = some (.int .i64 ay) := (af dn.out 0).trans rfl; have OO : tq.cell? ⟨gz, 1, none⟩ = some (.int .i64 aH) := (af dn.out 1).trans rfl; have OQ : tq.cell? ⟨gz, 2, none⟩ = some (.int .i64 aA) := (af dn.out 2).trans rfl; have OT : tq.cell? ⟨gz, 3, none⟩ = some (.int .i64 aG) := (af dn.out 3).trans rfl; have OY := ah dn.out 0; have OZ := ah dn.out 1; have O0 := ah dn.out 2; have O1 := ah dn.out 3))
      go_ret
      exact ⟨by rfl, by repeat ((with_reducible exact HB.out))⟩
    ·rw [if_neg c5] at H
     have Hw : decide (ay ≤ (wrap64 (10000 - aA))) = false := decide_eq_false c5
     clear c5
     obtain rfl := Option.some.inj H
     go_enter Try.func128, Try.ntmps128
     go_wp2_with (((with_reducible refine aC (N := 1) rfl ?_); refine aK ?hg (N := 1) ?hd (cs := #[.int .i64 ay, .int .i64 aH, .int .i64 aA, .int .i64 aG]) (t := 23) ?hr ?_; (case hd => rfl); (case hg => rfl); (case hr => (go_simp; done)); intro gz hg U0 hbox hb; have dn := ae.mk (hbox); replace HB := ae.mk (ak (by repeat ((with_reducible exact HB.out))) hb); clear hb hbox hg; have YY : U0.cell? ⟨gz, 0, none⟩ = some (.int .i64 ay) := (af dn.out 0).trans rfl; have YZ : U0.cell? ⟨gz, 1, none⟩ = some (.int .i64 aH) := (af dn.out 1).trans rfl; have Y0 : U0.cell? ⟨gz, 2, none⟩ = some (.int .i64 aA) := (af dn.out 2).trans rfl; have Y1 : U0.cell? ⟨gz, 3, none⟩ = some (.int .i64 aG) := (af dn.out 3).trans rfl; have ZA := ah dn.out 0; have ZB := ah dn.out 1; have ZC := ah dn.out 2; have ZE := ah dn.out 3))
     go_ret
     exact ⟨by rfl, by repeat ((with_reducible exact HB.out))⟩
   ·rw [if_neg c4] at H
    have CQ : decide (aA ≤ 10000) = false := decide_eq_false c4
    clear c4
    obtain rfl := Option.some.inj H
    go_enter Try.func128, Try.ntmps128
    go_wp2_with (((with_reducible refine aC (N := 1) rfl ?_); refine aK ?hg (N := 1) ?hd (cs := #[.int .i64 ay, .int .i64 aH, .int .i64 aA, .int .i64 aG]) (t := 23) ?hr ?_; (case hd => rfl); (case hg => rfl); (case hr => (go_simp; done)); intro gz hg EH hbox hb; have dn := ae.mk (hbox); replace HB := ae.mk (ak (by repeat ((with_reducible exact HB.out))) hb); clear hb hbox hg; have Y2 : EH.cell? ⟨gz, 0, none⟩ = some (.int .i64 ay) := (af dn.out 0).trans rfl; have Y3 : EH.cell? ⟨gz, 1, none⟩ = some (.int .i64 aH) := (af dn.out 1).trans rfl; have Y4 : EH.cell? ⟨gz, 2, none⟩ = some (.int .i64 aA) := (af dn.out 2).trans rfl; have Y5 : EH.cell? ⟨gz, 3, none⟩ = some (.int .i64 aG) := (af dn.out 3).trans rfl; have ZF := ah dn.out 0; have ZG := ah dn.out 1; have ZH := ah dn.out 2; have ZI := ah dn.out 3))
    go_ret
    exact ⟨by rfl, by repeat ((with_reducible exact HB.out))⟩
  ·rw [if_neg c3] at H
   have tC : decide (1 ≤ aA) = false := decide_eq_false c3
   clear c3
   obtain rfl := Option.some.inj H
   go_enter Try.func128, Try.ntmps128
   go_wp2_with (((with_reducible refine aC (N := 1) rfl ?_); refine aK ?hg (N := 1) ?hd (cs := #[.int .i64 ay, .int .i64 aH, .int .i64 aA, .int .i64 aG]) (t := 23) ?hr ?_; (case hd => rfl); (case hg => rfl); (case hr => (go_simp; done)); intro gz hg G_ hbox hb; have dn := ae.mk (hbox); replace HB := ae.mk (ak (by repeat ((with_reducible exact HB.out))) hb); clear hb hbox hg; have Y6 : G_.cell? ⟨gz, 0, none⟩ = some (.int .i64 ay) := (af dn.out 0).trans rfl; have Y7 : G_.cell? ⟨gz, 1, none⟩ = some (.int .i64 aH) := (af dn.out 1).trans rfl; have Y8 : G_.cell? ⟨gz, 2, none⟩ = some (.int .i64 aA) := (af dn.out 2).trans rfl; have Y9 : G_.cell? ⟨gz, 3, none⟩ = some (.int .i64 aG) := (af dn.out 3).trans rfl; have ZJ := ah dn.out 0; have ZK := ah dn.out 1; have ZL := ah dn.out 2; have ZM := ah dn.out 3))
   go_ret
   exact ⟨by rfl, by repeat ((with_reducible exact HB.out))⟩
 ·rw [if_neg c2] at H
  have Lr : decide (0 ≤ ay) = false := decide_eq_false c2
  clear c2
  obtain rfl := Option.some.inj H
  go_enter Try.func128, Try.ntmps128
  go_wp2_with (((with_reducible refine aC (N := 1) rfl ?_); refine aK ?hg (N := 1) ?hd (cs := #[.int .i64 ay, .int .i64 aH, .int .i64 aA, .int .i64 aG]) (t := 23) ?hr ?_; (case hd => rfl); (case hg => rfl); (case hr => (go_simp; done)); intro gz hg Ha hbox hb; have dn := ae.mk (hbox); replace HB := ae.mk (ak (by repeat ((with_reducible exact HB.out))) hb); clear hb hbox hg; have Y_ : Ha.cell? ⟨gz, 0, none⟩ = some (.int .i64 ay) := (af dn.out 0).trans rfl; have Za : Ha.cell? ⟨gz, 1, none⟩ = some (.int .i64 aH) := (af dn.out 1).trans rfl; have Zb : Ha.cell? ⟨gz, 2, none⟩ = some (.int .i64 aA) := (af dn.out 2).trans rfl; have Zc : Ha.cell? ⟨gz, 3, none⟩ = some (.int .i64 aG) := (af dn.out 3).trans rfl; have ZN := ah dn.out 0; have ZO := ah dn.out 1; have ZP := ah dn.out 2; have ZQ := ah dn.out 3))
  go_ret
  exact ⟨by rfl, by repeat ((with_reducible exact HB.out))⟩
def oh.f (ay : Int) (aH : Int) (aA : Int) (aG : Int) : Option (Bool) := if ay < 0 then (some false) else (if ay > 10000 then (some false) else (if aH < 0 then (some false) else (if aH > 10000 then (some false) else (if aA > 0 then (if aA ≤ 10000 then (if aG > 0 then (if aG ≤ 10000 then (if (wrap64 (ay + aA)) ≤ 10000 then (some (decide ((wrap64 (aH + aG)) ≤ 10000))) else (some false)) else (some false)) else (some false)) else (some false)) else (some false)))))
theorem oh.calls (ay : Int) (aH : Int) (aA : Int) (aG : Int) (r : Bool) (w : World) (h : oh.f ay aH aA aG = some r) :
  Calls Try.prog 57 #[.agg #[.int .i64 ay, .int .i64 aH, .int .i64 aA, .int .i64 aG]] w fun e w' => e = .returned (.bool r) ∧ Below w.heap.size w w' := by
 have MW := Try.underlying23
 have HB := ae.mk (Below.refl w.heap.size w)
 have H : (if ay < 0 then (some false) else (if ay > 10000 then (some false) else (if aH < 0 then (some false) else (if aH > 10000 then (some false) else (if aA > 0 then (if aA ≤ 10000 then (if aG > 0 then (if aG ≤ 10000 then (if (wrap64 (ay + aA)) ≤ 10000 then (some (decide ((wrap64 (aH + aG)) ≤ 10000))) else (some false)) else (some false)) else (some false)) else (some false)) else (some false)))))) = some r := h
 clear h
 by_cases c2 : ay < 0
 ·rw [if_pos c2] at H
  have Lr : decide (ay < 0) = true := decide_eq_true c2
  clear c2
  obtain rfl := Option.some.inj H
  go_enter Try.func57, Try.ntmps57
  go_wp2_with (((with_reducible refine aC (N := 1) rfl ?_); refine aK ?hg (N := 1) ?hd (cs := #[.int .i64 ay, .int .i64 aH, .int .i64 aA, .int .i64 aG]) (t := 23) ?hr ?_; (case hd => rfl); (case hg => rfl); (case hr => (go_simp; done)); intro eQ hg w3 hbox hb; have bM := ae.mk (hbox); replace HB := ae.mk (ak (by repeat ((with_reducible exact HB.out))) hb); clear hb hbox hg; have MI : w3.cell? ⟨eQ, 0, none⟩ = some (.int .i64 ay) := (af bM.out 0).trans rfl; have MJ : w3.cell? ⟨eQ, 1, none⟩ = some (.int .i64 aH) := (af bM.out 1).trans rfl; have MK : w3.cell? ⟨eQ, 2, none⟩ = some (.int .i64 aA) := (af bM.out 2).trans rfl; have ML : w3.cell? ⟨eQ, 3, none⟩ = some (.int .i64 aG) := (af bM.out 3).trans rfl; have MO := ah bM.out 0; have MP := ah bM.out 1; have MQ := ah bM.out 2; have MR := ah bM.out 3))
  go_ret
  exact ⟨by rfl, by repeat ((with_reducible exact HB.out))⟩
 ·rw [if_neg c2] at H
  have Lr : decide (ay < 0) = false := decide_eq_false c2
  clear c2
  by_cases c5 : ay > 10000
  ·rw [if_pos c5] at H
   have Hw : decide (10000 < ay) = true := decide_eq_true c5
   clear c5
   obtain rfl := Option.some.inj H
   go_enter Try.func57, Try.ntmps57
   go_wp2_with (((with_reducible refine aC (N := 1) rfl ?_); refine aK ?hg (N := 1) ?hd (cs := #[.int .i64 ay, .int .i64 aH, .int .i64 aA, .int .i64 aG]) (t := 23) ?hr ?_; (case hd => rfl); (case hg => rfl); (case hr => (go_simp; done)); intro eQ hg w6 hbox hb; have bM := ae.mk (hbox); replace HB := ae.mk (ak (by repeat ((with_reducible exact HB.out))) hb); clear hb hbox hg; have acX : w6.cell? ⟨eQ, 0, none⟩ = some (.int .i64 ay) := (af bM.out 0).trans rfl; have acY : w6.cell? ⟨eQ, 1, none⟩ = some (.int .i64 aH) := (af bM.out 1).trans rfl; have acZ : w6.cell? ⟨eQ, 2, none⟩ = some (.int .i64 aA) := (af bM.out 2).trans rfl; have ac0 : w6.cell? ⟨eQ, 3, none⟩ = some (.int .i64 aG) := (af bM.out 3).trans rfl; have ade := ah bM.out 0; have adf := ah bM.out 1; have adg := ah bM.out 2; have adh := ah bM.out 3))
   go_ret
   exact ⟨by rfl, by repeat ((with_reducible exact HB.out))⟩
  ·rw [if_neg c5] at H
   have Hw : decide (10000 < ay) = false := decide_eq_false c5
   clear c5
   by_cases c8 : aH < 0
   ·rw [if_pos c8] at H
    have CS : decide (aH < 0) = true := decide_eq_true c8
    clear c8
    obtain rfl := Option.some.inj H
    go_enter Try.func57, Try.ntmps57
    go_wp2_with (((with_reducible refine aC (N := 1) rfl ?_); refine aK ?hg (N := 1) ?hd (cs := #[.int .i64 ay, .int .i64 aH, .int .i64 aA, .int .i64 aG]) (t := 23) ?hr ?_; (case hd => rfl); (case hg => rfl); (case hr => (go_simp; done)); intro eQ hg w9 hbox hb; have bM := ae.mk (hbox); replace HB := ae.mk (ak (by repeat ((with_reducible exact HB.out))) hb); clear hb hbox hg; have OH : w9.cell? ⟨eQ, 0, none⟩ = some (.int .i64 ay) := (af bM.out 0).trans rfl; have OI : w9.cell? ⟨eQ, 1, none⟩ = some (.int .i64 aH) := (af bM.out 1).trans rfl; have OJ : w9.cell? ⟨eQ, 2, none⟩ = some (.int .i64 aA) := (af bM.out 2).trans rfl; have OL : w9.cell? ⟨eQ, 3, none⟩ = some (.int .i64 aG) := (af bM.out 3).trans rfl; have OU := ah bM.out 0; have OV := ah bM.out 1; have OW := ah bM.out 2; have OX := ah bM.out 3))
    go_ret
    exact ⟨by rfl, by repeat ((with_reducible exact HB.out))⟩
   ·rw [if_neg c8] at H
    have CS : decide (aH < 0) = false := decide_eq_false c8
    clear c8
    by_cases c11 : aH > 10000
    ·rw [if_pos c11] at H
     have Gg : decide (10000 < aH) = true := decide_eq_true c11
     clear c11
     obtain rfl := Option.some.inj H
     go_enter Try.func57, Try.ntmps57
     go_wp2_with (((with_reducible refine aC (N := 1) rfl ?_); refine aK ?hg (N := 1) ?hd (cs := #[.int .i64 ay, .int .i64 aH, .int .i64 aA, .int .i64 aG]) (t := 23) ?hr ?_; (case hd => rfl); (case hg => rfl); (case hr => (go_simp; done)); intro eQ hg w12 hbox hb; have bM := ae.mk (hbox); replace HB := ae.mk (ak (by repeat ((with_reducible exact HB.out))) hb); clear hb hbox hg; have YO : w12.cell? ⟨eQ, 0, none⟩ = some (.int .i64 ay) := (af bM.out 0).trans rfl; have YP : w12.cell? ⟨eQ, 1, none⟩ = some (.int .i64 aH) := (af bM.out 1).trans rfl; have YQ : w12.cell? ⟨eQ, 2, none⟩ = some (.int .i64 aA) := (af bM.out 2).trans rfl; have YR : w12.cell? ⟨eQ, 3, none⟩ = some (.int .i64 aG) := (af bM.out 3).trans rfl; have Zp := ah bM.out 0; have Zq := ah bM.out 1; have Zr := ah bM.out 2; have Zt := ah bM.out 3))
     go_ret
     exact ⟨by rfl, by repeat ((with_reducible exact HB.out))⟩
    ·rw [if_neg c11] at H
     have Gg : decide (10000 < aH) = false := decide_eq_false c11
     clear c11
     by_cases c14 : aA > 0
     ·rw [if_pos c14] at H
      have aeW : decide (0 < aA) = true := decide_eq_true c14
      clear c14
      by_cases c15 : aA ≤ 10000
      ·rw [if_pos c15] at H
       have aeX : decide (aA ≤ 10000) = true := decide_eq_true c15
       clear c15
       by_cases c16 : aG > 0
       ·rw [if_pos c16] at H
        have Qa : decide (0 < aG) = true := decide_eq_true c16
        clear c16
        by_cases c17 : aG ≤ 10000
        ·rw [if_pos c17] at H
         have aeZ : decide (aG ≤ 10000) = true := decide_eq_true c17
         clear c17
         by_cases c18 : (wrap64 (ay + aA)) ≤ 10000
         ·rw [if_pos c18] at H
          have ae0 : decide ((wrap64 (ay + aA)) ≤ 10000) = true := decide_eq_true c18
          clear c18
          obtain rfl := Option.some.inj H
          go_enter Try.func57, Try.ntmps57
          go_wp2_with (((with_reducible refine aC (N := 1) rfl ?_); refine aK ?hg (N := 1) ?hd (cs := #[.int .i64 ay, .int .i64 aH, .int .i64 aA, .int .i64 aG]) (t := 23) ?hr ?_; (case hd => rfl); (case hg => rfl); (case hr => (go_simp; done)); intro eQ hg EH hbox hb; have bM := ae.mk (hbox); replace HB := ae.mk (ak (by repeat ((with_reducible exact HB.out))) hb); clear hb hbox hg; have Y2 : EH.cell? ⟨eQ, 0, none⟩ = some (.int .i64 ay) := (af bM.out 0).trans rfl; have Y3 : EH.cell? ⟨eQ, 1, none⟩ = some (.int .i64 aH) := (af bM.out 1).trans rfl; have Y4 : EH.cell? ⟨eQ, 2, none⟩ = some (.int .i64 aA) := (af bM.out 2).trans rfl; have Y5 : EH.cell? ⟨eQ, 3, none⟩ = some (.int .i64 aG) := (af bM.out 3).trans rfl; have ZF := ah bM.out 0; have ZG := ah bM.out 1; have ZH := ah bM.out 2; have ZI := ah bM.out 3))
          go_ret
          exact ⟨by rfl, by repeat ((with_reducible exact HB.out))⟩
         ·rw [if_neg c18] at H
          have ae0 : decide ((wrap64 (ay + aA)) ≤ 10000) = false := decide_eq_false c18
          clear c18
          obtain rfl := Option.some.inj H
          go_enter Try.func57, Try.ntmps57
          go_wp2_with (((with_reducible refine aC (N := 1) rfl ?_); refine aK ?hg (N := 1) ?hd (cs := #[.int .i64 ay, .int .i64 aH, .int .i64 aA, .int .i64 aG]) (t := 23) ?hr ?_; (case hd => rfl); (case hg => rfl); (case hr => (go_simp; done)); intro eQ hg G_ hbox hb; have bM := ae.mk (hbox); replace HB := ae.mk (ak (by repeat ((with_reducible exact HB.out))) hb); clear hb hbox hg; have Y6 : G_.cell? ⟨eQ, 0, none⟩ = some (.int .i64 ay) := (af bM.out 0).trans rfl; have Y7 : G_.cell? ⟨eQ, 1, none⟩ = some (.int .i64 aH) := (af bM.out 1).trans rfl; have Y8 : G_.cell? ⟨eQ, 2, none⟩ = some (.int .i64 aA) := (af bM.out 2).trans rfl; have Y9 : G_.cell? ⟨eQ, 3, none⟩ = some (.int .i64 aG) := (af bM.out 3).trans rfl; have ZJ := ah bM.out 0; have ZK := ah bM.out 1; have ZL := ah bM.out 2; have ZM := ah bM.out 3))
          go_ret
          exact ⟨by rfl, by repeat ((with_reducible exact HB.out))⟩
        ·rw [if_neg c17] at H
         have aeZ : decide (aG ≤ 10000) = false := decide_eq_false c17
         clear c17
         obtain rfl := Option.some.inj H
         go_enter Try.func57, Try.ntmps57
         go_wp2_with (((with_reducible refine aC (N := 1) rfl ?_); refine aK ?hg (N := 1) ?hd (cs := #[.int .i64 ay, .int .i64 aH, .int .i64 aA, .int .i64 aG]) (t := 23) ?hr ?_; (case hd => rfl); (case hg => rfl); (case hr => (go_simp; done)); intro eQ hg Ha hbox hb; have bM := ae.mk (hbox); replace HB := ae.mk (ak (by repeat ((with_reducible exact HB.out))) hb); clear hb hbox hg; have Y_ : Ha.cell? ⟨eQ, 0, none⟩ = some (.int .i64 ay) := (af bM.out 0).trans rfl; have Za : Ha.cell? ⟨eQ, 1, none⟩ = some (.int .i64 aH) := (af bM.out 1).trans rfl; have Zb : Ha.cell? ⟨eQ, 2, none⟩ = some (.int .i64 aA) := (af bM.out 2).trans rfl; have Zc : Ha.cell? ⟨eQ, 3, none⟩ = some (.int .i64 aG) := (af bM.out 3).trans rfl; have ZN := ah bM.out 0; have ZO := ah bM.out 1; have ZP := ah bM.out 2; have ZQ := ah bM.out 3))
         go_ret
         exact ⟨by rfl, by repeat ((with_reducible exact HB.out))⟩
       ·rw [if_neg c16] at H
        have Qa : decide (0 < aG) = false := decide_eq_false c16
        clear c16
        obtain rfl := Option.some.inj H
        go_enter Try.func57, Try.ntmps57
        go_wp2_with (((with_reducible refine aC (N := 1) rfl ?_); refine aK ?hg (N := 1) ?hd (cs := #[.int .i64 ay, .int .i64 aH, .int .i64 aA, .int .i64 aG]) (t := 23) ?hr ?_; (case hd => rfl); (case hg => rfl); (case hr => (go_simp; done)); intro eQ hg X6 hbox hb; have bM := ae.mk (hbox); replace HB := ae.mk (ak (by repeat ((with_reducible exact HB.out))) hb); clear hb hbox hg; have ahm : X6.cell? ⟨eQ, 0, none⟩ = some (.int .i64 ay) := (af bM.out 0).trans rfl; have ahn : X6.cell? ⟨eQ, 1, none⟩ = some (.int .i64 aH) := (af bM.out 1).trans rfl; have aho : X6.cell? ⟨eQ, 2, none⟩ = some (.int .i64 aA) := (af bM.out 2).trans rfl; have ahp : X6.cell? ⟨eQ, 3, none⟩ = some (.int .i64 aG) := (af bM.out 3).trans rfl; have ahE := ah bM.out 0; have ahF := ah bM.out 1; have ahG := ah bM.out 2; have ahH := ah bM.out 3))
        go_ret
        exact ⟨by rfl, by repeat ((with_reducible exact HB.out))⟩
      ·rw [if_neg c15] at H
       have aeX : decide (aA ≤ 10000) = false := decide_eq_false c15
       clear c15
       obtain rfl := Option.some.inj H
       go_enter Try.func57, Try.ntmps57
       go_wp2_with (((with_reducible refine aC (N := 1) rfl ?_); refine aK ?hg (N := 1) ?hd (cs := #[.int .i64 ay, .int .i64 aH, .int .i64 aA, .int .i64 aG]) (t := 23) ?hr ?_; (case hd => rfl); (case hg => rfl); (case hr => (go_simp; done)); intro eQ hg X7 hbox hb; have bM := ae.mk (hbox); replace HB := ae.mk (ak (by repeat ((with_reducible exact HB.out))) hb); clear hb hbox hg; have ahq : X7.cell? ⟨eQ, 0, none⟩ = some (.int .i64 ay) := (af bM.out 0).trans rfl; have ahr : X7.cell? ⟨eQ, 1, none⟩ = some (.int .i64 aH) := (af bM.out 1).trans rfl; have ahs : X7.cell? ⟨eQ, 2, none⟩ = some (.int .i64 aA) := (af bM.out 2).trans rfl; have aht : X7.cell? ⟨eQ, 3, none⟩ = some (.int .i64 aG) := (af bM.out 3).trans rfl; have ahI := ah bM.out 0; have ahJ := ah bM.out 1; have ahK := ah bM.out 2; have ahL := ah bM.out 3))
       go_ret
       exact ⟨by rfl, by repeat ((with_reducible exact HB.out))⟩
     ·rw [if_neg c14] at H
      have aeW : decide (0 < aA) = false := decide_eq_false c14
      clear c14
      obtain rfl := Option.some.inj H
      go_enter Try.func57, Try.ntmps57
      go_wp2_with (((with_reducible refine aC (N := 1) rfl ?_); refine aK ?hg (N := 1) ?hd (cs := #[.int .i64 ay, .int .i64 aH, .int .i64 aA, .int .i64 aG]) (t := 23) ?hr ?_; (case hd => rfl); (case hg => rfl); (case hr => (go_simp; done)); intro eQ hg JE hbox hb; have bM := ae.mk (hbox); replace HB := ae.mk (ak (by repeat ((with_reducible exact HB.out))) hb); clear hb hbox hg; have ahu : JE.cell? ⟨eQ, 0, none⟩ = some (.int .i64 ay) := (af bM.out 0).trans rfl; have ahv : JE.cell? ⟨eQ, 1, none⟩ = some (.int .i64 aH) := (af bM.out 1).trans rfl; have ahw : JE.cell? ⟨eQ, 2, none⟩ = some (.int .i64 aA) := (af bM.out 2).trans rfl; have ahx : JE.cell? ⟨eQ, 3, none⟩ = some (.int .i64 aG) := (af bM.out 3).trans rfl; have ahM := ah bM.out 0; have ahN := ah bM.out 1; have ahO := ah bM.out 2; have ahP := ah bM.out 3))
      go_ret
      exact ⟨by rfl, by repeat ((with_reducible exact HB.out))⟩
end Go.Proofs.Ytfdmfgaiblfbhaa.P
namespace Go.Proofs.Ytfdmfgaiblfbhaa.P
open Go.RowKit Go.Proofs.ag.aQ Go.Proofs.ag.bu Go.Proofs.ag.bP
theorem wq {x : Int} (h0 : -9223372036854775808 ≤ x) (h1 : x ≤ 9223372036854775807) : wrap64 x = x := by unfold wrap64; omega
theorem acs {α : Type} {c : Prop} [Decidable c] {g f : Nat → Option α} {r : α} (hc : c) (h : Ev g r) : Ev (fun k => if c then g k else f k) r := by simp only [if_pos hc]; exact h
def o7 (X Y W H : Int) : Bool := decide (0 ≤ X ∧ 1 ≤ W ∧ W ≤ 10000 ∧ X + W ≤ 10000 ∧ 0 ≤ Y ∧ 1 ≤ H ∧ H ≤ 10000 ∧ Y + H ≤ 10000)
theorem uS {X Y W H : Int} : o7 X Y W H = true ↔ (0 ≤ X ∧ 1 ≤ W ∧ W ≤ 10000 ∧ X + W ≤ 10000 ∧ 0 ≤ Y ∧ 1 ≤ H ∧ H ≤ 10000 ∧ Y + H ≤ 10000) := by unfold o7; rw [decide_eq_true_iff]
theorem Nc (X Y W H : Int) : wM.f X Y W H = some (o7 X Y W H) := by
 unfold wM.f o7
 by_cases h1 : X ≥ 0
 ·by_cases h2 : W ≥ 1
  ·by_cases h3 : W ≤ 10000
   ·rw [if_pos h1, if_pos h2, if_pos h3, wq (x := 10000 - W) (by omega) (by omega)]
    by_cases h4 : X ≤ 10000 - W
    ·rw [if_pos h4]
     by_cases h5 : Y ≥ 0
     ·by_cases h6 : H ≥ 1
      ·by_cases h7 : H ≤ 10000
       ·rw [if_pos h5, if_pos h6, if_pos h7, wq (x := 10000 - H) (by omega) (by omega)]
        congr 1
        rw [decide_eq_decide]
        omega
       ·rw [if_pos h5, if_pos h6, if_neg h7, decide_eq_false (by omega)]
      ·rw [if_pos h5, if_neg h6, decide_eq_false (by omega)]
     ·rw [if_neg h5, decide_eq_false (by omega)]
    ·rw [if_neg h4, decide_eq_false (by omega)]
   ·rw [if_pos h1, if_pos h2, if_neg h3, decide_eq_false (by omega)]
  ·rw [if_pos h1, if_neg h2, decide_eq_false (by omega)]
 ·rw [if_neg h1, decide_eq_false (by omega)]
theorem EE (X Y W H : Int) : oh.f X Y W H = some (o7 X Y W H) := by
 unfold oh.f o7
 by_cases h1 : X < 0
 ·rw [if_pos h1, decide_eq_false (by omega)]
 ·rw [if_neg h1]
  by_cases h2 : X > 10000
  ·rw [if_pos h2, decide_eq_false (by omega)]
  ·rw [if_neg h2]
   by_cases h3 : Y < 0
   ·rw [if_pos h3, decide_eq_false (by omega)]
   ·rw [if_neg h3]
    by_cases h4 : Y > 10000
    ·rw [if_pos h4, decide_eq_false (by omega)]
    ·rw [if_neg h4]
     by_cases h5 : W > 0
     ·by_cases h6 : W ≤ 10000
      ·by_cases h7 : H > 0
       ·by_cases h8 : H ≤ 10000
        ·rw [if_pos h5, if_pos h6, if_pos h7, if_pos h8, wq (x := X + W) (by omega) (by omega), wq (x := Y + H) (by omega) (by omega)]
         by_cases h9 : X + W ≤ 10000
         ·rw [if_pos h9]
          congr 1
          rw [decide_eq_decide]
          omega
         ·rw [if_neg h9, decide_eq_false (by omega)]
        ·rw [if_pos h5, if_pos h6, if_pos h7, if_neg h8, decide_eq_false (by omega)]
       ·rw [if_pos h5, if_pos h6, if_neg h7, decide_eq_false (by omega)]
      ·rw [if_pos h5, if_neg h6, decide_eq_false (by omega)]
     ·rw [if_neg h5, decide_eq_false (by omega)]
def jW (r : dw) : Bool := o7 r.f0 r.f1 r.f2 r.f3
end Go.Proofs.Ytfdmfgaiblfbhaa.P
namespace Go.Proofs.Ytfdmfgaiblfbhaa.P
open Go.RowKit Go.Proofs.ag.aQ Go.Proofs.ag.bu Go.Proofs.ag.bP
attribute [local go_sem] jo jC jU kH jS jT kU kW
mutual
def di.l0 : Nat → Int → Int → Int → Int → Int → Int → Int → Int → Int → Int → List (ai) → Option (Int)
 | 0, _, _, _, _, _, _, _, _, _, _, _ => none
 | k + 1, x1, x5, x9, x10, aaJ, aaK, aaL, aaM, aaN, aaO, sS => if x10 < x9 then (if x5 > x1 then (some x5) else (if 0 ≤ x10 then (if x10 < (sS.length : Int) then ((di.f k ((az sS x10).f0) ((az sS x10).f1.f0) ((az sS x10).f1.f1) ((az sS x10).f1.f2) ((az sS x10).f1.f3) ((az sS x10).f2) ((az sS x10).f3) x1).bind fun t103 => (di.l0 k x1 (wrap64 (x5 + t103)) x9 (wrap64 (x10 + 1)) aaJ aaK aaL aaM aaN aaO sS)) else (none)) else (none))) else (some x5)
def di.f : Nat → Int → Int → Int → Int → Int → Int → List (ai) → Int → Option (Int)
 | 0, _, _, _, _, _, _, _, _ => none
 | k + 1, ay, aH, aA, aG, aY, a_, aJ, a1 => di.l0 k a1 1 (aJ.length : Int) 0 ay aH aA aG aY a_ aJ
end
theorem di.calls (k : Nat) : ∀ (ay : Int) (aH : Int) (aA : Int) (aG : Int) (aY : Int) (a_ : Int) (dE : Option Addr) (dF : Nat) (aJ : List (ai)) (a1 : Int) (r : Int) (w : World) (qW : Kd.C k26 w dE aJ.length aJ) (sG : aJ.length ≤ dF) (h : di.f k ay aH aA aG aY a_ aJ a1 = some r),
  Calls Try.prog 124 #[.agg #[.int .u8 ay, .int .i64 aH, .int .i64 aA, .int .i64 aG, .int .i64 aY, .int .i64 a_, .slice dE aJ.length dF], .int .i64 a1] w fun e w' => e = .returned (.int .i64 r) ∧ Below w.heap.size w w' := by
 induction k using Nat.strongRecOn with
 | _ k ih =>
 intro ay aH aA aG aY a_ dE dF aJ a1 r w qW sG h
 cases k with
 | zero => exact absurd h (by simp [di.f])
 | succ k =>
 simp only [di.f] at h
 have Il := Try.underlying26
 have PW := ae.mk qW
 clear qW sG
 have HB := ae.mk (Below.refl w.heap.size w)
 have H : (di.l0 k a1 1 (aJ.length : Int) 0 ay aH aA aG aY a_ aJ) = some r := h
 clear h
 have H' := ae.mk H
 clear H
 go_enter Try.func124, Try.ntmps124
 go_wp2_with (((with_reducible refine aC (N := 2) rfl ?_); refine aK ?hg (N := 2) ?hd (cs := #[.int .u8 ay, .int .i64 aH, .int .i64 aA, .int .i64 aG, .int .i64 aY, .int .i64 a_, .slice dE aJ.length dF]) (t := 26) ?hr ?_; (case hd => rfl); (case hg => rfl); (case hr => (go_simp; done)); intro qm hg w3 hbox hb; have iK := ae.mk (hbox); replace HB := ae.mk (ak (by repeat ((with_reducible exact HB.out))) hb); clear hb hbox hg; have MI : w3.cell? ⟨qm, 0, none⟩ = some (.int .u8 ay) := (af iK.out 0).trans rfl; have MJ : w3.cell? ⟨qm, 1, none⟩ = some (.int .i64 aH) := (af iK.out 1).trans rfl; have MK : w3.cell? ⟨qm, 2, none⟩ = some (.int .i64 aA) := (af iK.out 2).trans rfl; have ML : w3.cell? ⟨qm, 3, none⟩ = some (.int .i64 aG) := (af iK.out 3).trans rfl; have Tc : w3.cell? ⟨qm, 4, none⟩ = some (.int .i64 aY) := (af iK.out 4).trans rfl; have Td : w3.cell? ⟨qm, 5, none⟩ = some (.int .i64 a_) := (af iK.out 5).trans rfl; have Tf : w3.cell? ⟨qm, 6, none⟩ = some (.slice dE aJ.length dF) := (af iK.out 6).trans rfl; have MO := ah iK.out 0; have MP := ah iK.out 1; have MQ := ah iK.out 2; have MR := ah iK.out 3; have TG := ah iK.out 4; have TI := ah iK.out 5; have TJ := ah iK.out 6))
 go_loopg [5, 10] k (fun kq v5 v10 w' => ∃ (lC : Int) (dJ : Int), v5 = .int .i64 lC ∧ v10 = .int .i64 dJ ∧ ae (di.l0 kq a1 lC (aJ.length : Int) dJ ay aH aA aG aY a_ aJ = some r) ∧ ae (kq ≤ k) ∧ ae (w'.heap[qm]? = some (.cells #[.int .u8 ay, .int .i64 aH, .int .i64 aA, .int .i64 aG, .int .i64 aY, .int .i64 a_, (.slice dE aJ.length dF)] 26 (0, 0))) ∧ ae (Below w.heap.size w w'))
 case atStart => exact ⟨(1), (0), (by rfl), (by rfl), H', ⟨Nat.le_refl _⟩, ⟨by exact iK.out⟩, ⟨by repeat ((with_reducible exact HB.out))⟩⟩
 case round =>
  clear H'
  clear MI MJ MK ML Tc Td Tf MO MP MQ MR TG TI TJ
  obtain ⟨lC, dJ, rfl, rfl, HA, nz, iK, HB⟩ := hrel
  cases gk with
  | zero => exact absurd HA.out (by simp [di.l0])
  | succ k1 =>
   have H := HA.out
   clear HA
   simp only [di.l0] at H
   by_cases c5 : dJ < (aJ.length : Int)
   ·rw [if_pos c5] at H
    have Hw : decide (dJ < (aJ.length : Int)) = true := decide_eq_true c5
    clear c5
    by_cases c6 : lC > a1
    ·rw [if_pos c6] at H
     have Bv : decide (a1 < lC) = true := decide_eq_true c6
     clear c6
     obtain rfl := Option.some.inj H
     go_wp2
     go_ret
     exact ⟨by rfl, by repeat ((with_reducible exact HB.out))⟩
    ·rw [if_neg c6] at H
     have Bv : decide (a1 < lC) = false := decide_eq_false c6
     clear c6
     by_cases c7 : 0 ≤ dJ
     ·rw [if_pos c7] at H
      have wH : decide (0 ≤ dJ) = true := decide_eq_true c7
      clear c7
      by_cases c8 : dJ < (aJ.length : Int)
      ·rw [if_pos c8] at H
       have CS : decide (dJ < (aJ.length : Int)) = true := decide_eq_true c8
       clear c8
       replace H := Option.bind_eq_some_iff.mp H
       obtain ⟨t103, A90, H⟩ := H
       replace H : (di.l0 k1 a1 (wrap64 (lC + t103)) (aJ.length : Int) (wrap64 (dJ + 1)) ay aH aA aG aY a_ aJ) = some r := H
       have A9 := ae.mk A90
       clear A90
       have H' := ae.mk H
       clear H
       have OH : wr.cell? ⟨qm, 0, none⟩ = some (.int .u8 ay) := (af iK.out 0).trans rfl
       have OI : wr.cell? ⟨qm, 1, none⟩ = some (.int .i64 aH) := (af iK.out 1).trans rfl
       have OJ : wr.cell? ⟨qm, 2, none⟩ = some (.int .i64 aA) := (af iK.out 2).trans rfl
       have OL : wr.cell? ⟨qm, 3, none⟩ = some (.int .i64 aG) := (af iK.out 3).trans rfl
       have ahg : wr.cell? ⟨qm, 4, none⟩ = some (.int .i64 aY) := (af iK.out 4).trans rfl
       have ahh : wr.cell? ⟨qm, 5, none⟩ = some (.int .i64 a_) := (af iK.out 5).trans rfl
       have ahi : wr.cell? ⟨qm, 6, none⟩ = some (.slice dE aJ.length dF) := (af iK.out 6).trans rfl
       have OU := ah iK.out 0
       have OV := ah iK.out 1
       have OW := ah iK.out 2
       have OX := ah iK.out 3
       have ahy := ah iK.out 4
       have ahz := ah iK.out 5
       have ahA := ah iK.out 6
       have WE : 0 ≤ (dJ : Int) := of_decide_eq_true (by (with_reducible assumption))
       have WN : dJ < (aJ.length : Int) := of_decide_eq_true (by (with_reducible assumption))
       obtain ⟨ajZ, aa0, ab2, agJ, Io, Ip, Iq, Ir, Iu, Iw, Iy, O4, O3⟩ := rF PW.out dJ WE WN
       cases agJ
       replace Io := (HB.out.cell (World.block_lt_of_cell? w _ Io)).trans Io
       replace Ip := (HB.out.cell (World.block_lt_of_cell? w _ Ip)).trans Ip
       replace Iq := (HB.out.cell (World.block_lt_of_cell? w _ Iq)).trans Iq
       replace Ir := (HB.out.cell (World.block_lt_of_cell? w _ Ir)).trans Ir
       replace Iu := (HB.out.cell (World.block_lt_of_cell? w _ Iu)).trans Iu
       replace Iw := (HB.out.cell (World.block_lt_of_cell? w _ Iw)).trans Iw
       replace Iy := (HB.out.cell (World.block_lt_of_cell? w _ Iy)).trans Iy
       have Yf := ae.mk O3
       have Ye := ae.mk O4
       clear O3 O4
       replace WE := eq_true WE
       replace WN := eq_true WN
       go_wp2_with (((with_reducible refine kP (f := 124) rfl ?_); refine mM (some 24) rfl rfl Try.func124 (by kernel_rfl) rfl #[.agg #[.int .u8 ((az aJ dJ).f0), .int .i64 ((az aJ dJ).f1.f0), .int .i64 ((az aJ dJ).f1.f1), .int .i64 ((az aJ dJ).f1.f2), .int .i64 ((az aJ dJ).f1.f3), .int .i64 ((az aJ dJ).f2), .slice aa0 ((az aJ dJ).f3).length ab2], .int .i64 a1] rfl (by (try simp only [List.map_toArray, List.map_cons, List.map_nil]); rfl) ?_; (with_reducible refine (ih k1 (by have := nz.out; omega) ((az aJ dJ).f0) ((az aJ dJ).f1.f0) ((az aJ dJ).f1.f1) ((az aJ dJ).f1.f2) ((az aJ dJ).f1.f3) ((az aJ dJ).f2) _ _ ((az aJ dJ).f3) a1 t103 _ ?sO ?yI A9.out).mono ?_); (case sO => repeat (exact (Kd.iq Yf.out HB.out))); (case yI => exact Ye.out); rintro e zO ⟨rfl, hb⟩; refine ⟨_, rfl, ?_⟩; replace iK := ae.mk (aI iK.out hb); replace HB := ae.mk (ak (by repeat ((with_reducible exact HB.out))) hb); (try clear hb)))
       go_roundg k1
       case measure => have := nz.out; omega
       case rel => exact ⟨(wrap64 (lC + t103)), (wrap64 (dJ + 1)), (by rfl), (by rfl), H', ⟨by have := nz.out; omega⟩, ⟨by exact iK.out⟩, ⟨by repeat ((with_reducible exact HB.out))⟩⟩
      ·rw [if_neg c8] at H
       exact absurd H (by simp)
     ·rw [if_neg c7] at H
      exact absurd H (by simp)
   ·rw [if_neg c5] at H
    have Hw : decide (dJ < (aJ.length : Int)) = false := decide_eq_false c5
    clear c5
    obtain rfl := Option.some.inj H
    go_wp2
    go_ret
    exact ⟨by rfl, by repeat ((with_reducible exact HB.out))⟩
def iE.f (k : Nat) (ay : Int) (aH : Int) (aA : Int) (aG : Int) (aY : Int) (a_ : Int) (aJ : List (ai)) : Option (Bool) := (di.f k ay aH aA aG aY a_ aJ 200).bind fun t105 => (some (decide (t105 > 200)))
theorem iE.calls (k : Nat) (ay : Int) (aH : Int) (aA : Int) (aG : Int) (aY : Int) (a_ : Int) (dE : Option Addr) (dF : Nat) (aJ : List (ai)) (r : Bool) (w : World) (qW : Kd.C k26 w dE aJ.length aJ) (sG : aJ.length ≤ dF) (h : iE.f k ay aH aA aG aY a_ aJ = some r) :
  Calls Try.prog 34 #[.agg #[.int .u8 ay, .int .i64 aH, .int .i64 aA, .int .i64 aG, .int .i64 aY, .int .i64 a_, .slice dE aJ.length dF]] w fun e w' => e = .returned (.bool r) ∧ Below w.heap.size w w' := by
 have Il := Try.underlying26
 have PW := ae.mk qW
 have aep := ae.mk sG
 clear qW sG
 have HB := ae.mk (Below.refl w.heap.size w)
 have H : ((di.f k ay aH aA aG aY a_ aJ 200).bind fun t105 => (some (decide (t105 > 200)))) = some r := h
 clear h
 replace H := Option.bind_eq_some_iff.mp H
 obtain ⟨t105, Rh, H⟩ := H
 replace H : (some (decide (t105 > 200))) = some r := H
 have A2 := ae.mk Rh
 clear Rh
 obtain rfl := Option.some.inj H
 go_enter Try.func34, Try.ntmps34
 go_wp2_with (first | ((with_reducible refine aC (N := 1) rfl ?_); refine aK ?hg (N := 1) ?hd (cs := #[.int .u8 ay, .int .i64 aH, .int .i64 aA, .int .i64 aG, .int .i64 aY, .int .i64 a_, .slice dE aJ.length dF]) (t := 26) ?hr ?_; (case hd => rfl); (case hg => rfl); (case hr => (go_simp; done)); intro BD hg w3 hbox hb; have o_ := ae.mk (hbox); replace HB := ae.mk (ak (by repeat ((with_reducible exact HB.out))) hb); clear hb hbox hg; have MI : w3.cell? ⟨BD, 0, none⟩ = some (.int .u8 ay) := (af o_.out 0).trans rfl; have MJ : w3.cell? ⟨BD, 1, none⟩ = some (.int .i64 aH) := (af o_.out 1).trans rfl; have MK : w3.cell? ⟨BD, 2, none⟩ = some (.int .i64 aA) := (af o_.out 2).trans rfl; have ML : w3.cell? ⟨BD, 3, none⟩ = some (.int .i64 aG) := (af o_.out 3).trans rfl; have Tc : w3.cell? ⟨BD, 4, none⟩ = some (.int .i64 aY) := (af o_.out 4).trans rfl; have Td : w3.cell? ⟨BD, 5, none⟩ = some (.int .i64 a_) := (af o_.out 5).trans rfl; have Tf : w3.cell? ⟨BD, 6, none⟩ = some (.slice dE aJ.length dF) := (af o_.out 6).trans rfl; have MO := ah o_.out 0; have MP := ah o_.out 1; have MQ := ah o_.out 2; have MR := ah o_.out 3; have TG := ah o_.out 4; have TI := ah o_.out 5; have TJ := ah o_.out 6) | ((with_reducible refine kP (f := 124) rfl ?_); refine mM (some 4) rfl rfl Try.func124 (by kernel_rfl) rfl #[.agg #[.int .u8 ay, .int .i64 aH, .int .i64 aA, .int .i64 aG, .int .i64 aY, .int .i64 a_, .slice dE aJ.length dF], .int .i64 200] rfl (by (try simp only [List.map_toArray, List.map_cons, List.map_nil]); rfl) ?_; (with_reducible refine (di.calls k ay aH aA aG aY a_ _ _ aJ 200 t105 _ ?sO ?yI A2.out).mono ?_); (case sO => repeat (exact (Kd.iq PW.out HB.out))); (case yI => exact aep.out); rintro e w5 ⟨rfl, hb⟩; refine ⟨_, rfl, ?_⟩; replace o_ := ae.mk (aI o_.out hb); replace HB := ae.mk (ak (by repeat ((with_reducible exact HB.out))) hb); (try clear hb)))
 go_ret
 exact ⟨by rfl, by repeat ((with_reducible exact HB.out))⟩
mutual
def dm.l0 : Nat → List (ai) → Int → Int → Int → Int → Int → Int → Int → Int → List (ai) → Option ((List (ai)))
 | 0, _, _, _, _, _, _, _, _, _, _ => none
 | k + 1, x3, x9, x10, aaP, aaQ, aaR, aaS, aaT, aaU, sU => if x10 < x9 then (if 0 ≤ x10 then (if x10 < (sU.length : Int) then ((dm.f k ((az sU x10).f0) ((az sU x10).f1.f0) ((az sU x10).f1.f1) ((az sU x10).f1.f2) ((az sU x10).f1.f3) ((az sU x10).f2) ((az sU x10).f3)).bind fun t136 => (if x3.length + t136.length < 1954687338268 then (dm.l0 k (x3 ++ t136) x9 (wrap64 (x10 + 1)) aaP aaQ aaR aaS aaT aaU sU) else (none))) else (none)) else (none)) else (some x3)
def dm.f : Nat → Int → Int → Int → Int → Int → Int → List (ai) → Option ((List (ai)))
 | 0, _, _, _, _, _, _, _ => none
 | k + 1, ay, aH, aA, aG, aY, a_, aJ => dm.l0 k (([(⟨ay, (⟨aH, aA, aG, aY⟩ : dw), a_, aJ⟩ : ai)] : List (ai))) (aJ.length : Int) 0 ay aH aA aG aY a_ aJ
end
theorem dm.calls (k : Nat) : ∀ (ay : Int) (aH : Int) (aA : Int) (aG : Int) (aY : Int) (a_ : Int) (fC : Nat → Prop) (dE : Option Addr) (dF : Nat) (aJ : List (ai)) (r : List (ai)) (w : World) (Ec : Kd.V k26 26 w w.heap.size (fun k_ => fC k_) (.slice dE aJ.length dF) aJ) (h : dm.f k ay aH aA aG aY a_ aJ = some r),
  Calls Try.prog 79 #[.agg #[.int .u8 ay, .int .i64 aH, .int .i64 aA, .int .i64 aG, .int .i64 aY, .int .i64 a_, .slice dE aJ.length dF]] w fun e w' => ∃ uX : Value, e = .returned (uX) ∧ Kd.N k26 26 w' w.heap.size (fun k_ => (fC k_ ∨ w.heap.size ≤ k_)) uX r ∧ Below w.heap.size w w' := by
 induction k using Nat.strongRecOn with
 | _ k ih =>
 intro ay aH aA aG aY a_ fC dE dF aJ r w Ec h
 cases k with
 | zero => exact absurd h (by simp [dm.f])
 | succ k =>
 simp only [dm.f] at h
 have Il := Try.underlying26
 have jb := ae.mk (show Kd.V k26 26 w w.heap.size (fun k_ => (fC k_ ∨ w.heap.size ≤ k_)) (.slice dE aJ.length dF) aJ from Kd.gJ Ec (fun k_ hk => .inl hk))
 have HB := ae.mk (Below.refl w.heap.size w)
 have H : (dm.l0 k (([(⟨ay, (⟨aH, aA, aG, aY⟩ : dw), a_, aJ⟩ : ai)] : List (ai))) (aJ.length : Int) 0 ay aH aA aG aY a_ aJ) = some r := h
 clear h
 obtain ⟨aei, Qv⟩ : ∃ y_ : List (ai), y_ = (([(⟨ay, (⟨aH, aA, aG, aY⟩ : dw), a_, aJ⟩ : ai)] : List (ai))) := ⟨_, rfl⟩
 replace H : (dm.l0 k aei (aJ.length : Int) 0 ay aH aA aG aY a_ aJ) = some r := by (rw [Qv]; with_reducible exact H)
 have aey := ae.mk Qv
 clear Qv
 have H' := ae.mk H
 clear H
 go_enter Try.func79, Try.ntmps79
 go_wp2_with (first | ((with_reducible refine aC (N := 1) rfl ?_); refine aK ?hg (N := 1) ?hd (cs := #[.int .u8 ay, .int .i64 aH, .int .i64 aA, .int .i64 aG, .int .i64 aY, .int .i64 a_, .slice dE aJ.length dF]) (t := 26) ?hr ?_; (case hd => rfl); (case hg => rfl); (case hr => (go_simp; done)); intro gU hg w2 hbox hb; have dX := ae.mk (hbox); replace jb := ae.mk (Kd.ja (Kd.nG jb.out gU (Nat.le_of_eq hg.symm)) hb); replace HB := ae.mk (ak (by repeat ((with_reducible exact HB.out))) hb); clear hb hbox hg; have acM : w2.cell? ⟨gU, 0, none⟩ = some (.int .u8 ay) := (af dX.out 0).trans rfl; have acN : w2.cell? ⟨gU, 1, none⟩ = some (.int .i64 aH) := (af dX.out 1).trans rfl; have acO : w2.cell? ⟨gU, 2, none⟩ = some (.int .i64 aA) := (af dX.out 2).trans rfl; have acP : w2.cell? ⟨gU, 3, none⟩ = some (.int .i64 aG) := (af dX.out 3).trans rfl; have acQ : w2.cell? ⟨gU, 4, none⟩ = some (.int .i64 aY) := (af dX.out 4).trans rfl; have acR : w2.cell? ⟨gU, 5, none⟩ = some (.int .i64 a_) := (af dX.out 5).trans rfl; have acS : w2.cell? ⟨gU, 6, none⟩ = some (.slice dE aJ.length dF) := (af dX.out 6).trans rfl; have ac3 := ah dX.out 0; have ac4 := ah dX.out 1; have ac5 := ah dX.out 2; have ac6 := ah dX.out 3; have ac7 := ah dX.out 4; have ac8 := ah dX.out 5; have ac9 := ah dX.out 6) | ((with_reducible refine aC (N := 6) rfl ?_); refine Kd.yA k26 _ 26 ?hg (N' := 6) ?hd (xs := ([(⟨ay, (⟨aH, aA, aG, aY⟩ : dw), a_, aJ⟩ : ai)] : List (ai))) (inner := [.int .u8 ay, .int .i64 aH, .int .i64 aA, .int .i64 aG, .int .i64 aY, .int .i64 a_, .slice dE aJ.length dF]) (ok := (fun k_ => (fC k_ ∨ w.heap.size ≤ k_) ∧ k_ ≠ gU)) (fB := (fun k_ => (fC k_ ∨ w.heap.size ≤ k_) ∧ k_ ≠ gU)) ?hr ?hp (fun _ hk => hk) ((show ∀ k_, w2.heap.size ≤ k_ → (fun k_ => (fC k_ ∨ w.heap.size ≤ k_) ∧ k_ ≠ gU) k_ from fun k_ hk => ⟨(.inr (Nat.le_trans (dS (by repeat ((with_reducible exact HB.out)))) hk)), Kd.yX dX.out k_ hk⟩) _ (Nat.le_refl _)) (Below.refl _ _) (Nat.le_refl _) (by simp) ?_; (case hd => rfl); (case hg => rfl); (case hr => (go_simp; done)); (case hp => exact (bQ.c7 (show Kd.FK k26 _ _ (⟨ay, (⟨aH, aA, aG, aY⟩ : dw), a_, aJ⟩ : ai) [.int .u8 ay, .int .i64 aH, .int .i64 aA, .int .i64 aG, .int .i64 aY, .int .i64 a_, .slice dE aJ.length dF] from (nY _ _ (⟨ay, (⟨aH, aA, aG, aY⟩ : dw), a_, aJ⟩ : ai) (Kd.kR (Kd.gJ (ok' := (fun k_ => (fC k_ ∨ w.heap.size ≤ k_) ∧ k_ ≠ gU)) (jb.out) (fun k_ hk => ⟨hk.1, hk.2⟩))).2.1 (Kd.RP (Kd.gJ (ok' := (fun k_ => (fC k_ ∨ w.heap.size ≤ k_) ∧ k_ ≠ gU)) (jb.out) (fun k_ hk => ⟨hk.1, hk.2⟩))))) (bQ.none _ _))); intro akA w4 Gw hb nI jm; clear nI jm; (rw [← aey.out] at Gw); have aeq := ae.mk (Kd.uM Gw (dS (by repeat ((with_reducible exact HB.out))))); replace jb := ae.mk (Kd.wF jb.out (Kd.vk Gw) hb); replace dX := ae.mk (aI dX.out hb); replace HB := ae.mk (ak (by repeat ((with_reducible exact HB.out))) hb); clear hb Gw; have CX : w4.cell? ⟨gU, 0, none⟩ = some (.int .u8 ay) := (af dX.out 0).trans rfl; have CY : w4.cell? ⟨gU, 1, none⟩ = some (.int .i64 aH) := (af dX.out 1).trans rfl; have CZ : w4.cell? ⟨gU, 2, none⟩ = some (.int .i64 aA) := (af dX.out 2).trans rfl; have C9 : w4.cell? ⟨gU, 3, none⟩ = some (.int .i64 aG) := (af dX.out 3).trans rfl; have C_ : w4.cell? ⟨gU, 4, none⟩ = some (.int .i64 aY) := (af dX.out 4).trans rfl; have Dc : w4.cell? ⟨gU, 5, none⟩ = some (.int .i64 a_) := (af dX.out 5).trans rfl; have Df : w4.cell? ⟨gU, 6, none⟩ = some (.slice dE aJ.length dF) := (af dX.out 6).trans rfl; have Dh := ah dX.out 0; have Di := ah dX.out 1; have Dj := ah dX.out 2; have Dk := ah dX.out 3; have Dl := ah dX.out 4; have Dn := ah dX.out 5; have Dp := ah dX.out 6))
 go_loopg [3, 10] k (fun kq v3 v10 w' => ∃ (tJ : List (ai)) (dJ : Int), v10 = .int .i64 dJ ∧ ae (dm.l0 kq tJ (aJ.length : Int) dJ ay aH aA aG aY a_ aJ = some r) ∧ ae (kq ≤ k) ∧ ae (Kd.N k26 26 w' w.heap.size (fun k_ => (fC k_ ∨ w.heap.size ≤ k_) ∧ k_ ≠ gU) v3 tJ) ∧ ae (Kd.V k26 26 w' w.heap.size (fun k_ => (fC k_ ∨ w.heap.size ≤ k_) ∧ some k_ ≠ (v3 : Value).ownBlock ∧ k_ ≠ gU) (.slice dE aJ.length dF) aJ) ∧ ae (w'.heap[gU]? = some (.cells #[.int .u8 ay, .int .i64 aH, .int .i64 aA, .int .i64 aG, .int .i64 aY, .int .i64 a_, (.slice dE aJ.length dF)] 26 (0, 0))) ∧ ae (Below w.heap.size w w'))
 case atStart => exact ⟨(aei), (0), (by rfl), H', ⟨Nat.le_refl _⟩, ⟨by exact aeq.out⟩, ⟨by exact Kd.gJ jb.out (fun _ hk => ⟨hk.1.1, ⟨hk.2, hk.1.2⟩⟩)⟩, ⟨by exact dX.out⟩, ⟨by repeat ((with_reducible exact HB.out))⟩⟩
 case round =>
  clear H'
  clear acM acN acO acP acQ acR acS CX CY CZ C9 C_ Dc Df ac3 ac4 ac5 ac6 ac7 ac8 ac9 Dh Di Dj Dk Dl Dn Dp
  obtain ⟨tJ, dJ, rfl, HA, nz, wE, rD, dX, HB⟩ := hrel
  cases gk with
  | zero => exact absurd HA.out (by simp [dm.l0])
  | succ k1 =>
   have H := HA.out
   clear HA
   simp only [dm.l0] at H
   by_cases c7 : dJ < (aJ.length : Int)
   ·rw [if_pos c7] at H
    have wH : decide (dJ < (aJ.length : Int)) = true := decide_eq_true c7
    clear c7
    by_cases c8 : 0 ≤ dJ
    ·rw [if_pos c8] at H
     have CS : decide (0 ≤ dJ) = true := decide_eq_true c8
     clear c8
     by_cases c9 : dJ < (aJ.length : Int)
     ·rw [if_pos c9] at H
      have Lu : decide (dJ < (aJ.length : Int)) = true := decide_eq_true c9
      clear c9
      replace H := Option.bind_eq_some_iff.mp H
      obtain ⟨t136, aaZ, H⟩ := H
      replace H : (if tJ.length + t136.length < 1954687338268 then (dm.l0 k1 (tJ ++ t136) (aJ.length : Int) (wrap64 (dJ + 1)) ay aH aA aG aY a_ aJ) else (none)) = some r := H
      have A10 := ae.mk aaZ
      clear aaZ
      by_cases c11 : tJ.length + t136.length < 1954687338268
      ·rw [if_pos c11] at H
       have aew := ae.mk c11
       clear c11
       obtain ⟨aej, Qw⟩ : ∃ y_ : List (ai), y_ = (tJ ++ t136) := ⟨_, rfl⟩
       replace H : (dm.l0 k1 aej (aJ.length : Int) (wrap64 (dJ + 1)) ay aH aA aG aY a_ aJ) = some r := by (rw [Qw]; with_reducible exact H)
       have aez := ae.mk Qw
       clear Qw
       have H' := ae.mk H
       clear H
       have YK : wr.cell? ⟨gU, 0, none⟩ = some (.int .u8 ay) := (af dX.out 0).trans rfl
       have YL : wr.cell? ⟨gU, 1, none⟩ = some (.int .i64 aH) := (af dX.out 1).trans rfl
       have YM : wr.cell? ⟨gU, 2, none⟩ = some (.int .i64 aA) := (af dX.out 2).trans rfl
       have YN : wr.cell? ⟨gU, 3, none⟩ = some (.int .i64 aG) := (af dX.out 3).trans rfl
       have ahj : wr.cell? ⟨gU, 4, none⟩ = some (.int .i64 aY) := (af dX.out 4).trans rfl
       have ahk : wr.cell? ⟨gU, 5, none⟩ = some (.int .i64 a_) := (af dX.out 5).trans rfl
       have ahl : wr.cell? ⟨gU, 6, none⟩ = some (.slice dE aJ.length dF) := (af dX.out 6).trans rfl
       have Zl := ah dX.out 0
       have Zm := ah dX.out 1
       have Zn := ah dX.out 2
       have Zo := ah dX.out 3
       have ahB := ah dX.out 4
       have ahC := ah dX.out 5
       have ahD := ah dX.out 6
       have QI : 0 ≤ (dJ : Int) := of_decide_eq_true (by (with_reducible assumption))
       have QP : dJ < (aJ.length : Int) := of_decide_eq_true (by (with_reducible assumption))
       obtain ⟨aj0, aa1, ab3, agK, ahQ, ahR, ahS, ahT, ahU, ahV, ZW, ZU, ZR⟩ := rF (Kd.kR rD.out).2.2 dJ QI QP
       cases agK
       obtain ⟨aj7, acK, acH, S9⟩ := Kd.aeK rD.out z26 dJ QI QP
       obtain ⟨ah3, ah5, rfl, IL, H6⟩ := mY acH
       have Ed := S9 6 _ rfl
       rw [jM _ _ 6 (by omega)] at Ed
       replace Ed := Option.some.inj (Ed.symm.trans ZW)
       injection Ed with yZ Fq y7
       rw [yZ] at H6
       rw [y7] at IL
       have Ad := ae.mk (show Kd.V k26 26 _ w.heap.size _ _ ((az aJ dJ).f3) from Kd.uD IL H6)
       clear yZ Fq y7 H6 IL
       clear S9 acK
       clear ZR ZU
       replace QI := eq_true QI
       replace QP := eq_true QP
       go_wp2_with (first | ((with_reducible refine kP (f := 79) rfl ?_); refine mM (some 19) rfl rfl Try.func79 (by kernel_rfl) rfl #[.agg #[.int .u8 ((az aJ dJ).f0), .int .i64 ((az aJ dJ).f1.f0), .int .i64 ((az aJ dJ).f1.f1), .int .i64 ((az aJ dJ).f1.f2), .int .i64 ((az aJ dJ).f1.f3), .int .i64 ((az aJ dJ).f2), .slice aa1 ((az aJ dJ).f3).length ab3]] rfl (by (try simp only [List.map_toArray, List.map_cons, List.map_nil]); rfl) ?_; (with_reducible refine (ih k1 (by have := nz.out; omega) ((az aJ dJ).f0) ((az aJ dJ).f1.f0) ((az aJ dJ).f1.f1) ((az aJ dJ).f1.f2) ((az aJ dJ).f1.f3) ((az aJ dJ).f2) (fun k_ => ((fC k_ ∨ w.heap.size ≤ k_) ∧ (some k_ ≠ (u3 : Value).ownBlock ∧ k_ ≠ gU))) _ _ ((az aJ dJ).f3) t136 _ ?sO A10.out).mono ?_); (case sO => exact Ad.out); rintro e sZ ⟨akB, rfl, ho0, hb⟩; refine ⟨_, rfl, ?_⟩; have JP := ae.mk (Kd.uM (Kd.iM (ok' := fun k_ => (fC k_ ∨ w.heap.size ≤ k_) ∧ some k_ ≠ (u3 : Value).ownBlock ∧ k_ ≠ gU) ho0 (fun k_ MV => ⟨Or.elim MV (fun hs_ => hs_.1) (fun Dq => (.inr (Nat.le_trans (dS (by repeat ((with_reducible exact HB.out)))) Dq))), Or.elim MV (fun hs_ => hs_.2.1) (fun Dq => (Kd.fresh' (Kd.EU wE.out) k_ Dq)), Or.elim MV (fun hs_ => hs_.2.2) (fun Dq => (Kd.yX dX.out k_ Dq))⟩)) (dS (by repeat ((with_reducible exact HB.out))))); replace wE := ae.mk (Kd.KG wE.out (Kd.vk ho0) hb); replace rD := ae.mk (Kd.wF rD.out (Kd.vk ho0) hb); replace Ad := ae.mk (Kd.wF Ad.out (Kd.vk ho0) hb); replace dX := ae.mk (aI dX.out hb); replace HB := ae.mk (ak (by repeat ((with_reducible exact HB.out))) hb); (try clear hb); (try clear ho0); obtain ⟨U5, VC, VM⟩ := Kd.jy JP.out; subst VM) | ((with_reducible refine vU (b := .append) (xs := #[.tmp 13, .tmp 19]) rfl ?_); at_builtin; refine Kd.Cb k26 (w0 := w) w.heap.size rfl (.tmp 13) (.tmp 19) 24 26 (.agg #[(.int .u8 0), (.int .i64 0), (.int .i64 0), (.int .i64 0), (.int .i64 0), (.int .i64 0), (.slice none 0 0)]) 72 rfl Try.underlying24 info26 rfl (by decide) (by omega) u3 tJ t136 _ _ _ (fun k_ => (fC k_ ∨ w.heap.size ≤ k_) ∧ k_ ≠ gU) (fun k_ => ((fun k_ => (fC k_ ∨ w.heap.size ≤ k_) ∧ k_ ≠ gU)) k_ ∧ some k_ ≠ (u3 : Value).ownBlock) rfl rfl ?aO ?aR (fun _ hk => hk) ?aF ?aB ?aS ?aL ?_; (case aR => exact (by exact Kd.Xr (Kd.iM (ok' := (fun k_ => ((fun k_ => (fC k_ ∨ w.heap.size ≤ k_) ∧ k_ ≠ gU)) k_ ∧ some k_ ≠ (u3 : Value).ownBlock)) (JP.out) (fun k_ hk => ⟨⟨hk.1, hk.2.2⟩, hk.2.1⟩)))); (case aB => exact (by repeat ((with_reducible exact HB.out)))); (case aF => exact (fun k_ hk => ⟨(.inr (Nat.le_trans (dS (by repeat ((with_reducible exact HB.out)))) hk)), Kd.yX dX.out k_ hk⟩)); (case aO => exact (by exact Kd.iM wE.out (fun _ hk => ⟨hk.1.1, hk.1.2⟩))); (case aS => exact (dS (by repeat ((with_reducible exact HB.out))))); (case aL => have := aew.out; omega); intro akC w14 ho hb hg hat; rw [← aez.out] at ho; have aer := ae.mk (ho); replace rD := ae.mk (Kd.Bi (ok := (fun k_ => (fC k_ ∨ w.heap.size ≤ k_) ∧ some k_ ≠ (.slice U5 t136.length VC : Value).ownBlock ∧ k_ ≠ gU)) (by exact Kd.gJ rD.out (fun _ hk => ⟨⟨hk.1.1, ⟨hk.2, hk.1.2.2⟩⟩, hk.1.2.1⟩)) hg hat); replace dX := ae.mk (cO dX.out hg (Kd.Rz wE.out (fun _ hk => hk.1.2))); replace Ad := ae.mk (Kd.Bi (ok := (fun k_ => (fC k_ ∨ w.heap.size ≤ k_) ∧ some k_ ≠ (.slice U5 t136.length VC : Value).ownBlock ∧ k_ ≠ gU)) (by exact Kd.gJ Ad.out (fun _ hk => ⟨⟨hk.1.1, ⟨hk.2, hk.1.2.2⟩⟩, hk.1.2.1⟩)) hg hat); replace JP := ae.mk (Kd.KF (ok := (fun k_ => (fC k_ ∨ w.heap.size ≤ k_) ∧ k_ ≠ gU)) (by exact Kd.iM JP.out (fun _ hk => ⟨⟨hk.1, hk.2.2⟩, hk.2.1⟩)) hg hat); replace HB := ae.mk (hb); clear wE; clear ho hb hg hat))
       go_roundg k1
       case measure => have := nz.out; omega
       case rel => exact ⟨(aej), (wrap64 (dJ + 1)), (by rfl), H', ⟨by have := nz.out; omega⟩, ⟨by exact aer.out⟩, ⟨by exact Kd.gJ rD.out (fun _ hk => ⟨hk.1.1, ⟨hk.2, hk.1.2.2⟩⟩)⟩, ⟨by exact dX.out⟩, ⟨by repeat ((with_reducible exact HB.out))⟩⟩
      ·rw [if_neg c11] at H
       exact absurd H (by simp)
     ·rw [if_neg c9] at H
      exact absurd H (by simp)
    ·rw [if_neg c8] at H
     exact absurd H (by simp)
   ·rw [if_neg c7] at H
    have wH : decide (dJ < (aJ.length : Int)) = false := decide_eq_false c7
    clear c7
    obtain rfl := Option.some.inj H
    go_wp2
    go_ret
    exact ⟨_, by rfl, by exact Kd.iM wE.out (fun _ hk => hk.1), by repeat ((with_reducible exact HB.out))⟩
def dI.l0 : Nat → List (ai) → List (ai) → Int → Int → Option ((List (ai)))
 | 0, _, _, _, _ => none
 | k + 1, x3, x4, x10, x11 => if x11 < x10 then (if 0 ≤ x11 then (if x11 < (x4.length : Int) then (if ((az x4 x11).f0) = 1 then (if x3.length < 1954687338268 then (dI.l0 k (x3 ++ [(⟨(az x4 x11).f0, (⟨(az x4 x11).f1.f0, (az x4 x11).f1.f1, (az x4 x11).f1.f2, (az x4 x11).f1.f3⟩ : dw), (az x4 x11).f2, (az x4 x11).f3⟩ : ai)]) x4 x10 (wrap64 (x11 + 1))) else (none)) else (dI.l0 k x3 x4 x10 (wrap64 (x11 + 1)))) else (none)) else (none)) else (some x3)
def dI.f (k : Nat) (ay : Int) (aH : Int) (aA : Int) (aG : Int) (aY : Int) (a_ : Int) (aJ : List (ai)) : Option ((List (ai))) := (dm.f k ay aH aA aG aY a_ aJ).bind fun t146 => (dI.l0 k (([] : List (ai))) t146 (t146.length : Int) 0)
theorem dI.calls (k : Nat) (ay : Int) (aH : Int) (aA : Int) (aG : Int) (aY : Int) (a_ : Int) (fC : Nat → Prop) (dE : Option Addr) (dF : Nat) (aJ : List (ai)) (r : List (ai)) (w : World) (Ec : Kd.V k26 26 w w.heap.size (fun k_ => fC k_) (.slice dE aJ.length dF) aJ) (h : dI.f k ay aH aA aG aY a_ aJ = some r) :
  Calls Try.prog 126 #[.agg #[.int .u8 ay, .int .i64 aH, .int .i64 aA, .int .i64 aG, .int .i64 aY, .int .i64 a_, .slice dE aJ.length dF]] w fun e w' => ∃ uX : Value, e = .returned (uX) ∧ Kd.N k26 26 w' w.heap.size (fun k_ => (fC k_ ∨ w.heap.size ≤ k_)) uX r ∧ Below w.heap.size w w' := by
 have Il := Try.underlying26
 have jb := ae.mk (show Kd.V k26 26 w w.heap.size (fun k_ => (fC k_ ∨ w.heap.size ≤ k_)) (.slice dE aJ.length dF) aJ from Kd.gJ Ec (fun k_ hk => .inl hk))
 have HB := ae.mk (Below.refl w.heap.size w)
 have H : ((dm.f k ay aH aA aG aY a_ aJ).bind fun t146 => (dI.l0 k (([] : List (ai))) t146 (t146.length : Int) 0)) = some r := h
 clear h
 obtain ⟨Xh, Qx⟩ : ∃ y_ : List (ai), y_ = (([] : List (ai))) := ⟨_, rfl⟩
 replace H : ((dm.f k ay aH aA aG aY a_ aJ).bind fun t146 => (dI.l0 k Xh t146 (t146.length : Int) 0)) = some r := by (rw [Qx]; with_reducible exact H)
 have aeA := ae.mk Qx
 clear Qx
 replace H := Option.bind_eq_some_iff.mp H
 obtain ⟨t146, Rh, H⟩ := H
 replace H : (dI.l0 k Xh t146 (t146.length : Int) 0) = some r := H
 have A2 := ae.mk Rh
 clear Rh
 have H' := ae.mk H
 clear H
 go_enter Try.func126, Try.ntmps126
 go_wp2_with (first | ((with_reducible refine aC (N := 1) rfl ?_); refine aK ?hg (N := 1) ?hd (cs := #[.int .u8 ay, .int .i64 aH, .int .i64 aA, .int .i64 aG, .int .i64 aY, .int .i64 a_, .slice dE aJ.length dF]) (t := 26) ?hr ?_; (case hd => rfl); (case hg => rfl); (case hr => (go_simp; done)); intro kL hg w3 hbox hb; have jF := ae.mk (hbox); replace jb := ae.mk (Kd.ja (Kd.nG jb.out kL (Nat.le_of_eq hg.symm)) hb); replace HB := ae.mk (ak (by repeat ((with_reducible exact HB.out))) hb); clear hb hbox hg) | ((with_reducible refine aC (N := 6) rfl ?_); refine Kd.yA k26 _ 26 ?hg (N' := 6) ?hd (xs := ([] : List (ai))) (inner := []) (ok := (fun k_ => (fC k_ ∨ w.heap.size ≤ k_) ∧ k_ ≠ kL)) (fB := (fun k_ => (fC k_ ∨ w.heap.size ≤ k_) ∧ k_ ≠ kL)) ?hr ?hp (fun _ hk => hk) ((show ∀ k_, w3.heap.size ≤ k_ → (fun k_ => (fC k_ ∨ w.heap.size ≤ k_) ∧ k_ ≠ kL) k_ from fun k_ hk => ⟨(.inr (Nat.le_trans (dS (by repeat ((with_reducible exact HB.out)))) hk)), Kd.yX jF.out k_ hk⟩) _ (Nat.le_refl _)) (Below.refl _ _) (Nat.le_refl _) (by simp) ?_; (case hd => rfl); (case hg => rfl); (case hr => (go_simp; done)); (case hp => exact (bQ.none _ _)); intro aed w4 Gw hb nI jm; clear nI jm; (rw [← aeA.out] at Gw); have JQ := ae.mk (Kd.uM Gw (dS (by repeat ((with_reducible exact HB.out))))); replace jb := ae.mk (Kd.wF jb.out (Kd.vk Gw) hb); replace jF := ae.mk (aI jF.out hb); replace HB := ae.mk (ak (by repeat ((with_reducible exact HB.out))) hb); clear hb Gw; have CX : w4.cell? ⟨kL, 0, none⟩ = some (.int .u8 ay) := (af jF.out 0).trans rfl; have CY : w4.cell? ⟨kL, 1, none⟩ = some (.int .i64 aH) := (af jF.out 1).trans rfl; have CZ : w4.cell? ⟨kL, 2, none⟩ = some (.int .i64 aA) := (af jF.out 2).trans rfl; have C9 : w4.cell? ⟨kL, 3, none⟩ = some (.int .i64 aG) := (af jF.out 3).trans rfl; have C_ : w4.cell? ⟨kL, 4, none⟩ = some (.int .i64 aY) := (af jF.out 4).trans rfl; have Dc : w4.cell? ⟨kL, 5, none⟩ = some (.int .i64 a_) := (af jF.out 5).trans rfl; have Df : w4.cell? ⟨kL, 6, none⟩ = some (.slice dE aJ.length dF) := (af jF.out 6).trans rfl; have Dh := ah jF.out 0; have Di := ah jF.out 1; have Dj := ah jF.out 2; have Dk := ah jF.out 3; have Dl := ah jF.out 4; have Dn := ah jF.out 5; have Dp := ah jF.out 6) | ((with_reducible refine kP (f := 79) rfl ?_); refine mM (some 8) rfl rfl Try.func79 (by kernel_rfl) rfl #[.agg #[.int .u8 ay, .int .i64 aH, .int .i64 aA, .int .i64 aG, .int .i64 aY, .int .i64 a_, .slice dE aJ.length dF]] rfl (by (try simp only [List.map_toArray, List.map_cons, List.map_nil]); rfl) ?_; (with_reducible refine (dm.calls k ay aH aA aG aY a_ (fun k_ => (((fC k_ ∨ w.heap.size ≤ k_) ∧ k_ ≠ kL) ∧ some k_ ≠ (aed : Value).ownBlock)) _ _ aJ t146 _ ?sO A2.out).mono ?_); (case sO => exact jb.out); rintro e w7 ⟨akD, rfl, ho0, hb⟩; refine ⟨_, rfl, ?_⟩; have Xn := ae.mk (Kd.uM (Kd.iM (ok' := fun k_ => (fC k_ ∨ w.heap.size ≤ k_) ∧ some k_ ≠ (aed : Value).ownBlock ∧ k_ ≠ kL) ho0 (fun k_ MV => ⟨Or.elim MV (fun hs_ => hs_.1.1) (fun Dq => (.inr (Nat.le_trans (dS (by repeat ((with_reducible exact HB.out)))) Dq))), Or.elim MV (fun hs_ => hs_.2) (fun Dq => (Kd.fresh' (Kd.EU JQ.out) k_ Dq)), Or.elim MV (fun hs_ => hs_.1.2) (fun Dq => (Kd.yX jF.out k_ Dq))⟩)) (dS (by repeat ((with_reducible exact HB.out))))); replace jb := ae.mk (Kd.wF jb.out (Kd.vk ho0) hb); replace JQ := ae.mk (Kd.KG JQ.out (Kd.vk ho0) hb); replace jF := ae.mk (aI jF.out hb); replace HB := ae.mk (ak (by repeat ((with_reducible exact HB.out))) hb); (try clear hb); (try clear ho0); obtain ⟨Ao8, Gp, eo8⟩ := Kd.jy Xn.out; subst eo8))
 go_loopg [3, 11] k (fun kq v3 v11 w' => ∃ (tJ : List (ai)) (bK : Int), v11 = .int .i64 bK ∧ ae (dI.l0 kq tJ t146 (t146.length : Int) bK = some r) ∧ ae (kq ≤ k) ∧ ae (Kd.N k26 26 w' w.heap.size (fun k_ => (fC k_ ∨ w.heap.size ≤ k_) ∧ some k_ ≠ ((.slice Ao8 t146.length Gp) : Value).ownBlock ∧ k_ ≠ kL) v3 tJ) ∧ ae (Kd.N k26 26 w' w.heap.size (fun k_ => (fC k_ ∨ w.heap.size ≤ k_) ∧ some k_ ≠ (v3 : Value).ownBlock ∧ k_ ≠ kL) (.slice Ao8 t146.length Gp) t146) ∧ ae (Kd.V k26 26 w' w.heap.size (fun k_ => (fC k_ ∨ w.heap.size ≤ k_) ∧ some k_ ≠ (v3 : Value).ownBlock ∧ some k_ ≠ ((.slice Ao8 t146.length Gp) : Value).ownBlock ∧ k_ ≠ kL) (.slice dE aJ.length dF) aJ) ∧ ae (w'.heap[kL]? = some (.cells #[.int .u8 ay, .int .i64 aH, .int .i64 aA, .int .i64 aG, .int .i64 aY, .int .i64 a_, (.slice dE aJ.length dF)] 26 (0, 0))) ∧ ae (Below w.heap.size w w'))
 case atStart => exact ⟨(Xh), (0), (by rfl), H', ⟨Nat.le_refl _⟩, ⟨by exact Kd.iM JQ.out (fun _ hk => ⟨hk.1.1, ⟨hk.2, hk.1.2⟩⟩)⟩, ⟨by exact Xn.out⟩, ⟨by exact Kd.gJ jb.out (fun _ hk => ⟨hk.1.1.1, ⟨hk.1.2, ⟨hk.2, hk.1.1.2⟩⟩⟩)⟩, ⟨by exact jF.out⟩, ⟨by repeat ((with_reducible exact HB.out))⟩⟩
 case round =>
  clear H'
  clear CX CY CZ C9 C_ Dc Df Dh Di Dj Dk Dl Dn Dp
  obtain ⟨tJ, bK, rfl, HA, nz, wE, yO, zC, jF, HB⟩ := hrel
  cases gk with
  | zero => exact absurd HA.out (by simp [dI.l0])
  | succ k1 =>
   have H := HA.out
   clear HA
   simp only [dI.l0] at H
   by_cases c9 : bK < (t146.length : Int)
   ·rw [if_pos c9] at H
    have Lu : decide (bK < (t146.length : Int)) = true := decide_eq_true c9
    clear c9
    by_cases c10 : 0 ≤ bK
    ·rw [if_pos c10] at H
     have P_ : decide (0 ≤ bK) = true := decide_eq_true c10
     clear c10
     by_cases c11 : bK < (t146.length : Int)
     ·rw [if_pos c11] at H
      have Gg : decide (bK < (t146.length : Int)) = true := decide_eq_true c11
      clear c11
      by_cases c12 : ((az t146 bK).f0) = 1
      ·rw [if_pos c12] at H
       have Bq : (((az t146 bK).f0) == 1) = true := beq_iff_eq.mpr c12
       have Gh : (((az t146 bK).f0) != 1) = false := bne_eq_false_iff_eq.mpr c12
       clear c12
       by_cases c13 : tJ.length < 1954687338268
       ·rw [if_pos c13] at H
        have aex := ae.mk c13
        clear c13
        obtain ⟨y151, hy151⟩ : ∃ y_ : List (ai), y_ = (tJ ++ [(⟨(az t146 bK).f0, (⟨(az t146 bK).f1.f0, (az t146 bK).f1.f1, (az t146 bK).f1.f2, (az t146 bK).f1.f3⟩ : dw), (az t146 bK).f2, (az t146 bK).f3⟩ : ai)]) := ⟨_, rfl⟩
        replace H : (dI.l0 k1 y151 t146 (t146.length : Int) (wrap64 (bK + 1))) = some r := by (rw [hy151]; with_reducible exact H)
        have aeB := ae.mk hy151
        clear hy151
        have H' := ae.mk H
        clear H
        have BO : 0 ≤ (bK : Int) := of_decide_eq_true (by (with_reducible assumption))
        have BP : bK < (t146.length : Int) := of_decide_eq_true (by (with_reducible assumption))
        obtain ⟨zD, Rf, RY, VH, ZX, ZY, ZZ, Z4, Z5, Z7, Ef, Ik, Ii⟩ := rF (Kd.iO yO.out).2.2 bK BO BP
        cases VH
        obtain ⟨afb, MH, MC, CW⟩ := Kd.PY yO.out z26 bK BO BP
        obtain ⟨aaF, aaG, rfl, Bd, AP⟩ := mY MC
        have sH := CW 6 _ rfl
        rw [jM _ _ 6 (by omega)] at sH
        replace sH := Option.some.inj (sH.symm.trans Ef)
        injection sH with yZ Fq y7
        rw [yZ] at AP
        rw [y7] at Bd
        clear yZ Fq y7 AP Bd
        clear CW MH
        clear Ii Ik
        replace BO := eq_true BO
        replace BP := eq_true BP
        have QJ : 0 ≤ (bK : Int) := of_decide_eq_true (by (with_reducible assumption))
        have QQ : bK < (t146.length : Int) := of_decide_eq_true (by (with_reducible assumption))
        obtain ⟨aeL, ah9, aiS, agL, ahW, ahX, ahY, ahZ, ah0, ah1, O5, ZV, ZT⟩ := rF (Kd.iO yO.out).2.2 bK QJ QQ
        obtain rfl : zD = aeL := (by injection agL)
        obtain ⟨aj8, acL, acI, S_⟩ := Kd.PY yO.out z26 bK QJ QQ
        obtain ⟨ah4, ah6, rfl, IM, H7⟩ := mY acI
        have Ee := S_ 6 _ rfl
        rw [jM _ _ 6 (by omega)] at Ee
        replace Ee := Option.some.inj (Ee.symm.trans O5)
        injection Ee with yZ Fq y7
        rw [yZ] at H7
        rw [y7] at IM
        have D5 := ae.mk (show Kd.V k26 26 _ w.heap.size _ _ ((az t146 bK).f3) from Kd.uD IM H7)
        clear yZ Fq y7 H7 IM
        clear S_ acL
        clear ZT ZV
        replace QJ := eq_true QJ
        replace QQ := eq_true QQ
        have ea_ := Option.some.inj (Ef.symm.trans O5)
        injection ea_ with ea_ en_ ec_
        subst ea_
        subst ec_
        clear en_
        go_wp2_with (((with_reducible refine vU (b := .append) (xs := #[.tmp 20, .tmp 25]) rfl ?_); at_builtin; refine Kd.Vb k26 (w0 := w) w.heap.size rfl (.tmp 20) (.tmp 25) 24 26 (.agg #[(.int .u8 0), (.int .i64 0), (.int .i64 0), (.int .i64 0), (.int .i64 0), (.int .i64 0), (.slice none 0 0)]) 72 rfl Try.underlying24 info26 rfl (by decide) (by omega) u3 tJ (⟨(az t146 bK).f0, (⟨(az t146 bK).f1.f0, (az t146 bK).f1.f1, (az t146 bK).f1.f2, (az t146 bK).f1.f3⟩ : dw), (az t146 bK).f2, (az t146 bK).f3⟩ : ai) [.int .u8 ((az t146 bK).f0), .int .i64 ((az t146 bK).f1.f0), .int .i64 ((az t146 bK).f1.f1), .int .i64 ((az t146 bK).f1.f2), .int .i64 ((az t146 bK).f1.f3), .int .i64 ((az t146 bK).f2), .slice Rf ((az t146 bK).f3).length RY] (fun k_ => (fC k_ ∨ w.heap.size ≤ k_) ∧ some k_ ≠ (.slice (some zD) t146.length Gp : Value).ownBlock ∧ k_ ≠ kL) (fun k_ => ((fun k_ => (fC k_ ∨ w.heap.size ≤ k_) ∧ some k_ ≠ (.slice (some zD) t146.length Gp : Value).ownBlock ∧ k_ ≠ kL)) k_ ∧ some k_ ≠ (u3 : Value).ownBlock) rfl rfl ?aP (fun _ hk => hk) ?aF ?aO ?aB ?aS ?aL ?_; (case aP => exact (nY _ _ (⟨(az t146 bK).f0, (⟨(az t146 bK).f1.f0, (az t146 bK).f1.f1, (az t146 bK).f1.f2, (az t146 bK).f1.f3⟩ : dw), (az t146 bK).f2, (az t146 bK).f3⟩ : ai) (Kd.kR (Kd.gJ (ok' := (fun k_ => ((fun k_ => (fC k_ ∨ w.heap.size ≤ k_) ∧ some k_ ≠ (.slice (some zD) t146.length Gp : Value).ownBlock ∧ k_ ≠ kL)) k_ ∧ some k_ ≠ (u3 : Value).ownBlock)) (D5.out) (fun k_ hk => ⟨⟨hk.1.1, ⟨hk.2, hk.1.2.2⟩⟩, hk.1.2.1⟩))).2.1 (Kd.RP (Kd.gJ (ok' := (fun k_ => ((fun k_ => (fC k_ ∨ w.heap.size ≤ k_) ∧ some k_ ≠ (.slice (some zD) t146.length Gp : Value).ownBlock ∧ k_ ≠ kL)) k_ ∧ some k_ ≠ (u3 : Value).ownBlock)) (D5.out) (fun k_ hk => ⟨⟨hk.1.1, ⟨hk.2, hk.1.2.2⟩⟩, hk.1.2.1⟩))))); (case aB => exact (by repeat ((with_reducible exact HB.out)))); (case aF => exact (fun k_ hk => ⟨(.inr (Nat.le_trans (dS (by repeat ((with_reducible exact HB.out)))) hk)), Kd.fresh' (Kd.EU yO.out) k_ hk, Kd.yX jF.out k_ hk⟩)); (case aO => exact wE.out); (case aS => exact (dS (by repeat ((with_reducible exact HB.out))))); (case aL => have := aex.out; omega); intro v152 w14 ho hb hg hat; rw [← aeB.out] at ho; have aes := ae.mk (ho); replace yO := ae.mk (Kd.KF (ok := (fun k_ => (fC k_ ∨ w.heap.size ≤ k_) ∧ k_ ≠ kL)) (by exact Kd.iM yO.out (fun _ hk => ⟨⟨hk.1, hk.2.2⟩, hk.2.1⟩)) hg hat); replace zC := ae.mk (Kd.Bi (ok := (fun k_ => (fC k_ ∨ w.heap.size ≤ k_) ∧ some k_ ≠ (.slice (some zD) t146.length Gp : Value).ownBlock ∧ k_ ≠ kL)) (by exact Kd.gJ zC.out (fun _ hk => ⟨⟨hk.1, ⟨hk.2.2.1, hk.2.2.2⟩⟩, hk.2.1⟩)) hg hat); replace jF := ae.mk (cO jF.out hg (Kd.Rz wE.out (fun _ hk => hk.2.2))); replace D5 := ae.mk (Kd.Bi (ok := (fun k_ => (fC k_ ∨ w.heap.size ≤ k_) ∧ some k_ ≠ (.slice (some zD) t146.length Gp : Value).ownBlock ∧ k_ ≠ kL)) (by exact Kd.gJ D5.out (fun _ hk => ⟨⟨hk.1.1, ⟨hk.2, hk.1.2.2⟩⟩, hk.1.2.1⟩)) hg hat); replace HB := ae.mk (hb); clear wE; clear ho hb hg hat))
        go_roundg k1
        case measure => have := nz.out; omega
        case rel => exact ⟨(y151), (wrap64 (bK + 1)), (by rfl), H', ⟨by have := nz.out; omega⟩, ⟨by exact aes.out⟩, ⟨by exact Kd.iM yO.out (fun _ hk => ⟨hk.1.1, ⟨hk.2, hk.1.2⟩⟩)⟩, ⟨by exact Kd.gJ zC.out (fun _ hk => ⟨hk.1.1, ⟨hk.2, ⟨hk.1.2.1, hk.1.2.2⟩⟩⟩)⟩, ⟨by exact jF.out⟩, ⟨by repeat ((with_reducible exact HB.out))⟩⟩
       ·rw [if_neg c13] at H
        exact absurd H (by simp)
      ·rw [if_neg c12] at H
       have Bq : (((az t146 bK).f0) == 1) = false := beq_eq_false_iff_ne.mpr c12
       have Gh : (((az t146 bK).f0) != 1) = true := bne_iff_ne.mpr c12
       have H' := ae.mk H
       clear H
       have BO : 0 ≤ (bK : Int) := of_decide_eq_true (by (with_reducible assumption))
       have BP : bK < (t146.length : Int) := of_decide_eq_true (by (with_reducible assumption))
       obtain ⟨zD, Rf, RY, VH, ZX, ZY, ZZ, Z4, Z5, Z7, Ef, Ik, Ii⟩ := rF (Kd.iO yO.out).2.2 bK BO BP
       cases VH
       obtain ⟨afb, MH, MC, CW⟩ := Kd.PY yO.out z26 bK BO BP
       obtain ⟨aaF, aaG, rfl, Bd, AP⟩ := mY MC
       have sH := CW 6 _ rfl
       rw [jM _ _ 6 (by omega)] at sH
       replace sH := Option.some.inj (sH.symm.trans Ef)
       injection sH with yZ Fq y7
       rw [yZ] at AP
       rw [y7] at Bd
       clear yZ Fq y7 AP Bd
       clear CW MH
       clear Ii Ik
       replace BO := eq_true BO
       replace BP := eq_true BP
       go_wp2
       go_roundg k1
       case measure => have := nz.out; omega
       case rel => exact ⟨(tJ), (wrap64 (bK + 1)), (by rfl), H', ⟨by have := nz.out; omega⟩, ⟨by exact wE.out⟩, ⟨by exact yO.out⟩, ⟨by exact zC.out⟩, ⟨by exact jF.out⟩, ⟨by repeat ((with_reducible exact HB.out))⟩⟩
     ·rw [if_neg c11] at H
      exact absurd H (by simp)
    ·rw [if_neg c10] at H
     exact absurd H (by simp)
   ·rw [if_neg c9] at H
    have Lu : decide (bK < (t146.length : Int)) = false := decide_eq_false c9
    clear c9
    obtain rfl := Option.some.inj H
    go_wp2
    go_ret
    exact ⟨_, by rfl, by exact Kd.iM wE.out (fun _ hk => hk.1), by repeat ((with_reducible exact HB.out))⟩
end Go.Proofs.Ytfdmfgaiblfbhaa.P
namespace Go.Proofs.Ytfdmfgaiblfbhaa.P
open Go.RowKit Go.Proofs.ag.aQ Go.Proofs.ag.bu Go.Proofs.ag.bP
theorem lU (pre : List ai) (p : ai) (rest : List ai) : az (pre ++ p :: rest) (pre.length : Int) = p := by
 simp [az, List.getD_eq_getElem?_getD]
theorem Q5 {α : Type} (pre : List α) (p : α) (rest : List α) (h : (pre ++ p :: rest).length ≤ 9223372036854775807) : wrap64 ((pre.length : Int) + 1) = ((pre ++ [p]).length : Int) := by
 simp only [List.length_append, List.length_cons, List.length_nil] at h ⊢
 rw [wq (by omega) (by omega)]
 omega
theorem VD (L : Int) : ∀ (N : Nat) (c : ai), sz c ≤ N → N ≤ 1048576 → ∃ n : Int, Ev (fun k => di.f k c.f0 c.f1.f0 c.f1.f1 c.f1.f2 c.f1.f3 c.f2 c.f3 L) n ∧ 1 ≤ n ∧ n ≤ (sz c : Int) ∧ (n > L ∨ n = (sz c : Int)) := by
 intro N
 induction N with
 | zero => intro c h _; rw [bZ] at h; omega
 | succ N ih =>
  intro c hc hN
  have hs := bZ c
  have key : ∀ (rest pre : List ai), pre ++ rest = c.f3 → ∀ acc : Int, 1 ≤ acc → acc + (dN rest : Int) ≤ 1048576 → (acc > L ∨ acc = 1 + (dN pre : Int)) →
    ∃ n : Int, Ev (fun k => di.l0 k L acc (c.f3.length : Int) (pre.length : Int) c.f0 c.f1.f0 c.f1.f1 c.f1.f2 c.f1.f3 c.f2 c.f3) n ∧ acc ≤ n ∧ n ≤ acc + (dN rest : Int) ∧ (n > L ∨ n = 1 + (dN c.f3 : Int)) := by
   intro rest
   induction rest with
   | nil =>
    intro pre hp acc h1 h2 h3
    rw [List.append_nil] at hp
    refine ⟨acc, Ev.step (f := fun _ => some acc) (fun k => ?_) (Ev.now _), by omega, by omega, by rw [← hp]; exact h3⟩
    simp only [di.l0]
    rw [if_neg (by rw [hp]; omega)]
   | cons x xs ihr =>
    intro pre hp acc h1 h2 h3
    have hl : (pre.length : Int) < (c.f3.length : Int) := by rw [← hp, List.length_append, List.length_cons]; omega
    have hlen := jJ c.f3
    by_cases hL : acc > L
    ·refine ⟨acc, Ev.step (f := fun _ => some acc) (fun k => ?_) (Ev.now _), by omega, by omega, .inl hL⟩
     simp only [di.l0]
     rw [if_pos hl, if_pos hL]
    ·have h3' : acc = 1 + (dN pre : Int) := by omega
     have hsum : dN c.f3 = dN pre + (sz x + dN xs) := by rw [← hp, ou, bU]
     obtain ⟨n1, e1, a1, b1, c1⟩ := ih x (by omega) (by omega)
     rw [bU] at h2
     obtain ⟨n, e2, a2, b2, c2⟩ := ihr (pre ++ [x]) (by rw [List.append_assoc]; exact hp) (acc + n1) (by omega) (by omega) (by
      rw [ou, bU, wP]
      omega)
     refine ⟨n, ?_, by omega, by rw [bU]; omega, c2⟩
     have hw : wrap64 (acc + n1) = acc + n1 := wq (by omega) (by omega)
     have hr : az c.f3 (pre.length : Int) = x := by rw [← hp]; exact lU pre x xs
     have hu : wrap64 ((pre.length : Int) + 1) = ((pre ++ [x]).length : Int) := Q5 pre x xs (by rw [hp]; omega)
     refine Ev.step (f := fun k => (di.f k x.f0 x.f1.f0 x.f1.f1 x.f1.f2 x.f1.f3 x.f2 x.f3 L).bind fun t => di.l0 k L (wrap64 (acc + t)) (c.f3.length : Int) (wrap64 ((pre.length : Int) + 1)) c.f0 c.f1.f0 c.f1.f1 c.f1.f2 c.f1.f3 c.f2 c.f3) (fun k => ?_) (Ev.bind e1 ?_)
     ·simp only [di.l0]
      rw [if_pos hl, if_neg hL, if_pos (by omega), if_pos hl, hr]
     ·rw [hw, hu]
      exact e2
  obtain ⟨n, e, a, b, d⟩ := key c.f3 [] rfl 1 (by omega) (by omega) (.inr (by rw [wP]; rfl))
  refine ⟨n, Ev.step (fun k => ?_) e, a, by omega, by omega⟩
  simp only [di.f]
  rfl
theorem VU (c : ai) (h : sz c ≤ 1048576) : ∃ b : Bool, Ev (fun k => iE.f k c.f0 c.f1.f0 c.f1.f1 c.f1.f2 c.f1.f3 c.f2 c.f3) b ∧ (b = false → sz c ≤ 200) := by
 obtain ⟨n, e, h1, h2, h3⟩ := VD 200 1048576 c h (Nat.le_refl _)
 refine ⟨decide (n > 200), ?_, fun hb => ?_⟩
 ·unfold iE.f
  exact Ev.bind e (Ev.now _)
 ·have := of_decide_eq_false hb
  omega
theorem Jg : ∀ (N : Nat) (c : ai), sz c ≤ N → N ≤ 1048576 → Ev (fun k => dm.f k c.f0 c.f1.f0 c.f1.f1 c.f1.f2 c.f1.f3 c.f2 c.f3) (fP c) := by
 intro N
 induction N with
 | zero => intro c h _; rw [bZ] at h; omega
 | succ N ih =>
  intro c hc hN
  have hs := bZ c
  have key : ∀ (rest pre : List ai), pre ++ rest = c.f3 → Ev (fun k => dm.l0 k (c :: allL pre) (c.f3.length : Int) (pre.length : Int) c.f0 c.f1.f0 c.f1.f1 c.f1.f2 c.f1.f3 c.f2 c.f3) (fP c) := by
   intro rest
   induction rest with
   | nil =>
    intro pre hp
    rw [List.append_nil] at hp
    refine Ev.step (f := fun _ => some (fP c)) (fun k => ?_) (Ev.now _)
    simp only [dm.l0]
    rw [if_neg (by rw [hp]; omega), hp, pJ]
   | cons x xs ihr =>
    intro pre hp
    have hl : (pre.length : Int) < (c.f3.length : Int) := by rw [← hp, List.length_append, List.length_cons]; omega
    have hlen := jJ c.f3
    have hsum : dN c.f3 = dN pre + (sz x + dN xs) := by rw [← hp, ou, bU]
    have e2 := ihr (pre ++ [x]) (by rw [List.append_assoc]; exact hp)
    have hr : az c.f3 (pre.length : Int) = x := by rw [← hp]; exact lU pre x xs
    have hu : wrap64 ((pre.length : Int) + 1) = ((pre ++ [x]).length : Int) := Q5 pre x xs (by rw [hp]; omega)
    have ha : c :: allL (pre ++ [x]) = (c :: allL pre) ++ fP x := by rw [Bl, lF, o5, List.append_nil, List.cons_append]
    have hb : (c :: allL pre).length + (fP x).length < 1954687338268 := by
     have h1 : (allL pre).length = dN pre := rfl
     have h2 : (fP x).length = sz x := rfl
     rw [List.length_cons, h1, h2]
     omega
    rw [ha] at e2
    refine Ev.step (f := fun k => (dm.f k x.f0 x.f1.f0 x.f1.f1 x.f1.f2 x.f1.f3 x.f2 x.f3).bind fun t => (if (c :: allL pre).length + t.length < 1954687338268 then (dm.l0 k ((c :: allL pre) ++ t) (c.f3.length : Int) (wrap64 ((pre.length : Int) + 1)) c.f0 c.f1.f0 c.f1.f1 c.f1.f2 c.f1.f3 c.f2 c.f3) else none)) (fun k => ?_) (Ev.bind (ih x (by omega) (by omega)) (acs hb ?_))
    ·simp only [dm.l0]
     rw [if_pos hl, if_pos (by omega), if_pos hl, hr]
    ·rw [hu]
     exact e2
  refine Ev.step (fun k => ?_) (key c.f3 [] rfl)
  simp only [dm.f, o5, Gs]
  rfl
def lS (c : ai) : List ai := (fP c).filter fun x => decide (x.f0 = 1)
theorem Ug (c : ai) (h : sz c ≤ 1048576) : Ev (fun k => dI.f k c.f0 c.f1.f0 c.f1.f1 c.f1.f2 c.f1.f3 c.f2 c.f3) (lS c) := by
 unfold dI.f
 refine Ev.bind (Jg _ c h (Nat.le_refl _)) ?_
 have key : ∀ (rest pre : List ai), pre ++ rest = fP c → Ev (fun k => dI.l0 k (pre.filter fun x => decide (x.f0 = 1)) (fP c) ((fP c).length : Int) (pre.length : Int)) (lS c) := by
  intro rest
  induction rest with
  | nil =>
   intro pre hp
   rw [List.append_nil] at hp
   refine Ev.step (f := fun _ => some (lS c)) (fun k => ?_) (Ev.now _)
   simp only [dI.l0]
   rw [if_neg (by rw [hp]; omega), hp]
   rfl
  | cons x xs ihr =>
   intro pre hp
   have hsz : (fP c).length ≤ 1048576 := h
   have hl : (pre.length : Int) < ((fP c).length : Int) := by rw [← hp, List.length_append, List.length_cons]; omega
   have e2 := ihr (pre ++ [x]) (by rw [List.append_assoc]; exact hp)
   have hr : az (fP c) (pre.length : Int) = x := by rw [← hp]; exact lU pre x xs
   have hu : wrap64 ((pre.length : Int) + 1) = ((pre ++ [x]).length : Int) := Q5 pre x xs (by rw [hp]; omega)
   have hb : (pre.filter fun x => decide (x.f0 = 1)).length < 1954687338268 := by
    have := List.length_filter_le (fun x : ai => decide (x.f0 = 1)) pre
    omega
   rw [List.filter_append] at e2
   refine Ev.step (fun k => ?_) e2
   simp only [dI.l0]
   rw [if_pos hl, if_pos (by omega), if_pos hl, hr, hu]
   by_cases h1 : x.f0 = 1
   ·rw [if_pos h1, if_pos hb, List.filter_cons_of_pos (by simpa using h1), Gs]
    rfl
   ·rw [if_neg h1, List.filter_cons_of_neg (by simpa using h1), List.filter_nil, List.append_nil]
 exact key (fP c) [] rfl
def mf (c : ai) : Bool := jW c.f1 && decide (1 ≤ c.f0 ∧ c.f0 ≤ 3) && decide (c.f0 = 1 → c.f3.length = 0 ∧ 0 ≤ c.f2 ∧ c.f2 ≤ 2147483647) && decide (c.f0 > 1 → 2 ≤ c.f3.length ∧ c.f2 = 0)
def eG : List ai → Bool
 | [] => true
 | x :: xs => (xs.all fun y => decide (y.f2 ≠ x.f2)) && eG xs
def nX (pre : List ai) (x : ai) : Bool := pre.all fun y => decide (x.f2 ≠ y.f2)
theorem qG (pre : List ai) (x : ai) : eG (pre ++ [x]) = (eG pre && nX pre x) := by
 induction pre with
 | nil => simp [eG, nX]
 | cons y ys ih =>
  have : (decide (x.f2 ≠ y.f2)) = decide (¬ x.f2 = y.f2) := rfl
  simp only [List.cons_append, eG, ih, nX, List.all_append, List.all_cons, List.all_nil, Bool.and_true]
  cases (ys.all fun z => decide (z.f2 ≠ y.f2)) <;> cases (decide (x.f2 ≠ y.f2)) <;> cases eG ys <;> cases (ys.all fun z => decide (x.f2 ≠ z.f2)) <;> rfl
theorem yf : ∀ (pre rest : List ai), eG pre = false → eG (pre ++ rest) = false := by
 intro pre rest h
 induction rest generalizing pre with
 | nil => rw [List.append_nil]; exact h
 | cons x xs ih =>
  have := ih (pre ++ [x]) (by rw [qG, h, Bool.false_and])
  rwa [List.append_assoc] at this
def kV (c : ai) : Bool := decide (sz c ≤ 20000) && ((fP c).all mf && eG (lS c))
theorem adz {σ : Type} (Inv : σ → World → Prop) (step : σ → ai → Bool × σ) (g : Nat) (lb : Array Value) (eg : ∀ args w, (callFunc g args).run Try.prog w = .ok (.enter g args) w) (l : List ai) (A : Option Addr) (c : Nat)
  (w0 : World) (hR : Kd.C k26 w0 A l.length l) (hW : ∀ s W, Inv s W → Below w0.heap.size w0 W) (hD : ∀ s W n, Inv s W → Inv s (W.drewN n))
  (hcall : ∀ s W (x : ai) (B : Option Addr) (cb : Nat), x ∈ l → Inv s W → Kd.C k26 w0 B x.f3.length x.f3 → x.f3.length ≤ cb → Calls Try.prog g (#[.agg #[.int .u8 x.f0, .int .i64 x.f1.f0, .int .i64 x.f1.f1, .int .i64 x.f1.f2, .int .i64 x.f1.f3, .int .i64 x.f2, .slice B x.f3.length cb]] ++ lb) W fun e w' => e = .returned (.bool (step s x).1) ∧ Inv (step s x).2 w')
  (s : σ) (w : World) (hI : Inv s w) (hl : l.length ≤ 9223372036854775807) :
  Calls Try.prog 192 #[.slice A l.length c, .func (.func g) #[] lb] w fun e w' => e = .returned (.int .i64 (kN step 0 s l).1) ∧ Inv (kN step 0 s l).2 w' := by
 have HR := ae.mk hR
 have HW := ae.mk hW
 have HI := ae.mk hI
 have yz := ae.mk hcall
 clear hR hW hcall hD hI
 go_enter Try.func192, Try.ntmps192
 go_wp2
 go_loopg [5, 8] l.length (fun gg _ v8 wr => ∃ (kk : Nat) (t : σ), kk ≤ l.length ∧ l.length - kk ≤ gg ∧ v8 = .int .i64 kk ∧ ae (Inv t wr) ∧ ae (kN step 0 s l = kN step kk t (l.drop kk)))
 case atStart => exact ⟨0, s, Nat.zero_le _, by omega, rfl, HI, ⟨by simp⟩⟩
 case round =>
  clear HI
  obtain ⟨kk, t, hkk, hg, rfl, HI, HS⟩ := hrel
  by_cases hlt : kk < l.length
  ·have hltz : (kk : Int) < (l.length : Int) := by omega
   obtain ⟨ad, B, cb, rfl, hc0, hc1, hc2, hc3, hc4, hc5, hc6, hlb, hgb⟩ := rF HR.out (kk : Int) (by omega) (by omega)
   have hbw := HW.out t wr HI.out
   replace hc0 := (hbw.cell (World.block_lt_of_cell? w0 _ hc0)).trans hc0
   replace hc1 := (hbw.cell (World.block_lt_of_cell? w0 _ hc1)).trans hc1
   replace hc2 := (hbw.cell (World.block_lt_of_cell? w0 _ hc2)).trans hc2
   replace hc3 := (hbw.cell (World.block_lt_of_cell? w0 _ hc3)).trans hc3
   replace hc4 := (hbw.cell (World.block_lt_of_cell? w0 _ hc4)).trans hc4
   replace hc5 := (hbw.cell (World.block_lt_of_cell? w0 _ hc5)).trans hc5
   replace hc6 := (hbw.cell (World.block_lt_of_cell? w0 _ hc6)).trans hc6
   clear hbw
   have HX : ae (kN step kk t (l.drop kk) = if (step t (az l (kk : Int))).1 = true then ((kk : Int), (step t (az l (kk : Int))).2) else kN step ((kk + 1 : Nat) : Int) (step t (az l (kk : Int))).2 (l.drop (kk + 1))) := ⟨Pq step z26 l kk hlt t⟩
   have hmem : (az l (kk : Int)) ∈ l := BR z26 l kk hlt
   have hcall := yz.out t wr _ B cb hmem HI.out hgb hlb
   clear hmem hgb hlb
   simp only [Int.toNat_natCast] at hc0 hc1 hc2 hc3 hc4 hc5 hc6
   generalize az l (kk : Int) = x at hc0 hc1 hc2 hc3 hc4 hc5 hc6 HX hcall
   have HC := ae.mk hcall
   clear hcall
   cases hq : (step t x).1 with
   | true =>
    have h := HC.out
    rw [hq] at h
    have HH := ae.mk h
    have HQ := ae.mk hq
    clear hq HC h
    go_wp2_with fail
    refine HH.out.mono ?_
    rintro e w' ⟨rfl, hb'⟩
    have HB := ae.mk hb'
    clear hb'
    go_wp2
    go_ret
    rw [HS.out, HX.out, if_pos HQ.out]
    exact ⟨rfl, HB.out⟩
   | false =>
    have h := HC.out
    rw [hq] at h
    have HH := ae.mk h
    have HQ := ae.mk hq
    clear hq HC h
    go_wp2_with fail
    refine HH.out.mono ?_
    rintro e w' ⟨rfl, hb'⟩
    have HB := ae.mk hb'
    clear hb'
    go_wp2
    go_roundg (l.length - (kk + 1))
    case measure => omega
    case rel =>
     refine ⟨kk + 1, (step t x).2, by omega, by omega, by go_num, HB, ⟨?_⟩⟩
     rw [HS.out, HX.out, if_neg (by rw [HQ.out]; simp)]
  ·have hltz : ¬ (kk : Int) < (l.length : Int) := by omega
   go_wp2
   go_ret
   rw [HS.out, List.drop_eq_nil_of_le (by omega)]
   exact ⟨rfl, HI.out⟩
theorem Su {σ : Type} (Inv : σ → World → Prop) (step : σ → ai → Bool × σ) (g : Nat) (lb : Array Value) (eg : ∀ args w, (callFunc g args).run Try.prog w = .ok (.enter g args) w) (l : List ai) (A : Option Addr) (c : Nat)
  (w0 : World) (hR : Kd.C k26 w0 A l.length l) (hW : ∀ s W, Inv s W → Below w0.heap.size w0 W) (hD : ∀ s W n, Inv s W → Inv s (W.drewN n))
  (hcall : ∀ s W (x : ai) (B : Option Addr) (cb : Nat), x ∈ l → Inv s W → Kd.C k26 w0 B x.f3.length x.f3 → x.f3.length ≤ cb → Calls Try.prog g (#[.agg #[.int .u8 x.f0, .int .i64 x.f1.f0, .int .i64 x.f1.f1, .int .i64 x.f1.f2, .int .i64 x.f1.f3, .int .i64 x.f2, .slice B x.f3.length cb]] ++ lb) W fun e w' => e = .returned (.bool (step s x).1) ∧ Inv (step s x).2 w')
  (s : σ) (w : World) (hI : Inv s w) (hl : l.length ≤ 9223372036854775807) :
  Calls Try.prog 174 #[.slice A l.length c, .func (.func g) #[] lb] w fun e w' => e = .returned (.bool (rf step s l).1) ∧ Inv (rf step s l).2 w' := by
 have hi := adz Inv step g lb eg l A c w0 hR hW hD hcall s w hI hl
 rw [NJ]
 clear hR hW hD hcall hI
 generalize kN step 0 s l = r at hi
 have HI := ae.mk hi
 clear hi
 go_enter Try.func174, Try.ntmps174
 go_wp2_with fail
 refine HI.out.mono ?_
 rintro e w' ⟨rfl, hb'⟩
 have HB := ae.mk hb'
 clear hb'
 go_wp2
 go_ret
 exact ⟨rfl, HB.out⟩
theorem O7 (l : List ai) (A : Option Addr) (c : Nat) (g : Nat) (lb : Array Value) (Q : World → Prop) (b : Bool) (w : World)
  (h : Calls Try.prog 174 #[.slice A l.length c, .func (.func g) #[] lb] w fun e w' => e = .returned (.bool b) ∧ Q w') (hD : ∀ W n, Q W → Q (W.drewN n)) :
  Calls Try.prog 142 #[.slice A l.length c, .func (.func g) #[] lb] w fun e w' => e = .returned (.bool (!b)) ∧ Q w' := by
 have H := ae.mk h
 clear h hD
 cases b
 all_goals
  go_enter Try.func142, Try.ntmps142
  go_wp2_with fail
  refine H.out.mono ?_
  rintro e w' ⟨rfl, hb⟩
  have HB := ae.mk hb
  clear hb
  go_wp2
  go_ret
  exact ⟨rfl, HB.out⟩
structure Kp (S : Nat → Prop) (W W' : World) : Prop where
 size : W.heap.size ≤ W'.heap.size
 blk : ∀ k, k < W.heap.size → ¬ S k → W'.heap[k]? = W.heap[k]?
theorem Kp.refl (S : Nat → Prop) (W : World) : Kp S W W := ⟨Nat.le_refl _, fun _ _ _ => rfl⟩
theorem Kp.trans {S : Nat → Prop} {W W1 W2 : World} (h : Kp S W W1) (k : Kp S W1 W2) : Kp S W W2 := ⟨Nat.le_trans h.size k.size, fun i hi hs => (k.blk i (Nat.lt_of_lt_of_le hi h.size) hs).trans (h.blk i hi hs)⟩
theorem Kp.below {S : Nat → Prop} {W W1 : World} (h : Below W.heap.size W W1) : Kp S W W1 := ⟨h.size, fun i hi _ => h.block i hi⟩
theorem Kp.at {S : Nat → Prop} {W W1 : World} {g : Nat} {o : Obj} (h : Kp S W W1) (hb : W.heap[g]? = some o) (hs : ¬ S g) : W1.heap[g]? = some o := (h.blk g (fD hb) hs).trans hb
theorem acb (x : ai) (B : Option Addr) (cb g : Nat) (lb : Array Value) (b3 : Nat) (r : Bool) (R : World → Prop) (W : World) (hk : W.heap[b3]? = some (.cells #[.func (.func g) #[] lb] 27 (0, 0)))
  (h : ∀ W1, Below W.heap.size W W1 → Calls Try.prog 175 #[.agg #[.int .u8 x.f0, .int .i64 x.f1.f0, .int .i64 x.f1.f1, .int .i64 x.f1.f2, .int .i64 x.f1.f3, .int .i64 x.f2, .slice B x.f3.length cb], .func (.func g) #[] lb] W1 fun e w' => e = .returned (.bool r) ∧ R w') :
  Calls Try.prog 193 (#[.agg #[.int .u8 x.f0, .int .i64 x.f1.f0, .int .i64 x.f1.f1, .int .i64 x.f1.f2, .int .i64 x.f1.f3, .int .i64 x.f2, .slice B x.f3.length cb]] ++ #[.pointer (some ⟨b3, 0, none⟩)]) W fun e w' => e = .returned (.bool (!r)) ∧ R w' := by
 have HK := ae.mk hk
 have H := ae.mk h
 clear hk h
 simp only [List.append_toArray, List.cons_append, List.nil_append]
 cases r
 all_goals
  go_enter Try.func193, Try.ntmps193
  go_wp2_with (((with_reducible refine aC (N := 2) rfl ?_); refine aK ?hg (N := 2) ?hd (cs := #[.int .u8 x.f0, .int .i64 x.f1.f0, .int .i64 x.f1.f1, .int .i64 x.f1.f2, .int .i64 x.f1.f3, .int .i64 x.f2, .slice B x.f3.length cb]) (t := 26) ?hr ?_; (case hd => rfl); (case hg => rfl); (case hr => (go_simp; done)); intro b2 hg w2 hbox hb; have HB := ae.mk hb; have K2 := ae.mk hbox; have K3 := ae.mk (aI HK.out hb); clear hb hbox hg; have c0 := (af K2.out 0).trans rfl; have c1 := (af K2.out 1).trans rfl; have c2 := (af K2.out 2).trans rfl; have c3 := (af K2.out 3).trans rfl; have c4 := (af K2.out 4).trans rfl; have c5 := (af K2.out 5).trans rfl; have c6 := (af K2.out 6).trans rfl; have d0 := (af K3.out 0).trans rfl))
  clear c0 c1 c2 c3 c4 c5 c6 d0
  refine (H.out _ HB.out).mono ?_
  rintro e w' ⟨rfl, hR⟩
  have HR := ae.mk hR
  clear hR
  go_wp2
  go_ret
  exact ⟨rfl, HR.out⟩
theorem abS {σ : Type} (S : Nat → Prop) (Inv : σ → World → Prop) (step : σ → ai → Bool × σ) (g : Nat) (lb : Array Value) (eg : ∀ args w, (callFunc g args).run Try.prog w = .ok (.enter g args) w) (w0 : World)
  (hW : ∀ s W, Inv s W → Below w0.heap.size w0 W) (hB : ∀ s W W', Inv s W → Below W.heap.size W W' → Inv s W') (hS : ∀ s W, Inv s W → ∀ k, S k → k < W.heap.size)
  (hcall : ∀ s W (x : ai) (B : Option Addr) (cb : Nat), Inv s W → Kd.C k26 w0 B x.f3.length x.f3 → x.f3.length ≤ cb → Calls Try.prog g (#[.agg #[.int .u8 x.f0, .int .i64 x.f1.f0, .int .i64 x.f1.f1, .int .i64 x.f1.f2, .int .i64 x.f1.f3, .int .i64 x.f2, .slice B x.f3.length cb]] ++ lb) W fun e w' => e = .returned (.bool (step s x).1) ∧ Inv (step s x).2 w' ∧ Kp S W w') :
  ∀ (N : Nat) (c : ai), sz c ≤ N → ∀ (A : Option Addr) (cc : Nat), Kd.C k26 w0 A c.f3.length c.f3 → c.f3.length ≤ cc → ∀ s W, Inv s W →
   Calls Try.prog 175 #[.agg #[.int .u8 c.f0, .int .i64 c.f1.f0, .int .i64 c.f1.f1, .int .i64 c.f1.f2, .int .i64 c.f1.f3, .int .i64 c.f2, .slice A c.f3.length cc], .func (.func g) #[] lb] W fun e w' => e = .returned (.bool (qQ step c s).1) ∧ Inv (qQ step c s).2 w' ∧ Kp S W w' := by
 intro N
 induction N with
 | zero => intro c h; rw [bZ] at h; omega
 | succ N ih =>
  intro c hc A cc hr hlc s W hI
  have hsz := bZ c
  have XI : ∀ (b3 : Nat) (s1 : σ) (W1 : World), Inv s1 W1 → W1.heap[b3]? = some (.cells #[.func (.func g) #[] lb] 27 (0, 0)) → ¬ S b3 →
    Calls Try.prog 142 #[.slice A c.f3.length cc, .func (.func 193) #[] #[.pointer (some ⟨b3, 0, none⟩)]] W1 fun e w' => e = .returned (.bool (qX step c.f3 s1).1) ∧ Inv (qX step c.f3 s1).2 w' ∧ Kp S W1 w' := by
   intro b3 s1 W1 hI1 hk3 hs3
   have hcon := Su (fun t w' => Inv t w' ∧ Kp S W1 w') (fun t k => (!(qQ step k t).1, (qQ step k t).2)) 193 #[.pointer (some ⟨b3, 0, none⟩)] (rJ Try.func193 (by decide +kernel) (by kernel_rfl)) c.f3 A cc w0 hr (fun t w' h => hW t w' h.1)
    (fun t w' n h => ⟨hB t w' _ h.1 (eH (Below.refl _ _) n), h.2.trans (Kp.below (eH (Below.refl _ _) n))⟩)
    (fun t w' x B cb hx h hCx hlx => by
     refine acb x B cb g lb b3 _ _ w' (h.2.at hk3 hs3) (fun W2 hb2 => ?_)
     refine (ih x ?_ B cb hCx hlx t W2 (hB t w' W2 h.1 hb2)).mono fun e w'' ⟨he, hi, hk⟩ => ⟨he, hi, (h.2.trans (Kp.below hb2)).trans hk⟩
     have : sz x ≤ dN c.f3 := by
      obtain ⟨p, q, e⟩ := List.append_of_mem hx
      rw [e, ou, bU]; omega
     omega) s1 W1 ⟨hI1, Kp.refl S W1⟩ hr.2.1
   rw [UH] at hcon
   have := O7 c.f3 A cc 193 _ _ _ W1 hcon (fun w' n h => ⟨hB _ w' _ h.1 (eH (Below.refl _ _) n), h.2.trans (Kp.below (eH (Below.refl _ _) n))⟩)
   rw [Bool.not_not] at this
   exact this
  have acF : ∀ k, S k → k < W.heap.size := hS s W hI
  have hE := Oq step c s
  have hcl := fun W1 (h : Inv s W1) => hcall s W1 c A cc h hr hlc
  rcases hst : step s c with ⟨q, s1⟩
  rw [hst] at hE hcl
  simp only [] at hE hcl
  rw [hE]
  have HN := ae.mk fun b3 W1 => XI b3 s1 W1
  have HI := ae.mk hI
  have yz := ae.mk hcl
  have Xj := ae.mk hB
  have HS := ae.mk hS
  have HS0 := ae.mk acF
  have HK := ae.mk (Kp.refl S W)
  clear XI hI hcall hB hS ih hr hlc hsz hc hW hE hcl hst acF
  obtain ⟨ck, ⟨cx, cy, cw, ch⟩, aT, l⟩ := c
  simp only [] at HN yz ⊢
  generalize qX step l s1 = ns at HN ⊢
  obtain ⟨n1, n2⟩ := ns
  cases q with
  | false =>
   simp only [Bool.false_eq_true, if_false]
   clear HN
   go_enter Try.func175, Try.ntmps175
   go_wp2_with (first | ((with_reducible refine aC (N := 2) rfl ?_); refine aK ?hg (N := 2) ?hd (cs := #[.int .u8 ck, .int .i64 cx, .int .i64 cy, .int .i64 cw, .int .i64 ch, .int .i64 aT, .slice A l.length cc]) (t := 26) ?hr ?_; (case hd => rfl); (case hg => rfl); (case hr => (go_simp; done)); intro b2 hg X9 hbox hb; have K2 := ae.mk hbox; have HS2 := ae.mk (show ¬ b2 < W.heap.size by rw [hg]; exact Nat.lt_irrefl _); have dU := ae.mk (Xj.out _ _ _ HI.out hb); have dZ := ae.mk (HK.out.trans (Kp.below hb)); clear HI HK; have HI := dU; have HK := dZ; clear dU dZ; clear hb hbox hg) | ((with_reducible refine aC (N := 3) rfl ?_); refine aK ?hg (N := 3) ?hd (cs := #[.func (.func g) #[] lb]) (t := 27) ?hr ?_; (case hd => rfl); (case hg => rfl); (case hr => (go_simp; done)); intro b3 hg U1 hbox hb; have K3 := ae.mk hbox; have gZ := ae.mk (aI K2.out hb); have NS := ae.mk (fun h => Nat.lt_irrefl _ (Nat.lt_of_lt_of_le (hg ▸ HS.out _ _ HI.out b3 h) (Nat.le_refl _)) : ¬ S b3); have NS2 := ae.mk (fun h => HS2.out (HS0.out b2 h) : ¬ S b2); clear K2; have K2 := gZ; clear gZ; have dU := ae.mk (Xj.out _ _ _ HI.out hb); have dZ := ae.mk (HK.out.trans (Kp.below hb)); clear HI HK; have HI := dU; have HK := dZ; clear dU dZ; clear hb hbox hg; have c0 := (af K2.out 0).trans rfl; have c1 := (af K2.out 1).trans rfl; have c2 := (af K2.out 2).trans rfl; have c3 := (af K2.out 3).trans rfl; have c4 := (af K2.out 4).trans rfl; have c5 := (af K2.out 5).trans rfl; have c6 := (af K2.out 6).trans rfl; have d0 := (af K3.out 0).trans rfl))
   clear c0 c1 c2 c3 c4 c5 c6 d0
   refine (yz.out _ HI.out).mono ?_
   rintro e w' ⟨rfl, hi, hk⟩
   have HI' := ae.mk hi
   have HK' := ae.mk (HK.out.trans hk)
   clear hi hk
   go_wp2
   go_ret
   exact ⟨rfl, HI'.out, HK'.out⟩
  | true =>
   simp only [if_true]
   cases n1
   all_goals
    go_enter Try.func175, Try.ntmps175
    go_wp2_with (first | ((with_reducible refine aC (N := 2) rfl ?_); refine aK ?hg (N := 2) ?hd (cs := #[.int .u8 ck, .int .i64 cx, .int .i64 cy, .int .i64 cw, .int .i64 ch, .int .i64 aT, .slice A l.length cc]) (t := 26) ?hr ?_; (case hd => rfl); (case hg => rfl); (case hr => (go_simp; done)); intro b2 hg X9 hbox hb; have K2 := ae.mk hbox; have HS2 := ae.mk (show ¬ b2 < W.heap.size by rw [hg]; exact Nat.lt_irrefl _); have dU := ae.mk (Xj.out _ _ _ HI.out hb); have dZ := ae.mk (HK.out.trans (Kp.below hb)); clear HI HK; have HI := dU; have HK := dZ; clear dU dZ; clear hb hbox hg) | ((with_reducible refine aC (N := 3) rfl ?_); refine aK ?hg (N := 3) ?hd (cs := #[.func (.func g) #[] lb]) (t := 27) ?hr ?_; (case hd => rfl); (case hg => rfl); (case hr => (go_simp; done)); intro b3 hg U1 hbox hb; have K3 := ae.mk hbox; have gZ := ae.mk (aI K2.out hb); have NS := ae.mk (fun h => Nat.lt_irrefl _ (Nat.lt_of_lt_of_le (hg ▸ HS.out _ _ HI.out b3 h) (Nat.le_refl _)) : ¬ S b3); have NS2 := ae.mk (fun h => HS2.out (HS0.out b2 h) : ¬ S b2); clear K2; have K2 := gZ; clear gZ; have dU := ae.mk (Xj.out _ _ _ HI.out hb); have dZ := ae.mk (HK.out.trans (Kp.below hb)); clear HI HK; have HI := dU; have HK := dZ; clear dU dZ; clear hb hbox hg; have c0 := (af K2.out 0).trans rfl; have c1 := (af K2.out 1).trans rfl; have c2 := (af K2.out 2).trans rfl; have c3 := (af K2.out 3).trans rfl; have c4 := (af K2.out 4).trans rfl; have c5 := (af K2.out 5).trans rfl; have c6 := (af K2.out 6).trans rfl; have d0 := (af K3.out 0).trans rfl))
    clear c0 c1 c2 c3 c4 c5 c6 d0
    refine (yz.out _ HI.out).mono ?_
    rintro e w' ⟨rfl, hi, hk⟩
    have HI' := ae.mk hi
    have HK' := ae.mk (HK.out.trans hk)
    have K3' := ae.mk (hk.at K3.out NS.out)
    have K2' := ae.mk (hk.at K2.out NS2.out)
    clear hi hk
    have c6 : w'.cell? ⟨b2, 6, none⟩ = some (.slice A l.length cc) := (af K2'.out 6).trans rfl
    go_wp2_with fail
    clear c6
    refine (HN.out b3 w' HI'.out K3'.out NS.out).mono ?_
    rintro e w'' ⟨rfl, hi, hk⟩
    have HI2 := ae.mk hi
    have zy := ae.mk (HK'.out.trans hk)
    clear hi hk
    go_wp2
    go_ret
    exact ⟨rfl, HI2.out, zy.out⟩
def vV (x : ai) : Bool := if x.f0 = 1 then decide (x.f3.length = 0) && (decide (0 ≤ x.f2) && decide (x.f2 ≤ 2147483647)) else if x.f0 = 2 ∨ x.f0 = 3 then decide (2 ≤ x.f3.length) && decide (x.f2 = 0) else false
theorem y8 (x : ai) : mf x = (vV x && jW x.f1) := by
 unfold mf vV
 by_cases h1 : x.f0 = 1
 ·simp [h1, Bool.and_comm, Bool.and_assoc]
 ·by_cases h2 : x.f0 = 2
  ·simp [h2, Bool.and_comm]
  ·by_cases h3 : x.f0 = 3
   ·simp [h3, Bool.and_comm]
   ·have : ¬ (1 ≤ x.f0 ∧ x.f0 ≤ 3) := by omega
    simp [h1, h2, h3, this]
def iV (s : Int × List Int) (x : ai) : Bool × (Int × List Int) :=
 if 20000 < wrap64 (s.1 + 1) then (false, (wrap64 (s.1 + 1), s.2))
 else if mf x = false then (false, (wrap64 (s.1 + 1), s.2))
 else if x.f0 = 1 then (if x.f2 ∈ s.2 then (false, (wrap64 (s.1 + 1), s.2)) else (true, (wrap64 (s.1 + 1), x.f2 :: s.2)))
 else (true, (wrap64 (s.1 + 1), s.2))
def lv (l : List ai) : List ai := l.filter fun x => decide (x.f0 = 1)
theorem Uj : ∀ (rest pre : List ai), (pre ++ rest).length ≤ 1048576 → pre.length ≤ 20000 → eG (lv pre) = true →
  (tH iV rest ((pre.length : Int), ((lv pre).map (·.f2)).reverse)).1 = (decide (pre.length + rest.length ≤ 20000) && (rest.all mf && eG (lv (pre ++ rest)))) := by
 intro rest
 induction rest with
 | nil =>
  intro pre _ h2 h3
  simp [tH, h3]
  exact h2
 | cons x xs ih =>
  intro pre h1 h2 h3
  have hlen : (pre ++ x :: xs).length = pre.length + xs.length + 1 := by simp; omega
  have hw : wrap64 ((pre.length : Int) + 1) = ((pre.length + 1 : Nat) : Int) := (wq (by omega) (by omega)).trans (by omega)
  have hsp : pre ++ x :: xs = (pre ++ [x]) ++ xs := by simp
  simp only [tH]
  unfold iV
  simp only [hw]
  by_cases c1 : (20000 : Int) < ((pre.length + 1 : Nat) : Int)
  ·rw [if_pos c1]
   simp
   intro h
   omega
  ·rw [if_neg c1]
   cases c2 : mf x with
   | false => simp [c2]
   | true =>
    simp only [Bool.true_eq_false, if_false, List.all_cons, c2, Bool.true_and]
    have hl1 : (pre ++ [x]).length = pre.length + 1 := by simp
    have hcnt : decide (pre.length + (x :: xs).length ≤ 20000) = decide ((pre ++ [x]).length + xs.length ≤ 20000) := by
     rw [hl1, List.length_cons, decide_eq_decide]; omega
    rw [hcnt]
    by_cases c3 : x.f0 = 1
    ·rw [if_pos c3]
     have hlv : lv (pre ++ [x]) = lv pre ++ [x] := by simp [lv, c3]
     have hmem : x.f2 ∈ ((lv pre).map (·.f2)).reverse ↔ nX (lv pre) x = false := by
      simp [nX]
      constructor
      ·rintro ⟨y, hy, e⟩; exact ⟨y, hy, e.symm⟩
      ·rintro ⟨y, hy, e⟩; exact ⟨y, hy, e.symm⟩
     by_cases c4 : x.f2 ∈ ((lv pre).map (·.f2)).reverse
     ·rw [if_pos c4]
      have hd : eG (lv (pre ++ x :: xs)) = false := by
       rw [hsp]
       unfold lv
       rw [List.filter_append]
       apply yf
       have : List.filter (fun x => decide (x.f0 = 1)) (pre ++ [x]) = lv pre ++ [x] := hlv
       rw [this, qG, hmem.1 c4, Bool.and_false]
      simp [hd]
     ·rw [if_neg c4]
      have ha : nX (lv pre) x = true := by
       cases h : nX (lv pre) x with
       | true => rfl
       | false => exact absurd (hmem.2 h) c4
      have e := ih (pre ++ [x]) (by rw [← hsp]; exact h1) (by rw [hl1]; omega) (by rw [hlv, qG, h3, ha]; rfl)
      rw [hlv, List.map_append, List.reverse_append, hl1, ← hsp] at e
      simp only [if_true]
      rw [hl1]
      exact e
    ·rw [if_neg c3]
     have hlv : lv (pre ++ [x]) = lv pre := by simp [lv, c3]
     have e := ih (pre ++ [x]) (by rw [← hsp]; exact h1) (by rw [hl1]; omega) (by rw [hlv]; exact h3)
     rw [hlv, hl1, ← hsp] at e
     simp only [if_true]
     rw [hl1]
     exact e
theorem Vh (c : ai) (h : sz c ≤ 1048576) : (qQ iV c (0, [])).1 = kV c := by
 rw [(Vj iV (sz c)).1 c (Nat.le_refl _)]
 have e := Uj (fP c) [] (by rw [List.nil_append]; exact h) (by simp) rfl
 have e2 : (tH iV (fP c) (0, [])).1 = (decide (0 + (fP c).length ≤ 20000) && ((fP c).all mf && eG (lv ([] ++ fP c)))) := e
 rw [e2, Nat.zero_add, List.nil_append]
 rfl
theorem Wx : ∀ (N : Nat) (l : List Int), l.Nodup → (∀ i ∈ l, 0 ≤ i ∧ i < (N : Int)) → l.length ≤ N := by
 intro N
 induction N with
 | zero =>
  intro l _ h
  cases l with
  | nil => simp
  | cons x xs => have := h x (by simp); omega
 | succ N ih =>
  intro l hn h
  have h1 := ih (l.filter fun i => decide (i ≠ (N : Int))) (hn.filter _) (fun i hi => by
   have h2 := List.mem_filter.1 hi
   have h3 := h i h2.1
   have h4 := of_decide_eq_true h2.2
   omega)
  have h5 : ∀ (m : List Int), m.Nodup → m.length ≤ (m.filter fun i => decide (i ≠ (N : Int))).length + 1 := by
   intro m
   induction m with
   | nil => intro _; simp
   | cons y ys ihm =>
    intro hm
    rw [List.nodup_cons] at hm
    by_cases hy : y = (N : Int)
    ·have : ys.filter (fun i => decide (i ≠ (N : Int))) = ys := by
      rw [List.filter_eq_self]
      intro i hi
      exact decide_eq_true (fun e => hm.1 (by rw [hy, ← e]; exact hi))
     rw [List.filter_cons_of_neg (by simp [hy]), this, List.length_cons]
     exact Nat.le_refl _
    ·rw [List.filter_cons_of_pos (by simpa using hy), List.length_cons, List.length_cons]
     have := ihm hm.2
     omega
  have := h5 l hn
  omega
def FN (ids : List Int) : DataW Unit := ids.foldr (fun i D => D.put (.int .i64 i) (.lit (.bool true))) (.map [])
theorem WW : ∀ ids : List Int, Maps.IsMap (FN ids) := by
 intro ids
 induction ids with
 | nil => exact Maps.isMap_empty
 | cons x xs ih => exact Maps.IsMap.put ih _ _
theorem Py (i : Int) : ∀ ids : List Int, (FN ids).atKey (.int .i64 i) (.lit (.bool false)) = .lit (.bool (decide (i ∈ ids))) := by
 intro ids
 induction ids with
 | nil => rfl
 | cons x xs ih =>
  show (DataW.put (FN xs) (.int .i64 x) (.lit (.bool true))).atKey (.int .i64 i) (.lit (.bool false)) = _
  by_cases h : i = x
  ·subst h
   rw [Maps.atKey_put_same (WW xs) (by simp [WideAt.IsKeyLit])]
   simp
  ·rw [Maps.atKey_put_other (by intro e; injection e with _ e; exact h e), ih]
   simp [h]
structure lM (w0 : World) (bn bm B : Nat) (s : Int × List Int) (W : World) : Prop where
 hn : W.heap[bn]? = some (.cells #[.int .i64 s.1] 3 (0, 0))
 hm : W.heap[bm]? = some (.cells #[.map (some B)] 161 (0, 0))
 map : W.ownsMap (H := Unit) Try.prog 3 (plainElem Try.prog 4) B s.2.length (FN s.2)
 below : Below w0.heap.size w0 W
 gn : w0.heap.size ≤ bn
 gB : w0.heap.size ≤ B
 nd : s.2.Nodup
 rg : ∀ i ∈ s.2, 0 ≤ i ∧ i ≤ 2147483647
theorem below_grown {W W' : World} (h : Below W.heap.size W W') : W.grownBy W' none := ⟨h.os, h.tape, h.output, h.size, fun k hk _ => h.block k hk⟩
theorem lM.step {w0 W W' : World} {bn bm B : Nat} {s : Int × List Int} (h : lM w0 bn bm B s W) (hb : Below W.heap.size W W') : lM w0 bn bm B s W' :=
 ⟨aI h.hn hb, aI h.hm hb, h.map.kept (below_grown hb) (by simp), ak h.below hb, h.gn, h.gB, h.nd, h.rg⟩
theorem lM.XT {w0 W : World} {bn bm B : Nat} {s : Int × List Int} (h : lM w0 bn bm B s W) : bn ≠ B ∧ bm ≠ B ∧ bm ≠ bn := by
 obtain ⟨es, cl, hB, _⟩ := h.map
 refine ⟨fun e => ?_, fun e => ?_, tY h.hm h.hn (by decide)⟩
 ·have := h.hn; rw [e, hB] at this; cases this
 ·have := h.hm; rw [e, hB] at this; cases this
def uZ (bn B : Nat) (k : Nat) : Prop := k = bn ∨ k = B
section
variable {P : Program} {ops : Array Oper} {rest : List Oper} {o : Oper} {a : Act} {Q : Exit → Act → World → Prop}
theorem Ey (w : World) (hg : o.guard = none) (m x : Operand) (t : TypeId) (hop : o.op = Op.lookup t m x false)
  (k e : TypeId) (K : Maps.Keyed P k) (ht : P.underlying t = some (.map k e)) (he : P.underlying e = some .bool) (hz : (zeroValue e).run P w = .ok (.bool false) w) (b n : Nat) (D : DataW Unit)
  (hm : a.eval m = .map (some b)) (hown : w.ownsMap P k (plainElem P e) b n D) (key : Value) (kl : Lit) (hx : a.eval x = key) (hkey : keyOf P k key = some kl) (r : Bool) (hr : D.atKey kl (.lit (.bool false)) = .lit (.bool r))
  (hK : wpList P ops Q rest (a.put o.dst (.bool r)) w) : wpList P ops Q (o :: rest) a w := by
 refine wpList_plain hg fun K' hK' => ?_
 obtain ⟨v, ps, hrun, hv⟩ := hown.lookup K ht hz (plainElem_bool he false) hkey
 have hv2 : v = .bool r := by
  rw [hr] at hv
  unfold plainElem at hv
  rw [he] at hv
  cases v with
  | bool q =>
   simp only [Option.some.injEq, Prod.mk.injEq, DataW.lit.injEq, Lit.bool.injEq] at hv
   rw [hv.1]
  | _ => cases hv
 subst hv2
 unfold Oper.wp
 simp [execOp, hop, hm, hx, hrun, Result.andThen]
 exact hK' _ _ hK
end
theorem A8 (x : ai) (B : Option Addr) (cb : Nat) (w : World) : Calls Try.prog 177 #[.agg #[.int .u8 x.f0, .int .i64 x.f1.f0, .int .i64 x.f1.f1, .int .i64 x.f1.f2, .int .i64 x.f1.f3, .int .i64 x.f2, .slice B x.f3.length cb]] w fun e w' => e = .returned (.bool (vV x)) ∧ Below w.heap.size w w' := by
 unfold vV
 by_cases k1 : x.f0 = 1
 ·rw [if_pos k1]
  have k1b : (x.f0 == 1) = true := beq_iff_eq.mpr k1
  clear k1
  by_cases l0 : x.f3.length = 0
  ·rw [decide_eq_true l0, Bool.true_and]
   have l1 : ((x.f3.length : Int) == 0) = true := by simp [l0]
   have l2 : (x.f3.length == 0) = true := by simp [l0]
   clear l0
   by_cases i0 : 0 ≤ x.f2
   ·rw [decide_eq_true i0, Bool.true_and]
    have T_ : decide (0 ≤ x.f2) = true := decide_eq_true i0
    by_cases i1 : x.f2 ≤ 2147483647
    ·rw [decide_eq_true i1]
     have i1b : decide (x.f2 ≤ 2147483647) = true := decide_eq_true i1
     go_enter Try.func177, Try.ntmps177
     go_wp2_with (((with_reducible refine aC (N := 1) rfl ?_); refine aK ?hg (N := 1) ?hd (cs := #[.int .u8 x.f0, .int .i64 x.f1.f0, .int .i64 x.f1.f1, .int .i64 x.f1.f2, .int .i64 x.f1.f3, .int .i64 x.f2, .slice B x.f3.length cb]) (t := 26) ?hr ?_; (case hd => rfl); (case hg => rfl); (case hr => (go_simp; done)); intro b1 hg w1 hbox hb; have HB := ae.mk hb; have K1 := ae.mk hbox; clear hb hbox hg; have c0 := (af K1.out 0).trans rfl; have c1 := (af K1.out 1).trans rfl; have c2 := (af K1.out 2).trans rfl; have c3 := (af K1.out 3).trans rfl; have c4 := (af K1.out 4).trans rfl; have c5 := (af K1.out 5).trans rfl; have c6 := (af K1.out 6).trans rfl))
     go_ret
     exact ⟨rfl, HB.out⟩
    ·rw [decide_eq_false i1]
     have i1b : decide (x.f2 ≤ 2147483647) = false := decide_eq_false i1
     go_enter Try.func177, Try.ntmps177
     go_wp2_with (((with_reducible refine aC (N := 1) rfl ?_); refine aK ?hg (N := 1) ?hd (cs := #[.int .u8 x.f0, .int .i64 x.f1.f0, .int .i64 x.f1.f1, .int .i64 x.f1.f2, .int .i64 x.f1.f3, .int .i64 x.f2, .slice B x.f3.length cb]) (t := 26) ?hr ?_; (case hd => rfl); (case hg => rfl); (case hr => (go_simp; done)); intro b1 hg w1 hbox hb; have HB := ae.mk hb; have K1 := ae.mk hbox; clear hb hbox hg; have c0 := (af K1.out 0).trans rfl; have c1 := (af K1.out 1).trans rfl; have c2 := (af K1.out 2).trans rfl; have c3 := (af K1.out 3).trans rfl; have c4 := (af K1.out 4).trans rfl; have c5 := (af K1.out 5).trans rfl; have c6 := (af K1.out 6).trans rfl))
     go_ret
     exact ⟨rfl, HB.out⟩
   ·rw [decide_eq_false i0, Bool.false_and]
    have T_ : decide (0 ≤ x.f2) = false := decide_eq_false i0
    go_enter Try.func177, Try.ntmps177
    go_wp2_with (((with_reducible refine aC (N := 1) rfl ?_); refine aK ?hg (N := 1) ?hd (cs := #[.int .u8 x.f0, .int .i64 x.f1.f0, .int .i64 x.f1.f1, .int .i64 x.f1.f2, .int .i64 x.f1.f3, .int .i64 x.f2, .slice B x.f3.length cb]) (t := 26) ?hr ?_; (case hd => rfl); (case hg => rfl); (case hr => (go_simp; done)); intro b1 hg w1 hbox hb; have HB := ae.mk hb; have K1 := ae.mk hbox; clear hb hbox hg; have c0 := (af K1.out 0).trans rfl; have c1 := (af K1.out 1).trans rfl; have c2 := (af K1.out 2).trans rfl; have c3 := (af K1.out 3).trans rfl; have c4 := (af K1.out 4).trans rfl; have c5 := (af K1.out 5).trans rfl; have c6 := (af K1.out 6).trans rfl))
    go_ret
    exact ⟨rfl, HB.out⟩
  ·rw [decide_eq_false l0, Bool.false_and]
   have l1 : ((x.f3.length : Int) == 0) = false := by simp; intro h; exact l0 (by simp [h])
   have l2 : (x.f3.length == 0) = false := by simpa using l0
   clear l0
   go_enter Try.func177, Try.ntmps177
   go_wp2_with (((with_reducible refine aC (N := 1) rfl ?_); refine aK ?hg (N := 1) ?hd (cs := #[.int .u8 x.f0, .int .i64 x.f1.f0, .int .i64 x.f1.f1, .int .i64 x.f1.f2, .int .i64 x.f1.f3, .int .i64 x.f2, .slice B x.f3.length cb]) (t := 26) ?hr ?_; (case hd => rfl); (case hg => rfl); (case hr => (go_simp; done)); intro b1 hg w1 hbox hb; have HB := ae.mk hb; have K1 := ae.mk hbox; clear hb hbox hg; have c0 := (af K1.out 0).trans rfl; have c1 := (af K1.out 1).trans rfl; have c2 := (af K1.out 2).trans rfl; have c3 := (af K1.out 3).trans rfl; have c4 := (af K1.out 4).trans rfl; have c5 := (af K1.out 5).trans rfl; have c6 := (af K1.out 6).trans rfl))
   go_ret
   exact ⟨rfl, HB.out⟩
 ·rw [if_neg k1]
  have k1b : (x.f0 == 1) = false := beq_eq_false_iff_ne.mpr k1
  by_cases k2 : x.f0 = 2
  ·rw [if_pos (.inl k2)]
   have k2b : (x.f0 == 2) = true := beq_iff_eq.mpr k2
   clear k2 k1
   by_cases l0 : 2 ≤ x.f3.length
   ·rw [decide_eq_true l0, Bool.true_and]
    have l1 : (2 : Int) ≤ (x.f3.length : Int) := by omega
    by_cases i0 : x.f2 = 0
    ·rw [decide_eq_true i0]
     have T_ : (x.f2 == 0) = true := beq_iff_eq.mpr i0
     clear i0
     go_enter Try.func177, Try.ntmps177
     go_wp2_with (((with_reducible refine aC (N := 1) rfl ?_); refine aK ?hg (N := 1) ?hd (cs := #[.int .u8 x.f0, .int .i64 x.f1.f0, .int .i64 x.f1.f1, .int .i64 x.f1.f2, .int .i64 x.f1.f3, .int .i64 x.f2, .slice B x.f3.length cb]) (t := 26) ?hr ?_; (case hd => rfl); (case hg => rfl); (case hr => (go_simp; done)); intro b1 hg w1 hbox hb; have HB := ae.mk hb; have K1 := ae.mk hbox; clear hb hbox hg; have c0 := (af K1.out 0).trans rfl; have c1 := (af K1.out 1).trans rfl; have c2 := (af K1.out 2).trans rfl; have c3 := (af K1.out 3).trans rfl; have c4 := (af K1.out 4).trans rfl; have c5 := (af K1.out 5).trans rfl; have c6 := (af K1.out 6).trans rfl))
     go_ret
     exact ⟨rfl, HB.out⟩
    ·rw [decide_eq_false i0]
     have T_ : (x.f2 == 0) = false := beq_eq_false_iff_ne.mpr i0
     clear i0
     go_enter Try.func177, Try.ntmps177
     go_wp2_with (((with_reducible refine aC (N := 1) rfl ?_); refine aK ?hg (N := 1) ?hd (cs := #[.int .u8 x.f0, .int .i64 x.f1.f0, .int .i64 x.f1.f1, .int .i64 x.f1.f2, .int .i64 x.f1.f3, .int .i64 x.f2, .slice B x.f3.length cb]) (t := 26) ?hr ?_; (case hd => rfl); (case hg => rfl); (case hr => (go_simp; done)); intro b1 hg w1 hbox hb; have HB := ae.mk hb; have K1 := ae.mk hbox; clear hb hbox hg; have c0 := (af K1.out 0).trans rfl; have c1 := (af K1.out 1).trans rfl; have c2 := (af K1.out 2).trans rfl; have c3 := (af K1.out 3).trans rfl; have c4 := (af K1.out 4).trans rfl; have c5 := (af K1.out 5).trans rfl; have c6 := (af K1.out 6).trans rfl))
     go_ret
     exact ⟨rfl, HB.out⟩
   ·rw [decide_eq_false l0, Bool.false_and]
    have l1 : ¬ (2 : Int) ≤ (x.f3.length : Int) := by omega
    go_enter Try.func177, Try.ntmps177
    go_wp2_with (((with_reducible refine aC (N := 1) rfl ?_); refine aK ?hg (N := 1) ?hd (cs := #[.int .u8 x.f0, .int .i64 x.f1.f0, .int .i64 x.f1.f1, .int .i64 x.f1.f2, .int .i64 x.f1.f3, .int .i64 x.f2, .slice B x.f3.length cb]) (t := 26) ?hr ?_; (case hd => rfl); (case hg => rfl); (case hr => (go_simp; done)); intro b1 hg w1 hbox hb; have HB := ae.mk hb; have K1 := ae.mk hbox; clear hb hbox hg; have c0 := (af K1.out 0).trans rfl; have c1 := (af K1.out 1).trans rfl; have c2 := (af K1.out 2).trans rfl; have c3 := (af K1.out 3).trans rfl; have c4 := (af K1.out 4).trans rfl; have c5 := (af K1.out 5).trans rfl; have c6 := (af K1.out 6).trans rfl))
    go_ret
    exact ⟨rfl, HB.out⟩
  ·by_cases k3 : x.f0 = 3
   ·rw [if_pos (.inr k3)]
    have k2b : (x.f0 == 2) = false := beq_eq_false_iff_ne.mpr k2
    have k3b : (x.f0 == 3) = true := beq_iff_eq.mpr k3
    clear k3 k2 k1
    by_cases l0 : 2 ≤ x.f3.length
    ·rw [decide_eq_true l0, Bool.true_and]
     have l1 : (2 : Int) ≤ (x.f3.length : Int) := by omega
     by_cases i0 : x.f2 = 0
     ·rw [decide_eq_true i0]
      have T_ : (x.f2 == 0) = true := beq_iff_eq.mpr i0
      clear i0
      go_enter Try.func177, Try.ntmps177
      go_wp2_with (((with_reducible refine aC (N := 1) rfl ?_); refine aK ?hg (N := 1) ?hd (cs := #[.int .u8 x.f0, .int .i64 x.f1.f0, .int .i64 x.f1.f1, .int .i64 x.f1.f2, .int .i64 x.f1.f3, .int .i64 x.f2, .slice B x.f3.length cb]) (t := 26) ?hr ?_; (case hd => rfl); (case hg => rfl); (case hr => (go_simp; done)); intro b1 hg w1 hbox hb; have HB := ae.mk hb; have K1 := ae.mk hbox; clear hb hbox hg; have c0 := (af K1.out 0).trans rfl; have c1 := (af K1.out 1).trans rfl; have c2 := (af K1.out 2).trans rfl; have c3 := (af K1.out 3).trans rfl; have c4 := (af K1.out 4).trans rfl; have c5 := (af K1.out 5).trans rfl; have c6 := (af K1.out 6).trans rfl))
      go_ret
      exact ⟨rfl, HB.out⟩
     ·rw [decide_eq_false i0]
      have T_ : (x.f2 == 0) = false := beq_eq_false_iff_ne.mpr i0
      clear i0
      go_enter Try.func177, Try.ntmps177
      go_wp2_with (((with_reducible refine aC (N := 1) rfl ?_); refine aK ?hg (N := 1) ?hd (cs := #[.int .u8 x.f0, .int .i64 x.f1.f0, .int .i64 x.f1.f1, .int .i64 x.f1.f2, .int .i64 x.f1.f3, .int .i64 x.f2, .slice B x.f3.length cb]) (t := 26) ?hr ?_; (case hd => rfl); (case hg => rfl); (case hr => (go_simp; done)); intro b1 hg w1 hbox hb; have HB := ae.mk hb; have K1 := ae.mk hbox; clear hb hbox hg; have c0 := (af K1.out 0).trans rfl; have c1 := (af K1.out 1).trans rfl; have c2 := (af K1.out 2).trans rfl; have c3 := (af K1.out 3).trans rfl; have c4 := (af K1.out 4).trans rfl; have c5 := (af K1.out 5).trans rfl; have c6 := (af K1.out 6).trans rfl))
      go_ret
      exact ⟨rfl, HB.out⟩
    ·rw [decide_eq_false l0, Bool.false_and]
     have l1 : ¬ (2 : Int) ≤ (x.f3.length : Int) := by omega
     go_enter Try.func177, Try.ntmps177
     go_wp2_with (((with_reducible refine aC (N := 1) rfl ?_); refine aK ?hg (N := 1) ?hd (cs := #[.int .u8 x.f0, .int .i64 x.f1.f0, .int .i64 x.f1.f1, .int .i64 x.f1.f2, .int .i64 x.f1.f3, .int .i64 x.f2, .slice B x.f3.length cb]) (t := 26) ?hr ?_; (case hd => rfl); (case hg => rfl); (case hr => (go_simp; done)); intro b1 hg w1 hbox hb; have HB := ae.mk hb; have K1 := ae.mk hbox; clear hb hbox hg; have c0 := (af K1.out 0).trans rfl; have c1 := (af K1.out 1).trans rfl; have c2 := (af K1.out 2).trans rfl; have c3 := (af K1.out 3).trans rfl; have c4 := (af K1.out 4).trans rfl; have c5 := (af K1.out 5).trans rfl; have c6 := (af K1.out 6).trans rfl))
     go_ret
     exact ⟨rfl, HB.out⟩
   ·rw [if_neg (fun h => h.elim k2 k3)]
    have k2b : (x.f0 == 2) = false := beq_eq_false_iff_ne.mpr k2
    have k3b : (x.f0 == 3) = false := beq_eq_false_iff_ne.mpr k3
    go_enter Try.func177, Try.ntmps177
    go_wp2_with (((with_reducible refine aC (N := 1) rfl ?_); refine aK ?hg (N := 1) ?hd (cs := #[.int .u8 x.f0, .int .i64 x.f1.f0, .int .i64 x.f1.f1, .int .i64 x.f1.f2, .int .i64 x.f1.f3, .int .i64 x.f2, .slice B x.f3.length cb]) (t := 26) ?hr ?_; (case hd => rfl); (case hg => rfl); (case hr => (go_simp; done)); intro b1 hg w1 hbox hb; have HB := ae.mk hb; have K1 := ae.mk hbox; clear hb hbox hg; have c0 := (af K1.out 0).trans rfl; have c1 := (af K1.out 1).trans rfl; have c2 := (af K1.out 2).trans rfl; have c3 := (af K1.out 3).trans rfl; have c4 := (af K1.out 4).trans rfl; have c5 := (af K1.out 5).trans rfl; have c6 := (af K1.out 6).trans rfl))
    go_ret
    exact ⟨rfl, HB.out⟩
theorem ady {σ : Type} (Inv : σ → World → Prop) (step : σ → dw → Bool × σ) (g : Nat) (lb : Array Value) (eg : ∀ args w, (callFunc g args).run Try.prog w = .ok (.enter g args) w) (l : List dw) (A : Option Addr) (c : Nat)
  (hR : ∀ s W, Inv s W → Kd.C k23 W A l.length l) (hD : ∀ s W n, Inv s W → Inv s (W.drewN n))
  (hcall : ∀ s W (x : dw), x ∈ l → Inv s W → Calls Try.prog g (#[.agg #[.int .i64 x.f0, .int .i64 x.f1, .int .i64 x.f2, .int .i64 x.f3]] ++ lb) W fun e w' => e = .returned (.bool (step s x).1) ∧ Inv (step s x).2 w')
  (s : σ) (w : World) (hI : Inv s w) (hl : l.length ≤ 9223372036854775807) :
  Calls Try.prog 173 #[.slice A l.length c, .func (.func g) #[] lb] w fun e w' => e = .returned (.int .i64 (kN step 0 s l).1) ∧ Inv (kN step 0 s l).2 w' := by
 have HR := ae.mk hR
 have HI := ae.mk hI
 have yz := ae.mk hcall
 clear hR hcall hD hI
 go_enter Try.func173, Try.ntmps173
 go_wp2
 go_loopg [5, 8] l.length (fun gg _ v8 wr => ∃ (kk : Nat) (t : σ), kk ≤ l.length ∧ l.length - kk ≤ gg ∧ v8 = .int .i64 kk ∧ ae (Inv t wr) ∧ ae (kN step 0 s l = kN step kk t (l.drop kk)))
 case atStart => exact ⟨0, s, Nat.zero_le _, by omega, rfl, HI, ⟨by simp⟩⟩
 case round =>
  clear HI
  obtain ⟨kk, t, hkk, hg, rfl, HI, HS⟩ := hrel
  by_cases hlt : kk < l.length
  ·have hltz : (kk : Int) < (l.length : Int) := by omega
   obtain ⟨ad, rfl, hc0, hc1, hc2, hc3⟩ := Lh (HR.out t wr HI.out) (kk : Int) (by omega) (by omega)
   have HX : ae (kN step kk t (l.drop kk) = if (step t (pX l (kk : Int))).1 = true then ((kk : Int), (step t (pX l (kk : Int))).2) else kN step ((kk + 1 : Nat) : Int) (step t (pX l (kk : Int))).2 (l.drop (kk + 1))) := ⟨Pq step z23 l kk hlt t⟩
   have hmem : (pX l (kk : Int)) ∈ l := BR z23 l kk hlt
   have hcall := yz.out t wr _ hmem HI.out
   clear hmem
   simp only [Int.toNat_natCast] at hc0 hc1 hc2 hc3
   generalize pX l (kk : Int) = x at hc0 hc1 hc2 hc3 HX hcall
   have HC := ae.mk hcall
   clear hcall
   cases hq : (step t x).1 with
   | true =>
    have h := HC.out
    rw [hq] at h
    have HH := ae.mk h
    have HQ := ae.mk hq
    clear hq HC h
    go_wp2_with fail
    refine HH.out.mono ?_
    rintro e w' ⟨rfl, hb'⟩
    have HB := ae.mk hb'
    clear hb'
    go_wp2
    go_ret
    rw [HS.out, HX.out, if_pos HQ.out]
    exact ⟨rfl, HB.out⟩
   | false =>
    have h := HC.out
    rw [hq] at h
    have HH := ae.mk h
    have HQ := ae.mk hq
    clear hq HC h
    go_wp2_with fail
    refine HH.out.mono ?_
    rintro e w' ⟨rfl, hb'⟩
    have HB := ae.mk hb'
    clear hb'
    go_wp2
    go_roundg (l.length - (kk + 1))
    case measure => omega
    case rel =>
     refine ⟨kk + 1, (step t x).2, by omega, by omega, by go_num, HB, ⟨?_⟩⟩
     rw [HS.out, HX.out, if_neg (by rw [HQ.out]; simp)]
  ·have hltz : ¬ (kk : Int) < (l.length : Int) := by omega
   go_wp2
   go_ret
   rw [HS.out, List.drop_eq_nil_of_le (by omega)]
   exact ⟨rfl, HI.out⟩
theorem acf {σ : Type} (Inv : σ → World → Prop) (step : σ → dw → Bool × σ) (g : Nat) (lb : Array Value) (eg : ∀ args w, (callFunc g args).run Try.prog w = .ok (.enter g args) w) (l : List dw) (A : Option Addr) (c : Nat)
  (hR : ∀ s W, Inv s W → Kd.C k23 W A l.length l) (hD : ∀ s W n, Inv s W → Inv s (W.drewN n))
  (hcall : ∀ s W (x : dw), x ∈ l → Inv s W → Calls Try.prog g (#[.agg #[.int .i64 x.f0, .int .i64 x.f1, .int .i64 x.f2, .int .i64 x.f3]] ++ lb) W fun e w' => e = .returned (.bool (step s x).1) ∧ Inv (step s x).2 w')
  (s : σ) (w : World) (hI : Inv s w) (hl : l.length ≤ 9223372036854775807) :
  Calls Try.prog 134 #[.slice A l.length c, .func (.func g) #[] lb] w fun e w' => e = .returned (.bool (rf step s l).1) ∧ Inv (rf step s l).2 w' := by
 have hi := ady Inv step g lb eg l A c hR hD hcall s w hI hl
 rw [NJ]
 clear hR hD hcall hI
 generalize kN step 0 s l = r at hi
 have HI := ae.mk hi
 clear hi
 go_enter Try.func134, Try.ntmps134
 go_wp2_with fail
 refine HI.out.mono ?_
 rintro e w' ⟨rfl, hb'⟩
 have HB := ae.mk hb'
 clear hb'
 go_wp2
 go_ret
 exact ⟨rfl, HB.out⟩
theorem may1 (x : dw) (w : World) : Calls Try.prog 138 #[.agg #[.int .i64 x.f0, .int .i64 x.f1, .int .i64 x.f2, .int .i64 x.f3]] w fun e w' => e = .returned (.bool (!jW x)) ∧ Below w.heap.size w w' := by
 have hc := fun W => wM.calls x.f0 x.f1 x.f2 x.f3 (jW x) W (Nc _ _ _ _)
 have HC := ae.mk hc
 clear hc
 cases hm : jW x with
 | true =>
  rw [hm] at HC
  clear hm
  go_enter Try.func138, Try.ntmps138
  go_wp2_with fail
  refine (HC.out _).mono ?_
  rintro e w' ⟨rfl, hb⟩
  have HB := ae.mk hb
  clear hb
  go_wp2
  go_ret
  exact ⟨rfl, vC (iU (Below.refl _ _) _) (by simp) HB.out⟩
 | false =>
  rw [hm] at HC
  clear hm
  go_enter Try.func138, Try.ntmps138
  go_wp2_with fail
  refine (HC.out _).mono ?_
  rintro e w' ⟨rfl, hb⟩
  have HB := ae.mk hb
  clear hb
  go_wp2
  go_ret
  exact ⟨rfl, vC (iU (Below.refl _ _) _) (by simp) HB.out⟩
def lh.f (l0 : List (dw)) : Option Bool := some (l0.all jW)
theorem lh.calls (A0 : Option Addr) (c0 : Nat) (l0 : List (dw)) (r : Bool) (w : World) (hr0 : Kd.C k23 w A0 l0.length l0) (agy : l0.length ≤ c0) (h : lh.f l0 = some r) :
  Calls Try.prog 68 #[.slice A0 l0.length c0] w fun e w' => e = .returned (.bool r) ∧ Below w.heap.size w w' := by
 have hcon := acf (fun (_ : Unit) W => Below w.heap.size w W) (fun _ x => (!jW x, ())) 138 #[] (rJ Try.func138 (by decide +kernel) (by kernel_rfl)) l0 A0 c0 (fun _ W hW => Kd.iq hr0 hW) (fun _ W n hW => eH hW n)
  (fun _ W x _ hW => by
   rw [show (#[Value.agg #[.int .i64 x.f0, .int .i64 x.f1, .int .i64 x.f2, .int .i64 x.f3]] ++ #[] : Array Value) = #[.agg #[.int .i64 x.f0, .int .i64 x.f1, .int .i64 x.f2, .int .i64 x.f3]] by simp]
   exact (may1 x W).mono fun e w' ⟨he, hb⟩ => ⟨he, vC hW hW.size hb⟩) () w (Below.refl _ _) hr0.2.1
 rw [JB] at hcon
 have e1 : r = !(l0.any fun x => !jW x) := by
  injection h with h
  rw [← h]
  clear h hcon hr0 agy
  induction l0 with
  | nil => rfl
  | cons x xs ih => simp only [List.all_cons, List.any_cons, ih, Bool.not_or, Bool.not_not]
 subst e1
 generalize (l0.any fun x => !jW x) = b at hcon
 have HC := ae.mk hcon
 clear hcon h hr0
 go_enter Try.func68, Try.ntmps68
 go_wp2_with fail
 refine HC.out.mono ?_
 rintro e w' ⟨rfl, hb⟩
 have HB := ae.mk hb
 clear hb
 go_wp2
 go_ret
 exact ⟨rfl, HB.out⟩
theorem Kp.grown {S : Nat → Prop} {W W1 : World} {g : Nat} (h : W.grownBy W1 (some g)) (hs : S g) : Kp S W W1 := ⟨h.size, fun k hk hn => h.block k hk (fun e => hn (by injection e with e; rw [e]; exact hs))⟩
theorem lM.count {w0 W W1 : World} {bn bm B : Nat} {s : Int × List Int} {n : Int} (h : lM w0 bn bm B s W) (hk : W1.heap[bn]? = some (.cells #[.int .i64 n] 3 (0, 0))) (hb : Below w0.heap.size w0 W1) (hg : W.grownBy W1 (some bn)) : lM w0 bn bm B (n, s.2) W1 :=
 ⟨hk, cO h.hm hg (fun e => h.XT.2.2 (Option.some.inj e)), h.map.kept hg (fun e => h.XT.1 (Option.some.inj e).symm), hb, h.gn, h.gB, h.nd, h.rg⟩
theorem lM.met {w0 W W1 : World} {bn bm B : Nat} {s : Int × List Int} {i : Int} (h : lM w0 bn bm B s W) (hm : W1.ownsMap (H := Unit) Try.prog 3 (plainElem Try.prog 4) B (s.2.length + 1) ((FN s.2).put (.int .i64 i) (.lit (.bool true)))) (hg : W.grownBy W1 (some B)) (hi : i ∉ s.2) (h0 : 0 ≤ i) (h1 : i ≤ 2147483647) : lM w0 bn bm B (s.1, i :: s.2) W1 :=
 ⟨cO h.hn hg (fun e => h.XT.1 (Option.some.inj e)), cO h.hm hg (fun e => h.XT.2.1 (Option.some.inj e)), hm, grown_below h.below hg h.gB h.below.size, h.gn, h.gB, List.nodup_cons.2 ⟨hi, h.nd⟩, fun j hj => by
  rcases List.mem_cons.1 hj with rfl | hj
  ·exact ⟨h0, h1⟩
  ·exact h.rg j hj⟩
theorem Ya (w : World) : (zeroValue 4).run Try.prog w = .ok (.bool false) w := by kernel_rfl
theorem afk (w0 : World) (bn bm B : Nat) (s : Int × List Int) (W : World) (x : ai) (A : Option Addr) (cb : Nat) (hI : lM w0 bn bm B s W) (h1 : 20000 < wrap64 (s.1 + 1)) :
  Calls Try.prog 176 (#[.agg #[.int .u8 x.f0, .int .i64 x.f1.f0, .int .i64 x.f1.f1, .int .i64 x.f1.f2, .int .i64 x.f1.f3, .int .i64 x.f2, .slice A x.f3.length cb]] ++ #[.pointer (some ⟨bn, 0, none⟩), .pointer (some ⟨bm, 0, none⟩)]) W fun e w' => e = .returned (.bool (iV s x).1) ∧ lM w0 bn bm B (iV s x).2 w' ∧ Kp (uZ bn B) W w' := by
 rw [show iV s x = (false, (wrap64 (s.1 + 1), s.2)) from by unfold iV; rw [if_pos h1]]
 have HI := ae.mk hI
 have HK := ae.mk (Kp.refl (uZ bn B) W)
 clear hI
 simp only [List.append_toArray, List.cons_append, List.nil_append]
 go_enter Try.func176, Try.ntmps176
 go_wp2_with (first | ((with_reducible refine aC (N := 3) rfl ?_); refine aK ?hg (N := 3) ?hd (cs := #[.int .u8 x.f0, .int .i64 x.f1.f0, .int .i64 x.f1.f1, .int .i64 x.f1.f2, .int .i64 x.f1.f3, .int .i64 x.f2, .slice A x.f3.length cb]) (t := 26) ?hr ?_; (case hd => rfl); (case hg => rfl); (case hr => (go_simp; done)); intro b3 hg w3 hbox hb; have K3 := ae.mk hbox; have dU := ae.mk (HI.out.step hb); have dZ := ae.mk (HK.out.trans (Kp.below hb)); clear HI HK; have HI := dU; have HK := dZ; clear dU dZ; clear hb hbox hg; have cn := (af HI.out.hn 0).trans rfl) | ((with_reducible refine lH (.store 3 (.tmp 1) (.tmp 6)) rfl ?_); go_loud (clear cn; refine f_ (w0 := w0) rfl rfl 3 (.tmp 1) (.tmp 6) rfl (g := bn) (j := 0) (base := w0.heap.size) #[.int .i64 (wrap64 (s.1 + 1))] (u := .int .i64 (wrap64 (s.1 + 1))) (bG := [.int .i64 (wrap64 (s.1 + 1))]) ?sA ?sX rfl ?sT ?s1 HI.out.hn ?sJ rfl HI.out.below HI.out.below.size HI.out.gn ?_; (case sA => rfl); (case sX => rfl); (case sT => rfl); (case s1 => (simp [Value.oneCell'])); (case sJ => (simp)); intro ws hbk hbb hgg; have dU := ae.mk (HI.out.count hbk hbb hgg); have dZ := ae.mk (HK.out.trans (Kp.grown hgg (Or.inl rfl))); have gZ := ae.mk (cO K3.out hgg (fun e_ => tY K3.out HI.out.hn (by decide) (Option.some.inj e_))); clear HI HK K3 hbk hbb hgg; have HI := dU; have HK := dZ; have K3 := gZ; clear dU dZ gZ; have cn := (af HI.out.hn 0).trans rfl; have c0 := (af K3.out 0).trans rfl; have c1 := (af K3.out 1).trans rfl; have c2 := (af K3.out 2).trans rfl; have c3 := (af K3.out 3).trans rfl; have c4 := (af K3.out 4).trans rfl; have c5 := (af K3.out 5).trans rfl; have c6 := (af K3.out 6).trans rfl)))
 go_ret
 exact ⟨rfl, HI.out, HK.out⟩
theorem afl (w0 : World) (bn bm B : Nat) (s : Int × List Int) (W : World) (x : ai) (A : Option Addr) (cb : Nat) (hI : lM w0 bn bm B s W) (h1 : ¬ 20000 < wrap64 (s.1 + 1)) (h2 : vV x = false) :
  Calls Try.prog 176 (#[.agg #[.int .u8 x.f0, .int .i64 x.f1.f0, .int .i64 x.f1.f1, .int .i64 x.f1.f2, .int .i64 x.f1.f3, .int .i64 x.f2, .slice A x.f3.length cb]] ++ #[.pointer (some ⟨bn, 0, none⟩), .pointer (some ⟨bm, 0, none⟩)]) W fun e w' => e = .returned (.bool (iV s x).1) ∧ lM w0 bn bm B (iV s x).2 w' ∧ Kp (uZ bn B) W w' := by
 rw [show iV s x = (false, (wrap64 (s.1 + 1), s.2)) from by unfold iV; rw [if_neg h1, y8, h2]; simp]
 have HN := ae.mk fun W => A8 x A cb W
 rw [h2] at HN
 clear h2
 have HI := ae.mk hI
 have HK := ae.mk (Kp.refl (uZ bn B) W)
 clear hI
 simp only [List.append_toArray, List.cons_append, List.nil_append]
 go_enter Try.func176, Try.ntmps176
 go_wp2_with (first | ((with_reducible refine aC (N := 3) rfl ?_); refine aK ?hg (N := 3) ?hd (cs := #[.int .u8 x.f0, .int .i64 x.f1.f0, .int .i64 x.f1.f1, .int .i64 x.f1.f2, .int .i64 x.f1.f3, .int .i64 x.f2, .slice A x.f3.length cb]) (t := 26) ?hr ?_; (case hd => rfl); (case hg => rfl); (case hr => (go_simp; done)); intro b3 hg w3 hbox hb; have K3 := ae.mk hbox; have dU := ae.mk (HI.out.step hb); have dZ := ae.mk (HK.out.trans (Kp.below hb)); clear HI HK; have HI := dU; have HK := dZ; clear dU dZ; clear hb hbox hg; have cn := (af HI.out.hn 0).trans rfl) | ((with_reducible refine lH (.store 3 (.tmp 1) (.tmp 6)) rfl ?_); go_loud (clear cn; refine f_ (w0 := w0) rfl rfl 3 (.tmp 1) (.tmp 6) rfl (g := bn) (j := 0) (base := w0.heap.size) #[.int .i64 (wrap64 (s.1 + 1))] (u := .int .i64 (wrap64 (s.1 + 1))) (bG := [.int .i64 (wrap64 (s.1 + 1))]) ?sA ?sX rfl ?sT ?s1 HI.out.hn ?sJ rfl HI.out.below HI.out.below.size HI.out.gn ?_; (case sA => rfl); (case sX => rfl); (case sT => rfl); (case s1 => (simp [Value.oneCell'])); (case sJ => (simp)); intro ws hbk hbb hgg; have dU := ae.mk (HI.out.count hbk hbb hgg); have dZ := ae.mk (HK.out.trans (Kp.grown hgg (Or.inl rfl))); have gZ := ae.mk (cO K3.out hgg (fun e_ => tY K3.out HI.out.hn (by decide) (Option.some.inj e_))); clear HI HK K3 hbk hbb hgg; have HI := dU; have HK := dZ; have K3 := gZ; clear dU dZ gZ; have cn := (af HI.out.hn 0).trans rfl; have c0 := (af K3.out 0).trans rfl; have c1 := (af K3.out 1).trans rfl; have c2 := (af K3.out 2).trans rfl; have c3 := (af K3.out 3).trans rfl; have c4 := (af K3.out 4).trans rfl; have c5 := (af K3.out 5).trans rfl; have c6 := (af K3.out 6).trans rfl)))
 clear cn
 clear c0 c1 c2 c3 c4 c5 c6
 refine (HN.out _).mono ?_
 rintro e wk ⟨rfl, hb⟩
 have gZ := ae.mk (aI K3.out hb)
 clear K3
 have K3 := gZ
 clear gZ
 have dU := ae.mk (HI.out.step hb); have dZ := ae.mk (HK.out.trans (Kp.below hb)); clear HI HK; have HI := dU; have HK := dZ; clear dU dZ
 clear hb
 go_wp2
 go_ret
 exact ⟨rfl, HI.out, HK.out⟩
theorem afm (w0 : World) (bn bm B : Nat) (s : Int × List Int) (W : World) (x : ai) (A : Option Addr) (cb : Nat) (hI : lM w0 bn bm B s W) (h1 : ¬ 20000 < wrap64 (s.1 + 1)) (h2 : vV x = true) (h3 : jW x.f1 = false) :
  Calls Try.prog 176 (#[.agg #[.int .u8 x.f0, .int .i64 x.f1.f0, .int .i64 x.f1.f1, .int .i64 x.f1.f2, .int .i64 x.f1.f3, .int .i64 x.f2, .slice A x.f3.length cb]] ++ #[.pointer (some ⟨bn, 0, none⟩), .pointer (some ⟨bm, 0, none⟩)]) W fun e w' => e = .returned (.bool (iV s x).1) ∧ lM w0 bn bm B (iV s x).2 w' ∧ Kp (uZ bn B) W w' := by
 rw [show iV s x = (false, (wrap64 (s.1 + 1), s.2)) from by unfold iV; rw [if_neg h1, y8, h2, h3]; simp]
 have HN := ae.mk fun W => A8 x A cb W
 rw [h2] at HN
 clear h2
 have M1 := ae.mk (show lh.f [x.f1] = some false by simp [lh.f, h3])
 clear h3
 have HI := ae.mk hI
 have HK := ae.mk (Kp.refl (uZ bn B) W)
 clear hI
 simp only [List.append_toArray, List.cons_append, List.nil_append]
 go_enter Try.func176, Try.ntmps176
 go_wp2_with (first | ((with_reducible refine aC (N := 3) rfl ?_); refine aK ?hg (N := 3) ?hd (cs := #[.int .u8 x.f0, .int .i64 x.f1.f0, .int .i64 x.f1.f1, .int .i64 x.f1.f2, .int .i64 x.f1.f3, .int .i64 x.f2, .slice A x.f3.length cb]) (t := 26) ?hr ?_; (case hd => rfl); (case hg => rfl); (case hr => (go_simp; done)); intro b3 hg w3 hbox hb; have K3 := ae.mk hbox; have dU := ae.mk (HI.out.step hb); have dZ := ae.mk (HK.out.trans (Kp.below hb)); clear HI HK; have HI := dU; have HK := dZ; clear dU dZ; clear hb hbox hg; have cn := (af HI.out.hn 0).trans rfl) | ((with_reducible refine lH (.store 3 (.tmp 1) (.tmp 6)) rfl ?_); go_loud (clear cn; refine f_ (w0 := w0) rfl rfl 3 (.tmp 1) (.tmp 6) rfl (g := bn) (j := 0) (base := w0.heap.size) #[.int .i64 (wrap64 (s.1 + 1))] (u := .int .i64 (wrap64 (s.1 + 1))) (bG := [.int .i64 (wrap64 (s.1 + 1))]) ?sA ?sX rfl ?sT ?s1 HI.out.hn ?sJ rfl HI.out.below HI.out.below.size HI.out.gn ?_; (case sA => rfl); (case sX => rfl); (case sT => rfl); (case s1 => (simp [Value.oneCell'])); (case sJ => (simp)); intro ws hbk hbb hgg; have dU := ae.mk (HI.out.count hbk hbb hgg); have dZ := ae.mk (HK.out.trans (Kp.grown hgg (Or.inl rfl))); have gZ := ae.mk (cO K3.out hgg (fun e_ => tY K3.out HI.out.hn (by decide) (Option.some.inj e_))); clear HI HK K3 hbk hbb hgg; have HI := dU; have HK := dZ; have K3 := gZ; clear dU dZ gZ; have cn := (af HI.out.hn 0).trans rfl; have c0 := (af K3.out 0).trans rfl; have c1 := (af K3.out 1).trans rfl; have c2 := (af K3.out 2).trans rfl; have c3 := (af K3.out 3).trans rfl; have c4 := (af K3.out 4).trans rfl; have c5 := (af K3.out 5).trans rfl; have c6 := (af K3.out 6).trans rfl)))
 clear cn
 clear c0 c1 c2 c3 c4 c5 c6
 refine (HN.out _).mono ?_
 rintro e wk ⟨rfl, hb⟩
 have gZ := ae.mk (aI K3.out hb)
 clear K3
 have K3 := gZ
 clear gZ
 have dU := ae.mk (HI.out.step hb); have dZ := ae.mk (HK.out.trans (Kp.below hb)); clear HI HK; have HI := dU; have HK := dZ; clear dU dZ
 clear hb
 have c0 := (af K3.out 0).trans rfl
 have c1 := (af K3.out 1).trans rfl
 have c2 := (af K3.out 2).trans rfl
 have c3 := (af K3.out 3).trans rfl
 have c4 := (af K3.out 4).trans rfl
 have c5 := (af K3.out 5).trans rfl
 have c6 := (af K3.out 6).trans rfl
 go_wp2_with (((with_reducible refine aC (N := 17) rfl ?_); (try (refine gy (by rfl) ?_; dsimp only)); refine Kd.vw k23 _ 23 ?hg (N := 17) ?hd (xs := ([x.f1] : List dw)) (inner := [.int .i64 x.f1.f0, .int .i64 x.f1.f1, .int .i64 x.f1.f2, .int .i64 x.f1.f3]) (ok := fun _ => True) (fB := fun _ => True) ?hr ?hp (fun _ hk => hk) trivial (Below.refl _ _) (Nat.le_refl _) (by simp) ?_; (case hd => rfl); (case hg => rfl); (case hr => (go_simp; done)); (case hp => exact (bQ.c4 (show Kd.M k23 _ _ _ x.f1 [.int .i64 x.f1.f0, .int .i64 x.f1.f1, .int .i64 x.f1.f2, .int .i64 x.f1.f3] from qM _ _ _ x.f1) (bQ.none _ _))); intro vr wr ho hb nI jm; clear nI jm; obtain ⟨Ar, cr, er⟩ := Kd.fU ho; subst er; have gZ := ae.mk (aI K3.out hb); clear K3; have K3 := gZ; clear gZ; have dU := ae.mk (HI.out.step hb); have dZ := ae.mk (HK.out.trans (Kp.below hb)); clear HI HK; have HI := dU; have HK := dZ; clear dU dZ; have HR := ae.mk (Kd.dP ho).2.2; have LR := ae.mk (Kd.dP ho).2.1; clear ho hb))
 clear c0 c1 c2 c3 c4 c5 c6
 refine (lh.calls Ar cr [x.f1] false _ HR.out LR.out M1.out).mono ?_
 rintro e wk ⟨rfl, hb⟩
 have gZ := ae.mk (aI K3.out hb)
 clear K3
 have K3 := gZ
 clear gZ
 have dU := ae.mk (HI.out.step hb); have dZ := ae.mk (HK.out.trans (Kp.below hb)); clear HI HK; have HI := dU; have HK := dZ; clear dU dZ
 clear hb
 go_wp2
 go_ret
 exact ⟨rfl, HI.out, HK.out⟩
theorem afn (w0 : World) (bn bm B : Nat) (s : Int × List Int) (W : World) (x : ai) (A : Option Addr) (cb : Nat) (hI : lM w0 bn bm B s W) (h1 : ¬ 20000 < wrap64 (s.1 + 1)) (h2 : vV x = true) (h3 : jW x.f1 = true) (h4 : x.f0 ≠ 1) :
  Calls Try.prog 176 (#[.agg #[.int .u8 x.f0, .int .i64 x.f1.f0, .int .i64 x.f1.f1, .int .i64 x.f1.f2, .int .i64 x.f1.f3, .int .i64 x.f2, .slice A x.f3.length cb]] ++ #[.pointer (some ⟨bn, 0, none⟩), .pointer (some ⟨bm, 0, none⟩)]) W fun e w' => e = .returned (.bool (iV s x).1) ∧ lM w0 bn bm B (iV s x).2 w' ∧ Kp (uZ bn B) W w' := by
 rw [show iV s x = (true, (wrap64 (s.1 + 1), s.2)) from by unfold iV; rw [if_neg h1, y8, h2, h3, if_neg (by simp), if_neg h4]]
 have HN := ae.mk fun W => A8 x A cb W
 rw [h2] at HN
 clear h2
 have M1 := ae.mk (show lh.f [x.f1] = some true by simp [lh.f, h3])
 clear h3
 have Gv : (x.f0 == 1) = false := beq_eq_false_iff_ne.mpr h4
 clear h4
 have HI := ae.mk hI
 have HK := ae.mk (Kp.refl (uZ bn B) W)
 clear hI
 simp only [List.append_toArray, List.cons_append, List.nil_append]
 go_enter Try.func176, Try.ntmps176
 go_wp2_with (first | ((with_reducible refine aC (N := 3) rfl ?_); refine aK ?hg (N := 3) ?hd (cs := #[.int .u8 x.f0, .int .i64 x.f1.f0, .int .i64 x.f1.f1, .int .i64 x.f1.f2, .int .i64 x.f1.f3, .int .i64 x.f2, .slice A x.f3.length cb]) (t := 26) ?hr ?_; (case hd => rfl); (case hg => rfl); (case hr => (go_simp; done)); intro b3 hg w3 hbox hb; have K3 := ae.mk hbox; have dU := ae.mk (HI.out.step hb); have dZ := ae.mk (HK.out.trans (Kp.below hb)); clear HI HK; have HI := dU; have HK := dZ; clear dU dZ; clear hb hbox hg; have cn := (af HI.out.hn 0).trans rfl) | ((with_reducible refine lH (.store 3 (.tmp 1) (.tmp 6)) rfl ?_); go_loud (clear cn; refine f_ (w0 := w0) rfl rfl 3 (.tmp 1) (.tmp 6) rfl (g := bn) (j := 0) (base := w0.heap.size) #[.int .i64 (wrap64 (s.1 + 1))] (u := .int .i64 (wrap64 (s.1 + 1))) (bG := [.int .i64 (wrap64 (s.1 + 1))]) ?sA ?sX rfl ?sT ?s1 HI.out.hn ?sJ rfl HI.out.below HI.out.below.size HI.out.gn ?_; (case sA => rfl); (case sX => rfl); (case sT => rfl); (case s1 => (simp [Value.oneCell'])); (case sJ => (simp)); intro ws hbk hbb hgg; have dU := ae.mk (HI.out.count hbk hbb hgg); have dZ := ae.mk (HK.out.trans (Kp.grown hgg (Or.inl rfl))); have gZ := ae.mk (cO K3.out hgg (fun e_ => tY K3.out HI.out.hn (by decide) (Option.some.inj e_))); clear HI HK K3 hbk hbb hgg; have HI := dU; have HK := dZ; have K3 := gZ; clear dU dZ gZ; have cn := (af HI.out.hn 0).trans rfl; have c0 := (af K3.out 0).trans rfl; have c1 := (af K3.out 1).trans rfl; have c2 := (af K3.out 2).trans rfl; have c3 := (af K3.out 3).trans rfl; have c4 := (af K3.out 4).trans rfl; have c5 := (af K3.out 5).trans rfl; have c6 := (af K3.out 6).trans rfl)))
 clear cn
 clear c0 c1 c2 c3 c4 c5 c6
 refine (HN.out _).mono ?_
 rintro e wk ⟨rfl, hb⟩
 have gZ := ae.mk (aI K3.out hb)
 clear K3
 have K3 := gZ
 clear gZ
 have dU := ae.mk (HI.out.step hb); have dZ := ae.mk (HK.out.trans (Kp.below hb)); clear HI HK; have HI := dU; have HK := dZ; clear dU dZ
 clear hb
 have c0 := (af K3.out 0).trans rfl
 have c1 := (af K3.out 1).trans rfl
 have c2 := (af K3.out 2).trans rfl
 have c3 := (af K3.out 3).trans rfl
 have c4 := (af K3.out 4).trans rfl
 have c5 := (af K3.out 5).trans rfl
 have c6 := (af K3.out 6).trans rfl
 go_wp2_with (((with_reducible refine aC (N := 17) rfl ?_); (try (refine gy (by rfl) ?_; dsimp only)); refine Kd.vw k23 _ 23 ?hg (N := 17) ?hd (xs := ([x.f1] : List dw)) (inner := [.int .i64 x.f1.f0, .int .i64 x.f1.f1, .int .i64 x.f1.f2, .int .i64 x.f1.f3]) (ok := fun _ => True) (fB := fun _ => True) ?hr ?hp (fun _ hk => hk) trivial (Below.refl _ _) (Nat.le_refl _) (by simp) ?_; (case hd => rfl); (case hg => rfl); (case hr => (go_simp; done)); (case hp => exact (bQ.c4 (show Kd.M k23 _ _ _ x.f1 [.int .i64 x.f1.f0, .int .i64 x.f1.f1, .int .i64 x.f1.f2, .int .i64 x.f1.f3] from qM _ _ _ x.f1) (bQ.none _ _))); intro vr wr ho hb nI jm; clear nI jm; obtain ⟨Ar, cr, er⟩ := Kd.fU ho; subst er; have gZ := ae.mk (aI K3.out hb); clear K3; have K3 := gZ; clear gZ; have dU := ae.mk (HI.out.step hb); have dZ := ae.mk (HK.out.trans (Kp.below hb)); clear HI HK; have HI := dU; have HK := dZ; clear dU dZ; have HR := ae.mk (Kd.dP ho).2.2; have LR := ae.mk (Kd.dP ho).2.1; clear ho hb))
 clear c0 c1 c2 c3 c4 c5 c6
 refine (lh.calls Ar cr [x.f1] true _ HR.out LR.out M1.out).mono ?_
 rintro e wk ⟨rfl, hb⟩
 have gZ := ae.mk (aI K3.out hb)
 clear K3
 have K3 := gZ
 clear gZ
 have dU := ae.mk (HI.out.step hb); have dZ := ae.mk (HK.out.trans (Kp.below hb)); clear HI HK; have HI := dU; have HK := dZ; clear dU dZ
 clear hb
 have c0 := (af K3.out 0).trans rfl
 have c1 := (af K3.out 1).trans rfl
 have c2 := (af K3.out 2).trans rfl
 have c3 := (af K3.out 3).trans rfl
 have c4 := (af K3.out 4).trans rfl
 have c5 := (af K3.out 5).trans rfl
 have c6 := (af K3.out 6).trans rfl
 go_wp2
 go_ret
 exact ⟨rfl, HI.out, HK.out⟩
theorem afo (w0 : World) (bn bm B : Nat) (s : Int × List Int) (W : World) (x : ai) (A : Option Addr) (cb : Nat) (hI : lM w0 bn bm B s W) (h1 : ¬ 20000 < wrap64 (s.1 + 1)) (h2 : vV x = true) (h3 : jW x.f1 = true) (h4 : x.f0 = 1) (h5 : 0 ≤ x.f2) (h6 : x.f2 ≤ 2147483647) (h7 : x.f2 ∈ s.2) :
  Calls Try.prog 176 (#[.agg #[.int .u8 x.f0, .int .i64 x.f1.f0, .int .i64 x.f1.f1, .int .i64 x.f1.f2, .int .i64 x.f1.f3, .int .i64 x.f2, .slice A x.f3.length cb]] ++ #[.pointer (some ⟨bn, 0, none⟩), .pointer (some ⟨bm, 0, none⟩)]) W fun e w' => e = .returned (.bool (iV s x).1) ∧ lM w0 bn bm B (iV s x).2 w' ∧ Kp (uZ bn B) W w' := by
 rw [show iV s x = (false, (wrap64 (s.1 + 1), s.2)) from by unfold iV; rw [if_neg h1, y8, h2, h3, if_neg (by simp), if_pos h4, if_pos h7]]
 have HN := ae.mk fun W => A8 x A cb W
 rw [h2] at HN
 clear h2
 have M1 := ae.mk (show lh.f [x.f1] = some true by simp [lh.f, h3])
 clear h3
 have LK : ae ((FN s.2).atKey (.int .i64 x.f2) (.lit (.bool false)) = .lit (.bool true)) := ⟨by rw [Py, decide_eq_true h7]⟩
 clear h7
 have WF : ae ((Lit.int .i64 x.f2).wf = true) := ⟨WalkArith.wf_i64 (by omega)⟩
 have Gv : (x.f0 == 1) = true := beq_iff_eq.mpr h4
 clear h4 h5 h6
 have HI := ae.mk hI
 have HK := ae.mk (Kp.refl (uZ bn B) W)
 clear hI
 simp only [List.append_toArray, List.cons_append, List.nil_append]
 go_enter Try.func176, Try.ntmps176
 go_wp2_with (first | ((with_reducible refine aC (N := 3) rfl ?_); refine aK ?hg (N := 3) ?hd (cs := #[.int .u8 x.f0, .int .i64 x.f1.f0, .int .i64 x.f1.f1, .int .i64 x.f1.f2, .int .i64 x.f1.f3, .int .i64 x.f2, .slice A x.f3.length cb]) (t := 26) ?hr ?_; (case hd => rfl); (case hg => rfl); (case hr => (go_simp; done)); intro b3 hg w3 hbox hb; have K3 := ae.mk hbox; have dU := ae.mk (HI.out.step hb); have dZ := ae.mk (HK.out.trans (Kp.below hb)); clear HI HK; have HI := dU; have HK := dZ; clear dU dZ; clear hb hbox hg; have cn := (af HI.out.hn 0).trans rfl) | ((with_reducible refine lH (.store 3 (.tmp 1) (.tmp 6)) rfl ?_); go_loud (clear cn; refine f_ (w0 := w0) rfl rfl 3 (.tmp 1) (.tmp 6) rfl (g := bn) (j := 0) (base := w0.heap.size) #[.int .i64 (wrap64 (s.1 + 1))] (u := .int .i64 (wrap64 (s.1 + 1))) (bG := [.int .i64 (wrap64 (s.1 + 1))]) ?sA ?sX rfl ?sT ?s1 HI.out.hn ?sJ rfl HI.out.below HI.out.below.size HI.out.gn ?_; (case sA => rfl); (case sX => rfl); (case sT => rfl); (case s1 => (simp [Value.oneCell'])); (case sJ => (simp)); intro ws hbk hbb hgg; have dU := ae.mk (HI.out.count hbk hbb hgg); have dZ := ae.mk (HK.out.trans (Kp.grown hgg (Or.inl rfl))); have gZ := ae.mk (cO K3.out hgg (fun e_ => tY K3.out HI.out.hn (by decide) (Option.some.inj e_))); clear HI HK K3 hbk hbb hgg; have HI := dU; have HK := dZ; have K3 := gZ; clear dU dZ gZ; have cn := (af HI.out.hn 0).trans rfl; have c0 := (af K3.out 0).trans rfl; have c1 := (af K3.out 1).trans rfl; have c2 := (af K3.out 2).trans rfl; have c3 := (af K3.out 3).trans rfl; have c4 := (af K3.out 4).trans rfl; have c5 := (af K3.out 5).trans rfl; have c6 := (af K3.out 6).trans rfl)))
 clear cn
 clear c0 c1 c2 c3 c4 c5 c6
 refine (HN.out _).mono ?_
 rintro e wk ⟨rfl, hb⟩
 have gZ := ae.mk (aI K3.out hb)
 clear K3
 have K3 := gZ
 clear gZ
 have dU := ae.mk (HI.out.step hb); have dZ := ae.mk (HK.out.trans (Kp.below hb)); clear HI HK; have HI := dU; have HK := dZ; clear dU dZ
 clear hb
 have c0 := (af K3.out 0).trans rfl
 have c1 := (af K3.out 1).trans rfl
 have c2 := (af K3.out 2).trans rfl
 have c3 := (af K3.out 3).trans rfl
 have c4 := (af K3.out 4).trans rfl
 have c5 := (af K3.out 5).trans rfl
 have c6 := (af K3.out 6).trans rfl
 go_wp2_with (((with_reducible refine aC (N := 17) rfl ?_); (try (refine gy (by rfl) ?_; dsimp only)); refine Kd.vw k23 _ 23 ?hg (N := 17) ?hd (xs := ([x.f1] : List dw)) (inner := [.int .i64 x.f1.f0, .int .i64 x.f1.f1, .int .i64 x.f1.f2, .int .i64 x.f1.f3]) (ok := fun _ => True) (fB := fun _ => True) ?hr ?hp (fun _ hk => hk) trivial (Below.refl _ _) (Nat.le_refl _) (by simp) ?_; (case hd => rfl); (case hg => rfl); (case hr => (go_simp; done)); (case hp => exact (bQ.c4 (show Kd.M k23 _ _ _ x.f1 [.int .i64 x.f1.f0, .int .i64 x.f1.f1, .int .i64 x.f1.f2, .int .i64 x.f1.f3] from qM _ _ _ x.f1) (bQ.none _ _))); intro vr wr ho hb nI jm; clear nI jm; obtain ⟨Ar, cr, er⟩ := Kd.fU ho; subst er; have gZ := ae.mk (aI K3.out hb); clear K3; have K3 := gZ; clear gZ; have dU := ae.mk (HI.out.step hb); have dZ := ae.mk (HK.out.trans (Kp.below hb)); clear HI HK; have HI := dU; have HK := dZ; clear dU dZ; have HR := ae.mk (Kd.dP ho).2.2; have LR := ae.mk (Kd.dP ho).2.1; clear ho hb))
 clear c0 c1 c2 c3 c4 c5 c6
 refine (lh.calls Ar cr [x.f1] true _ HR.out LR.out M1.out).mono ?_
 rintro e wk ⟨rfl, hb⟩
 have gZ := ae.mk (aI K3.out hb)
 clear K3
 have K3 := gZ
 clear gZ
 have dU := ae.mk (HI.out.step hb); have dZ := ae.mk (HK.out.trans (Kp.below hb)); clear HI HK; have HI := dU; have HK := dZ; clear dU dZ
 clear hb
 have c0 := (af K3.out 0).trans rfl
 have c1 := (af K3.out 1).trans rfl
 have c2 := (af K3.out 2).trans rfl
 have c3 := (af K3.out 3).trans rfl
 have c4 := (af K3.out 4).trans rfl
 have c5 := (af K3.out 5).trans rfl
 have c6 := (af K3.out 6).trans rfl
 have cm := (af HI.out.hm 0).trans rfl
 go_wp2_with (((with_reducible refine aC (N := 29) rfl ?_); (try (refine gy (by rfl) ?_; dsimp only)); refine Ey _ rfl _ _ 161 rfl 3 4 (Maps.int_keyed Try.underlying3) Try.underlying161 Try.underlying4 (Ya _) B _ _ rfl HI.out.map _ (.int .i64 x.f2) rfl (Maps.keyOf_int_mk Try.underlying3 WF.out) true LK.out ?_))
 go_ret
 exact ⟨rfl, HI.out, HK.out⟩
theorem afp (w0 : World) (bn bm B : Nat) (s : Int × List Int) (W : World) (x : ai) (A : Option Addr) (cb : Nat) (hI : lM w0 bn bm B s W) (h1 : ¬ 20000 < wrap64 (s.1 + 1)) (h2 : vV x = true) (h3 : jW x.f1 = true) (h4 : x.f0 = 1) (h5 : 0 ≤ x.f2) (h6 : x.f2 ≤ 2147483647) (h7 : x.f2 ∉ s.2) :
  Calls Try.prog 176 (#[.agg #[.int .u8 x.f0, .int .i64 x.f1.f0, .int .i64 x.f1.f1, .int .i64 x.f1.f2, .int .i64 x.f1.f3, .int .i64 x.f2, .slice A x.f3.length cb]] ++ #[.pointer (some ⟨bn, 0, none⟩), .pointer (some ⟨bm, 0, none⟩)]) W fun e w' => e = .returned (.bool (iV s x).1) ∧ lM w0 bn bm B (iV s x).2 w' ∧ Kp (uZ bn B) W w' := by
 rw [show iV s x = (true, (wrap64 (s.1 + 1), x.f2 :: s.2)) from by unfold iV; rw [if_neg h1, y8, h2, h3, if_neg (by simp), if_pos h4, if_neg h7]]
 have HN := ae.mk fun W => A8 x A cb W
 rw [h2] at HN
 clear h2
 have M1 := ae.mk (show lh.f [x.f1] = some true by simp [lh.f, h3])
 clear h3
 have LK : ae ((FN s.2).atKey (.int .i64 x.f2) (.lit (.bool false)) = .lit (.bool false)) := ⟨by rw [Py, decide_eq_false h7]⟩
 have NM := ae.mk h7
 clear h7
 have zA : ae (s.2.length < maxLen) := ⟨by have h8 := Wx 2147483648 s.2 hI.nd (fun i hi => by have := hI.rg i hi; omega); unfold maxLen; omega⟩
 have I0 := ae.mk h5
 have I1 := ae.mk h6
 have WF : ae ((Lit.int .i64 x.f2).wf = true) := ⟨WalkArith.wf_i64 (by omega)⟩
 have Gv : (x.f0 == 1) = true := beq_iff_eq.mpr h4
 clear h4 h5 h6
 have HI := ae.mk hI
 have HK := ae.mk (Kp.refl (uZ bn B) W)
 clear hI
 simp only [List.append_toArray, List.cons_append, List.nil_append]
 go_enter Try.func176, Try.ntmps176
 go_wp2_with (first | ((with_reducible refine aC (N := 3) rfl ?_); refine aK ?hg (N := 3) ?hd (cs := #[.int .u8 x.f0, .int .i64 x.f1.f0, .int .i64 x.f1.f1, .int .i64 x.f1.f2, .int .i64 x.f1.f3, .int .i64 x.f2, .slice A x.f3.length cb]) (t := 26) ?hr ?_; (case hd => rfl); (case hg => rfl); (case hr => (go_simp; done)); intro b3 hg w3 hbox hb; have K3 := ae.mk hbox; have dU := ae.mk (HI.out.step hb); have dZ := ae.mk (HK.out.trans (Kp.below hb)); clear HI HK; have HI := dU; have HK := dZ; clear dU dZ; clear hb hbox hg; have cn := (af HI.out.hn 0).trans rfl) | ((with_reducible refine lH (.store 3 (.tmp 1) (.tmp 6)) rfl ?_); go_loud (clear cn; refine f_ (w0 := w0) rfl rfl 3 (.tmp 1) (.tmp 6) rfl (g := bn) (j := 0) (base := w0.heap.size) #[.int .i64 (wrap64 (s.1 + 1))] (u := .int .i64 (wrap64 (s.1 + 1))) (bG := [.int .i64 (wrap64 (s.1 + 1))]) ?sA ?sX rfl ?sT ?s1 HI.out.hn ?sJ rfl HI.out.below HI.out.below.size HI.out.gn ?_; (case sA => rfl); (case sX => rfl); (case sT => rfl); (case s1 => (simp [Value.oneCell'])); (case sJ => (simp)); intro ws hbk hbb hgg; have dU := ae.mk (HI.out.count hbk hbb hgg); have dZ := ae.mk (HK.out.trans (Kp.grown hgg (Or.inl rfl))); have gZ := ae.mk (cO K3.out hgg (fun e_ => tY K3.out HI.out.hn (by decide) (Option.some.inj e_))); clear HI HK K3 hbk hbb hgg; have HI := dU; have HK := dZ; have K3 := gZ; clear dU dZ gZ; have cn := (af HI.out.hn 0).trans rfl; have c0 := (af K3.out 0).trans rfl; have c1 := (af K3.out 1).trans rfl; have c2 := (af K3.out 2).trans rfl; have c3 := (af K3.out 3).trans rfl; have c4 := (af K3.out 4).trans rfl; have c5 := (af K3.out 5).trans rfl; have c6 := (af K3.out 6).trans rfl)))
 clear cn
 clear c0 c1 c2 c3 c4 c5 c6
 refine (HN.out _).mono ?_
 rintro e wk ⟨rfl, hb⟩
 have gZ := ae.mk (aI K3.out hb)
 clear K3
 have K3 := gZ
 clear gZ
 have dU := ae.mk (HI.out.step hb); have dZ := ae.mk (HK.out.trans (Kp.below hb)); clear HI HK; have HI := dU; have HK := dZ; clear dU dZ
 clear hb
 have c0 := (af K3.out 0).trans rfl
 have c1 := (af K3.out 1).trans rfl
 have c2 := (af K3.out 2).trans rfl
 have c3 := (af K3.out 3).trans rfl
 have c4 := (af K3.out 4).trans rfl
 have c5 := (af K3.out 5).trans rfl
 have c6 := (af K3.out 6).trans rfl
 go_wp2_with (((with_reducible refine aC (N := 17) rfl ?_); (try (refine gy (by rfl) ?_; dsimp only)); refine Kd.vw k23 _ 23 ?hg (N := 17) ?hd (xs := ([x.f1] : List dw)) (inner := [.int .i64 x.f1.f0, .int .i64 x.f1.f1, .int .i64 x.f1.f2, .int .i64 x.f1.f3]) (ok := fun _ => True) (fB := fun _ => True) ?hr ?hp (fun _ hk => hk) trivial (Below.refl _ _) (Nat.le_refl _) (by simp) ?_; (case hd => rfl); (case hg => rfl); (case hr => (go_simp; done)); (case hp => exact (bQ.c4 (show Kd.M k23 _ _ _ x.f1 [.int .i64 x.f1.f0, .int .i64 x.f1.f1, .int .i64 x.f1.f2, .int .i64 x.f1.f3] from qM _ _ _ x.f1) (bQ.none _ _))); intro vr wr ho hb nI jm; clear nI jm; obtain ⟨Ar, cr, er⟩ := Kd.fU ho; subst er; have gZ := ae.mk (aI K3.out hb); clear K3; have K3 := gZ; clear gZ; have dU := ae.mk (HI.out.step hb); have dZ := ae.mk (HK.out.trans (Kp.below hb)); clear HI HK; have HI := dU; have HK := dZ; clear dU dZ; have HR := ae.mk (Kd.dP ho).2.2; have LR := ae.mk (Kd.dP ho).2.1; clear ho hb))
 clear c0 c1 c2 c3 c4 c5 c6
 refine (lh.calls Ar cr [x.f1] true _ HR.out LR.out M1.out).mono ?_
 rintro e wk ⟨rfl, hb⟩
 have gZ := ae.mk (aI K3.out hb)
 clear K3
 have K3 := gZ
 clear gZ
 have dU := ae.mk (HI.out.step hb); have dZ := ae.mk (HK.out.trans (Kp.below hb)); clear HI HK; have HI := dU; have HK := dZ; clear dU dZ
 clear hb
 have c0 := (af K3.out 0).trans rfl
 have c1 := (af K3.out 1).trans rfl
 have c2 := (af K3.out 2).trans rfl
 have c3 := (af K3.out 3).trans rfl
 have c4 := (af K3.out 4).trans rfl
 have c5 := (af K3.out 5).trans rfl
 have c6 := (af K3.out 6).trans rfl
 have cm := (af HI.out.hm 0).trans rfl
 go_wp2_with (first | ((with_reducible refine aC (N := 29) rfl ?_); (try (refine gy (by rfl) ?_; dsimp only)); refine Ey _ rfl _ _ 161 rfl 3 4 (Maps.int_keyed Try.underlying3) Try.underlying161 Try.underlying4 (Ya _) B _ _ rfl HI.out.map _ (.int .i64 x.f2) rfl (Maps.keyOf_int_mk Try.underlying3 WF.out) false LK.out ?_) | (at_mapUpdate; refine wpList_mapUpdate_own _ rfl _ _ _ 161 rfl 3 4 (Maps.int_keyed Try.underlying3) Try.underlying161 _ B _ _ rfl HI.out.map zA.out _ _ (.int .i64 x.f2) rfl rfl (Maps.keyOf_int_mk Try.underlying3 WF.out) (.lit (.bool true)) [] (plainElem_bool Try.underlying4 true) ?_; intro wu hown1 hgrow1; have dU := ae.mk (HI.out.met hown1 hgrow1 NM.out I0.out I1.out); have dZ := ae.mk (HK.out.trans (Kp.grown hgrow1 (Or.inr rfl))); clear HI HK hown1 hgrow1; have HI := dU; have HK := dZ; clear dU dZ))
 go_ret
 exact ⟨rfl, HI.out, HK.out⟩
theorem adI (w0 : World) (bn bm B : Nat) (s : Int × List Int) (W : World) (x : ai) (A : Option Addr) (cb : Nat) (hI : lM w0 bn bm B s W) :
  Calls Try.prog 176 (#[.agg #[.int .u8 x.f0, .int .i64 x.f1.f0, .int .i64 x.f1.f1, .int .i64 x.f1.f2, .int .i64 x.f1.f3, .int .i64 x.f2, .slice A x.f3.length cb]] ++ #[.pointer (some ⟨bn, 0, none⟩), .pointer (some ⟨bm, 0, none⟩)]) W fun e w' => e = .returned (.bool (iV s x).1) ∧ lM w0 bn bm B (iV s x).2 w' ∧ Kp (uZ bn B) W w' := by
 by_cases h1 : 20000 < wrap64 (s.1 + 1)
 ·exact afk w0 bn bm B s W x A cb hI h1
 ·cases h2 : vV x with
  | false => exact afl w0 bn bm B s W x A cb hI h1 h2
  | true =>
   cases h3 : jW x.f1 with
   | false => exact afm w0 bn bm B s W x A cb hI h1 h2 h3
   | true =>
    by_cases h4 : x.f0 = 1
    ·have h8 := h2
     unfold vV at h8
     rw [if_pos h4] at h8
     simp only [Bool.and_eq_true, decide_eq_true_eq] at h8
     by_cases h7 : x.f2 ∈ s.2
     ·exact afo w0 bn bm B s W x A cb hI h1 h2 h3 h4 h8.2.1 h8.2.2 h7
     ·exact afp w0 bn bm B s W x A cb hI h1 h2 h3 h4 h8.2.1 h8.2.2 h7
    ·exact afn w0 bn bm B s W x A cb hI h1 h2 h3 h4
section
variable {P : Program} {ops : Array Oper} {rest : List Oper} {o : Oper} {a : Act} {Q : Exit → Act → World → Prop}
theorem Uk {W : World} (hgd : o.guard = none) {N : Tmp} (_hd : o.dst = some N) (t k e : TypeId) (ho : o.op = .makeMap t none)
  (h : ∀ g, g = W.heap.size → ∀ w1, Below W.heap.size W w1 → w1.ownsMap (H := Unit) P k (plainElem P e) g 0 (.map []) → wpList P ops Q rest (a.put o.dst (.map (some g))) w1) : wpList P ops Q (o :: rest) a W := by
 refine Kd.zH hgd (w1 := W.alloc (.map #[] 0)) (v := .map (some W.heap.size)) ?_ (h _ rfl _ (iU (Below.refl _ _) _) (World.ownsMap_made W P k _))
 unfold execOp
 simp [ho, run_makeMap, Result.andThen]
end
theorem adH (c : ai) (A : Option Addr) (cc : Nat) (W : World) (hz : sz c ≤ 1048576) (hr : Kd.C k26 W A c.f3.length c.f3) (hc : c.f3.length ≤ cc) : Calls Try.prog 144 #[.agg #[.int .u8 c.f0, .int .i64 c.f1.f0, .int .i64 c.f1.f1, .int .i64 c.f1.f2, .int .i64 c.f1.f3, .int .i64 c.f2, .slice A c.f3.length cc]] W fun e w' => e = .returned (.bool (kV c)) ∧ Below W.heap.size W w' := by
 have U7 := ae.mk fun (bn bm B : Nat) (W1 : World) (hI : lM W bn bm B (0, []) W1) => abS (uZ bn B) (lM W bn bm B) iV 176 #[.pointer (some ⟨bn, 0, none⟩), .pointer (some ⟨bm, 0, none⟩)] (rJ Try.func176 (by decide +kernel) (by kernel_rfl)) W (fun s w h => h.below) (fun s w w' h hb => h.step hb)
  (fun s w h k hk => hk.elim (fun e => e ▸ fD h.hn) (fun e => e ▸ h.map.lt)) (fun s w x B' cb h _ _ => adI W bn bm B s w x B' cb h) (sz c) c (Nat.le_refl _) A cc hr hc (0, []) W1 hI
 rw [Vh c hz] at U7
 have HB := ae.mk (Below.refl W.heap.size W)
 clear hr hc hz
 generalize kV c = r at U7 ⊢
 go_enter Try.func144, Try.ntmps144
 go_wp2_with (first | ((with_reducible refine aC (N := 1) rfl ?_); refine aK ?hg (N := 1) ?hd (cs := #[.int .u8 c.f0, .int .i64 c.f1.f0, .int .i64 c.f1.f1, .int .i64 c.f1.f2, .int .i64 c.f1.f3, .int .i64 c.f2, .slice A c.f3.length cc]) (t := 26) ?hr ?_; (case hd => rfl); (case hg => rfl); (case hr => (go_simp; done)); intro b1 hg X8 hbox hb; have dM := ae.mk hbox; have cZ := ae.mk (ak HB.out hb); clear HB; have HB := cZ; clear cZ; clear hb hbox hg) | ((with_reducible refine aC (N := 5) rfl ?_); refine Uk rfl (N := 5) rfl 161 3 4 rfl ?_; intro B hg wB hb hM; have GB := ae.mk (show W.heap.size ≤ B by rw [hg]; exact HB.out.size); have HM := ae.mk hM; have cZ := ae.mk (ak HB.out hb); have fZ := ae.mk (aI dM.out hb); clear HB dM; have HB := cZ; have dM := fZ; clear cZ fZ; clear hb hM hg) | ((with_reducible refine aC (N := 3) rfl ?_); refine aK ?hg (N := 3) ?hd (cs := #[.map none]) (t := 161) ?hr ?_; (case hd => rfl); (case hg => rfl); (case hr => (go_simp; done)); intro bm hg wbm hbox hb; have Ai := ae.mk hbox; have Gbm := ae.mk (show W.heap.size ≤ bm by rw [hg]; exact HB.out.size); have cZ := ae.mk (ak HB.out hb); have fZ := ae.mk (aI dM.out hb); have zn := ae.mk (HM.out.kept (below_grown hb) (by simp)); clear HB dM HM; have HB := cZ; have dM := fZ; have HM := zn; clear cZ fZ zn; clear hb hbox hg) | ((with_reducible refine lH (.store 161 (.tmp 3) (.tmp 5)) rfl ?_); go_loud (refine f_ (w0 := W) rfl rfl 161 (.tmp 3) (.tmp 5) rfl (g := bm) (j := 0) (base := W.heap.size) #[.map (some B)] (u := .map (some B)) (bG := [.map (some B)]) ?sA ?sX rfl ?sT ?s1 Ai.out ?sJ rfl HB.out HB.out.size Gbm.out ?_; (case sA => rfl); (case sX => rfl); (case sT => rfl); (case s1 => (simp [Value.oneCell'])); (case sJ => (simp)); intro akN hbk hbb hgg; have NB : ae (B ≠ bm) := ⟨fun e => by have hq := Ai.out; obtain ⟨es, cl, hB, _⟩ := HM.out; rw [← e, hB] at hq; cases hq⟩; have fZ := ae.mk (cO dM.out hgg (fun e_ => tY dM.out Ai.out (by decide) (Option.some.inj e_))); have zn := ae.mk (HM.out.kept hgg (fun e_ => NB.out (Option.some.inj e_))); clear dM HM; have dM := fZ; have HM := zn; clear fZ zn; clear Ai HB; have Ai := ae.mk hbk; have HB := ae.mk hbb; clear hbk hbb hgg)) | ((with_reducible refine aC (N := 4) rfl ?_); refine aK ?hg (N := 4) ?hd (cs := #[.int .i64 0]) (t := 3) ?hr ?_; (case hd => rfl); (case hg => rfl); (case hr => (go_simp; done)); intro bn hg wbn hbox hb; have KE := ae.mk hbox; have Gbn := ae.mk (show W.heap.size ≤ bn by rw [hg]; exact HB.out.size); have cZ := ae.mk (ak HB.out hb); have fZ := ae.mk (aI dM.out hb); have GR := ae.mk (aI Ai.out hb); have zn := ae.mk (HM.out.kept (below_grown hb) (by simp)); clear HB dM Ai HM; have HB := cZ; have dM := fZ; have Ai := GR; have HM := zn; clear cZ fZ GR zn; clear hb hbox hg) | ((with_reducible refine lH (.store 3 (.tmp 4) (.const (.int .i64 0))) rfl ?_); go_loud (refine f_ (w0 := W) rfl rfl 3 (.tmp 4) (.const (.int .i64 0)) rfl (g := bn) (j := 0) (base := W.heap.size) #[.int .i64 0] (u := .int .i64 0) (bG := [.int .i64 0]) ?sA ?sX rfl ?sT ?s1 KE.out ?sJ rfl HB.out HB.out.size Gbn.out ?_; (case sA => rfl); (case sX => rfl); (case sT => rfl); (case s1 => (simp [Value.oneCell'])); (case sJ => (decide)); intro akO hbk hbb hgg; have NN : ae (B ≠ bn) := ⟨fun e => by have hq := KE.out; obtain ⟨es, cl, hB, _⟩ := HM.out; rw [← e, hB] at hq; cases hq⟩; have fZ := ae.mk (cO dM.out hgg (fun e_ => tY dM.out KE.out (by decide) (Option.some.inj e_))); have GR := ae.mk (cO Ai.out hgg (fun e_ => tY Ai.out KE.out (by decide) (Option.some.inj e_))); have zn := ae.mk (HM.out.kept hgg (fun e_ => NN.out (Option.some.inj e_))); clear dM Ai HM; have dM := fZ; have Ai := GR; have HM := zn; clear fZ GR zn; clear KE HB; have KE := ae.mk hbk; have HB := ae.mk hbb; clear hbk hbb hgg; have c0 := (af dM.out 0).trans rfl; have c1 := (af dM.out 1).trans rfl; have c2 := (af dM.out 2).trans rfl; have c3 := (af dM.out 3).trans rfl; have c4 := (af dM.out 4).trans rfl; have c5 := (af dM.out 5).trans rfl; have c6 := (af dM.out 6).trans rfl)))
 clear c0 c1 c2 c3 c4 c5 c6
 refine (U7.out bn bm B _ ⟨KE.out, Ai.out, HM.out, HB.out, Gbn.out, GB.out, List.nodup_nil, fun i hi => absurd hi (by simp)⟩).mono ?_
 rintro e w' ⟨rfl, hi, _⟩
 have HI := ae.mk hi.below
 clear hi
 go_wp2
 go_ret
 exact ⟨rfl, HI.out⟩
theorem adG (c : ai) (A : Option Addr) (cc : Nat) (W : World) (hz : sz c ≤ 1048576) (hr : Kd.C k26 W A c.f3.length c.f3) (hc : c.f3.length ≤ cc) : Calls Try.prog 143 #[.agg #[.int .u8 c.f0, .int .i64 c.f1.f0, .int .i64 c.f1.f1, .int .i64 c.f1.f2, .int .i64 c.f1.f3, .int .i64 c.f2, .slice A c.f3.length cc]] W fun e w' => e = .returned (.bool (!kV c)) ∧ Below W.heap.size W w' := by
 have H := ae.mk fun (W1 : World) (hb : Below W.heap.size W W1) => adH c A cc W1 hz (Kd.iq hr hb) hc
 clear hr hc hz
 cases hm : kV c
 all_goals
  rw [hm] at H
  clear hm
  go_enter Try.func143, Try.ntmps143
  go_wp2_with (((with_reducible refine aC (N := 1) rfl ?_); refine aK ?hg (N := 1) ?hd (cs := #[.int .u8 c.f0, .int .i64 c.f1.f0, .int .i64 c.f1.f1, .int .i64 c.f1.f2, .int .i64 c.f1.f3, .int .i64 c.f2, .slice A c.f3.length cc]) (t := 26) ?hr ?_; (case hd => rfl); (case hg => rfl); (case hr => (go_simp; done)); intro b1 hg w1 hbox hb; have HB := ae.mk hb; have K1 := ae.mk hbox; clear hb hbox hg; have c0 := (af K1.out 0).trans rfl; have c1 := (af K1.out 1).trans rfl; have c2 := (af K1.out 2).trans rfl; have c3 := (af K1.out 3).trans rfl; have c4 := (af K1.out 4).trans rfl; have c5 := (af K1.out 5).trans rfl; have c6 := (af K1.out 6).trans rfl))
  clear c0 c1 c2 c3 c4 c5 c6
  refine (H.out _ HB.out).mono ?_
  rintro e w' ⟨rfl, hb⟩
  have HB2 := ae.mk (ak HB.out hb)
  clear hb
  go_wp2
  go_ret
  exact ⟨rfl, HB2.out⟩
def rH.f (l0 : List ai) : Option Bool := if l0.all (fun c => decide (sz c ≤ 1048576)) = true then some (l0.all kV) else none
theorem rH.calls (A0 : Option Addr) (c0 : Nat) (l0 : List ai) (r : Bool) (w : World) (hr0 : Kd.C k26 w A0 l0.length l0) (hc0 : l0.length ≤ c0) (h : rH.f l0 = some r) :
  Calls Try.prog 76 #[.slice A0 l0.length c0] w fun e w' => e = .returned (.bool r) ∧ Below w.heap.size w w' := by
 unfold rH.f at h
 split at h
 ·rename_i hz
  injection h with h
  have hcon := Su (fun (_ : Unit) W => Below w.heap.size w W) (fun _ x => (!kV x, ())) 143 #[] (rJ Try.func143 (by decide +kernel) (by kernel_rfl)) l0 A0 c0 w hr0 (fun _ W hW => hW) (fun _ W n hW => eH hW n)
   (fun _ W x B cb hx hW hC hl => by
    rw [show (#[Value.agg #[.int .u8 x.f0, .int .i64 x.f1.f0, .int .i64 x.f1.f1, .int .i64 x.f1.f2, .int .i64 x.f1.f3, .int .i64 x.f2, .slice B x.f3.length cb]] ++ #[] : Array Value) = #[.agg #[.int .u8 x.f0, .int .i64 x.f1.f0, .int .i64 x.f1.f1, .int .i64 x.f1.f2, .int .i64 x.f1.f3, .int .i64 x.f2, .slice B x.f3.length cb]] by simp]
    exact (adG x B cb W (of_decide_eq_true (List.all_eq_true.1 hz x hx)) (Kd.iq hC hW) hl).mono fun e w' ⟨he, hb⟩ => ⟨he, vC hW hW.size hb⟩) () w (Below.refl _ _) hr0.2.1
  rw [JB] at hcon
  have hnone := O7 l0 A0 c0 143 #[] _ _ w hcon (fun W n hW => eH hW n)
  have e1 : r = !(l0.any fun x => !kV x) := by
   rw [← h]
   clear h hcon hr0 hc0 hz hnone
   induction l0 with
   | nil => rfl
   | cons x xs ih => simp only [List.all_cons, List.any_cons, ih, Bool.not_or, Bool.not_not]
  subst e1
  generalize (l0.any fun x => !kV x) = b at hnone
  have HC := ae.mk hnone
  clear hcon h hr0 hnone hz
  go_enter Try.func76, Try.ntmps76
  go_wp2_with fail
  refine HC.out.mono ?_
  rintro e w' ⟨rfl, hb⟩
  have HB := ae.mk hb
  clear hb
  go_wp2
  go_ret
  exact ⟨rfl, HB.out⟩
 ·exact absurd h (by simp)
end Go.Proofs.Ytfdmfgaiblfbhaa.P
namespace Go.Proofs.Ytfdmfgaiblfbhaa.P
open Go.RowKit Go.Proofs.ag.aQ Go.Proofs.ag.bu Go.Proofs.ag.bP
attribute [local go_sem] jo jC jU kH jS jT kU kW
def lV.l0 : Nat → List Int → List Int → Int → Int → Option (Bool)
 | 0, _, _, _, _ => none
 | k + 1, x0, x1, x12, Hf => if Hf < x12 then (if 0 ≤ Hf then (if Hf < (x0.length : Int) then (if Hf < (x1.length : Int) then (if (rd x0 Hf) = (rd x1 Hf) then (lV.l0 k x0 x1 x12 (wrap64 (Hf + 1))) else (some false)) else (none)) else (none)) else (none)) else (some true)
def lV.f (k : Nat) (l0 : List Int) (l1 : List Int) : Option (Bool) := if (l0.length : Int) = (l1.length : Int) then (lV.l0 k l0 l1 (l0.length : Int) 0) else (some false)
def af7.f (ay : Int) (aH : Int) (aA : Int) (aG : Int) (a1 : Int) : Option (Int × Int × Int × Int × Int × Int × (List (ai))) := some (1, ay, aH, aA, aG, a1, ([] : List (ai)))
mutual
def zF.l0 : Nat → Int → List (ai) → Int → Int → Option (Int)
 | 0, _, _, _, _ => none
 | k + 1, x3, x8, x9, x10 => if x10 < x9 then (if 0 ≤ x10 then (if x10 < (x8.length : Int) then ((zF.f k ((az x8 x10).f3)).bind fun ag_ => (zF.l0 k (wrap64 (x3 + ag_)) x8 x9 (wrap64 (x10 + 1)))) else (none)) else (none)) else (some x3)
def zF.f : Nat → List (ai) → Option (Int)
 | 0, _ => none
 | k + 1, l0 => zF.l0 k (l0.length : Int) l0 (l0.length : Int) 0
end
end Go.Proofs.Ytfdmfgaiblfbhaa.P
namespace Go.Proofs.Ytfdmfgaiblfbhaa.P
open Go.RowKit Go.Proofs.ag.aQ Go.Proofs.ag.bu Go.Proofs.ag.bP
def XX.f : Option Bool := some true
end Go.Proofs.Ytfdmfgaiblfbhaa.P
namespace Go.Proofs.Ytfdmfgaiblfbhaa.P
open Go.RowKit Go.Proofs.ag.aQ Go.Proofs.ag.bu Go.Proofs.ag.bP
attribute [local go_sem] jo jC jU kH jS jT kU kW
mutual
def aX.l0 : Nat → Int → List Int → List Int → Option (List Int)
 | 0, _, _, _ => none
 | k + 1, x0, x1, x5 => if x0 > 0 then (aX.l1 k x0 x1 x5 0 x0 x1 (x1.length : Int) 0) else (some x5)
def aX.l1 : Nat → Int → List Int → List Int → Int → Int → List Int → Int → Int → Option (List Int)
 | 0, _, _, _, _, _, _, _, _ => none
 | k + 1, x0, x1, x5, x6, x7, x20, x21, EJ => if EJ < x21 then (if 0 ≤ EJ then (if EJ < (x20.length : Int) then (if EJ < (x5.length : Int) then (if (wrap64 ((rd x20 EJ) + (rd x5 EJ))) > 0 then (aX.l1 k x0 x1 x5 (wrap64 (x6 + 1)) (mn x7 (wrap64 ((rd x20 EJ) + (rd x5 EJ)))) x20 x21 (wrap64 (EJ + 1))) else (aX.l1 k x0 x1 x5 x6 x7 x20 x21 (wrap64 (EJ + 1)))) else (none)) else (none)) else (none)) else (if x6 = 0 then (none) else (aX.l2 k x0 x1 x5 (mx 1 (mn x7 (wrap64 (Int.tdiv x0 x6)))) x1 (x1.length : Int) 0))
def aX.l2 : Nat → Int → List Int → List Int → Int → List Int → Int → Int → Option (List Int)
 | 0, _, _, _, _, _, _, _ => none
 | k + 1, x0, x1, x5, x10, U3, X_, DY => if DY < X_ then (if 0 ≤ DY then (if DY < (U3.length : Int) then (if DY < (x5.length : Int) then (if (wrap64 ((rd U3 DY) + (rd x5 DY))) > 0 then (if x0 > 0 then (aX.l2 k (wrap64 (x0 - (mn x10 x0))) x1 (x5.set (DY : Int).toNat (wrap64 ((rd x5 DY) - (mn x10 x0)))) x10 U3 X_ (wrap64 (DY + 1))) else (aX.l2 k x0 x1 x5 x10 U3 X_ (wrap64 (DY + 1)))) else (aX.l2 k x0 x1 x5 x10 U3 X_ (wrap64 (DY + 1)))) else (none)) else (none)) else (none)) else (aX.l0 k x0 x1 x5)
end
def aX.f (k : Nat) (a0 : Int) (l1 : List Int) : Option (List Int) := if 0 ≤ (l1.length : Int) then (if ((l1.length : Int) : Int).toNat ≤ 35184372088832 then (aX.l0 k a0 l1 (List.replicate ((l1.length : Int) : Int).toNat 0)) else (none)) else (none)
theorem aX.calls (k : Nat) (a0 : Int) (A1 : Option Addr) (c1 : Nat) (l1 : List Int) (r : List Int) (w : World) (hr1 : Kd.C (Kd.int .i64) w A1 l1.length l1) (hc1 : l1.length ≤ c1) (h : aX.f k a0 l1 = some r) :
  Calls Try.prog 130 #[.int .i64 a0, .slice A1 l1.length c1] w fun e w' => ∃ uX : Value, e = .returned (uX) ∧ Kd.R (Kd.int .i64) 3 w' w.heap.size (fun _ => True) uX r ∧ Below w.heap.size w w' := by
 have HR1 := ae.mk hr1
 clear hr1 hc1
 have HB := ae.mk (Below.refl w.heap.size w)
 have H : (if 0 ≤ (l1.length : Int) then (if ((l1.length : Int) : Int).toNat ≤ 35184372088832 then (aX.l0 k a0 l1 (List.replicate ((l1.length : Int) : Int).toNat 0)) else (none)) else (none)) = some r := h
 clear h
 by_cases c3 : 0 ≤ (l1.length : Int)
 ·rw [if_pos c3] at H
  have tC := eq_true c3
  have yR : decide (0 ≤ (l1.length : Int)) = true := decide_eq_true c3
  clear c3
  by_cases c4 : ((l1.length : Int) : Int).toNat ≤ 35184372088832
  ·rw [if_pos c4] at H
   have CQ := eq_true c4
   have Lt : decide (((l1.length : Int) : Int).toNat ≤ 35184372088832) = true := decide_eq_true c4
   clear c4
   obtain ⟨aek, Qy⟩ : ∃ y_ : List Int, y_ = (List.replicate ((l1.length : Int) : Int).toNat 0) := ⟨_, rfl⟩
   replace H : (aX.l0 k a0 l1 aek) = some r := by (rw [Qy]; with_reducible exact H)
   have aeC := ae.mk Qy
   clear Qy
   have H' := ae.mk H
   clear H
   go_enter Try.func130, Try.ntmps130
   go_wp2_with (((with_reducible refine aC (N := 16) rfl ?_); refine Kd.abM (Kd.int .i64) _ 3 rfl (N := 16) rfl 41 _ _ rfl (l1.length : Int) rfl rfl Try.underlying41 (.int .i64 0) 8 info3 rfl (by decide) (by omega) 0 (ok := fun _ => True) (fB := fun _ => True) rfl (fun _ hk => hk) trivial (of_decide_eq_true (by (with_reducible assumption))) (Nat.le_trans (Nat.mul_le_mul_right _ (of_decide_eq_true (by (with_reducible assumption)) : (l1.length : Int).toNat ≤ 35184372088832)) (by omega)) (Below.refl _ _) (Nat.le_refl _) ?_; intro Xb w5 ho6 hb nI jm; clear nI jm; (rw [← aeC.out] at ho6); have aet := ae.mk (Kd.pI ho6 (dS (by repeat ((with_reducible exact HB.out))))); replace HB := ae.mk (ak (by repeat ((with_reducible exact HB.out))) hb); clear hb ho6))
   go_loopg [0] k (fun kq v0 w' => ∃ (uH : Int) (lC : List Int), v0 = .int .i64 uH ∧ ae (aX.l0 kq uH l1 lC = some r) ∧ ae (kq ≤ k) ∧ ae (Kd.R (Kd.int .i64) 3 w' w.heap.size (fun _ => True) Xb lC) ∧ ae (Below w.heap.size w w'))
   case atStart => exact ⟨(a0), (aek), (by rfl), H', ⟨Nat.le_refl _⟩, ⟨by exact aet.out⟩, ⟨by repeat ((with_reducible exact HB.out))⟩⟩
   case round =>
    clear H'
    clear tC yR CQ Lt
    obtain ⟨uH, lC, rfl, HA, nz, lL, HB⟩ := hrel
    cases gk with
    | zero => exact absurd HA.out (by simp [aX.l0])
    | succ k1 =>
     have H := HA.out
     clear HA
     simp only [aX.l0] at H
     by_cases c7 : uH > 0
     ·rw [if_pos c7] at H
      have wH : decide (0 < uH) = true := decide_eq_true c7
      clear c7
      have H' := ae.mk H
      clear H
      go_wp2
      go_loopg [6, 7, 22] k1 (fun kq v6 v7 v22 w' => ∃ (yt : Int) (zY : Int) (fO : Int), v6 = .int .i64 yt ∧ v7 = .int .i64 zY ∧ v22 = .int .i64 fO ∧ ae (aX.l1 kq uH l1 lC yt zY l1 (l1.length : Int) fO = some r) ∧ ae (kq ≤ k1) ∧ ae (Kd.R (Kd.int .i64) 3 w' w.heap.size (fun _ => True) Xb lC) ∧ ae (Below w.heap.size w w'))
      case atStart => exact ⟨(0), (uH), (0), (by rfl), (by rfl), (by rfl), H', ⟨Nat.le_refl _⟩, ⟨by exact lL.out⟩, ⟨by repeat ((with_reducible exact HB.out))⟩⟩
      case round =>
       clear H'
       clear wH
       obtain ⟨yt, zY, fO, rfl, rfl, rfl, HA, zy, lL, HB⟩ := hrel
       cases gk with
       | zero => exact absurd HA.out (by simp [aX.l1])
       | succ k2 =>
        have H := HA.out
        clear HA
        simp only [aX.l1] at H
        by_cases c8 : fO < (l1.length : Int)
        ·rw [if_pos c8] at H
         have CS : decide (fO < (l1.length : Int)) = true := decide_eq_true c8
         clear c8
         by_cases c9 : 0 ≤ fO
         ·rw [if_pos c9] at H
          have Lu : decide (0 ≤ fO) = true := decide_eq_true c9
          clear c9
          by_cases c10 : fO < (l1.length : Int)
          ·rw [if_pos c10] at H
           have P_ : decide (fO < (l1.length : Int)) = true := decide_eq_true c10
           clear c10
           by_cases c11 : fO < (lC.length : Int)
           ·rw [if_pos c11] at H
            have Gg : decide (fO < (lC.length : Int)) = true := decide_eq_true c11
            clear c11
            by_cases c12 : (wrap64 ((rd l1 fO) + (rd lC fO))) > 0
            ·rw [if_pos c12] at H
             have Bq : decide (0 < (wrap64 ((rd l1 fO) + (rd lC fO)))) = true := decide_eq_true c12
             clear c12
             obtain ⟨V8, XJ⟩ : ∃ j_ : Int, (mn zY (wrap64 ((rd l1 fO) + (rd lC fO)))) = j_ := ⟨_, rfl⟩
             replace H : (aX.l1 k2 uH l1 lC (wrap64 (yt + 1)) V8 l1 (l1.length : Int) (wrap64 (fO + 1))) = some r := by (rw [XJ] at H; exact H)
             have ajv : (if (wrap64 ((rd l1 fO) + (rd lC fO))) < zY then (wrap64 ((rd l1 fO) + (rd lC fO))) else zY) = V8 := XJ
             have H' := ae.mk H
             clear H
             have FC : 0 ≤ (fO : Int) := of_decide_eq_true (by (with_reducible assumption))
             have FH : fO < (l1.length : Int) := of_decide_eq_true (by (with_reducible assumption))
             obtain ⟨aeM, VI, wL⟩ := Kd.iW HR1.out fO FC FH
             cases VI
             replace wL := (HB.out.cell (World.block_lt_of_cell? w _ wL)).trans wL
             replace FC := eq_true FC
             replace FH := eq_true FH
             obtain ⟨akg, akp, agP⟩ := Kd.fU lL.out
             subst agP
             have FD : 0 ≤ (fO : Int) := of_decide_eq_true (by (with_reducible assumption))
             have FI : fO < (lC.length : Int) := of_decide_eq_true (by (with_reducible assumption))
             obtain ⟨Xu, VJ, Z8⟩ := Kd.iW (Kd.dP lL.out).2.2 fO FD FI
             cases VJ
             replace FD := eq_true FD
             replace FI := eq_true FI
             have WG : 0 ≤ (fO : Int) := of_decide_eq_true (by (with_reducible assumption))
             have WO : fO < (lC.length : Int) := of_decide_eq_true (by (with_reducible assumption))
             obtain ⟨aeN, agM, ah2⟩ := Kd.iW (Kd.dP lL.out).2.2 fO WG WO
             obtain rfl : Xu = aeN := (by injection agM)
             replace WG := eq_true WG
             replace WO := eq_true WO
             go_wp2
             go_roundg k2
             case measure => have := nz.out; have := zy.out; omega
             case rel => exact ⟨(wrap64 (yt + 1)), (V8), (wrap64 (fO + 1)), (by rfl), (by rfl), (by rfl), H', ⟨by have := nz.out; have := zy.out; omega⟩, ⟨by exact lL.out⟩, ⟨by repeat ((with_reducible exact HB.out))⟩⟩
            ·rw [if_neg c12] at H
             have Bq : decide (0 < (wrap64 ((rd l1 fO) + (rd lC fO)))) = false := decide_eq_false c12
             clear c12
             have H' := ae.mk H
             clear H
             have FC : 0 ≤ (fO : Int) := of_decide_eq_true (by (with_reducible assumption))
             have FH : fO < (l1.length : Int) := of_decide_eq_true (by (with_reducible assumption))
             obtain ⟨aeM, VI, wL⟩ := Kd.iW HR1.out fO FC FH
             cases VI
             replace wL := (HB.out.cell (World.block_lt_of_cell? w _ wL)).trans wL
             replace FC := eq_true FC
             replace FH := eq_true FH
             obtain ⟨U5, VC, VM⟩ := Kd.fU lL.out
             subst VM
             have FD : 0 ≤ (fO : Int) := of_decide_eq_true (by (with_reducible assumption))
             have FI : fO < (lC.length : Int) := of_decide_eq_true (by (with_reducible assumption))
             obtain ⟨Xu, VJ, Z8⟩ := Kd.iW (Kd.dP lL.out).2.2 fO FD FI
             cases VJ
             replace FD := eq_true FD
             replace FI := eq_true FI
             go_wp2
             go_roundg k2
             case measure => have := nz.out; have := zy.out; omega
             case rel => exact ⟨(yt), (zY), (wrap64 (fO + 1)), (by rfl), (by rfl), (by rfl), H', ⟨by have := nz.out; have := zy.out; omega⟩, ⟨by exact lL.out⟩, ⟨by repeat ((with_reducible exact HB.out))⟩⟩
           ·rw [if_neg c11] at H
            exact absurd H (by simp)
          ·rw [if_neg c10] at H
           exact absurd H (by simp)
         ·rw [if_neg c9] at H
          exact absurd H (by simp)
        ·rw [if_neg c8] at H
         have CS : decide (fO < (l1.length : Int)) = false := decide_eq_false c8
         clear c8
         by_cases c16 : yt = 0
         ·rw [if_pos c16] at H
          exact absurd H (by simp)
         ·rw [if_neg c16] at H
          have Qa : (yt == 0) = false := beq_eq_false_iff_ne.mpr c16
          have aeY : (yt != 0) = true := bne_iff_ne.mpr c16
          obtain ⟨MZ, XK⟩ : ∃ j_ : Int, (mn zY (wrap64 (Int.tdiv uH yt))) = j_ := ⟨_, rfl⟩
          replace H : (aX.l2 k2 uH l1 lC (mx 1 (MZ)) l1 (l1.length : Int) 0) = some r := by (rw [XK] at H; exact H)
          have ajw : (if (wrap64 (Int.tdiv uH yt)) < zY then (wrap64 (Int.tdiv uH yt)) else zY) = MZ := XK
          obtain ⟨Du, XL⟩ : ∃ j_ : Int, (mx 1 (MZ)) = j_ := ⟨_, rfl⟩
          replace H : (aX.l2 k2 uH l1 lC Du l1 (l1.length : Int) 0) = some r := by (rw [XL] at H; exact H)
          have ajx : (if 1 < (MZ) then (MZ) else 1) = Du := XL
          have H' := ae.mk H
          clear H
          go_wp2
          go_loopg [0, 53] k2 (fun kq v0 v53 w' => ∃ (uI : Int) (nO : List Int) (dV : Int), v0 = .int .i64 uI ∧ v53 = .int .i64 dV ∧ ae (aX.l2 kq uI l1 nO Du l1 (l1.length : Int) dV = some r) ∧ ae (kq ≤ k2) ∧ ae (Kd.R (Kd.int .i64) 3 w' w.heap.size (fun _ => True) Xb nO) ∧ ae (Below w.heap.size w w'))
          case atStart => exact ⟨(uH), (lC), (0), (by rfl), (by rfl), H', ⟨Nat.le_refl _⟩, ⟨by exact lL.out⟩, ⟨by repeat ((with_reducible exact HB.out))⟩⟩
          case round =>
           clear H'
           clear CS c16 Qa aeY
           obtain ⟨uI, nO, dV, rfl, rfl, HA, Jc, lL, HB⟩ := hrel
           cases gk with
           | zero => exact absurd HA.out (by simp [aX.l2])
           | succ k3 =>
            have H := HA.out
            clear HA
            simp only [aX.l2] at H
            by_cases c19 : dV < (l1.length : Int)
            ·rw [if_pos c19] at H
             have ae1 : decide (dV < (l1.length : Int)) = true := decide_eq_true c19
             clear c19
             by_cases c20 : 0 ≤ dV
             ·rw [if_pos c20] at H
              have aj2 : decide (0 ≤ dV) = true := decide_eq_true c20
              clear c20
              by_cases c21 : dV < (l1.length : Int)
              ·rw [if_pos c21] at H
               have aj3 : decide (dV < (l1.length : Int)) = true := decide_eq_true c21
               clear c21
               by_cases XC : dV < (nO.length : Int)
               ·rw [if_pos XC] at H
                have aj6 : decide (dV < (nO.length : Int)) = true := decide_eq_true XC
                clear XC
                by_cases c23 : (wrap64 ((rd l1 dV) + (rd nO dV))) > 0
                ·rw [if_pos c23] at H
                 have ae2 : decide (0 < (wrap64 ((rd l1 dV) + (rd nO dV)))) = true := decide_eq_true c23
                 clear c23
                 by_cases c24 : uI > 0
                 ·rw [if_pos c24] at H
                  have ae3 : decide (0 < uI) = true := decide_eq_true c24
                  clear c24
                  obtain ⟨Dv, XM⟩ : ∃ j_ : Int, (mn Du uI) = j_ := ⟨_, rfl⟩
                  replace H : (aX.l2 k3 (wrap64 (uI - (Dv))) l1 (nO.set (dV : Int).toNat (wrap64 ((rd nO dV) - (Dv)))) Du l1 (l1.length : Int) (wrap64 (dV + 1))) = some r := by (rw [XM] at H; exact H)
                  have ajy : (if uI < Du then uI else Du) = Dv := XM
                  obtain ⟨Xi, Qz⟩ : ∃ y_ : List Int, y_ = (nO.set (dV : Int).toNat (wrap64 ((rd nO dV) - (Dv)))) := ⟨_, rfl⟩
                  replace H : (aX.l2 k3 (wrap64 (uI - (Dv))) l1 Xi Du l1 (l1.length : Int) (wrap64 (dV + 1))) = some r := by (rw [Qz]; with_reducible exact H)
                  have aeD := ae.mk Qz
                  clear Qz
                  have H' := ae.mk H
                  clear H
                  have zf : 0 ≤ (dV : Int) := of_decide_eq_true (by (with_reducible assumption))
                  have zi : dV < (l1.length : Int) := of_decide_eq_true (by (with_reducible assumption))
                  obtain ⟨Xv, L6, pR⟩ := Kd.iW HR1.out dV zf zi
                  cases L6
                  replace pR := (HB.out.cell (World.block_lt_of_cell? w _ pR)).trans pR
                  replace zf := eq_true zf
                  replace zi := eq_true zi
                  obtain ⟨akh, agI, agR⟩ := Kd.fU lL.out
                  subst agR
                  have zg : 0 ≤ (dV : Int) := of_decide_eq_true (by (with_reducible assumption))
                  have zk : dV < (nO.length : Int) := of_decide_eq_true (by (with_reducible assumption))
                  obtain ⟨P7, L8, Iz⟩ := Kd.iW (Kd.dP lL.out).2.2 dV zg zk
                  cases L8
                  replace zg := eq_true zg
                  replace zk := eq_true zk
                  have WH : 0 ≤ (dV : Int) := of_decide_eq_true (by (with_reducible assumption))
                  have WQ : dV < (nO.length : Int) := of_decide_eq_true (by (with_reducible assumption))
                  obtain ⟨aeO, agN, Z9⟩ := Kd.iW (Kd.dP lL.out).2.2 dV WH WQ
                  obtain rfl : P7 = aeO := (by injection agN)
                  replace WH := eq_true WH
                  replace WQ := eq_true WQ
                  have p26 : 0 ≤ (dV : Int) := of_decide_eq_true (by (with_reducible assumption))
                  have q26 : (dV : Int) < ((nO.length : Int) : Int) := of_decide_eq_true (by (with_reducible assumption))
                  obtain ⟨VT, akq, agQ, acy, agV, akl, agv⟩ := Kd.RJ lL.out (by omega)
                  (cases agQ)
                  have agu := ae.mk acy
                  clear acy agV agv
                  (simp only [add_plain] at Iz)
                  (simp only [add_plain] at Z9)
                  obtain ⟨ajA, aju⟩ := Kd.Yk 0 lL.out (dV : Int) p26 q26
                  replace p26 := eq_true p26
                  replace q26 := eq_true q26
                  have U_ := Kd.abN lL.out (dV : Int) (wrap64 ((rd nO dV) - (Dv)))
                  go_wp2_with (((with_reducible refine Qk (t := 3) (p := 78) rfl ?_); refine N7 (t := 3) (p := 78) (v := ?ajN) (w1 := (wr.setCell ⟨VT, (dV : Int).toNat, none⟩ (.int .i64 (wrap64 ((rd nO dV) - (Dv)))))) ?hg ?ho ?hn ?hr ?_; (case ho => rfl); (case hg => rfl); (case hn => rfl); (case hr => (go_simp; done)); intro JE hw; have hg : wr.grownBy JE (some VT) := (by rw [hw]; exact U_.2); have hp_ : Kd.R (Kd.int .i64) 3 JE w.heap.size (fun _ => True) (.slice (some ⟨VT, 0, none⟩) nO.length agI) Xi := (by rw [hw, aeD.out]; exact U_.1); clear U_; replace lL := ae.mk (hp_); replace HB := ae.mk ((by rw [hw]; exact oH (HB.out) agu.out : Below w.heap.size w JE)); clear hg hw hp_))
                  go_roundg k3
                  case measure => have := nz.out; have := zy.out; have := Jc.out; omega
                  case rel => exact ⟨(wrap64 (uI - (Dv))), (Xi), (wrap64 (dV + 1)), (by rfl), (by rfl), H', ⟨by have := nz.out; have := zy.out; have := Jc.out; omega⟩, ⟨by exact lL.out⟩, ⟨by repeat ((with_reducible exact HB.out))⟩⟩
                 ·rw [if_neg c24] at H
                  have ae3 : decide (0 < uI) = false := decide_eq_false c24
                  clear c24
                  have H' := ae.mk H
                  clear H
                  have zf : 0 ≤ (dV : Int) := of_decide_eq_true (by (with_reducible assumption))
                  have zi : dV < (l1.length : Int) := of_decide_eq_true (by (with_reducible assumption))
                  obtain ⟨Xv, L6, pR⟩ := Kd.iW HR1.out dV zf zi
                  cases L6
                  replace pR := (HB.out.cell (World.block_lt_of_cell? w _ pR)).trans pR
                  replace zf := eq_true zf
                  replace zi := eq_true zi
                  obtain ⟨aki, akr, agS⟩ := Kd.fU lL.out
                  subst agS
                  have zg : 0 ≤ (dV : Int) := of_decide_eq_true (by (with_reducible assumption))
                  have zk : dV < (nO.length : Int) := of_decide_eq_true (by (with_reducible assumption))
                  obtain ⟨P7, L8, Iz⟩ := Kd.iW (Kd.dP lL.out).2.2 dV zg zk
                  cases L8
                  replace zg := eq_true zg
                  replace zk := eq_true zk
                  go_wp2
                  go_roundg k3
                  case measure => have := nz.out; have := zy.out; have := Jc.out; omega
                  case rel => exact ⟨(uI), (nO), (wrap64 (dV + 1)), (by rfl), (by rfl), H', ⟨by have := nz.out; have := zy.out; have := Jc.out; omega⟩, ⟨by exact lL.out⟩, ⟨by repeat ((with_reducible exact HB.out))⟩⟩
                ·rw [if_neg c23] at H
                 have ae2 : decide (0 < (wrap64 ((rd l1 dV) + (rd nO dV)))) = false := decide_eq_false c23
                 clear c23
                 have H' := ae.mk H
                 clear H
                 have zf : 0 ≤ (dV : Int) := of_decide_eq_true (by (with_reducible assumption))
                 have zi : dV < (l1.length : Int) := of_decide_eq_true (by (with_reducible assumption))
                 obtain ⟨Xv, L6, pR⟩ := Kd.iW HR1.out dV zf zi
                 cases L6
                 replace pR := (HB.out.cell (World.block_lt_of_cell? w _ pR)).trans pR
                 replace zf := eq_true zf
                 replace zi := eq_true zi
                 obtain ⟨akj, aks, agT⟩ := Kd.fU lL.out
                 subst agT
                 have zg : 0 ≤ (dV : Int) := of_decide_eq_true (by (with_reducible assumption))
                 have zk : dV < (nO.length : Int) := of_decide_eq_true (by (with_reducible assumption))
                 obtain ⟨P7, L8, Iz⟩ := Kd.iW (Kd.dP lL.out).2.2 dV zg zk
                 cases L8
                 replace zg := eq_true zg
                 replace zk := eq_true zk
                 go_wp2
                 go_roundg k3
                 case measure => have := nz.out; have := zy.out; have := Jc.out; omega
                 case rel => exact ⟨(uI), (nO), (wrap64 (dV + 1)), (by rfl), (by rfl), H', ⟨by have := nz.out; have := zy.out; have := Jc.out; omega⟩, ⟨by exact lL.out⟩, ⟨by repeat ((with_reducible exact HB.out))⟩⟩
               ·rw [if_neg XC] at H
                exact absurd H (by simp)
              ·rw [if_neg c21] at H
               exact absurd H (by simp)
             ·rw [if_neg c20] at H
              exact absurd H (by simp)
            ·rw [if_neg c19] at H
             have ae1 : decide (dV < (l1.length : Int)) = false := decide_eq_false c19
             clear c19
             have H' := ae.mk H
             clear H
             go_wp2
             go_roundg k3
             case measure => have := nz.out; have := zy.out; have := Jc.out; omega
             case rel => exact ⟨(uI), (nO), (by rfl), H', ⟨by have := nz.out; have := zy.out; have := Jc.out; omega⟩, ⟨by exact lL.out⟩, ⟨by repeat ((with_reducible exact HB.out))⟩⟩
     ·rw [if_neg c7] at H
      have wH : decide (0 < uH) = false := decide_eq_false c7
      clear c7
      obtain rfl := Option.some.inj H
      go_wp2
      go_ret
      exact ⟨_, by rfl, by exact lL.out, by repeat ((with_reducible exact HB.out))⟩
  ·rw [if_neg c4] at H
   exact absurd H (by simp)
 ·rw [if_neg c3] at H
  exact absurd H (by simp)
end Go.Proofs.Ytfdmfgaiblfbhaa.P
namespace Go.Proofs.Ytfdmfgaiblfbhaa.P
open Go.RowKit Go.Proofs.ag.aQ Go.Proofs.ag.bu Go.Proofs.ag.bP
def qH (a n : Int) (i : Int) : Int := a / n + if i < a % n then 1 else 0
def moreL (a : Int) (n : Nat) : List Int := (List.range n).map fun i => qH a n (i : Nat)
theorem rU (a : Int) (n : Nat) : (moreL a n).length = n := by simp [moreL]
theorem Ul (a : Int) (n k : Nat) (h : k < n) : (moreL a n)[k]? = some (qH a n k) := by simp [moreL, h]
theorem WY {α : Type} (L : List α) (x z : α) (k : Nat) (hx : L[k]? = some x) : (L.take k ++ List.replicate (L.length - k) z).set k x = L.take (k + 1) ++ List.replicate (L.length - (k + 1)) z := by
 obtain ⟨h, rfl⟩ := List.getElem?_eq_some_iff.1 hx
 obtain ⟨m, hm⟩ : ∃ m, L.length - k = m + 1 := ⟨L.length - k - 1, by omega⟩
 rw [List.set_append_right _ _ (by simp; omega), List.length_take, show k - min k L.length = 0 by omega, hm, List.replicate_succ, List.set_cons_zero, List.take_succ_eq_append_getElem h, List.append_assoc, show L.length - (k + 1) = m by omega]
 rfl
theorem GI (a : Int) (n k : Nat) (h : k < n) : ((moreL a n).take k ++ List.replicate (n - k) 0).set k (qH a n k) = (moreL a n).take (k + 1) ++ List.replicate (n - (k + 1)) 0 := by
 have := WY (moreL a n) (qH a n k) 0 k (Ul a n k h)
 rwa [rU] at this
theorem Ws (a : Int) (n : Nat) (w : World) (h0 : 0 ≤ a) (h1 : a ≤ 9000000000000000000) (h2 : 1 ≤ n) (h3 : n ≤ 100000) :
  Calls Try.prog 129 #[.int .i64 a, .int .i64 n] w fun e w' => ∃ uX : Value, e = .returned uX ∧ Kd.R (Kd.int .i64) 3 w' w.heap.size (fun _ => True) uX (moreL a n) ∧ Below w.heap.size w w' := by
 have hmk := QL (P := Try.prog) 41 3 .i64 8 Try.underlying41 info3 (by decide) n (by omega)
 have hs := WA w w.heap.size 3 .i64 n (Nat.le_refl _) (by omega)
 have hq0 : 0 ≤ a / (n : Int) := Int.ediv_nonneg h0 (by omega)
 have hq1 : a / (n : Int) ≤ a := Int.ediv_le_self _ h0
 have HS := ae.mk hs
 clear hs
 go_enter Try.func129, Try.ntmps129
 go_wp2
 go_loopw [11] (fun v11 wr => ∃ k : Nat, k ≤ n ∧ v11 = .int .i64 k ∧ ae (wr.ownsRow w.heap.size 3 1 (.slice (some ⟨w.heap.size, 0, none⟩) n n) n (nums .i64 ((moreL a n).take k ++ List.replicate (n - k) 0))) ∧ ae (Below w.heap.size w wr)) (fun v11 _ => n - (intOf v11).toNat)
 case atStart => exact ⟨0, by omega, rfl, ⟨by simpa using HS.out⟩, ⟨iU (Below.refl _ _) _⟩⟩
 case round =>
  obtain ⟨k, hk, rfl, HO, HB⟩ := hrel
  clear hmk HS
  by_cases hlt : k < n
  ·have hlt' : (k : Int) < (n : Int) := by omega
   obtain ⟨hc, hf⟩ := adP HO.out (k : Int) (by omega) (by omega)
   simp only [Int.toNat_natCast] at hc hf
   by_cases hr : (k : Int) < a % (n : Int)
   ·have HK := ae.mk (GI a n k hlt)
    have HR := ae.mk hr
    go_wp2
    go_roundw
    case rel =>
     obtain ⟨s1, _⟩ := Dz HO.out (k : Int) (a / n)
     obtain ⟨s2, _⟩ := Dz s1 (k : Int) (a / n + 1)
     simp only [Int.toNat_natCast, List.set_set] at s1 s2
     have e : qH a n k = a / n + 1 := by unfold qH; rw [if_pos HR.out]
     rw [← e, HK.out] at s2
     exact ⟨k + 1, by omega, by go_num, ⟨by rw [← e]; exact s2⟩, ⟨oH (oH HB.out (Nat.le_refl _)) (Nat.le_refl _)⟩⟩
    case measure => simp [intOf]; omega
   ·have HK := ae.mk (GI a n k hlt)
    have HR := ae.mk hr
    go_wp2
    go_roundw
    case rel =>
     obtain ⟨s1, _⟩ := Dz HO.out (k : Int) (a / n)
     simp only [Int.toNat_natCast] at s1
     have e : qH a n k = a / n := by unfold qH; rw [if_neg HR.out]; omega
     rw [← e, HK.out] at s1
     exact ⟨k + 1, by omega, by go_num, ⟨by rw [← e]; exact s1⟩, ⟨oH HB.out (Nat.le_refl _)⟩⟩
    case measure => simp [intOf]; omega
  ·obtain rfl : k = n := by omega
   go_wp2
   go_ret
   refine ⟨_, rfl, ?_, HB.out⟩
   have h := HO.out
   rw [List.take_of_length_le (by rw [rU]; omega), Nat.sub_self] at h
   simp only [List.replicate_zero, List.append_nil] at h
   exact Kd.Bh (enc := Value.int .i64) (h1 := fun _ => rfl) (by rw [rU]; exact h) (fun _ _ => trivial)
def oZ.f (a0 a1 : Int) : Option (List Int) := if 0 ≤ a0 ∧ a0 ≤ 9000000000000000000 ∧ 1 ≤ a1 ∧ a1 ≤ 100000 then some (moreL a0 a1.toNat) else none
theorem oZ.calls (a0 a1 : Int) (r : List Int) (w : World) (h : oZ.f a0 a1 = some r) : Calls Try.prog 129 #[.int .i64 a0, .int .i64 a1] w fun e w' => ∃ uX : Value, e = .returned (uX) ∧ Kd.R (Kd.int .i64) 3 w' w.heap.size (fun _ => True) uX r ∧ Below w.heap.size w w' := by
 unfold oZ.f at h
 split at h
 ·rename_i hc
  obtain ⟨n, rfl⟩ := Int.eq_ofNat_of_zero_le (show 0 ≤ a1 by omega)
  obtain rfl := Option.some.inj h
  exact Ws a0 n w hc.1 hc.2.1 (by omega) (by omega)
 ·exact absurd h (by simp)
end Go.Proofs.Ytfdmfgaiblfbhaa.P
namespace Go.Proofs.Ytfdmfgaiblfbhaa.P
open Go.RowKit Go.Proofs.ag.aQ Go.Proofs.ag.bu Go.Proofs.ag.bP
attribute [local go_sem] jo jC jU kH jS jT kU kW
mutual
def bf.l0 : Nat → Int → List Int → Int → List Int → Int → Int → Option (List Int × Bool)
 | 0, _, _, _, _, _, _ => none
 | k + 1, x0, x1, x6, x9, x10, x11 => if x11 < x10 then (if 0 ≤ x11 then (if x11 < (x9.length : Int) then (if (rd x9 x11) < 0 then (some (([] : List Int), false)) else (if (rd x9 x11) > 2147483647 then (some (([] : List Int), false)) else (bf.l0 k x0 x1 (mn 2147483647 (wrap64 (x6 + (rd x9 x11)))) x9 x10 (wrap64 (x11 + 1))))) else (none)) else (none)) else (if (x1.length : Int) = 0 then (bf.j1 k x0 x1 true) else (if x0 < (wrap64 (-x6)) then (bf.j1 k x0 x1 true) else (bf.j1 k x0 x1 (decide (x0 > 2147483647)))))
def bf.j1 : Nat → Int → List Int → Bool → Option (List Int × Bool)
 | 0, _, _, _ => none
 | k + 1, x0, x1, x26 => if x26 = true then (some (([] : List Int), false)) else (if x0 ≥ 0 then ((oZ.f x0 (x1.length : Int)).bind fun IG => (some (IG, true))) else ((aX.f k (wrap64 (-x0)) x1).bind fun II => (some (II, true))))
end
def bf.f (k : Nat) (a0 : Int) (l1 : List Int) : Option (List Int × Bool) := bf.l0 k a0 l1 0 l1 (l1.length : Int) 0
theorem bf.calls (k : Nat) (a0 : Int) (A1 : Option Addr) (c1 : Nat) (l1 : List Int) (r1 : List Int) (r2 : Bool) (w : World) (hr1 : Kd.C (Kd.int .i64) w A1 l1.length l1) (hc1 : l1.length ≤ c1) (h : bf.f k a0 l1 = some (r1, r2)) :
  Calls Try.prog 49 #[.int .i64 a0, .slice A1 l1.length c1] w fun e w' => ∃ uX : Value, e = .returned (.tuple #[uX, .bool r2]) ∧ Kd.R (Kd.int .i64) 3 w' w.heap.size (fun _ => True) uX r1 ∧ Below w.heap.size w w' := by
 have HR1 := ae.mk hr1
 have uY := ae.mk hc1
 clear hr1 hc1
 have HB := ae.mk (Below.refl w.heap.size w)
 have H : (bf.l0 k a0 l1 0 l1 (l1.length : Int) 0) = some (r1, r2) := h
 clear h
 have H' := ae.mk H
 clear H
 go_enter Try.func49, Try.ntmps49
 go_wp2
 go_loopg [6, 11] k (fun kq v6 v11 w' => ∃ (BZ : Int) (bK : Int), v6 = .int .i64 BZ ∧ v11 = .int .i64 bK ∧ ae (bf.l0 kq a0 l1 BZ l1 (l1.length : Int) bK = some (r1, r2)) ∧ ae (kq ≤ k) ∧ ae (Below w.heap.size w w'))
 case atStart => exact ⟨(0), (0), (by rfl), (by rfl), H', ⟨Nat.le_refl _⟩, ⟨by repeat ((with_reducible exact HB.out))⟩⟩
 case round =>
  clear H'
  obtain ⟨BZ, bK, rfl, rfl, HA, nz, HB⟩ := hrel
  cases gk with
  | zero => exact absurd HA.out (by simp [bf.l0])
  | succ k1 =>
   have H := HA.out
   clear HA
   simp only [bf.l0] at H
   by_cases c3 : bK < (l1.length : Int)
   ·rw [if_pos c3] at H
    have tC : decide (bK < (l1.length : Int)) = true := decide_eq_true c3
    clear c3
    by_cases c4 : 0 ≤ bK
    ·rw [if_pos c4] at H
     have CQ : decide (0 ≤ bK) = true := decide_eq_true c4
     clear c4
     by_cases c5 : bK < (l1.length : Int)
     ·rw [if_pos c5] at H
      have Hw : decide (bK < (l1.length : Int)) = true := decide_eq_true c5
      clear c5
      by_cases c6 : (rd l1 bK) < 0
      ·rw [if_pos c6] at H
       have Bv : decide ((rd l1 bK) < 0) = true := decide_eq_true c6
       clear c6
       simp only [Option.some.injEq, Prod.mk.injEq] at H
       obtain ⟨rfl, rfl⟩ := H
       have zh : 0 ≤ (bK : Int) := of_decide_eq_true (by (with_reducible assumption))
       have zl : bK < (l1.length : Int) := of_decide_eq_true (by (with_reducible assumption))
       obtain ⟨Xw, L9, pU⟩ := Kd.iW HR1.out bK zh zl
       cases L9
       replace pU := (HB.out.cell (World.block_lt_of_cell? w _ pU)).trans pU
       replace zh := eq_true zh
       replace zl := eq_true zl
       go_wp2
       go_ret2
       exact ⟨_, by rfl, by exact Kd.uz _ _ _ _ _, by repeat ((with_reducible exact HB.out))⟩
      ·rw [if_neg c6] at H
       have Bv : decide ((rd l1 bK) < 0) = false := decide_eq_false c6
       clear c6
       by_cases c7 : (rd l1 bK) > 2147483647
       ·rw [if_pos c7] at H
        have wH : decide (2147483647 < (rd l1 bK)) = true := decide_eq_true c7
        clear c7
        simp only [Option.some.injEq, Prod.mk.injEq] at H
        obtain ⟨rfl, rfl⟩ := H
        have zh : 0 ≤ (bK : Int) := of_decide_eq_true (by (with_reducible assumption))
        have zl : bK < (l1.length : Int) := of_decide_eq_true (by (with_reducible assumption))
        obtain ⟨Xw, L9, pU⟩ := Kd.iW HR1.out bK zh zl
        cases L9
        replace pU := (HB.out.cell (World.block_lt_of_cell? w _ pU)).trans pU
        replace zh := eq_true zh
        replace zl := eq_true zl
        go_wp2
        go_ret2
        exact ⟨_, by rfl, by exact Kd.uz _ _ _ _ _, by repeat ((with_reducible exact HB.out))⟩
       ·rw [if_neg c7] at H
        have wH : decide (2147483647 < (rd l1 bK)) = false := decide_eq_false c7
        clear c7
        obtain ⟨ji8, adn⟩ : ∃ j_ : Int, (mn 2147483647 (wrap64 (BZ + (rd l1 bK)))) = j_ := ⟨_, rfl⟩
        replace H : (bf.l0 k1 a0 l1 ji8 l1 (l1.length : Int) (wrap64 (bK + 1))) = some (r1, r2) := by (rw [adn] at H; exact H)
        have aj_ : (if (wrap64 (BZ + (rd l1 bK))) < 2147483647 then (wrap64 (BZ + (rd l1 bK))) else 2147483647) = ji8 := adn
        have H' := ae.mk H
        clear H
        have zh : 0 ≤ (bK : Int) := of_decide_eq_true (by (with_reducible assumption))
        have zl : bK < (l1.length : Int) := of_decide_eq_true (by (with_reducible assumption))
        obtain ⟨Xw, L9, pU⟩ := Kd.iW HR1.out bK zh zl
        cases L9
        replace pU := (HB.out.cell (World.block_lt_of_cell? w _ pU)).trans pU
        replace zh := eq_true zh
        replace zl := eq_true zl
        go_wp2
        go_roundg k1
        case measure => have := nz.out; omega
        case rel => exact ⟨(ji8), (wrap64 (bK + 1)), (by rfl), (by rfl), H', ⟨by have := nz.out; omega⟩, ⟨by repeat ((with_reducible exact HB.out))⟩⟩
     ·rw [if_neg c5] at H
      exact absurd H (by simp)
    ·rw [if_neg c4] at H
     exact absurd H (by simp)
   ·rw [if_neg c3] at H
    have tC : decide (bK < (l1.length : Int)) = false := decide_eq_false c3
    clear c3
    have HC9 := ae.mk H
    clear H
    go_upto_region 9 with (fail)
    go_cut [26] (fun v26 wc => ∃ (kq : Nat) (JZ : Bool), v26 = .bool JZ ∧ ae (bf.j1 kq a0 l1 JZ = some (r1, r2)) ∧ ae (kq ≤ k1) ∧ ae (Below w.heap.size w wc))
    case first =>
     have H := HC9.out
     clear HC9
     by_cases c10 : (l1.length : Int) = 0
     ·rw [if_pos c10] at H
      have P_ : ((l1.length : Int) == 0) = true := beq_iff_eq.mpr c10
      have aeU : ((l1.length : Int) != 0) = false := bne_eq_false_iff_eq.mpr c10
      clear c10
      (skip)
      have H' := ae.mk H
      clear H
      go_wp2
      go_meet
      case rel => exact ⟨_, (true), (by rfl), H', ⟨by have := nz.out; omega⟩, ⟨by repeat ((with_reducible exact HB.out))⟩⟩
     ·rw [if_neg c10] at H
      have P_ : ((l1.length : Int) == 0) = false := beq_eq_false_iff_ne.mpr c10
      have aeU : ((l1.length : Int) != 0) = true := bne_iff_ne.mpr c10
      have aj1 : ¬ (l1 = []) := fun h_ => c10 (by rw [h_]; rfl)
      (skip)
      by_cases c11 : a0 < (wrap64 (-BZ))
      ·rw [if_pos c11] at H
       have Gg : decide (a0 < (wrap64 (-BZ))) = true := decide_eq_true c11
       clear c11
       have H' := ae.mk H
       clear H
       go_wp2
       go_meet
       case rel => exact ⟨_, (true), (by rfl), H', ⟨by have := nz.out; omega⟩, ⟨by repeat ((with_reducible exact HB.out))⟩⟩
      ·rw [if_neg c11] at H
       have Gg : decide (a0 < (wrap64 (-BZ))) = false := decide_eq_false c11
       clear c11
       have H' := ae.mk H
       clear H
       go_wp2
       go_meet
       case rel => exact ⟨_, (decide (a0 > 2147483647)), (by rfl), H', ⟨by have := nz.out; omega⟩, ⟨by repeat ((with_reducible exact HB.out))⟩⟩
    case rest =>
     clear HC9
     clear tC
     obtain ⟨kq, JZ, rfl, HA, HJ8, HB⟩ := hcut
     cases kq with
     | zero => exact absurd HA.out (by simp [bf.j1])
     | succ kj8 =>
      have H := HA.out
      clear HA
      simp only [bf.j1] at H
      by_cases c12 : JZ = true
      ·subst c12
       have H1 : (some (([] : List Int), false)) = some (r1, r2) := by rw [if_pos rfl] at H; exact H
       clear H
       have H := H1
       clear H1
       simp only [Option.some.injEq, Prod.mk.injEq] at H
       obtain ⟨rfl, rfl⟩ := H
       go_wp2
       go_ret2
       exact ⟨_, by rfl, by exact Kd.uz _ _ _ _ _, by repeat ((with_reducible exact HB.out))⟩
      ·replace c12 := Bool.eq_false_iff.mpr c12
       subst c12
       have H1 : (if a0 ≥ 0 then ((oZ.f a0 (l1.length : Int)).bind fun IG => (some (IG, true))) else ((aX.f kj8 (wrap64 (-a0)) l1).bind fun II => (some (II, true)))) = some (r1, r2) := by rw [if_neg (show ¬ (false = true) by decide)] at H; exact H
       clear H
       have H := H1
       clear H1
       by_cases c13 : a0 ≥ 0
       ·rw [if_pos c13] at H
        have aeV : decide (0 ≤ a0) = true := decide_eq_true c13
        clear c13
        replace H := Option.bind_eq_some_iff.mp H
        obtain ⟨IG, aa2, H⟩ := H
        replace H : (some (IG, true)) = some (r1, r2) := H
        have A14 := ae.mk aa2
        clear aa2
        simp only [Option.some.injEq, Prod.mk.injEq] at H
        obtain ⟨rfl, rfl⟩ := H
        go_wp2_with (((with_reducible refine kP (f := 129) rfl ?_); refine mM (some 46) rfl rfl Try.func129 (by kernel_rfl) rfl #[.int .i64 a0, .int .i64 (l1.length : Int)] rfl (by (try simp only [List.map_toArray, List.map_cons, List.map_nil]); rfl) ?_; (with_reducible refine (oZ.calls a0 (l1.length : Int) IG _ A14.out).mono ?_); rintro e tq ⟨akE, rfl, ho0, hb⟩; refine ⟨_, rfl, ?_⟩; have aeu := ae.mk (Kd.pI ho0 (dS (by repeat ((with_reducible exact HB.out))))); replace HB := ae.mk (ak (by repeat ((with_reducible exact HB.out))) hb); (try clear hb); (try clear ho0)))
        go_ret2
        exact ⟨_, by rfl, by exact aeu.out, by repeat ((with_reducible exact HB.out))⟩
       ·rw [if_neg c13] at H
        have aeV : decide (0 ≤ a0) = false := decide_eq_false c13
        clear c13
        replace H := Option.bind_eq_some_iff.mp H
        obtain ⟨II, J3, H⟩ := H
        replace H : (some (II, true)) = some (r1, r2) := H
        have A16 := ae.mk J3
        clear J3
        simp only [Option.some.injEq, Prod.mk.injEq] at H
        obtain ⟨rfl, rfl⟩ := H
        go_wp2_with (((with_reducible refine kP (f := 130) rfl ?_); refine mM (some 50) rfl rfl Try.func130 (by kernel_rfl) rfl #[.int .i64 (wrap64 (-a0)), .slice A1 l1.length c1] rfl (by (try simp only [List.map_toArray, List.map_cons, List.map_nil]); rfl) ?_; (with_reducible refine (aX.calls kj8 (wrap64 (-a0)) _ _ l1 II _ ?sO ?yI A16.out).mono ?_); (case sO => repeat (exact (Kd.iq HR1.out HB.out))); (case yI => exact uY.out); rintro e U0 ⟨akF, rfl, ho0, hb⟩; refine ⟨_, rfl, ?_⟩; have aev := ae.mk (Kd.pI ho0 (dS (by repeat ((with_reducible exact HB.out))))); replace HB := ae.mk (ak (by repeat ((with_reducible exact HB.out))) hb); (try clear hb); (try clear ho0)))
        go_ret2
        exact ⟨_, by rfl, by exact aev.out, by repeat ((with_reducible exact HB.out))⟩
def XY.f (k : Nat)  : Option (Bool) := (bf.f k 5 (([0, 0, 0] : List Int))).bind fun Xy => ((bf.f k (-5) (([1, 9, 2] : List Int))).bind fun Xz => (if Xy.2 = true then ((lV.f k Xy.1 (([2, 2, 1] : List Int))).bind fun ag5 => (if ag5 = true then (if Xz.2 = true then ((lV.f k Xz.1 (([(-1), (-2), (-2)] : List Int))).bind fun ag6 => (some ag6)) else (some false)) else (some false))) else (some false)))
end Go.Proofs.Ytfdmfgaiblfbhaa.P
namespace Go.Proofs.Ytfdmfgaiblfbhaa.P
open Go.RowKit Go.Proofs.ag.aQ Go.Proofs.ag.bu Go.Proofs.ag.bP
def yH (left : Int) (p : Int × Int) : Int × (Int × Int) := if left > 0 then (left - 1, (p.1, p.2 + 1)) else if left < 0 ∧ p.1 + p.2 > 0 then (left + 1, (p.1, p.2 - 1)) else (left, p)
def xB : Int → List (Int × Int) → Int × List (Int × Int)
 | l, [] => (l, [])
 | l, p :: ps => ((xB (yH l p).1 ps).1, (yH l p).2 :: (xB (yH l p).1 ps).2)
def vX : Nat → Int → List (Int × Int) → Option (List Int × Bool)
 | 0, _, _ => none
 | k + 1, l, ps => if l = 0 then some (ps.map Prod.snd, true) else if (xB l ps).1 = l then some ([], false) else vX k (xB l ps).1 (xB l ps).2
def WU.f (k : Nat) (a0 : Int) (l1 : List Int) : Option (List Int × Bool) :=
 if -100000 ≤ a0 ∧ a0 ≤ 100000 ∧ l1.length ≤ 100000 then
  if l1 = [] then some ([], false)
  else if ∀ g, g ∈ l1 → 0 ≤ g ∧ g ≤ 2147483647 then vX k a0 (l1.map fun g => (g, 0)) else some ([], false)
 else none
end Go.Proofs.Ytfdmfgaiblfbhaa.P
