/- SpreadAt: part 3 of 7 of this claim's texts, one behind the other, made small by a program: the words of the kit's printer cut down to those that are used, the claim's own names made short. -/
import Derived.Test.YtfdmfgaiblfbhaaProg
import Derived.Below
import Derived.Deep.Draws
import Derived.Deep.AppendLies
import Derived.Maps.AppendAt
import Derived.OwnWalk
import Derived.Laws.BytesArg
import Derived.Laws.MakeOwn
import Derived.Laws.OwnMore
import Derived.Deep.OwnRows
import Derived.Tactics
import Derived.Lib.ConvBytes
import Derived.Laws.Slices
import Derived.WalkKit
import Derived.KernelRfl
import Derived.RowKit3
import Derived.Deep.LoopGhost
import Derived.Deep.QuietTactic
import Derived.BigQuiet
import Derived.WideLaws
import Derived.Deep.DeepCutAuto
import Derived.Deep.CutBlock
import Derived.Deep.RegionHeld3
import Derived.Laws.Rows
import Derived.Lib.AppendStr
import Derived.ArgAppend
import Derived.Laws.IdiomCopy
import Derived.OrdersHeld
import Derived.Laws.BitsLemmas
import Derived.RowKit
import Derived.Test.YtfdmfgaiblfbhaaMSpreadAta
import Derived.Test.YtfdmfgaiblfbhaaMSpreadAtb
import Derived.Shelf.Spec.SlicesInsert
import Derived.Shelf.Spec.SlicesInsertGrow
import Derived.Lib.Hide
import Derived.Maps.OwnOps
import Derived.Maps.Views
set_option maxHeartbeats 8000000
set_option maxRecDepth 100000
set_option linter.unusedVariables false
set_option linter.unusedSimpArgs false
namespace Go.Proofs.Ytfdmfgaiblfbhaa.P
open Go.RowKit Go.Proofs.ag.aW Go.Proofs.ag.dA Go.Proofs.ag.dU
attribute [local go_sem] kM kZ lN l7 kz kC kY lg
def alx : Option Int → Value
 | none => .nilIface
 | some c => .iface 0 (.int .i64 c)
theorem info3 : (Try.prog.info? 3).map (fun i => (i.zero, i.size, i.bytes)) = some (some (.int .i64 0), 1, 8) := by kernel_rfl
theorem info23 : (Try.prog.info? 23).map (fun i => (i.zero, i.size, i.bytes)) = some (some (.agg #[(.int .i64 0), (.int .i64 0), (.int .i64 0), (.int .i64 0)]), 4, 32) := by kernel_rfl
theorem info26 : (Try.prog.info? 26).map (fun i => (i.zero, i.size, i.bytes)) = some (some (.agg #[(.int .u8 0), (.int .i64 0), (.int .i64 0), (.int .i64 0), (.int .i64 0), (.int .i64 0), (.slice none 0 0)]), 7, 72) := by kernel_rfl
structure dW where
 f0 : Int
 f1 : Int
 f2 : Int
 f3 : Int
def z23 : dW := ⟨(0 : Int), (0 : Int), (0 : Int), (0 : Int)⟩
def k23 : Kd dW := Kd.PI (Kd.pair (Kd.int .i64) (Kd.pair (Kd.int .i64) (Kd.pair (Kd.int .i64) (Kd.int .i64)))) (fun x : dW => (x.f0, x.f1, x.f2, x.f3))
theorem WY : Kd.Heap k23 := Kd.ND _ (Kd.uY (Kd.wW .i64) (Kd.uY (Kd.wW .i64) (Kd.uY (Kd.wW .i64) (Kd.wW .i64))))
theorem F7 {w : World} {x : dW} {cs : List Value} (h : k23.K w x cs) : cs = [.int .i64 x.f0, .int .i64 x.f1, .int .i64 x.f2, .int .i64 x.f3] := by
 obtain ⟨_, _, rfl, rfl, ⟨_, _, rfl, rfl, ⟨_, _, rfl, rfl, rfl⟩⟩⟩ := h
 exact rfl
theorem NT (w : World) (x : dW)  : k23.K w x [.int .i64 x.f0, .int .i64 x.f1, .int .i64 x.f2, .int .i64 x.f3] := ⟨[.int .i64 x.f0], [.int .i64 x.f1, .int .i64 x.f2, .int .i64 x.f3], rfl, rfl, ⟨[.int .i64 x.f1], [.int .i64 x.f2, .int .i64 x.f3], rfl, rfl, ⟨[.int .i64 x.f2], [.int .i64 x.f3], rfl, rfl, rfl⟩⟩⟩
theorem qV (w : World) (base : Nat) (ok : Nat → Prop) (x : dW)  : k23.M w base ok x [.int .i64 x.f0, .int .i64 x.f1, .int .i64 x.f2, .int .i64 x.f3] := ⟨[.int .i64 x.f0], [.int .i64 x.f1, .int .i64 x.f2, .int .i64 x.f3], rfl, rfl, ⟨[.int .i64 x.f1], [.int .i64 x.f2, .int .i64 x.f3], rfl, rfl, ⟨[.int .i64 x.f2], [.int .i64 x.f3], rfl, rfl, rfl⟩⟩⟩
def ql (xs : List dW) (i : Int) : dW := xs.getD i.toNat z23
theorem L_ {w : World} {A : Option Addr} {n : Nat} {xs : List dW} (h : Kd.C k23 w A n xs) (i : Int) (h0 : 0 ≤ i) (h1 : i < n) : ∃ ad , A = some ad ∧ w.cell? (ad.add (i.toNat * 4)) = some (.int .i64 (ql xs i).f0) ∧ w.cell? ⟨(ad.add (i.toNat * 4)).block, (ad.add (i.toNat * 4)).off + 1, none⟩ = some (.int .i64 (ql xs i).f1) ∧ w.cell? ⟨(ad.add (i.toNat * 4)).block, (ad.add (i.toNat * 4)).off + 2, none⟩ = some (.int .i64 (ql xs i).f2) ∧ w.cell? ⟨(ad.add (i.toNat * 4)).block, (ad.add (i.toNat * 4)).off + 3, none⟩ = some (.int .i64 (ql xs i).f3) := by
 obtain ⟨ad, c, e, _, hK, hc0⟩ := Kd.Gw h z23 i h0 h1
 have hc : ∀ j u, c[j]? = some u → w.cell? (ad.add (i.toNat * 4 + j)) = some u := hc0
 obtain rfl := F7 hK
 exact ⟨ad, e, hc 0 _ rfl, by rw [← kP _ _ 1 (by omega)]; exact hc 1 _ rfl, by rw [← kP _ _ 2 (by omega)]; exact hc 2 _ rfl, by rw [← kP _ _ 3 (by omega)]; exact hc 3 _ rfl⟩
structure ai where
 f0 : Int
 f1 : dW
 f2 : Int
 f3 : (List ai)
def z26 : ai := ⟨(0 : Int), z23, (0 : Int), ([] : List ai)⟩
def OI (d : Kd ai) : Kd ai := Kd.PI (Kd.pair (Kd.int .u8) (Kd.pair k23 (Kd.pair (Kd.int .i64) (Kd.slice 26 d)))) (fun x : ai => (x.f0, x.f1, x.f2, x.f3))
theorem NY : Kd.vK OI := Kd.Xh _ (Kd.Ed (Kd.CW _) (Kd.Ed (Kd.CW _) (Kd.Ed (Kd.CW _) (Kd.QZ 26 Kd.aa9))))
theorem agt : Kd.Sub OI [26] := Kd.abm _ (Kd.Gq (Kd.sub_const _ (by decide)) (Kd.Gq (Kd.sub_const _ (by decide)) (Kd.Gq (Kd.sub_const _ (by decide)) (Kd.Vl 26 (by decide) Kd.ae3))))
theorem Rn : ∀ n, (Kd.upto OI 7 [26] n).sz = 7 := Kd.abu (fun _ => rfl)
def k26 : Kd ai := Kd.fix OI 7 [26] Rn (Kd.Vs agt)
theorem nP : Kd.Heap k26 := Kd.WT (fun _ h_ => Kd.ND _ (Kd.uY (Kd.wW .u8) (Kd.uY WY (Kd.uY (Kd.wW .i64) (Kd.QL 26 h_)))))
theorem CU {w : World} {x : ai} {cs : List Value} (h : k26.K w x cs) : ∃ A6 c6, cs = [.int .u8 x.f0, .int .i64 x.f1.f0, .int .i64 x.f1.f1, .int .i64 x.f1.f2, .int .i64 x.f1.f3, .int .i64 x.f2, .slice A6 x.f3.length c6] ∧ x.f3.length ≤ c6 ∧ k26.C w A6 x.f3.length x.f3 := by
 obtain ⟨n, h⟩ := h
 cases n with
 | zero => exact h.elim
 | succ n =>
  obtain ⟨_, _, rfl, rfl, ⟨_, _, rfl, s1, ⟨_, _, rfl, rfl, ⟨A6, c6, rfl, l6, g6⟩⟩⟩⟩ := h
  obtain rfl := F7 s1
  exact ⟨A6, c6, rfl, l6, Kd.af9 g6⟩
theorem aeA (w : World) (x : ai) {A6 : Option Addr} {c6 : Nat} (l6 : x.f3.length ≤ c6) (g6 : k26.C w A6 x.f3.length x.f3) : k26.K w x [.int .u8 x.f0, .int .i64 x.f1.f0, .int .i64 x.f1.f1, .int .i64 x.f1.f2, .int .i64 x.f1.f3, .int .i64 x.f2, .slice A6 x.f3.length c6] := by
 obtain ⟨n6, q6⟩ := Kd.QE NY g6
 have r6 := Kd.Vr NY Rn (show n6 ≤ n6 by omega) q6
 exact ⟨n6 + 1, ⟨[.int .u8 x.f0], [.int .i64 x.f1.f0, .int .i64 x.f1.f1, .int .i64 x.f1.f2, .int .i64 x.f1.f3, .int .i64 x.f2, .slice A6 x.f3.length c6], rfl, rfl, ⟨[.int .i64 x.f1.f0, .int .i64 x.f1.f1, .int .i64 x.f1.f2, .int .i64 x.f1.f3], [.int .i64 x.f2, .slice A6 x.f3.length c6], rfl, (NT w x.f1 ), ⟨[.int .i64 x.f2], [.slice A6 x.f3.length c6], rfl, rfl, ⟨A6, c6, rfl, l6, r6⟩⟩⟩⟩⟩
theorem nI {W : World} {ok : Nat → Prop} {x : ai} {cs : List Value} (h : Kd.FK k26 W ok x cs) : ∃ A6 c6, cs = [.int .u8 x.f0, .int .i64 x.f1.f0, .int .i64 x.f1.f1, .int .i64 x.f1.f2, .int .i64 x.f1.f3, .int .i64 x.f2, .slice A6 x.f3.length c6] ∧ x.f3.length ≤ c6 ∧ Kd.F k26 W ok A6 x.f3.length x.f3 := by
 obtain ⟨A6, c6, rfl, l6, _⟩ := CU (Kd.tZ h)
 exact ⟨A6, c6, rfl, l6, (fun W' hW => by obtain ⟨A6_, c6_, he, l6_, g6_⟩ := CU (h W' hW); injection (Option.some.inj (show some (Value.slice A6 x.f3.length c6) = some (Value.slice A6_ x.f3.length c6_) from congrArg (fun l => l[6]?) he)) with ha_ _ _; rw [ha_]; exact g6_)⟩
theorem qh (W : World) (ok : Nat → Prop) (x : ai) {A6 : Option Addr} {c6 : Nat} (l6 : x.f3.length ≤ c6) (g6 : Kd.F k26 W ok A6 x.f3.length x.f3) : Kd.FK k26 W ok x [.int .u8 x.f0, .int .i64 x.f1.f0, .int .i64 x.f1.f1, .int .i64 x.f1.f2, .int .i64 x.f1.f3, .int .i64 x.f2, .slice A6 x.f3.length c6] := fun W2 hW => aeA W2 x l6 (g6 W2 hW)
def aG (xs : List ai) (i : Int) : ai := xs.getD i.toNat z26
theorem rQ {w : World} {A : Option Addr} {n : Nat} {xs : List ai} (h : Kd.C k26 w A n xs) (i : Int) (h0 : 0 ≤ i) (h1 : i < n) : ∃ ad A6 c6, A = some ad ∧ w.cell? (ad.add (i.toNat * 7)) = some (.int .u8 (aG xs i).f0) ∧ w.cell? ⟨(ad.add (i.toNat * 7)).block, (ad.add (i.toNat * 7)).off + 1, none⟩ = some (.int .i64 (aG xs i).f1.f0) ∧ w.cell? ⟨(ad.add (i.toNat * 7)).block, (ad.add (i.toNat * 7)).off + 2, none⟩ = some (.int .i64 (aG xs i).f1.f1) ∧ w.cell? ⟨(ad.add (i.toNat * 7)).block, (ad.add (i.toNat * 7)).off + 3, none⟩ = some (.int .i64 (aG xs i).f1.f2) ∧ w.cell? ⟨(ad.add (i.toNat * 7)).block, (ad.add (i.toNat * 7)).off + 4, none⟩ = some (.int .i64 (aG xs i).f1.f3) ∧ w.cell? ⟨(ad.add (i.toNat * 7)).block, (ad.add (i.toNat * 7)).off + 5, none⟩ = some (.int .i64 (aG xs i).f2) ∧ w.cell? ⟨(ad.add (i.toNat * 7)).block, (ad.add (i.toNat * 7)).off + 6, none⟩ = some (.slice A6 (aG xs i).f3.length c6) ∧ (aG xs i).f3.length ≤ c6 ∧ k26.C w A6 (aG xs i).f3.length (aG xs i).f3 := by
 obtain ⟨ad, c, e, _, hK, hc0⟩ := Kd.Gw h z26 i h0 h1
 have hc : ∀ j u, c[j]? = some u → w.cell? (ad.add (i.toNat * 7 + j)) = some u := hc0
 obtain ⟨A6, c6, rfl, l6, g6⟩ := CU hK
 exact ⟨ad, A6, c6, e, hc 0 _ rfl, by rw [← kP _ _ 1 (by omega)]; exact hc 1 _ rfl, by rw [← kP _ _ 2 (by omega)]; exact hc 2 _ rfl, by rw [← kP _ _ 3 (by omega)]; exact hc 3 _ rfl, by rw [← kP _ _ 4 (by omega)]; exact hc 4 _ rfl, by rw [← kP _ _ 5 (by omega)]; exact hc 5 _ rfl, by rw [← kP _ _ 6 (by omega)]; exact hc 6 _ rfl, l6, g6⟩
structure GV where
 f0 : Int
 f1 : dW
def z35 : GV := ⟨(0 : Int), z23⟩
def k35 : Kd GV := Kd.PI (Kd.pair (Kd.int .i64) k23) (fun x : GV => (x.f0, x.f1))
def akm (xs : List GV) (i : Int) : GV := xs.getD i.toNat z35
def akU (xs : List (List GV)) (i : Int) : (List GV) := xs.getD i.toNat ([] : List GV)
def akV (xs : List (List Int)) (i : Int) : (List Int) := xs.getD i.toNat ([] : List Int)
def akW (xs : List (List dW)) (i : Int) : (List dW) := xs.getD i.toNat ([] : List dW)
def akX (xs : List (List ai)) (i : Int) : (List ai) := xs.getD i.toNat ([] : List ai)
def akl (xs : List (List Int)) (i : Int) : (List Int) := xs.getD i.toNat ([] : List Int)
end Go.Proofs.Ytfdmfgaiblfbhaa.P
namespace Go.Proofs.Ytfdmfgaiblfbhaa.P
open Go.RowKit Go.Proofs.ag.aW Go.Proofs.ag.dA Go.Proofs.ag.dU
section
variable {P : Program} {ops : Array Oper} {rest : List Oper} {o : Oper} {a : Act} {Q : Exit → Act → World → Prop}
theorem grown_below {w0 W w1 : World} {g base : Nat} (HB : Below base w0 W) (hg : W.grownBy w1 (some g)) (hbg : base ≤ g) (hs : base ≤ W.heap.size) : Below base w0 w1 := HB.trans ⟨hg.os, hg.tape, hg.output, hg.size, fun k hk => hg.block k (by omega) (fun he => by injection he with he; omega)⟩
theorem qp {W : World} {g j : Nat} {cs cs' : Array Value} {t0 : TypeId} {bP : List Value} (hb : W.heap[g]? = some (.cells cs t0 (0, 0))) (hj : j + bP.length ≤ cs.size) (he : cs.toList.take j ++ bP ++ cs.toList.drop (j + bP.length) = cs'.toList) :
  (W.setCells g j bP).heap[g]? = some (.cells cs' t0 (0, 0)) ∧ W.grownBy (W.setCells g j bP) (some g) := by
 obtain ⟨cur', h3, h4, h5⟩ := lK bP j W cs hb hj
 obtain ⟨s1, s2, s3, s4⟩ := uG g bP j W
 have hc : cur' = cs' := Array.toList_inj.1 (h5.trans he)
 subst hc
 exact ⟨h3, ⟨s1, s2, s3, by rw [s4]; exact Nat.le_refl _, fun k _ hk => wG bP _ k (fun e => hk (by rw [e]))⟩⟩
theorem iF {W w0 : World} (hN : o.dst = none) (hgd : o.guard = none) (t : TypeId) (p x : Operand) (ho : o.op = .store t p x) {g j base : Nat} {cs : Array Value} (cs' : Array Value) {t0 : TypeId} {u : Value} {bP : List Value}
  (kW : a.eval p = .pointer (some ⟨g, j, none⟩)) (hx : a.eval x = u) (hu : u.cells.toList = bP) (ht : (P.info? t).map (·.size) = some bP.length) (h1 : ∀ q ∈ bP, q.oneCell' = true)
  (hb : W.heap[g]? = some (.cells cs t0 (0, 0))) (hj : j + bP.length ≤ cs.size) (he : cs.toList.take j ++ bP ++ cs.toList.drop (j + bP.length) = cs'.toList) (HB : Below base w0 W) (hbs : base ≤ W.heap.size) (hbg : base ≤ g)
  (h : ∀ w1, w1.heap[g]? = some (.cells cs' t0 (0, 0)) → Below base w0 w1 → W.grownBy w1 (some g) → wpList P ops Q rest a w1) : wpList P ops Q (o :: rest) a W := by
 obtain ⟨h2, h3⟩ := qp hb hj he
 refine wpList_plain hgd fun K hK => ?_
 have hrun := Du (P := P) t u bP hb hu ht hj h1
 unfold Oper.wp execOp
 simp only [ho, kW, hx, Sem.run_bind, Sem.run_pure, Result.andThen_ok, hrun]
 show K (a.put o.dst undef) _
 rw [hN]
 exact hK a _ (h _ h2 (grown_below HB h3 hbg hbs) h3)
theorem Dj {W : World} (t : TypeId) (p x : Operand) (ho : o.op = .store t p x) {g j : Nat} {cs : Array Value} {t0 : TypeId} {u : Value} {bP : List Value}
  (kW : a.eval p = .pointer (some ⟨g, j, none⟩)) (hx : a.eval x = u) (hu : u.cells.toList = bP) (ht : (P.info? t).map (·.size) = some bP.length) (h1 : ∀ q ∈ bP, q.oneCell' = true)
  (hb : W.heap[g]? = some (.cells cs t0 (0, 0))) (hj : j + bP.length ≤ cs.size) : (execOp a.eval o).run P W = .ok .skip (W.setCells g j bP) := by
 have hrun := Du (P := P) t u bP hb hu ht hj h1
 unfold execOp
 simp only [ho, kW, hx, Sem.run_bind, Sem.run_pure, Result.andThen_ok, hrun]
end
theorem Lu {α : Type} {d : Kd α} {e base b c : Nat} {P : Nat → Prop} {W w1 : World} {v : Value} {xs : List α} (h : Kd.N d e w1 W.heap.size (fun k => ((P k ∧ k ≠ b) ∧ k ≠ c) ∨ W.heap.size ≤ k) v xs) (hb : b < W.heap.size) (hc : c < W.heap.size) (hs : base ≤ W.heap.size) :
  Kd.N d e w1 base (fun k => ((P k ∨ base ≤ k) ∧ k ≠ b) ∧ k ≠ c) v xs :=
 Kd.wO (Kd.jg h (fun k hk => hk.elim (fun q => ⟨⟨.inl q.1.1, q.1.2⟩, q.2⟩) (fun q => ⟨⟨.inr (by omega), by omega⟩, by omega⟩))) hs
def keys (bs : List (Option Nat × Obj)) (ow : List (Value × List ai)) : List Nat := bs.filterMap (·.1) ++ ow.flatMap (fun r => r.1.ownBlock.toList)
def Ok (w : World) (P : Nat → Prop) (ks : List Nat) (k : Nat) : Prop := (P k ∨ w.heap.size ≤ k) ∧ k ∉ ks
structure St (w : World) (P : Nat → Prop) (bs : List (Option Nat × Obj)) (ow : List (Value × List ai)) (ts : List (Value × List ai)) (ro : List (Addr × Value)) (W : World) : Prop where
 below : Below w.heap.size w W
 blk : ∀ p, p ∈ bs → ∀ g, p.1 = some g → W.heap[g]? = some p.2
 new : ∀ k, k ∈ keys bs ow → w.heap.size ≤ k ∧ k < W.heap.size
 nd : (keys bs ow).Nodup
 tree : ∀ t, t ∈ ts → Kd.V k26 26 W 0 (Ok w P (keys bs ow)) t.1 t.2
 own : ∀ r, r ∈ ow → Kd.N k26 26 W w.heap.size (fun k => Ok w P (keys bs ow) k ∨ r.1.ownBlock = some k) r.1 r.2
 cell : ∀ c, c ∈ ro → W.cell? c.1 = some c.2 ∧ c.1.block ∉ keys bs ow
section
variable {w : World} {P : Nat → Prop} {bs : List (Option Nat × Obj)} {ow : List (Value × List ai)} {ts : List (Value × List ai)} {ro : List (Addr × Value)} {W W1 : World} {g b0 cap : Nat} {o o' : Obj} {v : Value} {l : List ai}
theorem dO {α : Type} {d : Kd α} {e base base' : Nat} {ok : Nat → Prop} {W : World} {v : Value} {xs : List α} (h : Kd.V d e W base ok v xs) : Kd.V d e W base' ok v xs := Kd.yG h (fun _ hf => hf)
theorem St.start (h : ∀ t, t ∈ ts → Kd.V k26 26 w b0 P t.1 t.2) : St w P [] [] ts [] w where
 below := Below.refl _ _
 blk := fun _ h => by cases h
 new := fun _ h => by cases h
 nd := List.nodup_nil
 tree := fun t ht => dO (Kd.ik (h t ht) (fun k hk => ⟨.inl hk, by simp [keys]⟩))
 own := fun _ h => by cases h
 cell := fun _ h => by cases h
theorem St.Ir (S : St w P [] [] ts ro W) {a : Addr} {u : Value} (h : W.cell? a = some u) : St w P [] [] ts ((a, u) :: ro) W :=
 ⟨S.below, S.blk, S.new, S.nd, S.tree, S.own, fun c hc => by
  rcases List.mem_cons.1 hc with rfl | hc
  ·exact ⟨h, by simp [keys]⟩
  ·exact S.cell c hc⟩
theorem St.lt (S : St w P bs ow ts ro W) {k : Nat} (h : k ∈ keys bs ow) : k < W.heap.size := (S.new k h).2
theorem St.box (S : St w P bs ow ts ro W) (hg : g = W.heap.size) (hbox : W1.heap[g]? = some o) (hb : Below W.heap.size W W1) : St w P ((some g, o) :: bs) ow ts ro W1 where
 below := az S.below hb
 blk := fun p hp q hq => by
  rcases List.mem_cons.1 hp with rfl | hp
  ·rw [← Option.some.inj hq]; exact hbox
  ·exact aV (S.blk p hp q hq) hb
 new := fun k hk => by
  rcases List.mem_cons.1 (show k ∈ g :: keys bs ow from hk) with rfl | hk
  ·exact ⟨by rw [hg]; exact S.below.size, gu hbox⟩
  ·exact ⟨(S.new k hk).1, Nat.lt_of_lt_of_le (S.new k hk).2 hb.size⟩
 nd := show (g :: keys bs ow).Nodup from List.nodup_cons.2 ⟨fun h => by have := (S.new g h).2; omega, S.nd⟩
 tree := fun t ht => Kd.ik (Kd.jQ (Kd.nO (S.tree t ht) g (Nat.le_of_eq hg.symm)) hb) (fun k hk => ⟨hk.1.1, fun h => (List.mem_cons.1 (show k ∈ g :: keys bs ow from h)).elim hk.2 hk.1.2⟩)
 own := fun r hr => Kd.jg (Kd.pW (Kd.BJ (S.own r hr) g (Nat.le_of_eq hg.symm)) hb) (fun k hk => hk.1.elim (fun h1 => .inl ⟨h1.1, fun h => (List.mem_cons.1 (show k ∈ g :: keys bs ow from h)).elim hk.2 h1.2⟩) .inr)
 cell := fun c hc => ⟨(hb.cell (World.block_lt_of_cell? W _ (S.cell c hc).1)).trans (S.cell c hc).1, fun h => (List.mem_cons.1 (show c.1.block ∈ g :: keys bs ow from h)).elim (fun he => by have := World.block_lt_of_cell? W _ (S.cell c hc).1; omega) (S.cell c hc).2⟩
theorem St.call (S : St w P bs ow ts ro W) (hb : Below W.heap.size W W1) : St w P bs ow ts ro W1 where
 below := az S.below hb
 blk := fun p hp q hq => aV (S.blk p hp q hq) hb
 new := fun k hk => ⟨(S.new k hk).1, Nat.lt_of_lt_of_le (S.new k hk).2 hb.size⟩
 nd := S.nd
 tree := fun t ht => Kd.jQ (S.tree t ht) hb
 own := fun r hr => Kd.pW (S.own r hr) hb
 cell := fun c hc => ⟨(hb.cell (World.block_lt_of_cell? W _ (S.cell c hc).1)).trans (S.cell c hc).1, (S.cell c hc).2⟩
theorem St.add (S : St w P bs ow ts ro W) (h : Kd.V k26 26 W b0 (Ok w P (keys bs ow)) v l) : St w P bs ow ((v, l) :: ts) ro W :=
 ⟨S.below, S.blk, S.new, S.nd, fun t ht => by
  rcases List.mem_cons.1 ht with rfl | ht
  ·exact dO h
  ·exact S.tree t ht, S.own, S.cell⟩
theorem St.res (S : St w P bs ow ts ro W) (h : Kd.V k26 26 W1 b0 (fun k => Ok w P (keys bs ow) k ∨ W.heap.size ≤ k) v l) (hb : Below W.heap.size W W1) : St w P bs ow ((v, l) :: ts) ro W1 :=
 (S.call hb).add (Kd.ik h (fun k hk => hk.elim id (fun h1 => ⟨.inr (Nat.le_trans S.below.size h1), fun h2 => by have := S.lt h2; omega⟩)))
theorem iE {k : Nat} : k ∈ keys bs [(v, l)] ↔ k ∈ keys bs [] ∨ v.ownBlock = some k := by
 simp only [keys, List.flatMap_cons, List.flatMap_nil, List.append_nil, List.mem_append, Option.mem_toList]
theorem St.Df (S : St w P bs [] ts ro W) (h : Kd.N k26 26 W1 W.heap.size (fun k => Ok w P (keys bs []) k ∨ W.heap.size ≤ k) v l) (hb : Below W.heap.size W W1) : St w P bs [(v, l)] ts ro W1 := by
 have hgb : ∀ g, v.ownBlock = some g → W.heap.size ≤ g := Kd.t_ h
 have hgl : ∀ g, v.ownBlock = some g → g < W1.heap.size := Kd.DD h
 have hlt : ∀ k, k < W.heap.size → v.ownBlock ≠ some k := fun k hk e => by have := hgb k e; omega
 refine ⟨az S.below hb, fun p hp q hq => aV (S.blk p hp q hq) hb, fun k hk => ?_, ?_, fun t ht => ?_, fun r hr => ?_, fun c hc => ?_⟩
 ·rcases iE.1 hk with h1 | h1
  ·exact ⟨(S.new k h1).1, Nat.lt_of_lt_of_le (S.new k h1).2 hb.size⟩
  ·exact ⟨Nat.le_trans S.below.size (hgb k h1), hgl k h1⟩
 ·have h1 := S.nd
  simp only [keys, List.flatMap_nil, List.append_nil] at h1
  simp only [keys, List.flatMap_cons, List.flatMap_nil, List.append_nil]
  refine List.nodup_append.2 ⟨h1, by cases v.ownBlock <;> simp, fun a ha b hb2 => ?_⟩
  rintro rfl
  exact hlt a (S.lt (by simpa [keys] using ha)) (by simpa using hb2)
 ·exact Kd.ik (Kd.jQ (Kd.EH (S.tree t ht)) hb) (fun k hk => ⟨hk.1.1, fun h2 => (iE.1 h2).elim hk.1.2 (hlt k hk.2)⟩)
 ·rw [List.mem_singleton] at hr
  subst hr
  refine Kd.wO (Kd.jg h (fun k hk => ?_)) S.below.size
  by_cases hkg : v.ownBlock = some k
  ·exact .inr hkg
  ·refine .inl ?_
   rcases hk with h1 | h1
   ·exact ⟨h1.1, fun h2 => (iE.1 h2).elim h1.2 hkg⟩
   ·exact ⟨.inr (Nat.le_trans S.below.size h1), fun h2 => (iE.1 h2).elim (fun h3 => by have := S.lt h3; omega) hkg⟩
 ·exact ⟨(hb.cell (World.block_lt_of_cell? W _ (S.cell c hc).1)).trans (S.cell c hc).1, fun h2 => (iE.1 h2).elim (S.cell c hc).2 (hlt _ (World.block_lt_of_cell? W _ (S.cell c hc).1))⟩
theorem MW {W W1 : World} {g : Nat} (hg : W.grownBy W1 (some g)) {a : Addr} {u : Value} (h : W.cell? a = some u) (hn : a.block ≠ g) : W1.cell? a = some u := cell_grown hg h (fun e => hn (Option.some.inj e))
theorem WZ {i : Nat} : ∀ {bs : List (Option Nat × Obj)} (ow : List (Value × List ai)) (_ : bs[i]? = some (some g, o)), keys (bs.set i (some g, o')) ow = keys bs ow := by
 induction i with
 | zero => intro bs ow h; cases bs with
  | nil => simp at h
  | cons b bs => simp at h; subst h; rfl
 | succ i ih => intro bs ow h; cases bs with
  | nil => simp at h
  | cons b bs =>
   have := ih (bs := bs) ow (by simpa using h)
   unfold keys at this ⊢
   have h2 := List.append_cancel_right this
   rw [List.set_cons_succ, List.filterMap_cons, List.filterMap_cons, h2]
theorem mem_keys {bs : List (Option Nat × Obj)} {ow : List (Value × List ai)} {p : Option Nat × Obj} {g : Nat} (hp : p ∈ bs) (hg : p.1 = some g) : g ∈ keys bs ow := List.mem_append.2 (.inl (List.mem_filterMap.2 ⟨p, hp, hg⟩))
theorem agj {p q : Option Nat × Obj} {g : Nat} : ∀ {bs : List (Option Nat × Obj)} {i j : Nat}, (bs.filterMap (·.1)).Nodup → bs[i]? = some p → bs[j]? = some q → i ≠ j → p.1 = some g → q.1 = some g → False := by
 intro bs
 induction bs with
 | nil => intro i j _ hi; simp at hi
 | cons b bs ih =>
  intro i j hn hi hj hij hp hq
  have hn' : (bs.filterMap (·.1)).Nodup := by
   rw [List.filterMap_cons] at hn
   split at hn
   ·exact hn
   ·exact (List.nodup_cons.1 hn).2
  cases i with
  | zero =>
   cases j with
   | zero => exact hij rfl
   | succ j =>
    simp at hi hj
    subst hi
    rw [List.filterMap_cons, hp] at hn
    exact (List.nodup_cons.1 hn).1 (List.mem_filterMap.2 ⟨q, List.mem_of_getElem? hj, hq⟩)
  | succ i =>
   cases j with
   | zero =>
    simp at hi hj
    subst hj
    rw [List.filterMap_cons, hq] at hn
    exact (List.nodup_cons.1 hn).1 (List.mem_filterMap.2 ⟨p, List.mem_of_getElem? hi, hp⟩)
   | succ j => exact ih hn' (by simpa using hi) (by simpa using hj) (by omega) hp hq
theorem St.put (S : St w P bs ow ts ro W) (i : Nat) (hi : bs[i]? = some (some g, o)) (hbk : W1.heap[g]? = some o') (hb : Below w.heap.size w W1) (hg : W.grownBy W1 (some g)) : St w P (bs.set i (some g, o')) ow ts ro W1 := by
 have hk := WZ (o' := o') ow hi
 have hm : g ∈ keys bs ow := mem_keys (List.mem_of_getElem? hi) rfl
 refine ⟨hb, fun p hp q hq => ?_, by rw [hk]; exact fun k h => ⟨(S.new k h).1, Nat.lt_of_lt_of_le (S.new k h).2 hg.size⟩, by rw [hk]; exact S.nd, fun t ht => ?_, fun r hr => ?_, fun c hc => ?_⟩
 ·obtain ⟨j, hj⟩ := List.mem_iff_getElem?.1 hp
  rw [List.getElem?_set] at hj
  by_cases hij : i = j
  ·subst hij
   rw [if_pos rfl] at hj
   split at hj
   ·injection hj with e; subst e; rw [← Option.some.inj hq]; exact hbk
   ·cases hj
  ·rw [if_neg hij] at hj
   exact dJ (S.blk p (List.mem_of_getElem? hj) q hq) hg (fun e => agj (List.nodup_append.1 S.nd).1 hi hj hij rfl (by rw [hq]; exact e))
 ·rw [hk]; exact Kd.uT (S.tree t ht) hg (fun k h e => h.2 (by rw [Option.some.inj e]; exact hm))
 ·rw [hk]
  have hrg : r.1.ownBlock ≠ some g := fun e => (List.nodup_append.1 S.nd).2.2 g (List.mem_filterMap.2 ⟨_, List.mem_of_getElem? hi, rfl⟩) g (List.mem_flatMap.2 ⟨r, hr, by simp [e]⟩) rfl
  exact Kd.uS (S.own r hr) hg (fun k h e => h.elim (fun h1 => h1.2 (by rw [Option.some.inj e]; exact hm)) (fun h1 => hrg (by rw [h1]; exact e)))
 ·rw [hk]; exact ⟨MW hg (S.cell c hc).1 (fun e => (S.cell c hc).2 (by rw [e]; exact hm)), (S.cell c hc).2⟩
def mZ (x : ai) (A : Option Addr) (c : Nat) : List Value := [.int .u8 x.f0, .int .i64 x.f1.f0, .int .i64 x.f1.f1, .int .i64 x.f1.f2, .int .i64 x.f1.f3, .int .i64 x.f2, .slice A x.f3.length c]
theorem St.bP {n : Nat} (S : St w P bs [(.slice (some ⟨g, 0, none⟩) n cap, l)] ts ro W) (i : Int) (h0 : 0 ≤ i) (h1 : i < l.length) (x : ai) {A : Option Addr} {c : Nat} (hm : (.slice A x.f3.length c, x.f3) ∈ ts) (hW : W1 = W.setCells g (i.toNat * 7 + 0) (mZ x A c)) :
  St w P bs [(.slice (some ⟨g, 0, none⟩) n cap, l.set i.toNat x)] ts ro W1 ∧ W.grownBy W1 (some g) := by
 have hN := S.own _ (List.mem_singleton.2 rfl)
 have hob : (Value.slice (some ⟨g, 0, none⟩) n cap).ownBlock = some g := by simp [Value.ownBlock]
 have hmem : g ∈ keys bs [(.slice (some ⟨g, 0, none⟩) n cap, l)] := iE.2 (.inr hob)
 have hn : n = l.length := (Kd.jl hN).1
 obtain ⟨c0, hcl, hM, hcc, hfr⟩ := Kd.xE hN z26 i h0 (by rw [hn]; exact h1)
 obtain ⟨hl1, hl2, hF⟩ := Kd.DI (S.tree _ hm)
 have JQ := qh W _ x hl2 hF
 have hseg := Kd.Qo hN i h0 (by rw [hn]; exact h1) (bP := mZ x A c) (j := 0) hcl hcc (show 0 + 7 ≤ 7 from by decide) (x' := x) (gm := Ok w P (keys bs [(.slice (some ⟨g, 0, none⟩) n cap, l)])) (by
  have e : c0.take 0 ++ mZ x A c ++ c0.drop (0 + (mZ x A c).length) = mZ x A c := by
   rw [show (0 + (mZ x A c).length) = c0.length by rw [hcl]; rfl, List.drop_length, List.take_zero, List.nil_append, List.append_nil]
  rw [e]; exact JQ) (fun k hk => ⟨.inl hk, fun e => hk.2 (by rw [e]; exact hmem)⟩)
 have CS : Kd.N k26 26 W1 w.heap.size (fun k => Ok w P (keys bs [(.slice (some ⟨g, 0, none⟩) n cap, l)]) k ∨ (Value.slice (some ⟨g, 0, none⟩) n cap).ownBlock = some k) (.slice (some ⟨g, 0, none⟩) n cap) (l.set i.toNat x) ∧ W.grownBy W1 (some g) := by rw [hW]; exact hseg
 have hne : ∀ p, p ∈ bs → p.1 ≠ some g := fun p hp e => (List.nodup_append.1 S.nd).2.2 g (List.mem_filterMap.2 ⟨p, hp, e⟩) g (by simp [hob]) rfl
 refine ⟨⟨grown_below S.below CS.2 (S.new g hmem).1 S.below.size, fun p hp q hq => dJ (S.blk p hp q hq) CS.2 (fun e => hne p hp (by rw [hq]; exact e)), fun k h => ⟨(S.new k h).1, Nat.lt_of_lt_of_le (S.new k h).2 CS.2.size⟩, S.nd, fun t ht => ?_, fun r hr => ?_, fun c hc => ?_⟩, CS.2⟩
 ·exact Kd.uT (S.tree t ht) CS.2 (fun k h e => h.2 (by rw [Option.some.inj e]; exact hmem))
 ·rw [List.mem_singleton] at hr
  subst hr
  exact CS.1
 ·exact ⟨MW CS.2 (S.cell c hc).1 (fun e => (S.cell c hc).2 (by rw [e]; exact hmem)), (S.cell c hc).2⟩
theorem St.free (S : St w P bs [(v, l)] ts ro W) : St w P bs [] ((v, l) :: ts) ro W := by
 have hk : ∀ k, k ∈ keys bs [] → k ∈ keys bs [(v, l)] := fun k h => iE.2 (.inl h)
 have hne : ∀ k, k ∈ keys bs [] → v.ownBlock ≠ some k := fun k h e => (List.nodup_append.1 S.nd).2.2 k (by simpa [keys] using h) k (by simp [e]) rfl
 refine ⟨S.below, S.blk, fun k h => S.new k (hk k h), ?_, fun t ht => ?_, fun _ h => (by cases h), fun c hc => ⟨(S.cell c hc).1, fun h => (S.cell c hc).2 (hk _ h)⟩⟩
 ·simp only [keys, List.flatMap_nil, List.append_nil]; exact (List.nodup_append.1 S.nd).1
 ·rcases List.mem_cons.1 ht with rfl | ht
  ·exact Kd.ik (Kd.rM (S.own _ (List.mem_singleton.2 rfl))) (fun k h => h.elim (fun h1 => ⟨h1.1, fun h2 => h1.2 (hk k h2)⟩) (fun h1 => ⟨.inr (S.new k (iE.2 (.inr h1))).1, fun h2 => hne k h2 h1⟩))
  ·exact Kd.ik (S.tree t ht) (fun k h => ⟨h.1, fun h2 => h.2 (hk k h2)⟩)
theorem St.tK (S : St w P bs [(v, l)] ts ro W) : Kd.N k26 26 W w.heap.size (fun k => P k ∨ w.heap.size ≤ k) v l :=
 Kd.jg (S.own _ (List.mem_singleton.2 rfl)) (fun k h => h.elim (fun h1 => h1.1) (fun h1 => .inr (S.new k (iE.2 (.inr h1))).1))
theorem St.AO (S : St w P bs ow ts ro W) (hm : (v, l) ∈ ts) : Kd.V k26 26 W b0 (fun k => P k ∨ w.heap.size ≤ k) v l := dO (Kd.ik (S.tree _ hm) (fun _ h => h.1))
theorem St.at (S : St w P bs ow ts ro W) {cs : Array Value} {t : TypeId} (hm : (some g, .cells cs t (0, 0)) ∈ bs) (j : Nat) : W.cell? ⟨g, j, none⟩ = cs[j]? := af (S.blk _ hm g rfl) j
theorem St.elem (S : St w P bs ow ts ro W) {A : Option Addr} {n c : Nat} (hm : (.slice A n c, l) ∈ ts) (i : Int) (h0 : 0 ≤ i) (h1 : i < l.length) :
  ∃ ad ua uc, A = some ad ∧ St w P bs ow ((.slice ua (aG l i).f3.length uc, (aG l i).f3) :: ts) ((ad.add (i.toNat * 7), .int .u8 (aG l i).f0) :: (⟨(ad.add (i.toNat * 7)).block, (ad.add (i.toNat * 7)).off + 1, none⟩, .int .i64 (aG l i).f1.f0) :: (⟨(ad.add (i.toNat * 7)).block, (ad.add (i.toNat * 7)).off + 2, none⟩, .int .i64 (aG l i).f1.f1) :: (⟨(ad.add (i.toNat * 7)).block, (ad.add (i.toNat * 7)).off + 3, none⟩, .int .i64 (aG l i).f1.f2) :: (⟨(ad.add (i.toNat * 7)).block, (ad.add (i.toNat * 7)).off + 4, none⟩, .int .i64 (aG l i).f1.f3) :: (⟨(ad.add (i.toNat * 7)).block, (ad.add (i.toNat * 7)).off + 5, none⟩, .int .i64 (aG l i).f2) :: (⟨(ad.add (i.toNat * 7)).block, (ad.add (i.toNat * 7)).off + 6, none⟩, .slice ua (aG l i).f3.length uc) :: ro) W := by
 have hV := S.tree _ hm
 obtain ⟨hn, hl, hF⟩ := Kd.DI hV
 obtain ⟨ad, ua, uc, ek, y0, y1, y2, y3, y4, y5, y6, JW, hgu⟩ := rQ (Kd.Gx hF) i h0 h1
 subst ek
 obtain ⟨ad2, ce, e2, hcl, hFK, hcc, hok⟩ := Kd.Qe hF z26 i h0 h1
 injection e2 with e2
 subst e2
 obtain ⟨ub, ud, rfl, lub, fub⟩ := nI hFK
 have e6 := hcc 6 _ rfl
 rw [show k26.sz = 7 from rfl, kP _ _ 6 (by omega)] at e6
 have e7 := Option.some.inj (e6.symm.trans y6)
 injection e7 with ea en ec
 subst ea
 subst ec
 have hO := (hok (by decide)).2
 have Ns : (ad.add (i.toNat * 7)).block ∉ keys bs ow := by rw [add_block]; exact hO
 refine ⟨ad, ub, ud, rfl, (S.add (Kd.uJ (base := 0) lub fub)).below, S.blk, S.new, S.nd, (S.add (Kd.uJ (base := 0) lub fub)).tree, S.own, ?_⟩
 intro c hc
 rcases List.mem_cons.1 hc with rfl | hc
 ·exact ⟨y0, Ns⟩
 rcases List.mem_cons.1 hc with rfl | hc
 ·exact ⟨y1, Ns⟩
 rcases List.mem_cons.1 hc with rfl | hc
 ·exact ⟨y2, Ns⟩
 rcases List.mem_cons.1 hc with rfl | hc
 ·exact ⟨y3, Ns⟩
 rcases List.mem_cons.1 hc with rfl | hc
 ·exact ⟨y4, Ns⟩
 rcases List.mem_cons.1 hc with rfl | hc
 ·exact ⟨y5, Ns⟩
 rcases List.mem_cons.1 hc with rfl | hc
 ·exact ⟨y6, Ns⟩
 exact S.cell c hc
end
section
variable {Pr : Program} {ops : Array Oper} {rest : List Oper} {op : Oper} {a : Act} {Q : Exit → Act → World → Prop} {w W : World} {P : Nat → Prop} {bs : List (Option Nat × Obj)} {ow : List (Value × List ai)} {ts : List (Value × List ai)} {ro : List (Addr × Value)}
theorem acQ {N : Tmp} (hd : op.dst = some N) (hgd : op.guard = none) (cs : Array Value) (t : TypeId) (S : St w P bs ow ts ro W)
  (hr : (execOp a.eval op).run Pr W = .ok (.value (.pointer (some ⟨W.heap.size, 0, none⟩))) (W.alloc (.cells cs t (0, 0))))
  (h : ∀ g w1, St w P ((some g, .cells cs t (0, 0)) :: bs) ow ts ro w1 → wpList Pr ops Q rest (a.put op.dst (.pointer (some ⟨g, 0, none⟩))) w1) : wpList Pr ops Q (op :: rest) a W :=
 aQ hgd hd hr (fun g hg w1 hbox hb => h g w1 (S.box hg hbox hb))
theorem aeO (i : Nat) {g : Nat} {cs : Array Value} {t0 : TypeId} (hi : bs[i]? = some (some g, .cells cs t0 (0, 0))) (t : TypeId) (p x : Operand) (ho : op.op = .store t p x) {j : Nat} (cs' : Array Value) {u : Value} {bP : List Value} (S : St w P bs ow ts ro W)
  (kW : a.eval p = .pointer (some ⟨g, j, none⟩)) (hx : a.eval x = u) (hu : u.cells.toList = bP) (ht : (Pr.info? t).map (·.size) = some bP.length) (h1 : ∀ q ∈ bP, q.oneCell' = true) (hj : j + bP.length ≤ cs.size)
  (he : cs.toList.take j ++ bP ++ cs.toList.drop (j + bP.length) = cs'.toList) (hN : op.dst = none) (hgd : op.guard = none)
  (h : ∀ w1, St w P (bs.set i (some g, .cells cs' t0 (0, 0))) ow ts ro w1 → wpList Pr ops Q rest a w1) : wpList Pr ops Q (op :: rest) a W := by
 have hm : g ∈ keys bs ow := mem_keys (List.mem_of_getElem? hi) rfl
 exact iF hN hgd t p x ho cs' kW hx hu ht h1 (S.blk _ (List.mem_of_getElem? hi) g rfl) hj he S.below S.below.size (S.new g hm).1 (fun w1 h2 h3 h4 => h w1 (S.put i hi h2 h3 h4))
theorem aba (i : Nat) {g : Nat} {cs : Array Value} {t0 : TypeId} (hi : bs[i]? = some (some g, .cells cs t0 (0, 0))) (t : TypeId) (p x : Operand) (ho : op.op = .store t p x) {j : Nat} (cs' : Array Value) {u : Value} {bP : List Value} (S : St w P bs ow ts ro W)
  (kW : a.eval p = .pointer (some ⟨g, j, none⟩)) (hx : a.eval x = u) (hu : u.cells.toList = bP) (ht : (Pr.info? t).map (·.size) = some bP.length) (h1 : ∀ q ∈ bP, q.oneCell' = true) (hj : j + bP.length ≤ cs.size)
  (he : cs.toList.take j ++ bP ++ cs.toList.drop (j + bP.length) = cs'.toList) :
  (execOp a.eval op).run Pr W = .ok .skip (W.setCells g j bP) ∧ St w P (bs.set i (some g, .cells cs' t0 (0, 0))) ow ts ro (W.setCells g j bP) := by
 have hm : g ∈ keys bs ow := mem_keys (List.mem_of_getElem? hi) rfl
 have hb := S.blk _ (List.mem_of_getElem? hi) g rfl
 have hc := qp hb hj he
 exact ⟨Dj t p x ho kW hx hu ht h1 hb hj, S.put i hi hc.1 (grown_below S.below hc.2 (S.new g hm).1 S.below.size) hc.2⟩
theorem PY {g n cap : Nat} {l : List ai} (i : Int) (x : ai) {A : Option Addr} {c : Nat} (p y : Operand) (ho : op.op = .store 26 p y) (S : St w P bs [(.slice (some ⟨g, 0, none⟩) n cap, l)] ts ro W) (h0 : 0 ≤ i) (h1 : i < l.length)
  (kW : a.eval p = .pointer (some ⟨g, i.toNat * 7, none⟩)) (hx : a.eval y = .agg (mZ x A c).toArray) (hsz : (Pr.info? 26).map (·.size) = some 7) (hm : (.slice A x.f3.length c, x.f3) ∈ ts) :
  ∃ w1, (execOp a.eval op).run Pr W = .ok .skip w1 ∧ St w P bs [(.slice (some ⟨g, 0, none⟩) n cap, l.set i.toNat x)] ts ro w1 := by
 obtain ⟨h2, h3⟩ := S.bP i h0 h1 x hm rfl
 obtain ⟨cells, hcells⟩ := Kd.Za (S.own _ (List.mem_singleton.2 rfl)) g (by simp [Value.ownBlock])
 have hN := S.own _ (List.mem_singleton.2 rfl)
 obtain ⟨c0, hcl, hM, hcc, hfr⟩ := Kd.xE hN z26 i h0 (by rw [(Kd.jl hN).1]; exact h1)
 have hcl : c0.length = 7 := hcl
 have hlt : i.toNat * 7 + 7 ≤ cells.size := by
  have h4 := hcc 6 _ (List.getElem?_eq_getElem (by omega))
  have h5 := af hcells (i.toNat * 7 + 6)
  have h6 : W.cell? ⟨g, i.toNat * k26.sz + 6, none⟩ = W.cell? ⟨g, i.toNat * 7 + 6, none⟩ := rfl
  rw [h6, h5] at h4
  by_cases h7 : i.toNat * 7 + 6 < cells.size
  ·omega
  ·rw [Array.getElem?_eq_none (by omega)] at h4; cases h4
 refine ⟨_, ?_, h2⟩
 rw [show i.toNat * 7 + 0 = i.toNat * 7 from rfl]
 exact Dj 26 p y ho kW hx (by rfl) hsz (by simp [mZ, Value.oneCell']) hcells (by simpa [mZ] using hlt)
theorem oJ {K : Act → World → Prop} (i : Nat) {g : Nat} {cs : Array Value} {t0 : TypeId} (hi : bs[i]? = some (some g, .cells cs t0 (0, 0))) (t : TypeId) (p x : Operand) (ho : op.op = .store t p x) {j : Nat} (cs' : Array Value) {u : Value} {bP : List Value} (S : St w P bs ow ts ro W)
  (hw : Region.wanted op (yielded ops a.tmps) = true) (hN : op.dst = none)
  (kW : a.eval p = .pointer (some ⟨g, j, none⟩)) (hx : a.eval x = u) (hu : u.cells.toList = bP) (ht : (Pr.info? t).map (·.size) = some bP.length) (h1 : ∀ q ∈ bP, q.oneCell' = true) (hj : j + bP.length ≤ cs.size)
  (he : cs.toList.take j ++ bP ++ cs.toList.drop (j + bP.length) = cs'.toList) (h : ∀ w1, St w P (bs.set i (some g, .cells cs' t0 (0, 0))) ow ts ro w1 → K a w1) :
  if Region.wanted op (yielded ops a.tmps) = true then Oper.wp Pr op a W K Q else K (a.put none undef) W := by
 obtain ⟨h2, h3⟩ := aba (a := a) (Pr := Pr) i hi t p x ho cs' S kW hx hu ht h1 hj he
 exact Ic hw hN h2 (h _ h3)
theorem PX {K : Act → World → Prop} {g n cap : Nat} {l : List ai} (i : Int) (x : ai) {A : Option Addr} {c : Nat} (p y : Operand) (ho : op.op = .store 26 p y) (S : St w P bs [(.slice (some ⟨g, 0, none⟩) n cap, l)] ts ro W)
  (hw : Region.wanted op (yielded ops a.tmps) = true) (hN : op.dst = none) (h0 : 0 ≤ i) (h1 : i < l.length)
  (kW : a.eval p = .pointer (some ⟨g, i.toNat * 7, none⟩)) (hx : a.eval y = .agg (mZ x A c).toArray) (hsz : (Pr.info? 26).map (·.size) = some 7) (hm : (.slice A x.f3.length c, x.f3) ∈ ts) (h : ∀ w1, St w P bs [(.slice (some ⟨g, 0, none⟩) n cap, l.set i.toNat x)] ts ro w1 → K a w1) :
  if Region.wanted op (yielded ops a.tmps) = true then Oper.wp Pr op a W K Q else K (a.put none undef) W := by
 obtain ⟨w1, hr, S1⟩ := PY (a := a) (Pr := Pr) i x p y ho S h0 h1 kW hx hsz hm
 exact Ic hw hN hr (h _ S1)
theorem St.eF {k : Option Nat} {o : Obj} (S : St w P ((k, o) :: bs) ow ts ro W) : St w P bs ow ts ro W := by
 have hin : ∀ x, x ∈ keys bs ow → x ∈ keys ((k, o) :: bs) ow := fun x h => by
  unfold keys at h ⊢
  rw [List.filterMap_cons]
  cases k with
  | none => exact h
  | some g => exact List.mem_cons_of_mem _ h
 refine ⟨S.below, fun p hp => S.blk p (List.mem_cons_of_mem _ hp), fun x hx => S.new x (hin x hx), ?_, fun t ht => Kd.ik (S.tree t ht) (fun x h => ⟨h.1, fun h2 => h.2 (hin x h2)⟩), fun r hr => Kd.jg (S.own r hr) (fun x h => h.elim (fun h1 => .inl ⟨h1.1, fun h2 => h1.2 (hin x h2)⟩) .inr), fun c hc => ⟨(S.cell c hc).1, fun h2 => (S.cell c hc).2 (hin _ h2)⟩⟩
 have h := S.nd
 unfold keys at h ⊢
 rw [List.filterMap_cons] at h
 cases k with
 | none => exact h
 | some g => exact (List.nodup_cons.1 h).2
theorem St.bW {t : Value × List ai} (S : St w P bs ow (t :: ts) ro W) : St w P bs ow ts ro W :=
 ⟨S.below, S.blk, S.new, S.nd, fun t ht => S.tree t (List.mem_cons_of_mem _ ht), S.own, S.cell⟩
theorem St.agl {t : Value × List ai} (S : St w P bs ow ts ro W) (hm : t ∈ ts) : St w P bs ow [t] ro W :=
 ⟨S.below, S.blk, S.new, S.nd, fun x hx => by rw [List.mem_singleton.1 hx]; exact S.tree t hm, S.own, S.cell⟩
theorem St.aT {c : Addr × Value} (S : St w P bs ow ts (c :: ro) W) : St w P bs ow ts ro W :=
 ⟨S.below, S.blk, S.new, S.nd, S.tree, S.own, fun c hc => S.cell c (List.mem_cons_of_mem _ hc)⟩
theorem Vg {g n cap : Nat} {l : List ai} (i : Int) (x : ai) {A : Option Addr} {c : Nat} (p y : Operand) (ho : op.op = .store 26 p y) (S : St w P bs [(.slice (some ⟨g, 0, none⟩) n cap, l)] ts ro W) (h0 : 0 ≤ i) (h1 : i < l.length)
  (kW : a.eval p = .pointer (some ⟨g, i.toNat * 7, none⟩)) (hx : a.eval y = .agg (mZ x A c).toArray) (hsz : (Pr.info? 26).map (·.size) = some 7) (hm : (.slice A x.f3.length c, x.f3) ∈ ts) (hN : op.dst = none) (hgd : op.guard = none)
  (h : ∀ w1, St w P bs [(.slice (some ⟨g, 0, none⟩) n cap, l.set i.toNat x)] ts ro w1 → wpList Pr ops Q rest a w1) : wpList Pr ops Q (op :: rest) a W := by
 obtain ⟨w1, hr, S1⟩ := PY (a := a) (Pr := Pr) i x p y ho S h0 h1 kW hx hsz hm
 refine wpList_plain hgd fun K hK => ?_
 unfold Oper.wp
 rw [hr]
 show K (a.put op.dst undef) _
 rw [hN]
 exact hK a _ (h _ S1)
end
section
variable {Pr : Program} {ops : Array Oper} {rest : List Oper} {op : Oper} {a : Act} {Q : Exit → Act → World → Prop} {w W W1 : World} {P : Nat → Prop} {bs : List (Option Nat × Obj)} {ts : List (Value × List ai)} {ro : List (Addr × Value)} {v v1 : Value} {xs ys : List ai}
theorem St.U5 (S : St w P bs [(v, xs)] ts ro W) (hb : Below w.heap.size w W1) (hg : W.grownBy W1 v.ownBlock) (hat : v1.ownBlock = v.ownBlock ∨ ∃ b, v1.ownBlock = some b ∧ W.heap.size ≤ b) (hN : Kd.N k26 26 W1 w.heap.size (Ok w P (keys bs [])) v1 ys) :
  St w P bs [(v1, ys)] ts ro W1 := by
 have hkeep : ∀ k, k ∉ keys bs [(v, xs)] → k < W.heap.size → k ∉ keys bs [(v1, ys)] := fun k h1 h2 h3 => by
  rcases iE.1 h3 with h4 | h4
  ·exact h1 (iE.2 (.inl h4))
  ·rcases hat with e | ⟨b, e, hle⟩
   ·exact h1 (iE.2 (.inr (by rw [← e]; exact h4)))
   ·rw [e] at h4; injection h4 with h4; omega
 have hin : ∀ k, k ∈ keys bs [] → k ∈ keys bs [(v, xs)] := fun k h => iE.2 (.inl h)
 have hnb : ∀ k, k ∈ keys bs [] → v1.ownBlock ≠ some k := fun k h e => (hN.1 k e).2 h
 refine ⟨hb, fun p hp q hq => dJ (S.blk p hp q hq) hg (fun e => (List.nodup_append.1 S.nd).2.2 q (List.mem_filterMap.2 ⟨p, hp, hq⟩) q (by simp [← e]) rfl), fun k hk => ?_, ?_, fun t ht => ?_, fun r hr => ?_, fun c hc => ?_⟩
 ·rcases iE.1 hk with h1 | h1
  ·exact ⟨(S.new k (hin k h1)).1, Nat.lt_of_lt_of_le (S.new k (hin k h1)).2 hg.size⟩
  ·exact ⟨Kd.t_ hN k h1, Kd.DD hN k h1⟩
 ·simp only [keys, List.flatMap_cons, List.flatMap_nil, List.append_nil]
  refine List.nodup_append.2 ⟨(List.nodup_append.1 S.nd).1, by cases v1.ownBlock <;> simp, fun q hq b hb2 => ?_⟩
  rintro rfl
  exact hnb q (by simpa [keys] using hq) (by simpa using hb2)
 ·exact Kd.ik (Kd.uT (Kd.EH (S.tree t ht)) hg (fun k h e => h.1.2 (iE.2 (.inr e.symm)))) (fun k h => ⟨h.1.1, hkeep k h.1.2 h.2⟩)
 ·rw [List.mem_singleton] at hr
  subst hr
  refine Kd.jg hN (fun k h => ?_)
  by_cases hk : v1.ownBlock = some k
  ·exact .inr hk
  ·exact .inl ⟨h.1, fun h2 => (iE.1 h2).elim h.2 hk⟩
 ·exact ⟨cell_grown hg (S.cell c hc).1 (fun e => (S.cell c hc).2 (iE.2 (.inr e.symm))), hkeep _ (S.cell c hc).2 (World.block_lt_of_cell? W _ (S.cell c hc).1)⟩
theorem St.YR (S : St w P bs [(v, xs)] ts ro W) : Kd.N k26 26 W w.heap.size (Ok w P (keys bs [])) v xs :=
 Kd.jg (S.own _ (List.mem_singleton.2 rfl)) (fun k h => h.elim (fun h1 => ⟨h1.1, fun h2 => h1.2 (iE.2 (.inl h2))⟩) (fun h1 => ⟨.inr (S.new k (iE.2 (.inr h1))).1, fun h2 => (List.nodup_append.1 S.nd).2.2 k (by simpa [keys] using h2) k (by simp [h1]) rfl⟩))
theorem rY {W W1 : World} (hg : W.grownBy W1 none) : Below W.heap.size W W1 := ⟨hg.os, hg.tape, hg.output, hg.size, fun k hk => hg.block k hk (by simp)⟩
theorem zk {N : Tmp} (hd : op.dst = some N) (hgd : op.guard = none) (S : St w P bs [] ts ro W) (hrun : (execOp a.eval op).run Pr W = .ok (.value (.slice (some ⟨W.heap.size, 0, none⟩) 0 0)) (W.alloc (.cells #[] 26)))
  (h : ∀ A c w1, St w P bs [(.slice A 0 c, [])] ts ro w1 → wpList Pr ops Q rest (a.put op.dst (.slice A 0 c)) w1) : wpList Pr ops Q (op :: rest) a W :=
 Kd.yF k26 (w0 := W) W.heap.size 26 hgd hd (xs := []) (inner := []) (ok := fun k => Ok w P (keys bs []) k ∨ W.heap.size ≤ k) (gm := fun _ => False) hrun (bT.none _ _) (fun _ h => h.elim) (.inr (Nat.le_refl _)) (Below.refl _ _) (Nat.le_refl _) (by simp) (fun v1 w1 hN _ hg _ => by
  obtain ⟨A, c, rfl⟩ := Kd.jE hN
  exact h A c w1 (S.Df hN (rY hg)))
theorem Iw (t : TypeId) (s x : Operand) (hgd : op.guard = none) (ho : op.op = .call { callee := .builtin .append, args := #[s, x], argTypes := #[t, t] }) (ht : Pr.underlying t = some (.slice 26)) (hinfo : (Pr.info? 26).map (fun i => (i.zero, i.size, i.bytes)) = some (some (.agg #[(.int .u8 0), (.int .i64 0), (.int .i64 0), (.int .i64 0), (.int .i64 0), (.int .i64 0), (.slice none 0 0)]), 7, 72))
  (S : St w P bs [(v, xs)] ts ro W) {A : Option Addr} {m c : Nat} (hm : (.slice A m c, ys) ∈ ts) (hs : a.eval s = v) (hx : a.eval x = .slice A m c) (hl : xs.length + ys.length ≤ 1000000000)
  (h : ∀ A1 c1 w1, St w P bs [(.slice A1 (xs ++ ys).length c1, xs ++ ys)] ts ro w1 → wpList Pr ops Q rest (a.put op.dst (.slice A1 (xs ++ ys).length c1)) w1) : wpList Pr ops Q (op :: rest) a W := by
 have hV := S.tree _ hm
 have hmy : m = ys.length := (Kd.jY hV).1
 exact Kd.yj k26 (w0 := w) w.heap.size hgd s x t 26 _ 72 ho ht hinfo rfl (by decide) (by omega) v xs ys A m c (Ok w P (keys bs [])) (Ok w P (keys bs [(v, xs)])) hs hx S.YR (Kd.OT hV)
  (fun k h => ⟨⟨h.1, fun h2 => h.2 (iE.2 (.inl h2))⟩, fun e => h.2 (iE.2 (.inr e.symm))⟩) (fun k h => ⟨.inr (Nat.le_trans S.below.size h), fun h2 => by have := S.lt ((iE (v := v) (l := xs)).2 (.inl h2)); omega⟩) S.below S.below.size (by omega)
  (fun v1 w1 hN hb hg hat => by
   obtain ⟨A1, c1, rfl⟩ := Kd.jE hN
   exact h A1 c1 w1 (S.U5 hb hg hat hN))
end
section
variable {w : World} {P : Nat → Prop} {bs bs' : List (Option Nat × Obj)} {ow : List (Value × List ai)} {ts : List (Value × List ai)} {ro : List (Addr × Value)} {W W1 : World} {b0 : Nat} {o o1 : Obj} {v v1 : Value} {xs : List Int} {ok : Nat → Prop}
def IR (base : Nat) (v : Value) (xs : List Int) (o : Obj) : Prop := ∀ W : World, (∀ g, v.ownBlock = some g → W.heap[g]? = some o) → (Kd.int .i64).R 3 W base (fun k => some k = v.ownBlock) v xs
theorem Ql {b' : Nat} (h : (Kd.int .i64).R 3 W1 b0 ok v xs) (hb : b' ≤ b0) : ∃ o, (∀ g, v.ownBlock = some g → W1.heap[g]? = some o) ∧ IR b' v xs o := by
 have ht := Kd.iZ (Kd.EG rfl h) hb
 cases hv : v.ownBlock with
 | none => exact ⟨.cells #[] 0 (0, 0), fun g hg => (by cases hg), fun W hW => Kd.yX ht (fun k hk => (by rw [hv] at hk; cases hk))⟩
 | some g =>
  obtain ⟨cells, hc⟩ := Kd.Iq h g hv
  refine ⟨_, fun g' hg => (by injection hg with hg; rw [← hg]; exact hc), fun W hW => Kd.yX ht (fun k hk _ => ?_)⟩
  rw [hv] at hk
  injection hk with hk
  rw [hk, hc]
  exact hW g hv
theorem Y8 {base n c : Nat} {ad : Addr} (h : IR base (.slice (some ad) n c) xs o) (hW : ∀ g, (Value.slice (some ad) n c).ownBlock = some g → W.heap[g]? = some o) (i : Int) (h0 : 0 ≤ i) (h1 : i < xs.length) : W.cell? (ad.add i.toNat) = some (.int .i64 (rd xs i)) := by
 have hC := (Kd.dn (h W hW)).2.2
 obtain ⟨ad', he, hc⟩ := Kd.iq hC i h0 h1
 injection he with he
 rw [he]
 exact hc
theorem BH {base n c : Nat} {ad : Addr} (h : IR base (.slice (some ad) n c) xs o) (hW : ∀ g, (Value.slice (some ad) n c).ownBlock = some g → W.heap[g]? = some o) (i : Nat) (h1 : (i : Int) < xs.length) : W.cell? (ad.add i) = some (.int .i64 (rd xs (i : Int))) := Y8 h hW (i : Int) (Int.natCast_nonneg _) h1
theorem St.V3 (S : St w P bs ow ts ro W) (k : Option Nat) (hk : ∀ g, k = some g → W.heap.size ≤ g ∧ W1.heap[g]? = some o) (hb : Below W.heap.size W W1) : St w P ((k, o) :: bs) ow ts ro W1 := by
 cases k with
 | none =>
  have S1 := S.call hb
  exact ⟨S1.below, fun p hp q hq => by
   rcases List.mem_cons.1 hp with rfl | hp
   ·cases hq
   ·exact S1.blk p hp q hq, S1.new, S1.nd, S1.tree, S1.own, S1.cell⟩
 | some g =>
  obtain ⟨hg, hbox⟩ := hk g rfl
  refine ⟨az S.below hb, fun p hp q hq => ?_, fun k hk => ?_, List.nodup_cons.2 ⟨fun h => by have := (S.new g h).2; omega, S.nd⟩, fun t ht => ?_, fun r hr => ?_, fun c hc => ?_⟩
  ·rcases List.mem_cons.1 hp with rfl | hp
   ·rw [← Option.some.inj hq]; exact hbox
   ·exact aV (S.blk p hp q hq) hb
  ·rcases List.mem_cons.1 (show k ∈ g :: keys bs ow from hk) with rfl | hk
   ·exact ⟨Nat.le_trans S.below.size hg, gu hbox⟩
   ·exact ⟨(S.new k hk).1, Nat.lt_of_lt_of_le (S.new k hk).2 hb.size⟩
  ·exact Kd.ik (Kd.jQ (Kd.nO (S.tree t ht) g hg) hb) (fun k hk => ⟨hk.1.1, fun h => (List.mem_cons.1 (show k ∈ g :: keys bs ow from h)).elim hk.2 hk.1.2⟩)
  ·exact Kd.jg (Kd.pW (Kd.BJ (S.own r hr) g hg) hb) (fun k hk => hk.1.elim (fun h1 => .inl ⟨h1.1, fun h => (List.mem_cons.1 (show k ∈ g :: keys bs ow from h)).elim hk.2 h1.2⟩) .inr)
  ·exact ⟨(hb.cell (World.block_lt_of_cell? W _ (S.cell c hc).1)).trans (S.cell c hc).1, fun h => (List.mem_cons.1 (show c.1.block ∈ g :: keys bs ow from h)).elim (fun he => by have := World.block_lt_of_cell? W _ (S.cell c hc).1; omega) (S.cell c hc).2⟩
theorem St.Dc (S : St w P bs ow ts ro W) (h : (Kd.int .i64).R 3 W1 W.heap.size ok v xs) (hb : Below W.heap.size W W1) : ∃ o, St w P ((v.ownBlock, o) :: bs) ow ts ro W1 ∧ IR w.heap.size v xs o := by
 obtain ⟨o, h1, h2⟩ := Ql h S.below.size
 exact ⟨o, S.V3 v.ownBlock (fun g hg => ⟨Kd.nN h g hg, h1 g hg⟩) hb, h2⟩
theorem St.noI (S : St w P bs ow ts ro W) : ∃ o, St w P (((Value.slice none 0 0).ownBlock, o) :: bs) ow ts ro W ∧ IR w.heap.size (.slice none 0 0) [] o :=
 S.Dc (ok := fun _ => True) (Kd.pJ _ _ _ _ _) (Below.refl _ _)
theorem St.Ig {p q : Option Nat × Obj} (S : St w P (p :: q :: bs) ow ts ro W) : St w P (q :: p :: bs) ow ts ro W := by
 have hp : (keys (q :: p :: bs) ow).Perm (keys (p :: q :: bs) ow) := by
  unfold keys
  refine List.Perm.append_right _ ?_
  rw [List.filterMap_cons, List.filterMap_cons, List.filterMap_cons, List.filterMap_cons]
  cases p.1 <;> cases q.1 <;> simp
  exact List.Perm.swap _ _ _
 have hm : ∀ k, k ∈ keys (q :: p :: bs) ow ↔ k ∈ keys (p :: q :: bs) ow := fun k => hp.mem_iff
 have hO : ∀ k, Ok w P (keys (p :: q :: bs) ow) k → Ok w P (keys (q :: p :: bs) ow) k := fun k h => ⟨h.1, fun h2 => h.2 ((hm k).1 h2)⟩
 exact ⟨S.below, fun x hx => S.blk x (by simp only [List.mem_cons] at hx ⊢; rcases hx with h | h | h <;> simp [h]), fun k hk => S.new k ((hm k).1 hk), hp.nodup_iff.2 S.nd, fun t ht => Kd.ik (S.tree t ht) hO, fun r hr => Kd.jg (S.own r hr) (fun k h => h.imp (hO k) id), fun c hc => ⟨(S.cell c hc).1, fun h => (S.cell c hc).2 ((hm _).1 h)⟩⟩
theorem St.BB (S : St w P ((v.ownBlock, o) :: bs) ow ts ro W) (hb : Below w.heap.size w W1) (hg : W.grownBy W1 v.ownBlock) (hat : v1.ownBlock = v.ownBlock ∨ ∃ b, v1.ownBlock = some b ∧ W.heap.size ≤ b) (ho : ∀ g, v1.ownBlock = some g → W1.heap[g]? = some o1) :
  St w P ((v1.ownBlock, o1) :: bs) ow ts ro W1 := by
 have kc : ∀ (x : Value) (o : Obj) k, k ∈ keys ((x.ownBlock, o) :: bs) ow ↔ x.ownBlock = some k ∨ k ∈ keys bs ow := fun x o k => by
  unfold keys
  rw [List.filterMap_cons]
  cases x.ownBlock with
  | none => simp
  | some g => simp [eq_comm]
 have hnv : ∀ k, k ∈ keys bs ow → v.ownBlock ≠ some k := fun k hk e => by
  have h := S.nd
  unfold keys at h hk
  rw [List.filterMap_cons, e] at h
  exact (List.nodup_cons.1 h).1 hk
 have hnb : (keys bs ow).Nodup := by
  have h := S.nd
  unfold keys at h ⊢
  rw [List.filterMap_cons] at h
  split at h
  ·exact h
  ·exact (List.nodup_cons.1 h).2
 have hin : ∀ k, k ∈ keys bs ow → k ∈ keys ((v.ownBlock, o) :: bs) ow := fun k h => (kc v o k).2 (.inr h)
 have hnew : ∀ k, k ∈ keys bs ow → v1.ownBlock ≠ some k := fun k hk e => by
  rcases hat with h | ⟨b, h, hle⟩
  ·exact hnv k hk (by rw [← h]; exact e)
  ·rw [h] at e; injection e with e; have := S.lt (hin k hk); omega
 have hkeep : ∀ k, k ∉ keys ((v.ownBlock, o) :: bs) ow → k < W.heap.size → k ∉ keys ((v1.ownBlock, o1) :: bs) ow := fun k h1 h2 h3 => by
  rcases (kc v1 o1 k).1 h3 with h4 | h4
  ·rcases hat with h | ⟨b, h, hle⟩
   ·exact h1 ((kc v o k).2 (.inl (by rw [← h]; exact h4)))
   ·rw [h] at h4; injection h4 with h4; omega
  ·exact h1 (hin k h4)
 refine ⟨hb, fun p hp q hq => ?_, fun k hk => ?_, ?_, fun t ht => ?_, fun r hr => ?_, fun c hc => ?_⟩
 ·rcases List.mem_cons.1 hp with rfl | hp
  ·exact ho q hq
  ·exact dJ (S.blk p (List.mem_cons_of_mem _ hp) q hq) hg (fun e => hnv q (mem_keys hp hq) e.symm)
 ·rcases (kc v1 o1 k).1 hk with h1 | h1
  ·rcases hat with h | ⟨b, h, hle⟩
   ·have := S.new k ((kc v o k).2 (.inl (by rw [← h]; exact h1)))
    exact ⟨this.1, Nat.lt_of_lt_of_le this.2 hg.size⟩
   ·rw [h] at h1
    injection h1 with h1
    subst h1
    exact ⟨Nat.le_trans S.below.size hle, gu (ho b h)⟩
  ·exact ⟨(S.new k (hin k h1)).1, Nat.lt_of_lt_of_le (S.new k (hin k h1)).2 hg.size⟩
 ·unfold keys
  rw [List.filterMap_cons]
  cases hv1 : v1.ownBlock with
  | none => exact hnb
  | some g => exact List.nodup_cons.2 ⟨fun h => hnew g h hv1, hnb⟩
 ·exact Kd.ik (Kd.uT (Kd.EH (S.tree t ht)) hg (fun k h e => h.1.2 ((kc v o k).2 (.inl e.symm)))) (fun k h => ⟨h.1.1, hkeep k h.1.2 h.2⟩)
 ·have hrv : ∀ k, r.1.ownBlock = some k → some k ≠ v.ownBlock := fun k h1 e => hnv k (List.mem_append.2 (.inr (List.mem_flatMap.2 ⟨r, hr, by simp [h1]⟩))) e.symm
  exact Kd.jg (Kd.uS (Kd.Bc (S.own r hr)) hg (fun k h e => h.1.elim (fun h1 => h1.2 ((kc v o k).2 (.inl e.symm))) (fun h1 => hrv k h1 e))) (fun k h => h.1.imp (fun h1 => ⟨h1.1, hkeep k h1.2 h.2⟩) id)
 ·exact ⟨cell_grown hg (S.cell c hc).1 (fun e => (S.cell c hc).2 ((kc v o _).2 (.inl e.symm))), hkeep _ (S.cell c hc).2 (World.block_lt_of_cell? W _ (S.cell c hc).1)⟩
end
section
variable {Pr : Program} {ops : Array Oper} {rest : List Oper} {op : Oper} {a : Act} {Q : Exit → Act → World → Prop} {w W : World} {P : Nat → Prop} {bs : List (Option Nat × Obj)} {ow : List (Value × List ai)} {ts : List (Value × List ai)} {ro : List (Addr × Value)} {v : Value} {xs : List Int} {o : Obj}
theorem Zh (s x : Operand) (hgd : op.guard = none) (ho : op.op = .call { callee := .builtin .append, args := #[s, x], argTypes := #[41, 41] }) (ht : Pr.underlying 41 = some (.slice 3)) (hinfo : (Pr.info? 3).map (fun i => (i.zero, i.size, i.bytes)) = some (some (.int .i64 0), 1, 8))
  (S : St w P ((v.ownBlock, o) :: bs) ow ts ro W) (hI : IR w.heap.size v xs o) (y : Int) (hs : a.eval s = v) (hx : a.eval x = .slice (some ⟨W.heap.size, 0, none⟩) 1 1) (hl : xs.length ≤ 1000000000)
  (h : ∀ A1 c1 o1 w1, St w P (((Value.slice A1 (xs ++ [y]).length c1).ownBlock, o1) :: bs) ow ts ro w1 → IR w.heap.size (.slice A1 (xs ++ [y]).length c1) (xs ++ [y]) o1 → wpList Pr ops Q rest (a.put op.dst (.slice A1 (xs ++ [y]).length c1)) w1) :
  wpList Pr ops Q (op :: rest) a (W.alloc (.cells #[.int .i64 y] 3)) := by
 have hR := hI W (S.blk _ List.mem_cons_self)
 refine Kd.yV (Kd.int .i64) (w0 := w) w.heap.size hgd s x 41 3 (.int .i64 0) 8 ho ht hinfo rfl (by decide) (by omega) v xs y [.int .i64 y] (fun _ => True) (fun _ => False) hs hx rfl (fun _ hk => hk.elim) (fun _ _ => trivial) (Kd.pX hR (fun _ _ => trivial)) S.below S.below.size (by omega) ?_
 intro v1 w1 hr hb hg hat
 obtain ⟨A1, c1, rfl⟩ := Kd.fQ hr
 obtain ⟨o1, h1, h2⟩ := Ql hr (Nat.le_refl _)
 exact h A1 c1 o1 w1 (S.BB hb hg hat h1) h2
end
section
variable {w : World} {P : Nat → Prop} {bs : List (Option Nat × Obj)} {ts : List (Value × List ai)} {ro : List (Addr × Value)} {W : World} {l : List ai} {g n cap : Nat}
theorem St.IG (S : St w P bs [(.slice (some ⟨g, 0, none⟩) n cap, l)] ts ro W) (i : Int) (h0 : 0 ≤ i) (h1 : i < l.length) :
  ∃ ua uc, St w P bs [(.slice (some ⟨g, 0, none⟩) n cap, l)] ((.slice ua (aG l i).f3.length uc, (aG l i).f3) :: ts) ro W ∧ ∀ (j : Nat) (u : Value), (mZ (aG l i) ua uc)[j]? = some u → W.cell? ⟨g, i.toNat * 7 + j, none⟩ = some u := by
 have hN := S.own _ (List.mem_singleton.2 rfl)
 have hob : (Value.slice (some ⟨g, 0, none⟩) n cap).ownBlock = some g := by simp [Value.ownBlock]
 obtain ⟨c0, hcl, hM, hcc, hfr⟩ := Kd.xE hN z26 i h0 (by rw [(Kd.jl hN).1]; exact h1)
 obtain ⟨A6, c6, rfl, l6, g6⟩ := nI hM
 have l6 : (aG l i).f3.length ≤ c6 := l6
 have g6 : Kd.F k26 W _ A6 (aG l i).f3.length (aG l i).f3 := g6
 exact ⟨A6, c6, S.add (b0 := 0) (Kd.uJ l6 (Kd.qN g6 (fun k hk => hk.1.elim id (fun e => absurd (by rw [hob] at e; exact (Option.some.inj e).symm) hk.2)))), fun j u h => hcc j u h⟩
end
section
variable {Pr : Program} {ops : Array Oper} {rest : List Oper} {op : Oper} {a : Act} {Q : Exit → Act → World → Prop} {Kc : Act → World → Prop} {w W : World} {P : Nat → Prop} {bs : List (Option Nat × Obj)} {ts : List (Value × List ai)} {ro : List (Addr × Value)}
theorem VW {ow : List (Value × List ai)} {v : Value} {xs : List Int} {o : Obj} (s x : Operand) (hw : Region.wanted op (yielded ops a.tmps) = true) (ho : op.op = .call { callee := .builtin .append, args := #[s, x], argTypes := #[41, 41] }) (ht : Pr.underlying 41 = some (.slice 3)) (hinfo : (Pr.info? 3).map (fun i => (i.zero, i.size, i.bytes)) = some (some (.int .i64 0), 1, 8))
  (S : St w P ((v.ownBlock, o) :: bs) ow ts ro W) (hI : IR w.heap.size v xs o) (y : Int) (hs : a.eval s = v) (hx : a.eval x = .slice (some ⟨W.heap.size, 0, none⟩) 1 1) (hl : xs.length ≤ 1000000000)
  (h : ∀ A1 c1 o1 w1, St w P (((Value.slice A1 (xs ++ [y]).length c1).ownBlock, o1) :: bs) ow ts ro w1 → IR w.heap.size (.slice A1 (xs ++ [y]).length c1) (xs ++ [y]) o1 → Kc (a.put op.dst (.slice A1 (xs ++ [y]).length c1)) w1) :
  if Region.wanted op (yielded ops a.tmps) = true then Oper.wp Pr op a (W.alloc (.cells #[.int .i64 y] 3)) Kc Q else Kc (a.put op.dst undef) (W.alloc (.cells #[.int .i64 y] 3)) := by
 have hR := hI W (S.blk _ List.mem_cons_self)
 refine Kd.Dq (Kd.int .i64) (w0 := w) w.heap.size hw s x 41 3 (.int .i64 0) 8 ho ht hinfo rfl (by decide) (by omega) v xs y [.int .i64 y] (fun _ => True) (fun _ => False) hs hx rfl (fun _ hk => hk.elim) (fun _ _ => trivial) (Kd.pX hR (fun _ _ => trivial)) S.below S.below.size (by omega) ?_
 intro v1 w1 hr hb hg hat
 obtain ⟨A1, c1, rfl⟩ := Kd.fQ hr
 obtain ⟨o1, h1, h2⟩ := Ql hr (Nat.le_refl _)
 exact h A1 c1 o1 w1 (S.BB hb hg hat h1) h2
theorem Bd {v : Value} {xs : List ai} (s x : Operand) (hgd : op.guard = none) (ho : op.op = .call { callee := .builtin .append, args := #[s, x], argTypes := #[24, 24] }) (ht : Pr.underlying 24 = some (.slice 26)) (hinfo : (Pr.info? 26).map (fun i => (i.zero, i.size, i.bytes)) = some (some (.agg #[(.int .u8 0), (.int .i64 0), (.int .i64 0), (.int .i64 0), (.int .i64 0), (.int .i64 0), (.slice none 0 0)]), 7, 72))
  (S : St w P bs [(v, xs)] ts ro W) (y : ai) {A : Option Addr} {c : Nat} (hm : (.slice A y.f3.length c, y.f3) ∈ ts) (hs : a.eval s = v) (hx : a.eval x = .slice (some ⟨W.heap.size, 0, none⟩) 1 1) (hl : xs.length ≤ 1000000000)
  (h : ∀ A1 c1 w1, St w P bs [(.slice A1 (xs ++ [y]).length c1, xs ++ [y])] ts ro w1 → wpList Pr ops Q rest (a.put op.dst (.slice A1 (xs ++ [y]).length c1)) w1) :
  wpList Pr ops Q (op :: rest) a (W.alloc (.cells (mZ y A c).toArray 26)) := by
 obtain ⟨_, hl2, hF⟩ := Kd.DI (S.tree _ hm)
 exact Kd.Lr k26 (w0 := w) w.heap.size hgd s x 24 26 _ 72 ho ht hinfo rfl (by decide) (by omega) v xs y (mZ y A c) (Ok w P (keys bs [])) (Ok w P (keys bs [(v, xs)])) hs hx (qh W _ y hl2 hF)
  (fun k h => ⟨⟨h.1, fun h2 => h.2 (iE.2 (.inl h2))⟩, fun e => h.2 (iE.2 (.inr e.symm))⟩) (fun k h => ⟨.inr (Nat.le_trans S.below.size h), fun h2 => by have := S.lt ((iE (v := v) (l := xs)).2 (.inl h2)); omega⟩) S.YR S.below S.below.size (by omega)
  (fun v1 w1 hN hb hg hat => by
   obtain ⟨A1, c1, rfl⟩ := Kd.jE hN
   exact h A1 c1 w1 (S.U5 hb hg hat hN))
end
section
variable {Pr : Program} {ops : Array Oper} {md : Region.Mode} {Q : Exit → Act → World → Prop} {S : World → Prop} {ds : List Nat} {T : Bool × List (List Nat × List Nat)} {B : List Nat} {fuel : Nat} {l : Array Bool} {a a' : Act} {w : World} {v : Value} {oi : Oper}
def bA (n m : Nat) : Array Bool := ((List.range n).map fun i => m.testBit i).toArray
theorem au (i : Nat) (N : Tmp) (l' : Array Bool) (HT : ae (iY md ops = T)) (h : dD Pr md ops Q S ds fuel l' a' w) (hi : ops[i]? = some oi := by rfl) (hN : oi.dst = some N := by rfl) (hc : VV T l.toList l'.toList i = true := by kernel_rfl)
  (hQ : ∀ c a w, Q (.panic c) (a.put oi.dst v) w → Q (.panic c) a w := by exact fun _ _ _ h => h) (hw : Region.wanted oi (yielded ops a.tmps) = true := by rfl) (hv : ∀ w, (execOp a.eval oi).run Pr w = .ok (.value v) w := by intro w'; go_simp; with_reducible rfl)
  (ha : a.put (some N) v = a' := by simp only [Act.put, List.setIfInBounds_toArray, List.set_cons_zero, List.set_cons_succ, kT, kS]; rfl) : dD Pr md ops Q S ds (fuel + 1) l a w :=
 rE l' hi hN (oQ HT.out hc) hQ (.inl ⟨hw, hv⟩) ha h
theorem dE (i : Nat) (N : Tmp) (l' : Array Bool) (HT : ae (iY md ops = T)) (HW : ae (iI T.2 B = true)) (hS : S w) (h : dD Pr md ops Q S ds fuel l' a' w) (hi : ops[i]? = some oi := by rfl) (hN : oi.dst = some N := by rfl)
  (hc : Rx T B ds l.toList l'.toList i = true := by kernel_rfl) (hQ : ∀ c a w, Q (.panic c) (a.put oi.dst v) w → Q (.panic c) a w := by exact fun _ _ _ h => h) (hw : Region.wanted oi (yielded ops a.tmps) = true := by rfl) (hv : ∀ w, S w → (execOp a.eval oi).run Pr w = .ok (.value v) w)
  (ha : a.put (some N) v = a' := by simp only [Act.put, List.setIfInBounds_toArray, List.set_cons_zero, List.set_cons_succ, kT, kS]; rfl) : dD Pr md ops Q S ds (fuel + 1) l a w :=
 yO l' hi hN (uO HT.out HW.out hc) hQ (.inl ⟨hw, hv⟩) hS ha h
end
end Go.Proofs.Ytfdmfgaiblfbhaa.P
namespace Go.Proofs.Ytfdmfgaiblfbhaa.P
open Go.Shelf
def EX : Ren := ⟨fun f => match f with | 21 => 150 | 27 => 181 | 28 => 182 | 35 => 198 | 39 => 208 | n => n, fun t => match t with | 22 => 41 | n => n, fun g => g⟩
theorem Ht : Lays2.n21 Try.prog EX where
 mixed := by kernel_rfl
 f21 := Try.func150
 f27 := Try.func181
 f28 := Try.func182
 f35 := Try.func198
 f39 := Try.func208
 t0 := Try.underlying0
 a0 := fun w => by kernel_rfl
 z0 := fun w => by kernel_rfl
 v0 := fun w => by kernel_rfl
 t3 := Try.underlying3
 a3 := fun w => by kernel_rfl
 z3 := fun w => by kernel_rfl
 v3 := fun w => by kernel_rfl
 t4 := Try.underlying4
 a4 := fun w => by kernel_rfl
 z4 := fun w => by kernel_rfl
 v4 := fun w => by kernel_rfl
 t22 := Try.underlying41
 a22 := fun w => by kernel_rfl
 z22 := fun w => by kernel_rfl
 v22 := fun w => by kernel_rfl
 i3 := by kernel_rfl
end Go.Proofs.Ytfdmfgaiblfbhaa.P
namespace Go.Proofs.Ytfdmfgaiblfbhaa.P
open Go.RowKit Go.Shelf Go.Proofs.ag.aW Go.Proofs.ag.dA Go.Proofs.ag.dU
theorem EZ (n : Nat) : (Builtin.zeroCells (Value.int .i64 0).cells n).size = n := by simp [Builtin.zeroCells, Value.cells]
theorem CG {w w1 : World} {B : Nat} (h : Below B w.drew w1) : Below B w w1 := ⟨h.os, h.tape.trans rfl, h.output, h.size, h.block⟩
theorem Uz (w : World) (base : Nat) (hbase : base ≤ w.heap.size) (v : Value) (xs : List Int) (x : Int) (vb vc : Nat) (hs : w.ownsRow base 3 1 v xs.length (encs (Value.int .i64) xs)) (hv : w.heap[vb]? = some (.cells #[.int .i64 x] 3 (0, 0))) (hne : v.ownBlock ≠ some vb) (hlen : xs.length ≤ 1000000) :
  Calls Try.prog 150 #[v, .int .i64 0, .slice (some ⟨vb, 0, none⟩) 1 vc] w fun e w' => ∃ v', e = .returned v' ∧ w'.ownsRow base 3 1 v' (x :: xs).length (encs (Value.int .i64) (x :: xs)) ∧ Below base w w' := by
 have hvs : ∀ j u, [Value.int .i64 x][j]? = some u → w.cell? ⟨vb, 0 + j, none⟩ = some u := by
  intro j u hj
  cases j with
  | zero => rw [af hv 0]; exact hj
  | succ j => simp at hj
 have h1v : ∀ u ∈ [Value.int .i64 x], u.oneCell' = true := by simp [Value.oneCell']
 have h1c : ∀ u ∈ encs (Value.int .i64) xs, u.oneCell' = true := by
  intro u hu
  obtain ⟨i, _, rfl⟩ := List.mem_map.1 hu
  rfl
 obtain ⟨hl, hcase⟩ := hs
 rcases hcase with ⟨rfl, h0⟩ | ⟨g, cap, cur, rfl, hbg, hh, hnc, hcm, hcs, htk⟩
 ·obtain rfl : xs = [] := List.eq_nil_of_length_eq_zero h0
  refine (Any2.slices_Insert_int_end_grow Ht none 0 0 vb 0 1 vc [] [.int .i64 x] w (by omega) (by omega) (by omega) (by omega) rfl rfl (fun _ => rfl) (fun a h => by cases h) hvs h1v).mono ?_
  rintro e w' ⟨rfl, rfl⟩
  have hg := grownCap_ge w (0 + 1) 0 3
  have hg2 := grownCap_le_maxLen w (0 + 1) 0 3 (by unfold maxLen; omega)
  refine ⟨_, rfl, ⟨rfl, .inr ⟨w.heap.size, _, _, rfl, hbase, heap_alloc_new w.drew _, hg, hg2, ?_, ?_⟩⟩, CG ((Below.refl base w.drew).alloc hbase _)⟩
  ·rw [Array.size_append, EZ]
   show 1 + (grownCap w (0 + 1) 0 3 - (0 + 1)) = grownCap w (0 + 1) 0 3 * 1
   omega
  ·simp [encs]
 ·have hcl : (encs (Value.int .i64) xs).length = xs.length := ui xs
  have hlt := gu hh
  have hgv : vb ≠ g := fun e => hne (by rw [e]; rfl)
  have hcells : ∀ j u, (encs (Value.int .i64) xs)[j]? = some u → w.cell? ⟨g, 0 + j, none⟩ = some u := by
   intro j u hj
   rw [af hh, Nat.zero_add, ← Array.getElem?_toList]
   rw [← htk, Nat.mul_one, List.getElem?_take] at hj
   split at hj
   ·exact hj
   ·cases hj
  have hsp : ∀ j, j < cap → (w.cell? ⟨g, 0 + j, none⟩).isSome = true := by
   intro j hj
   rw [af hh, Nat.zero_add, Array.getElem?_eq_getElem (by omega)]
   rfl
  have hfz : ∀ j, w.frozen? ⟨g, 0 + j, none⟩ = false := fun j => ah hh _
  by_cases h0 : xs.length = 0
  ·obtain rfl : xs = [] := List.eq_nil_of_length_eq_zero h0
   by_cases hr : 0 + 1 ≤ cap
   ·refine (Any2.slices_Insert_int_end_room Ht g 0 0 cap vb 0 1 vc [.int .i64 x] w (by omega) hr (by unfold maxLen at hcm; omega) rfl (fun j hj => by rw [Nat.add_assoc]; exact hsp (0 + j) (by omega)) (fun j _ => by rw [Nat.add_assoc]; exact hfz (0 + j)) hvs h1v).mono ?_
    rintro e w' ⟨rfl, rfl⟩
    obtain ⟨cur', h3, h4, h5⟩ := lK [Value.int .i64 x] (0 + 0) w cur hh (by simp; omega)
    obtain ⟨_, hgr⟩ := qp hh (show (0 + 0) + [Value.int .i64 x].length ≤ cur.size by simp; omega) (cs' := cur') h5.symm
    refine ⟨_, rfl, ⟨rfl, .inr ⟨g, cap, cur', rfl, hbg, h3, hr, hcm, by rw [h4, hcs], ?_⟩⟩, grown_below (Below.refl base w) hgr hbg hbase⟩
    rw [h5]
    simp [encs]
   ·refine (Any2.slices_Insert_int_end_grow Ht (some ⟨g, 0, none⟩) 0 cap vb 0 1 vc [] [.int .i64 x] w (by omega) (by omega) (by omega) (by omega) rfl rfl (fun h => by cases h) (fun a h j u hj => by simp at hj) hvs h1v).mono ?_
    rintro e w' ⟨rfl, rfl⟩
    have hg := grownCap_ge w (0 + 1) cap 3
    have hg2 := grownCap_le_maxLen w (0 + 1) cap 3 (by unfold maxLen; omega)
    refine ⟨_, rfl, ⟨rfl, .inr ⟨w.heap.size, _, _, rfl, hbase, heap_alloc_new w.drew _, hg, hg2, ?_, ?_⟩⟩, CG ((Below.refl base w.drew).alloc hbase _)⟩
    ·rw [Array.size_append, EZ]
     show 1 + (grownCap w (0 + 1) cap 3 - (0 + 1)) = grownCap w (0 + 1) cap 3 * 1
     omega
    ·simp [encs]
  ·by_cases hr : xs.length + 1 ≤ cap
   ·refine (Any2.slices_Insert_int_shift Ht g 0 xs.length cap 0 vb 0 1 vc (encs (Value.int .i64) xs) [.int .i64 x] w (by omega) (by omega) hr (by unfold maxLen at hcm; omega) hgv hcl rfl hcells (fun j hj => hsp j (by omega)) (fun j _ => hfz j) hvs h1c h1v
     3 3 1 cap (by simp [World.shape?, hv]) (by simp [World.shape?, hh, hcs]) (by omega) (ah hv 0) (ah hv 1)).mono ?_
    rintro e w' ⟨rfl, rfl⟩
    have hh' : w.drew.heap[g]? = some (.cells cur 3 (0, 0)) := hh
    have e1 : 0 + (0 + 1) + ((encs (Value.int .i64) xs).drop 0).length ≤ cur.size := by rw [List.drop_zero, hcl]; omega
    obtain ⟨c1, h3, h4, h5⟩ := lK ((encs (Value.int .i64) xs).drop 0) (0 + (0 + 1)) w.drew cur hh' e1
    obtain ⟨_, NJ⟩ := qp hh' e1 (cs' := c1) h5.symm
    have e2 : (0 + 0) + [Value.int .i64 x].length ≤ c1.size := by simp; omega
    obtain ⟨c2, h6, h7, h8⟩ := lK [Value.int .i64 x] (0 + 0) _ c1 h3 e2
    obtain ⟨_, WV⟩ := qp h3 e2 (cs' := c2) h8.symm
    refine ⟨_, rfl, ⟨by rw [ui, Nat.mul_one], .inr ⟨g, cap, c2, rfl, hbg, h6, hr, hcm, by rw [h7, h4, hcs], ?_⟩⟩, CG (grown_below (grown_below (Below.refl base w.drew) NJ hbg hbase) WV hbg (Nat.le_trans hbase NJ.size))⟩
    rw [h8, h5]
    have hc1 : cur.toList.length = cap := by rw [Array.length_toList]; omega
    simp only [List.drop_zero, Nat.zero_add, List.take_zero, List.nil_append, List.length_singleton, List.length_cons, List.length_nil]
    have ht : (cur.toList.take 1).length = 1 := by rw [List.length_take]; omega
    rw [List.append_assoc, List.drop_left' ht, Nat.mul_one]
    show (Value.int .i64 x :: (encs (Value.int .i64) xs ++ cur.toList.drop (1 + (encs (Value.int .i64) xs).length))).take (xs.length + 1) = encs (Value.int .i64) (x :: xs)
    rw [List.take_succ_cons, List.take_append_of_le_length (by omega), List.take_of_length_le (by omega)]
    rfl
   ·refine (Any2.slices_Insert_int_grow Ht g 0 xs.length cap 0 vb 0 1 vc (encs (Value.int .i64) xs) [.int .i64 x] w (by omega) (by omega) hnc (by omega) (by omega) hcl rfl hcells hvs h1c h1v).mono ?_
    rintro e w' ⟨rfl, rfl⟩
    have hg := grownCap_ge w (xs.length + 1) cap 3
    have hg2 := grownCap_le_maxLen w (xs.length + 1) cap 3 (by unfold maxLen; omega)
    have hh0 := heap_alloc_new w (.cells (((encs (Value.int .i64) xs).take 0).toArray ++ Builtin.zeroCells (Value.int .i64 0).cells (xs.length + 1 - 0) ++ Builtin.zeroCells (Value.int .i64 0).cells (grownCap w (xs.length + 1) cap (EX.t 3) - (xs.length + 1))) (EX.t 3))
    generalize WR : ((((encs (Value.int .i64) xs).take 0).toArray ++ Builtin.zeroCells (Value.int .i64 0).cells (xs.length + 1 - 0) ++ Builtin.zeroCells (Value.int .i64 0).cells (grownCap w (xs.length + 1) cap (EX.t 3) - (xs.length + 1)))) = IE at hh0 ⊢
    have hsz0 : IE.size = grownCap w (xs.length + 1) cap 3 := by
     rw [← WR, Array.size_append, Array.size_append, EZ, EZ]
     show 0 + (xs.length + 1 - 0) + (grownCap w (xs.length + 1) cap 3 - (xs.length + 1)) = _
     omega
    have hal : Below base w (w.alloc (.cells IE (EX.t 3))) := (Below.refl base w).alloc hbase _
    generalize w.alloc (.cells IE (EX.t 3)) = wa at hh0 hal ⊢
    have hh1 : wa.drew.heap[w.heap.size]? = some (.cells IE 3 (0, 0)) := hh0
    have e1 : 0 + [Value.int .i64 x].length ≤ IE.size := by rw [hsz0]; simp; omega
    obtain ⟨c1, h3, h4, h5⟩ := lK [Value.int .i64 x] 0 wa.drew IE hh1 e1
    obtain ⟨_, NJ⟩ := qp hh1 e1 (cs' := c1) h5.symm
    generalize wa.drew.setCells w.heap.size 0 [Value.int .i64 x] = wb at h3 NJ ⊢
    have hh2 : wb.drew.heap[w.heap.size]? = some (.cells c1 3 (0, 0)) := h3
    have e2 : (0 + 1) + ((encs (Value.int .i64) xs).drop 0).length ≤ c1.size := by rw [List.drop_zero, hcl, h4, hsz0]; omega
    obtain ⟨c2, h6, h7, h8⟩ := lK ((encs (Value.int .i64) xs).drop 0) (0 + 1) wb.drew c1 hh2 e2
    obtain ⟨_, WV⟩ := qp hh2 e2 (cs' := c2) h8.symm
    have hB1 : Below base w wa.drew := uf hal
    have hB2 : Below base w wb := grown_below hB1 NJ hbase (Nat.le_trans hbase hB1.size)
    refine ⟨_, rfl, ⟨by rw [ui, Nat.mul_one], .inr ⟨w.heap.size, _, c2, rfl, hbase, h6, hg, hg2, by rw [h7, h4, hsz0]; exact (Nat.mul_one _).symm, ?_⟩⟩, grown_below (uf hB2) WV hbase (Nat.le_trans hbase hB2.size)⟩
    rw [h8, h5]
    simp only [List.drop_zero, Nat.zero_add, List.take_zero, List.nil_append, List.length_singleton, List.length_cons]
    rw [List.singleton_append, List.take_succ_cons, List.take_zero, Nat.mul_one, List.append_assoc]
    show (Value.int .i64 x :: (encs (Value.int .i64) xs ++ _)).take (xs.length + 1) = encs (Value.int .i64) (x :: xs)
    rw [List.take_succ_cons, List.take_append_of_le_length (by omega), List.take_of_length_le (by omega)]
    rfl
end Go.Proofs.Ytfdmfgaiblfbhaa.P
namespace Go.Proofs.Ytfdmfgaiblfbhaa.P
open Go.RowKit Go.Proofs.ag.aW Go.Proofs.ag.dA Go.Proofs.ag.dU
mutual
def iH : ai → List ai
 | ⟨a, b, d, l⟩ => ⟨a, b, d, l⟩ :: allL l
def allL : List ai → List ai
 | [] => []
 | c :: cs => iH c ++ allL cs
end
theorem uU (c : ai) : iH c = c :: allL c.f3 := by cases c; simp [iH]
theorem qC : allL [] = [] := by simp [allL]
theorem oP (c : ai) (cs : List ai) : allL (c :: cs) = iH c ++ allL cs := by simp [allL]
theorem BN (a b : List ai) : allL (a ++ b) = allL a ++ allL b := by
 induction a with
 | nil => simp [qC]
 | cons x xs ih => rw [List.cons_append, oP, oP, ih, List.append_assoc]
def sz (c : ai) : Nat := (iH c).length
def gy (l : List ai) : Nat := (allL l).length
theorem dL (c : ai) : sz c = 1 + gy c.f3 := by unfold sz gy; rw [uU, List.length_cons]; omega
theorem qY : gy [] = 0 := by unfold gy; rw [qC]; rfl
theorem eG (c : ai) (cs : List ai) : gy (c :: cs) = sz c + gy cs := by unfold gy sz; rw [oP, List.length_append]
theorem nJ (a b : List ai) : gy (a ++ b) = gy a + gy b := by unfold gy; rw [BN, List.length_append]
theorem jR (l : List ai) : l.length ≤ gy l := by
 induction l with
 | nil => simp
 | cons x xs ih => rw [eG, List.length_cons, dL]; omega
theorem EM (c : ai) : (⟨c.f0, ⟨c.f1.f0, c.f1.f1, c.f1.f2, c.f1.f3⟩, c.f2, c.f3⟩ : ai) = c := by cases c; rfl
theorem abo (l : List ai) : gy l = (l.map sz).sum := by
 induction l with
 | nil => rw [qY]; rfl
 | cons x xs ih => rw [eG, List.map_cons, List.sum_cons, ih]
section
variable {P : Program} {ops : Array Oper} {rest : List Oper} {o : Oper} {a : Act} {Q : Exit → Act → World → Prop}
theorem J4 {W : World} (hgd : o.guard = none) {N : Tmp} (_hd : o.dst = some N) {cs : Array Value} {t : TypeId} {n c : Nat}
  (hrun : (execOp a.eval o).run P W = .ok (.value (.slice (some ⟨W.heap.size, 0, none⟩) n c)) (W.alloc (.cells cs t (0, 0))))
  (h : ∀ g, g = W.heap.size → ∀ w1, w1.heap[g]? = some (.cells cs t (0, 0)) → Below W.heap.size W w1 → wpList P ops Q rest (a.put o.dst (.slice (some ⟨g, 0, none⟩) n c)) w1) : wpList P ops Q (o :: rest) a W :=
 Kd.zY hgd hrun (h _ rfl _ (IA W _) (gz (Below.refl _ _) _))
end
mutual
def iP (id : Int) : ai → Option (List Int)
 | ⟨a, _, d, l⟩ => if a = 1 ∧ d = id then some [] else pO id 0 l
def pO (id : Int) : Nat → List ai → Option (List Int)
 | _, [] => none
 | i, k :: ks => match iP id k with
  | some p => some ((i : Int) :: p)
  | none => pO id (i + 1) ks
end
theorem FY (id : Int) (c : ai) : iP id c = if c.f0 = 1 ∧ c.f2 = id then some [] else pO id 0 c.f3 := by cases c; simp [iP]
theorem xG (id : Int) (i : Nat) : pO id i [] = none := by simp [pO]
theorem qF (id : Int) (i : Nat) (k : ai) (ks : List ai) : pO id i (k :: ks) = match iP id k with | some p => some ((i : Int) :: p) | none => pO id (i + 1) ks := by simp [pO]
theorem CJ (id : Int) : ∀ (N : Nat), (∀ c : ai, sz c ≤ N → ∀ p, iP id c = some p → p.length ≤ sz c) ∧ (∀ l : List ai, gy l ≤ N → ∀ i p, pO id i l = some p → p.length ≤ 1 + gy l) := by
 intro N
 induction N with
 | zero =>
  refine ⟨fun c h => ?_, fun l h => ?_⟩
  ·rw [dL] at h; omega
  ·cases l with
   | nil => intro i p hp; rw [xG] at hp; cases hp
   | cons z zs => rw [eG, dL] at h; omega
 | succ N ih =>
  have hC : ∀ c : ai, sz c ≤ N + 1 → ∀ p, iP id c = some p → p.length ≤ sz c := by
   intro c h p hp
   have hs := dL c
   rw [FY] at hp
   split at hp
   ·injection hp with hp; subst hp; simp
   ·have := ih.2 c.f3 (by omega) 0 p hp
    omega
  refine ⟨hC, fun l => ?_⟩
  induction l with
  | nil => intro _ i p hp; rw [xG] at hp; cases hp
  | cons z zs ihl =>
   intro h i p hp
   rw [eG] at h ⊢
   rw [qF] at hp
   cases hz : iP id z with
   | some q =>
    rw [hz] at hp
    injection hp with hp
    have := hC z (by omega) q hz
    rw [← hp, List.length_cons]
    omega
   | none =>
    rw [hz] at hp
    have := ihl (by omega) (i + 1) p hp
    omega
def afj (w : World) (r : Option (List Int)) (e : Ending) (w' : World) : Prop := ∃ v : Value, e = .returned (.tuple #[v, .bool r.isSome]) ∧ (Kd.int .i64).R 3 w' w.heap.size (fun _ => True) v (r.getD []) ∧ Below w.heap.size w w'
theorem adv (id : Int) : ∀ (N : Nat) (c : ai), sz c ≤ N → N ≤ 1000000 → ∀ (A : Option Addr) (cc : Nat) (w : World), Kd.C k26 w A c.f3.length c.f3 → c.f3.length ≤ cc →
  Calls Try.prog 89 #[.agg #[.int .u8 c.f0, .int .i64 c.f1.f0, .int .i64 c.f1.f1, .int .i64 c.f1.f2, .int .i64 c.f1.f3, .int .i64 c.f2, .slice A c.f3.length cc], .int .i64 id] w (afj w (iP id c)) := by
 intro N
 induction N with
 | zero => intro c h; rw [dL] at h; omega
 | succ N ih =>
  intro c hc hN A cc w hr hlc
  have hsz := dL c
  have hlen := jR c.f3
  have hkz : ∀ k : ai, k ∈ c.f3 → sz k ≤ N := by
   intro k hk
   have : sz k ≤ gy c.f3 := by
    obtain ⟨p, q, e⟩ := List.append_of_mem hk
    rw [e, nJ, eG]; omega
   omega
  have IH := ae.mk fun (k : ai) (hk : k ∈ c.f3) => ih k (hkz k hk) (by omega)
  have xy := ae.mk fun (k : ai) (hk : k ∈ c.f3) (p : List Int) (hp : iP id k = some p) => Nat.le_trans ((CJ id (sz k)).1 k (Nat.le_refl _) p hp) (Nat.le_trans (hkz k hk) (by omega : N ≤ 1000000))
  have HR := ae.mk hr
  have HLC := ae.mk hlc
  have HL := ae.mk (show c.f3.length ≤ 1000000 by omega)
  have HB := ae.mk (Below.refl w.heap.size w)
  rw [FY]
  clear ih hkz hr hlc hc hN hsz hlen
  obtain ⟨ck, ⟨cx, cy, cw, ch⟩, ay, l⟩ := c
  simp only [] at HR HLC HL IH xy ⊢
  by_cases h1 : ck = 1
  ·have h1b : (ck == 1) = true := beq_iff_eq.mpr h1
   by_cases h2 : ay = id
   ·have h2b : (ay == id) = true := beq_iff_eq.mpr h2
    rw [if_pos ⟨h1, h2⟩]
    clear h1 h2
    go_enter Try.func89, Try.ntmps89
    go_wp2_with (first | ((with_reducible refine aC (N := 2) rfl ?_); refine aQ ?hg (N := 2) ?hd (cs := #[.int .u8 ck, .int .i64 cx, .int .i64 cy, .int .i64 cw, .int .i64 ch, .int .i64 ay, .slice A l.length cc]) (t := 26) ?hr ?_; (case hd => rfl); (case hg => rfl); (case hr => first | (go_simp; done) | (go_simp; rfl)); intro b2 hg w2 hbox hb; have K2 := ae.mk hbox; have q_ := ae.mk (az HB.out hb); clear HB; have HB := q_; clear q_; clear hb hbox hg; have c0 := (af K2.out 0).trans rfl; have c1 := (af K2.out 1).trans rfl; have c2 := (af K2.out 2).trans rfl; have c3 := (af K2.out 3).trans rfl; have c4 := (af K2.out 4).trans rfl; have c5 := (af K2.out 5).trans rfl; have c6 := (af K2.out 6).trans rfl) | fail)
    go_ret2
    exact ⟨_, rfl, Kd.pJ _ _ _ _ _, HB.out⟩
   ·have h2b : (ay == id) = false := beq_eq_false_iff_ne.mpr h2
    rw [if_neg (fun h => h2 h.2)]
    clear h1 h2
    go_enter Try.func89, Try.ntmps89
    go_wp2_with (first | ((with_reducible refine aC (N := 2) rfl ?_); refine aQ ?hg (N := 2) ?hd (cs := #[.int .u8 ck, .int .i64 cx, .int .i64 cy, .int .i64 cw, .int .i64 ch, .int .i64 ay, .slice A l.length cc]) (t := 26) ?hr ?_; (case hd => rfl); (case hg => rfl); (case hr => first | (go_simp; done) | (go_simp; rfl)); intro b2 hg w2 hbox hb; have K2 := ae.mk hbox; have q_ := ae.mk (az HB.out hb); clear HB; have HB := q_; clear q_; clear hb hbox hg; have c0 := (af K2.out 0).trans rfl; have c1 := (af K2.out 1).trans rfl; have c2 := (af K2.out 2).trans rfl; have c3 := (af K2.out 3).trans rfl; have c4 := (af K2.out 4).trans rfl; have c5 := (af K2.out 5).trans rfl; have c6 := (af K2.out 6).trans rfl) | fail)
    clear c0 c1 c2 c3 c4 c5 c6
    go_loopg [22] l.length (fun gg v22 wr => ∃ (pre rest : List ai), v22 = .int .i64 (pre.length : Int) ∧ ae (pre ++ rest = l) ∧ rest.length ≤ gg ∧ ae (pO id 0 l = pO id pre.length rest) ∧ ae (Below w.heap.size w wr))
    case atStart => exact ⟨[], l, rfl, ⟨rfl⟩, Nat.le_refl _, ⟨rfl⟩, HB⟩
    case round =>
     clear HB K2
     obtain ⟨pre, rest, rfl, HE, hgg, HF, HB⟩ := hrel
     cases rest with
     | nil =>
      have hlt : ¬ ((pre.length : Int) < (l.length : Int)) := by have := HE.out; rw [List.append_nil] at this; rw [this]; omega
      clear hgg
      go_wp2
      go_ret2
      rw [HF.out, xG]
      exact ⟨_, rfl, Kd.pJ _ _ _ _ _, HB.out⟩
     | cons k rest =>
      have hk : k ∈ l := by rw [← HE.out]; simp
      have hlt : (pre.length : Int) < (l.length : Int) := by rw [← HE.out, List.length_append, List.length_cons]; omega
      have hw : wrap64 ((pre.length : Int) + 1) = ((pre ++ [k]).length : Int) := by rw [List.length_append, List.length_singleton]; unfold wrap64; have := HL.out; omega
      have hrd : aG l (pre.length : Int) = k := by rw [← HE.out]; simp [aG, List.getD_eq_getElem?_getD]
      obtain ⟨ad, ua, uc, rfl, h0, h1, h2, h3, h4, h5, h6, JW, hgu⟩ := rQ HR.out (pre.length : Int) (Int.natCast_nonneg _) hlt
      rw [hrd] at h0 h1 h2 h3 h4 h5 h6 JW hgu
      simp only [Int.toNat_natCast] at h0 h1 h2 h3 h4 h5 h6
      replace h0 := (HB.out.cell (World.block_lt_of_cell? w _ h0)).trans h0
      replace h1 := (HB.out.cell (World.block_lt_of_cell? w _ h1)).trans h1
      replace h2 := (HB.out.cell (World.block_lt_of_cell? w _ h2)).trans h2
      replace h3 := (HB.out.cell (World.block_lt_of_cell? w _ h3)).trans h3
      replace h4 := (HB.out.cell (World.block_lt_of_cell? w _ h4)).trans h4
      replace h5 := (HB.out.cell (World.block_lt_of_cell? w _ h5)).trans h5
      replace h6 := (HB.out.cell (World.block_lt_of_cell? w _ h6)).trans h6
      have HU := ae.mk hgu
      have LU := ae.mk JW
      have HW := ae.mk hw
      have HK := ae.mk hk
      have HG := ae.mk hgg
      clear hgu JW hw hk hgg hrd
      go_wp2_with (first
       | ((with_reducible refine aC (N := 7) rfl ?_); refine aQ ?hg (N := 7) ?hd (cs := #[.int .u8 0, .int .i64 0, .int .i64 0, .int .i64 0, .int .i64 0, .int .i64 0, .slice none 0 0]) (t := 26) ?hr ?_; (case hd => rfl); (case hg => rfl); (case hr => first | (go_simp; done) | (go_simp; rfl)); intro b7 hg w7 hbox hb; have K7 := ae.mk hbox; have G7 := ae.mk (show w.heap.size ≤ b7 by rw [hg]; exact HB.out.size); have q_ := ae.mk (az HB.out hb); clear HB; have HB := q_; clear q_; clear hb hbox hg)
       | ((with_reducible refine lG (.store 26 (.tmp 7) (.tmp 26)) rfl ?_); go_loud (refine iF (w0 := w) rfl rfl 26 (.tmp 7) (.tmp 26) rfl (g := b7) (j := 0) (base := w.heap.size) #[.int .u8 k.f0, .int .i64 k.f1.f0, .int .i64 k.f1.f1, .int .i64 k.f1.f2, .int .i64 k.f1.f3, .int .i64 k.f2, .slice ua k.f3.length uc] (u := .agg #[.int .u8 k.f0, .int .i64 k.f1.f0, .int .i64 k.f1.f1, .int .i64 k.f1.f2, .int .i64 k.f1.f3, .int .i64 k.f2, .slice ua k.f3.length uc]) (bP := [.int .u8 k.f0, .int .i64 k.f1.f0, .int .i64 k.f1.f1, .int .i64 k.f1.f2, .int .i64 k.f1.f3, .int .i64 k.f2, .slice ua k.f3.length uc]) ?sA ?sX rfl ?sT ?s1 K7.out ?sJ rfl HB.out HB.out.size G7.out ?_; (case sA => rfl); (case sX => rfl); (case sT => rfl); (case s1 => (simp [Value.oneCell'])); (case sJ => (first | decide | simp)); intro ws hbk hbb hgg; clear K7 HB; have K7 := ae.mk hbk; have HB := ae.mk hbb; clear hbk hbb hgg h0 h1 h2 h3 h4 h5 h6; have d0 := (af K7.out 0).trans rfl; have d1 := (af K7.out 1).trans rfl; have d2 := (af K7.out 2).trans rfl; have d3 := (af K7.out 3).trans rfl; have d4 := (af K7.out 4).trans rfl; have d5 := (af K7.out 5).trans rfl; have d6 := (af K7.out 6).trans rfl))
       | fail)
      clear d0 d1 d2 d3 d4 d5 d6 K7
      refine (IH.out k HK.out ua uc _ (Kd.fC HU.out HB.out) LU.out).mono ?_
      rintro e wk ⟨v, rfl, ho, hb⟩
      have HO := ae.mk (Kd.iZ ho HB.out.size)
      have q_ := ae.mk (az HB.out hb); clear HB; have HB := q_; clear q_
      clear ho hb
      cases hf : iP id k with
      | none =>
       rw [hf] at HO
       have HF2 := ae.mk hf
       simp only [hf, Option.isSome_none]
       clear hf
       go_wp2
       go_roundg rest.length
       case measure => exact Nat.lt_of_lt_of_le (Nat.lt_succ_self _) HG.out
       case rel => exact ⟨pre ++ [k], rest, (by rw [HW.out]), ⟨by rw [List.append_assoc]; exact HE.out⟩, Nat.le_refl _, ⟨by rw [HF.out, qF, HF2.out, List.length_append]; rfl⟩, HB⟩
      | some p =>
       rw [hf] at HO
       have HF2 := ae.mk hf
       have HP := ae.mk (xy.out k HK.out p hf)
       simp only [hf, Option.isSome_some]
       clear hf
       obtain ⟨Ap, cp, ep⟩ := Kd.fQ HO.out
       subst ep
       go_wp2_with (first
        | ((with_reducible refine aC (N := 36) rfl ?_); refine J4 ?hg (N := 36) ?hd (cs := #[.int .i64 (pre.length : Int)]) (t := 3) (n := 1) (c := 1) ?hr ?_; (case hd => rfl); (case hg => rfl); (case hr => first | (go_simp; done) | (go_simp; rfl)); intro b9 hg w9 hbox hb; have K9 := ae.mk hbox; have NE := ae.mk (fun e_ => Nat.lt_irrefl _ (hg ▸ Kd.uI HO.out b9 e_) : ¬ (Value.slice Ap ((some p).getD []).length cp).ownBlock = some b9); have fH := ae.mk (Kd.oD HO.out hb); clear HO; have HO := fH; clear fH; have q_ := ae.mk (az HB.out hb); clear HB; have HB := q_; clear q_; clear hb hbox hg)
        | fail)
       refine (Uz _ w.heap.size HB.out.size _ p (pre.length : Int) b9 1 (Kd.CY HO.out) K9.out NE.out HP.out).mono ?_
       rintro e wi ⟨v', rfl, ho, hb⟩
       have pV := ae.mk ho
       have HB2 := ae.mk (HB.out.trans hb)
       clear ho hb
       go_wp2
       go_ret2
       rw [HF.out, qF, HF2.out]
       exact ⟨_, rfl, Kd.rO pV.out (fun _ _ => trivial), HB2.out⟩
  ·have h1b : (ck == 1) = false := beq_eq_false_iff_ne.mpr h1
   rw [if_neg (fun h => h1 h.1)]
   clear h1
   go_enter Try.func89, Try.ntmps89
   go_wp2_with (first | ((with_reducible refine aC (N := 2) rfl ?_); refine aQ ?hg (N := 2) ?hd (cs := #[.int .u8 ck, .int .i64 cx, .int .i64 cy, .int .i64 cw, .int .i64 ch, .int .i64 ay, .slice A l.length cc]) (t := 26) ?hr ?_; (case hd => rfl); (case hg => rfl); (case hr => first | (go_simp; done) | (go_simp; rfl)); intro b2 hg w2 hbox hb; have K2 := ae.mk hbox; have q_ := ae.mk (az HB.out hb); clear HB; have HB := q_; clear q_; clear hb hbox hg; have c0 := (af K2.out 0).trans rfl; have c1 := (af K2.out 1).trans rfl; have c2 := (af K2.out 2).trans rfl; have c3 := (af K2.out 3).trans rfl; have c4 := (af K2.out 4).trans rfl; have c5 := (af K2.out 5).trans rfl; have c6 := (af K2.out 6).trans rfl) | fail)
   clear c0 c1 c2 c3 c4 c5 c6
   go_loopg [22] l.length (fun gg v22 wr => ∃ (pre rest : List ai), v22 = .int .i64 (pre.length : Int) ∧ ae (pre ++ rest = l) ∧ rest.length ≤ gg ∧ ae (pO id 0 l = pO id pre.length rest) ∧ ae (Below w.heap.size w wr))
   case atStart => exact ⟨[], l, rfl, ⟨rfl⟩, Nat.le_refl _, ⟨rfl⟩, HB⟩
   case round =>
    clear HB K2
    obtain ⟨pre, rest, rfl, HE, hgg, HF, HB⟩ := hrel
    cases rest with
    | nil =>
     have hlt : ¬ ((pre.length : Int) < (l.length : Int)) := by have := HE.out; rw [List.append_nil] at this; rw [this]; omega
     clear hgg
     go_wp2
     go_ret2
     rw [HF.out, xG]
     exact ⟨_, rfl, Kd.pJ _ _ _ _ _, HB.out⟩
    | cons k rest =>
     have hk : k ∈ l := by rw [← HE.out]; simp
     have hlt : (pre.length : Int) < (l.length : Int) := by rw [← HE.out, List.length_append, List.length_cons]; omega
     have hw : wrap64 ((pre.length : Int) + 1) = ((pre ++ [k]).length : Int) := by rw [List.length_append, List.length_singleton]; unfold wrap64; have := HL.out; omega
     have hrd : aG l (pre.length : Int) = k := by rw [← HE.out]; simp [aG, List.getD_eq_getElem?_getD]
     obtain ⟨ad, ua, uc, rfl, h0, h1, h2, h3, h4, h5, h6, JW, hgu⟩ := rQ HR.out (pre.length : Int) (Int.natCast_nonneg _) hlt
     rw [hrd] at h0 h1 h2 h3 h4 h5 h6 JW hgu
     simp only [Int.toNat_natCast] at h0 h1 h2 h3 h4 h5 h6
     replace h0 := (HB.out.cell (World.block_lt_of_cell? w _ h0)).trans h0
     replace h1 := (HB.out.cell (World.block_lt_of_cell? w _ h1)).trans h1
     replace h2 := (HB.out.cell (World.block_lt_of_cell? w _ h2)).trans h2
     replace h3 := (HB.out.cell (World.block_lt_of_cell? w _ h3)).trans h3
     replace h4 := (HB.out.cell (World.block_lt_of_cell? w _ h4)).trans h4
     replace h5 := (HB.out.cell (World.block_lt_of_cell? w _ h5)).trans h5
     replace h6 := (HB.out.cell (World.block_lt_of_cell? w _ h6)).trans h6
     have HU := ae.mk hgu
     have LU := ae.mk JW
     have HW := ae.mk hw
     have HK := ae.mk hk
     have HG := ae.mk hgg
     clear hgu JW hw hk hgg hrd
     go_wp2_with (first
      | ((with_reducible refine aC (N := 7) rfl ?_); refine aQ ?hg (N := 7) ?hd (cs := #[.int .u8 0, .int .i64 0, .int .i64 0, .int .i64 0, .int .i64 0, .int .i64 0, .slice none 0 0]) (t := 26) ?hr ?_; (case hd => rfl); (case hg => rfl); (case hr => first | (go_simp; done) | (go_simp; rfl)); intro b7 hg w7 hbox hb; have K7 := ae.mk hbox; have G7 := ae.mk (show w.heap.size ≤ b7 by rw [hg]; exact HB.out.size); have q_ := ae.mk (az HB.out hb); clear HB; have HB := q_; clear q_; clear hb hbox hg)
      | ((with_reducible refine lG (.store 26 (.tmp 7) (.tmp 26)) rfl ?_); go_loud (refine iF (w0 := w) rfl rfl 26 (.tmp 7) (.tmp 26) rfl (g := b7) (j := 0) (base := w.heap.size) #[.int .u8 k.f0, .int .i64 k.f1.f0, .int .i64 k.f1.f1, .int .i64 k.f1.f2, .int .i64 k.f1.f3, .int .i64 k.f2, .slice ua k.f3.length uc] (u := .agg #[.int .u8 k.f0, .int .i64 k.f1.f0, .int .i64 k.f1.f1, .int .i64 k.f1.f2, .int .i64 k.f1.f3, .int .i64 k.f2, .slice ua k.f3.length uc]) (bP := [.int .u8 k.f0, .int .i64 k.f1.f0, .int .i64 k.f1.f1, .int .i64 k.f1.f2, .int .i64 k.f1.f3, .int .i64 k.f2, .slice ua k.f3.length uc]) ?sA ?sX rfl ?sT ?s1 K7.out ?sJ rfl HB.out HB.out.size G7.out ?_; (case sA => rfl); (case sX => rfl); (case sT => rfl); (case s1 => (simp [Value.oneCell'])); (case sJ => (first | decide | simp)); intro ws hbk hbb hgg; clear K7 HB; have K7 := ae.mk hbk; have HB := ae.mk hbb; clear hbk hbb hgg h0 h1 h2 h3 h4 h5 h6; have d0 := (af K7.out 0).trans rfl; have d1 := (af K7.out 1).trans rfl; have d2 := (af K7.out 2).trans rfl; have d3 := (af K7.out 3).trans rfl; have d4 := (af K7.out 4).trans rfl; have d5 := (af K7.out 5).trans rfl; have d6 := (af K7.out 6).trans rfl))
      | fail)
     clear d0 d1 d2 d3 d4 d5 d6 K7
     refine (IH.out k HK.out ua uc _ (Kd.fC HU.out HB.out) LU.out).mono ?_
     rintro e wk ⟨v, rfl, ho, hb⟩
     have HO := ae.mk (Kd.iZ ho HB.out.size)
     have q_ := ae.mk (az HB.out hb); clear HB; have HB := q_; clear q_
     clear ho hb
     cases hf : iP id k with
     | none =>
      rw [hf] at HO
      have HF2 := ae.mk hf
      simp only [hf, Option.isSome_none]
      clear hf
      go_wp2
      go_roundg rest.length
      case measure => exact Nat.lt_of_lt_of_le (Nat.lt_succ_self _) HG.out
      case rel => exact ⟨pre ++ [k], rest, (by rw [HW.out]), ⟨by rw [List.append_assoc]; exact HE.out⟩, Nat.le_refl _, ⟨by rw [HF.out, qF, HF2.out, List.length_append]; rfl⟩, HB⟩
     | some p =>
      rw [hf] at HO
      have HF2 := ae.mk hf
      have HP := ae.mk (xy.out k HK.out p hf)
      simp only [hf, Option.isSome_some]
      clear hf
      obtain ⟨Ap, cp, ep⟩ := Kd.fQ HO.out
      subst ep
      go_wp2_with (first
       | ((with_reducible refine aC (N := 36) rfl ?_); refine J4 ?hg (N := 36) ?hd (cs := #[.int .i64 (pre.length : Int)]) (t := 3) (n := 1) (c := 1) ?hr ?_; (case hd => rfl); (case hg => rfl); (case hr => first | (go_simp; done) | (go_simp; rfl)); intro b9 hg w9 hbox hb; have K9 := ae.mk hbox; have NE := ae.mk (fun e_ => Nat.lt_irrefl _ (hg ▸ Kd.uI HO.out b9 e_) : ¬ (Value.slice Ap ((some p).getD []).length cp).ownBlock = some b9); have fH := ae.mk (Kd.oD HO.out hb); clear HO; have HO := fH; clear fH; have q_ := ae.mk (az HB.out hb); clear HB; have HB := q_; clear q_; clear hb hbox hg)
       | fail)
      refine (Uz _ w.heap.size HB.out.size _ p (pre.length : Int) b9 1 (Kd.CY HO.out) K9.out NE.out HP.out).mono ?_
      rintro e wi ⟨v', rfl, ho, hb⟩
      have pV := ae.mk ho
      have HB2 := ae.mk (HB.out.trans hb)
      clear ho hb
      go_wp2
      go_ret2
      rw [HF.out, qF, HF2.out]
      exact ⟨_, rfl, Kd.rO pV.out (fun _ _ => trivial), HB2.out⟩
def agT.f (a0 a1 a2 a3 a4 a5 : Int) (l : List ai) (id : Int) : Option (List Int × Bool) := if sz ⟨a0, ⟨a1, a2, a3, a4⟩, a5, l⟩ ≤ 1000000 then some ((iP id ⟨a0, ⟨a1, a2, a3, a4⟩, a5, l⟩).getD [], (iP id ⟨a0, ⟨a1, a2, a3, a4⟩, a5, l⟩).isSome) else none
theorem rX {P : Program} {f : FuncId} {fn : Func} (hf : P.funcs[f]? = some fn) (hname : (fn.name == "runtime.NumGoroutine") = false) (hb : fn.body.isSome = true) : ∀ args w, (callFunc f args).run P w = .ok (.enter f args) w := by
 intro args w
 obtain ⟨c, hc⟩ := Option.isSome_iff_exists.1 hb
 have h1 : fn.name ≠ "runtime.NumGoroutine" := by simpa using hname
 simp [callFunc, hf, h1, hc, mark]
section
variable {σ α : Type}
def lD (step : σ → α → Bool × σ) : Int → σ → List α → Int × σ
 | _, s, [] => (-1, s)
 | i, s, x :: xs => if (step s x).1 = true then (i, (step s x).2) else lD step (i + 1) (step s x).2 xs
def rF (step : σ → α → Bool × σ) : σ → List α → Bool × σ
 | s, [] => (false, s)
 | s, x :: xs => if (step s x).1 = true then (true, (step s x).2) else rF step (step s x).2 xs
theorem abj (step : σ → α → Bool × σ) : ∀ (l : List α) (i : Int) (s : σ), 0 ≤ i → (rF step s l).1 = decide (0 ≤ (lD step i s l).1) ∧ (rF step s l).2 = (lD step i s l).2 := by
 intro l
 induction l with
 | nil => intro i s h; exact ⟨by simp [rF, lD], rfl⟩
 | cons x xs ih =>
  intro i s h
  simp only [rF, lD]
  split
  ·exact ⟨by simp [h], rfl⟩
  ·exact ih (i + 1) _ (by omega)
theorem Ol (step : σ → α → Bool × σ) (s : σ) (l : List α) : rF step s l = (decide (0 ≤ (lD step 0 s l).1), (lD step 0 s l).2) := by
 have h := abj step l 0 s (by omega)
 exact Prod.ext h.1 h.2
theorem PW (step : σ → α → Bool × σ) (z : α) (l : List α) (k : Nat) (h : k < l.length) (t : σ) :
  lD step k t (l.drop k) = if (step t (l.getD (k : Int).toNat z)).1 = true then ((k : Int), (step t (l.getD (k : Int).toNat z)).2) else lD step ((k + 1 : Nat) : Int) (step t (l.getD (k : Int).toNat z)).2 (l.drop (k + 1)) := by
 rw [List.drop_eq_getElem_cons h]
 simp only [lD, Int.toNat_natCast, List.getD_eq_getElem?_getD, List.getElem?_eq_getElem h, Option.getD_some]
 rfl
theorem Di (z : α) (l : List α) (k : Nat) (h : k < l.length) : l.getD (k : Int).toNat z ∈ l := by
 simp only [Int.toNat_natCast, List.getD_eq_getElem?_getD, List.getElem?_eq_getElem h, Option.getD_some]
 exact List.getElem_mem h
theorem J6 (p : α → Bool) : ∀ (l : List α) (s : Unit), rF (fun _ x => (p x, ())) s l = (l.any p, ()) := by
 intro l
 induction l with
 | nil => intro s; rfl
 | cons x xs ih =>
  intro s
  simp only [rF, List.any_cons]
  cases h : p x with
  | true => simp
  | false => simp [ih]
end
section
variable {σ : Type} (step : σ → ai → Bool × σ)
mutual
def rf : ai → σ → Bool × σ
 | ⟨a, b, d, l⟩, s => if (step s ⟨a, b, d, l⟩).1 = true then rD l (step s ⟨a, b, d, l⟩).2 else (false, (step s ⟨a, b, d, l⟩).2)
def rD : List ai → σ → Bool × σ
 | [], s => (true, s)
 | k :: ks, s => if (rf k s).1 = true then rD ks (rf k s).2 else (false, (rf k s).2)
end
theorem OU (c : ai) (s : σ) : rf step c s = if (step s c).1 = true then rD step c.f3 (step s c).2 else (false, (step s c).2) := by cases c; simp [rf]
theorem Ef (s : σ) : rD step [] s = (true, s) := by simp [rD]
theorem Hw (k : ai) (ks : List ai) (s : σ) : rD step (k :: ks) s = if (rf step k s).1 = true then rD step ks (rf step k s).2 else (false, (rf step k s).2) := by simp [rD]
theorem Vf : ∀ (l : List ai) (s : σ), rF (fun s k => (!(rf step k s).1, (rf step k s).2)) s l = (!(rD step l s).1, (rD step l s).2) := by
 intro l
 induction l with
 | nil => intro s; rw [Ef]; rfl
 | cons k ks ih =>
  intro s
  rw [Hw]
  simp only [rF]
  cases h : (rf step k s).1 with
  | true => simp [ih]
  | false => simp
def tN : List ai → σ → Bool × σ
 | [], s => (true, s)
 | k :: ks, s => if (step s k).1 = true then tN ks (step s k).2 else (false, (step s k).2)
theorem XL : ∀ (a b : List ai) (s : σ), tN step (a ++ b) s = if (tN step a s).1 = true then tN step b (tN step a s).2 else (false, (tN step a s).2) := by
 intro a
 induction a with
 | nil => intro b s; simp [tN]
 | cons k ks ih =>
  intro b s
  simp only [List.cons_append, tN]
  by_cases h : (step s k).1 = true
  ·simp [h, ih]
  ·simp [h]
theorem VT : ∀ (N : Nat), (∀ c : ai, sz c ≤ N → ∀ s, rf step c s = tN step (iH c) s) ∧ (∀ l : List ai, gy l ≤ N → ∀ s, rD step l s = tN step (allL l) s) := by
 intro N
 induction N with
 | zero =>
  refine ⟨fun c h => ?_, fun l h => ?_⟩
  ·rw [dL] at h; omega
  ·cases l with
   | nil => intro s; rw [Ef, qC]; rfl
   | cons x xs => rw [eG, dL] at h; omega
 | succ N ih =>
  have hC : ∀ c : ai, sz c ≤ N + 1 → ∀ s, rf step c s = tN step (iH c) s := by
   intro c h s
   rw [dL] at h
   rw [OU, uU]
   simp only [tN]
   rw [ih.2 c.f3 (by omega)]
  refine ⟨hC, fun l => ?_⟩
  induction l with
  | nil => intro _ s; rw [Ef, qC]; rfl
  | cons x xs ihl =>
   intro h s
   rw [eG] at h
   rw [Hw, oP, XL, hC x (by omega), ihl (by omega)]
end
end Go.Proofs.Ytfdmfgaiblfbhaa.P
namespace Go.Proofs.Ytfdmfgaiblfbhaa.P
open Go.RowKit Go.Proofs.ag.aW Go.Proofs.ag.dA Go.Proofs.ag.dU
attribute [local go_sem] kM kZ lN l7 kz kC kY lg
def wZ.f (aA : Int) (aJ : Int) (aH : Int) (aI : Int) : Option (Bool) := if aA ≥ 0 then (if aH ≥ 1 then (if aH ≤ 10000 then (if aA ≤ (wrap64 (10000 - aH)) then (if aJ ≥ 0 then (if aI ≥ 1 then (if aI ≤ 10000 then (some (decide (aJ ≤ (wrap64 (10000 - aI))))) else (some false)) else (some false)) else (some false)) else (some false)) else (some false)) else (some false)) else (some false)
theorem wZ.calls (aA : Int) (aJ : Int) (aH : Int) (aI : Int) (r : Bool) (w : World) (h : wZ.f aA aJ aH aI = some r) :
  Calls Try.prog 128 #[.agg #[.int .i64 aA, .int .i64 aJ, .int .i64 aH, .int .i64 aI]] w fun e w' => e = .returned (.bool r) ∧ Below w.heap.size w w' := by
 have NP := Try.underlying23
 have HB := ae.mk (Below.refl w.heap.size w)
 have H : (if aA ≥ 0 then (if aH ≥ 1 then (if aH ≤ 10000 then (if aA ≤ (wrap64 (10000 - aH)) then (if aJ ≥ 0 then (if aI ≥ 1 then (if aI ≤ 10000 then (some (decide (aJ ≤ (wrap64 (10000 - aI))))) else (some false)) else (some false)) else (some false)) else (some false)) else (some false)) else (some false)) else (some false)) = some r := h
 clear h
 by_cases c2 : aA ≥ 0
 ·rw [if_pos c2] at H
  have MB : decide (0 ≤ aA) = true := decide_eq_true c2
  clear c2
  by_cases c3 : aH ≥ 1
  ·rw [if_pos c3] at H
   have pq : decide (1 ≤ aH) = true := decide_eq_true c3
   clear c3
   by_cases c4 : aH ≤ 10000
   ·rw [if_pos c4] at H
    have yu : decide (aH ≤ 10000) = true := decide_eq_true c4
    clear c4
    by_cases c5 : aA ≤ (wrap64 (10000 - aH))
    ·rw [if_pos c5] at H
     have BR : decide (aA ≤ (wrap64 (10000 - aH))) = true := decide_eq_true c5
     clear c5
     by_cases c6 : aJ ≥ 0
     ·rw [if_pos c6] at H
      have vP : decide (0 ≤ aJ) = true := decide_eq_true c6
      clear c6
      by_cases c7 : aI ≥ 1
      ·rw [if_pos c7] at H
       have rU : decide (1 ≤ aI) = true := decide_eq_true c7
       clear c7
       by_cases c8 : aI ≤ 10000
       ·rw [if_pos c8] at H
        have wS : decide (aI ≤ 10000) = true := decide_eq_true c8
        clear c8
        obtain rfl := Option.some.inj H
        go_enter Try.func128, Try.ntmps128
        go_wp2_with (((with_reducible refine aC (N := 1) rfl ?_); refine aQ ?hg (N := 1) ?hd (cs := #[.int .i64 aA, .int .i64 aJ, .int .i64 aH, .int .i64 aI]) (t := 23) ?hr ?_; (case hd => rfl); (case hg => rfl); (case hr => (go_simp; done)); intro iJ hg w9 hbox hb; have d_ := ae.mk (hbox); replace HB := ae.mk (az (by repeat ((with_reducible exact HB.out))) hb); clear hb hbox hg; have O7 : w9.cell? ⟨iJ, 0, none⟩ = some (.int .i64 aA) := (af d_.out 0).trans rfl; have O8 : w9.cell? ⟨iJ, 1, none⟩ = some (.int .i64 aJ) := (af d_.out 1).trans rfl; have O9 : w9.cell? ⟨iJ, 2, none⟩ = some (.int .i64 aH) := (af d_.out 2).trans rfl; have O_ : w9.cell? ⟨iJ, 3, none⟩ = some (.int .i64 aI) := (af d_.out 3).trans rfl; have Pn := ah d_.out 0; have Po := ah d_.out 1; have Pq := ah d_.out 2; have Pv := ah d_.out 3))
        go_ret
        exact ⟨by rfl, by repeat ((with_reducible exact HB.out))⟩
       ·rw [if_neg c8] at H
        have wS : decide (aI ≤ 10000) = false := decide_eq_false c8
        clear c8
        obtain rfl := Option.some.inj H
        go_enter Try.func128, Try.ntmps128
        go_wp2_with (((with_reducible refine aC (N := 1) rfl ?_); refine aQ ?hg (N := 1) ?hd (cs := #[.int .i64 aA, .int .i64 aJ, .int .i64 aH, .int .i64 aI]) (t := 23) ?hr ?_; (case hd => rfl); (case hg => rfl); (case hr => (go_simp; done)); intro iJ hg Aw hbox hb; have d_ := ae.mk (hbox); replace HB := ae.mk (az (by repeat ((with_reducible exact HB.out))) hb); clear hb hbox hg; have Zx : Aw.cell? ⟨iJ, 0, none⟩ = some (.int .i64 aA) := (af d_.out 0).trans rfl; have Zy : Aw.cell? ⟨iJ, 1, none⟩ = some (.int .i64 aJ) := (af d_.out 1).trans rfl; have Zz : Aw.cell? ⟨iJ, 2, none⟩ = some (.int .i64 aH) := (af d_.out 2).trans rfl; have ZA : Aw.cell? ⟨iJ, 3, none⟩ = some (.int .i64 aI) := (af d_.out 3).trans rfl; have aag := ah d_.out 0; have aah := ah d_.out 1; have aai := ah d_.out 2; have aaj := ah d_.out 3))
        go_ret
        exact ⟨by rfl, by repeat ((with_reducible exact HB.out))⟩
      ·rw [if_neg c7] at H
       have rU : decide (1 ≤ aI) = false := decide_eq_false c7
       clear c7
       obtain rfl := Option.some.inj H
       go_enter Try.func128, Try.ntmps128
       go_wp2_with (((with_reducible refine aC (N := 1) rfl ?_); refine aQ ?hg (N := 1) ?hd (cs := #[.int .i64 aA, .int .i64 aJ, .int .i64 aH, .int .i64 aI]) (t := 23) ?hr ?_; (case hd => rfl); (case hg => rfl); (case hr => (go_simp; done)); intro iJ hg sG hbox hb; have d_ := ae.mk (hbox); replace HB := ae.mk (az (by repeat ((with_reducible exact HB.out))) hb); clear hb hbox hg; have IM : sG.cell? ⟨iJ, 0, none⟩ = some (.int .i64 aA) := (af d_.out 0).trans rfl; have IP : sG.cell? ⟨iJ, 1, none⟩ = some (.int .i64 aJ) := (af d_.out 1).trans rfl; have IQ : sG.cell? ⟨iJ, 2, none⟩ = some (.int .i64 aH) := (af d_.out 2).trans rfl; have IU : sG.cell? ⟨iJ, 3, none⟩ = some (.int .i64 aI) := (af d_.out 3).trans rfl; have IV := ah d_.out 0; have IW := ah d_.out 1; have IX := ah d_.out 2; have IY := ah d_.out 3))
       go_ret
       exact ⟨by rfl, by repeat ((with_reducible exact HB.out))⟩
     ·rw [if_neg c6] at H
      have vP : decide (0 ≤ aJ) = false := decide_eq_false c6
      clear c6
      obtain rfl := Option.some.inj H
      go_enter Try.func128, Try.ntmps128
      go_wp2_with (((with_reducible refine aC (N := 1) rfl ?_); refine aQ ?hg (N := 1) ?hd (cs := #[.int .i64 aA, .int .i64 aJ, .int .i64 aH, .int .i64 aI]) (t := 23) ?hr ?_; (case hd => rfl); (case hg => rfl); (case hr => (go_simp; done)); intro iJ hg tJ hbox hb; have d_ := ae.mk (hbox); replace HB := ae.mk (az (by repeat ((with_reducible exact HB.out))) hb); clear hb hbox hg; have Pg : tJ.cell? ⟨iJ, 0, none⟩ = some (.int .i64 aA) := (af d_.out 0).trans rfl; have Ph : tJ.cell? ⟨iJ, 1, none⟩ = some (.int .i64 aJ) := (af d_.out 1).trans rfl; have Pj : tJ.cell? ⟨iJ, 2, none⟩ = some (.int .i64 aH) := (af d_.out 2).trans rfl; have Pm : tJ.cell? ⟨iJ, 3, none⟩ = some (.int .i64 aI) := (af d_.out 3).trans rfl; have Px := ah d_.out 0; have Py := ah d_.out 1; have Pz := ah d_.out 2; have PD := ah d_.out 3))
      go_ret
      exact ⟨by rfl, by repeat ((with_reducible exact HB.out))⟩
    ·rw [if_neg c5] at H
     have BR : decide (aA ≤ (wrap64 (10000 - aH))) = false := decide_eq_false c5
     clear c5
     obtain rfl := Option.some.inj H
     go_enter Try.func128, Try.ntmps128
     go_wp2_with (((with_reducible refine aC (N := 1) rfl ?_); refine aQ ?hg (N := 1) ?hd (cs := #[.int .i64 aA, .int .i64 aJ, .int .i64 aH, .int .i64 aI]) (t := 23) ?hr ?_; (case hd => rfl); (case hg => rfl); (case hr => (go_simp; done)); intro iJ hg Vu hbox hb; have d_ := ae.mk (hbox); replace HB := ae.mk (az (by repeat ((with_reducible exact HB.out))) hb); clear hb hbox hg; have ZM : Vu.cell? ⟨iJ, 0, none⟩ = some (.int .i64 aA) := (af d_.out 0).trans rfl; have ZN : Vu.cell? ⟨iJ, 1, none⟩ = some (.int .i64 aJ) := (af d_.out 1).trans rfl; have ZO : Vu.cell? ⟨iJ, 2, none⟩ = some (.int .i64 aH) := (af d_.out 2).trans rfl; have ZP : Vu.cell? ⟨iJ, 3, none⟩ = some (.int .i64 aI) := (af d_.out 3).trans rfl; have aau := ah d_.out 0; have aav := ah d_.out 1; have aaw := ah d_.out 2; have aax := ah d_.out 3))
     go_ret
     exact ⟨by rfl, by repeat ((with_reducible exact HB.out))⟩
   ·rw [if_neg c4] at H
    have yu : decide (aH ≤ 10000) = false := decide_eq_false c4
    clear c4
    obtain rfl := Option.some.inj H
    go_enter Try.func128, Try.ntmps128
    go_wp2_with (((with_reducible refine aC (N := 1) rfl ?_); refine aQ ?hg (N := 1) ?hd (cs := #[.int .i64 aA, .int .i64 aJ, .int .i64 aH, .int .i64 aI]) (t := 23) ?hr ?_; (case hd => rfl); (case hg => rfl); (case hr => (go_simp; done)); intro iJ hg Ew hbox hb; have d_ := ae.mk (hbox); replace HB := ae.mk (az (by repeat ((with_reducible exact HB.out))) hb); clear hb hbox hg; have ZQ : Ew.cell? ⟨iJ, 0, none⟩ = some (.int .i64 aA) := (af d_.out 0).trans rfl; have ZR : Ew.cell? ⟨iJ, 1, none⟩ = some (.int .i64 aJ) := (af d_.out 1).trans rfl; have ZT : Ew.cell? ⟨iJ, 2, none⟩ = some (.int .i64 aH) := (af d_.out 2).trans rfl; have ZU : Ew.cell? ⟨iJ, 3, none⟩ = some (.int .i64 aI) := (af d_.out 3).trans rfl; have aay := ah d_.out 0; have aaz := ah d_.out 1; have aaA := ah d_.out 2; have aaB := ah d_.out 3))
    go_ret
    exact ⟨by rfl, by repeat ((with_reducible exact HB.out))⟩
  ·rw [if_neg c3] at H
   have pq : decide (1 ≤ aH) = false := decide_eq_false c3
   clear c3
   obtain rfl := Option.some.inj H
   go_enter Try.func128, Try.ntmps128
   go_wp2_with (((with_reducible refine aC (N := 1) rfl ?_); refine aQ ?hg (N := 1) ?hd (cs := #[.int .i64 aA, .int .i64 aJ, .int .i64 aH, .int .i64 aI]) (t := 23) ?hr ?_; (case hd => rfl); (case hg => rfl); (case hr => (go_simp; done)); intro iJ hg Ih hbox hb; have d_ := ae.mk (hbox); replace HB := ae.mk (az (by repeat ((with_reducible exact HB.out))) hb); clear hb hbox hg; have ZV : Ih.cell? ⟨iJ, 0, none⟩ = some (.int .i64 aA) := (af d_.out 0).trans rfl; have ZW : Ih.cell? ⟨iJ, 1, none⟩ = some (.int .i64 aJ) := (af d_.out 1).trans rfl; have ZX : Ih.cell? ⟨iJ, 2, none⟩ = some (.int .i64 aH) := (af d_.out 2).trans rfl; have ZY : Ih.cell? ⟨iJ, 3, none⟩ = some (.int .i64 aI) := (af d_.out 3).trans rfl; have aaC := ah d_.out 0; have aaD := ah d_.out 1; have aaE := ah d_.out 2; have aaF := ah d_.out 3))
   go_ret
   exact ⟨by rfl, by repeat ((with_reducible exact HB.out))⟩
 ·rw [if_neg c2] at H
  have MB : decide (0 ≤ aA) = false := decide_eq_false c2
  clear c2
  obtain rfl := Option.some.inj H
  go_enter Try.func128, Try.ntmps128
  go_wp2_with (((with_reducible refine aC (N := 1) rfl ?_); refine aQ ?hg (N := 1) ?hd (cs := #[.int .i64 aA, .int .i64 aJ, .int .i64 aH, .int .i64 aI]) (t := 23) ?hr ?_; (case hd => rfl); (case hg => rfl); (case hr => (go_simp; done)); intro iJ hg Ii hbox hb; have d_ := ae.mk (hbox); replace HB := ae.mk (az (by repeat ((with_reducible exact HB.out))) hb); clear hb hbox hg; have ZZ : Ii.cell? ⟨iJ, 0, none⟩ = some (.int .i64 aA) := (af d_.out 0).trans rfl; have Z4 : Ii.cell? ⟨iJ, 1, none⟩ = some (.int .i64 aJ) := (af d_.out 1).trans rfl; have Z5 : Ii.cell? ⟨iJ, 2, none⟩ = some (.int .i64 aH) := (af d_.out 2).trans rfl; have Z7 : Ii.cell? ⟨iJ, 3, none⟩ = some (.int .i64 aI) := (af d_.out 3).trans rfl; have aaG := ah d_.out 0; have aaH := ah d_.out 1; have aaI := ah d_.out 2; have aaJ := ah d_.out 3))
  go_ret
  exact ⟨by rfl, by repeat ((with_reducible exact HB.out))⟩
def oK.f (aA : Int) (aJ : Int) (aH : Int) (aI : Int) : Option (Bool) := if aA < 0 then (some false) else (if aA > 10000 then (some false) else (if aJ < 0 then (some false) else (if aJ > 10000 then (some false) else (if aH > 0 then (if aH ≤ 10000 then (if aI > 0 then (if aI ≤ 10000 then (if (wrap64 (aA + aH)) ≤ 10000 then (some (decide ((wrap64 (aJ + aI)) ≤ 10000))) else (some false)) else (some false)) else (some false)) else (some false)) else (some false)))))
theorem oK.calls (aA : Int) (aJ : Int) (aH : Int) (aI : Int) (r : Bool) (w : World) (h : oK.f aA aJ aH aI = some r) :
  Calls Try.prog 57 #[.agg #[.int .i64 aA, .int .i64 aJ, .int .i64 aH, .int .i64 aI]] w fun e w' => e = .returned (.bool r) ∧ Below w.heap.size w w' := by
 have NP := Try.underlying23
 have HB := ae.mk (Below.refl w.heap.size w)
 have H : (if aA < 0 then (some false) else (if aA > 10000 then (some false) else (if aJ < 0 then (some false) else (if aJ > 10000 then (some false) else (if aH > 0 then (if aH ≤ 10000 then (if aI > 0 then (if aI ≤ 10000 then (if (wrap64 (aA + aH)) ≤ 10000 then (some (decide ((wrap64 (aJ + aI)) ≤ 10000))) else (some false)) else (some false)) else (some false)) else (some false)) else (some false)))))) = some r := h
 clear h
 by_cases c2 : aA < 0
 ·rw [if_pos c2] at H
  have MB : decide (aA < 0) = true := decide_eq_true c2
  clear c2
  obtain rfl := Option.some.inj H
  go_enter Try.func57, Try.ntmps57
  go_wp2_with (((with_reducible refine aC (N := 1) rfl ?_); refine aQ ?hg (N := 1) ?hd (cs := #[.int .i64 aA, .int .i64 aJ, .int .i64 aH, .int .i64 aI]) (t := 23) ?hr ?_; (case hd => rfl); (case hg => rfl); (case hr => (go_simp; done)); intro f_ hg w3 hbox hb; have b_ := ae.mk (hbox); replace HB := ae.mk (az (by repeat ((with_reducible exact HB.out))) hb); clear hb hbox hg; have Nv : w3.cell? ⟨f_, 0, none⟩ = some (.int .i64 aA) := (af b_.out 0).trans rfl; have Nw : w3.cell? ⟨f_, 1, none⟩ = some (.int .i64 aJ) := (af b_.out 1).trans rfl; have Ny : w3.cell? ⟨f_, 2, none⟩ = some (.int .i64 aH) := (af b_.out 2).trans rfl; have Nz : w3.cell? ⟨f_, 3, none⟩ = some (.int .i64 aI) := (af b_.out 3).trans rfl; have NF := ah b_.out 0; have NG := ah b_.out 1; have NH := ah b_.out 2; have NI := ah b_.out 3))
  go_ret
  exact ⟨by rfl, by repeat ((with_reducible exact HB.out))⟩
 ·rw [if_neg c2] at H
  have MB : decide (aA < 0) = false := decide_eq_false c2
  clear c2
  by_cases c5 : aA > 10000
  ·rw [if_pos c5] at H
   have BR : decide (10000 < aA) = true := decide_eq_true c5
   clear c5
   obtain rfl := Option.some.inj H
   go_enter Try.func57, Try.ntmps57
   go_wp2_with (((with_reducible refine aC (N := 1) rfl ?_); refine aQ ?hg (N := 1) ?hd (cs := #[.int .i64 aA, .int .i64 aJ, .int .i64 aH, .int .i64 aI]) (t := 23) ?hr ?_; (case hd => rfl); (case hg => rfl); (case hr => (go_simp; done)); intro f_ hg w6 hbox hb; have b_ := ae.mk (hbox); replace HB := ae.mk (az (by repeat ((with_reducible exact HB.out))) hb); clear hb hbox hg; have adX : w6.cell? ⟨f_, 0, none⟩ = some (.int .i64 aA) := (af b_.out 0).trans rfl; have adY : w6.cell? ⟨f_, 1, none⟩ = some (.int .i64 aJ) := (af b_.out 1).trans rfl; have adZ : w6.cell? ⟨f_, 2, none⟩ = some (.int .i64 aH) := (af b_.out 2).trans rfl; have ad1 : w6.cell? ⟨f_, 3, none⟩ = some (.int .i64 aI) := (af b_.out 3).trans rfl; have aef := ah b_.out 0; have aeg := ah b_.out 1; have aeh := ah b_.out 2; have aei := ah b_.out 3))
   go_ret
   exact ⟨by rfl, by repeat ((with_reducible exact HB.out))⟩
  ·rw [if_neg c5] at H
   have BR : decide (10000 < aA) = false := decide_eq_false c5
   clear c5
   by_cases c8 : aJ < 0
   ·rw [if_pos c8] at H
    have wS : decide (aJ < 0) = true := decide_eq_true c8
    clear c8
    obtain rfl := Option.some.inj H
    go_enter Try.func57, Try.ntmps57
    go_wp2_with (((with_reducible refine aC (N := 1) rfl ?_); refine aQ ?hg (N := 1) ?hd (cs := #[.int .i64 aA, .int .i64 aJ, .int .i64 aH, .int .i64 aI]) (t := 23) ?hr ?_; (case hd => rfl); (case hg => rfl); (case hr => (go_simp; done)); intro f_ hg w9 hbox hb; have b_ := ae.mk (hbox); replace HB := ae.mk (az (by repeat ((with_reducible exact HB.out))) hb); clear hb hbox hg; have O7 : w9.cell? ⟨f_, 0, none⟩ = some (.int .i64 aA) := (af b_.out 0).trans rfl; have O8 : w9.cell? ⟨f_, 1, none⟩ = some (.int .i64 aJ) := (af b_.out 1).trans rfl; have O9 : w9.cell? ⟨f_, 2, none⟩ = some (.int .i64 aH) := (af b_.out 2).trans rfl; have O_ : w9.cell? ⟨f_, 3, none⟩ = some (.int .i64 aI) := (af b_.out 3).trans rfl; have Pn := ah b_.out 0; have Po := ah b_.out 1; have Pq := ah b_.out 2; have Pv := ah b_.out 3))
    go_ret
    exact ⟨by rfl, by repeat ((with_reducible exact HB.out))⟩
   ·rw [if_neg c8] at H
    have wS : decide (aJ < 0) = false := decide_eq_false c8
    clear c8
    by_cases c11 : aJ > 10000
    ·rw [if_pos c11] at H
     have BQ : decide (10000 < aJ) = true := decide_eq_true c11
     clear c11
     obtain rfl := Option.some.inj H
     go_enter Try.func57, Try.ntmps57
     go_wp2_with (((with_reducible refine aC (N := 1) rfl ?_); refine aQ ?hg (N := 1) ?hd (cs := #[.int .i64 aA, .int .i64 aJ, .int .i64 aH, .int .i64 aI]) (t := 23) ?hr ?_; (case hd => rfl); (case hg => rfl); (case hr => (go_simp; done)); intro f_ hg w12 hbox hb; have b_ := ae.mk (hbox); replace HB := ae.mk (az (by repeat ((with_reducible exact HB.out))) hb); clear hb hbox hg; have ZB : w12.cell? ⟨f_, 0, none⟩ = some (.int .i64 aA) := (af b_.out 0).trans rfl; have ZC : w12.cell? ⟨f_, 1, none⟩ = some (.int .i64 aJ) := (af b_.out 1).trans rfl; have ZE : w12.cell? ⟨f_, 2, none⟩ = some (.int .i64 aH) := (af b_.out 2).trans rfl; have ZF : w12.cell? ⟨f_, 3, none⟩ = some (.int .i64 aI) := (af b_.out 3).trans rfl; have aak := ah b_.out 0; have aal := ah b_.out 1; have aam := ah b_.out 2; have aan := ah b_.out 3))
     go_ret
     exact ⟨by rfl, by repeat ((with_reducible exact HB.out))⟩
    ·rw [if_neg c11] at H
     have BQ : decide (10000 < aJ) = false := decide_eq_false c11
     clear c11
     by_cases c14 : aH > 0
     ·rw [if_pos c14] at H
      have afX : decide (0 < aH) = true := decide_eq_true c14
      clear c14
      by_cases c15 : aH ≤ 10000
      ·rw [if_pos c15] at H
       have afY : decide (aH ≤ 10000) = true := decide_eq_true c15
       clear c15
       by_cases c16 : aI > 0
       ·rw [if_pos c16] at H
        have Qw : decide (0 < aI) = true := decide_eq_true c16
        clear c16
        by_cases c17 : aI ≤ 10000
        ·rw [if_pos c17] at H
         have af0 : decide (aI ≤ 10000) = true := decide_eq_true c17
         clear c17
         by_cases c18 : (wrap64 (aA + aH)) ≤ 10000
         ·rw [if_pos c18] at H
          have af1 : decide ((wrap64 (aA + aH)) ≤ 10000) = true := decide_eq_true c18
          clear c18
          obtain rfl := Option.some.inj H
          go_enter Try.func57, Try.ntmps57
          go_wp2_with (((with_reducible refine aC (N := 1) rfl ?_); refine aQ ?hg (N := 1) ?hd (cs := #[.int .i64 aA, .int .i64 aJ, .int .i64 aH, .int .i64 aI]) (t := 23) ?hr ?_; (case hd => rfl); (case hg => rfl); (case hr => (go_simp; done)); intro f_ hg Ew hbox hb; have b_ := ae.mk (hbox); replace HB := ae.mk (az (by repeat ((with_reducible exact HB.out))) hb); clear hb hbox hg; have ZQ : Ew.cell? ⟨f_, 0, none⟩ = some (.int .i64 aA) := (af b_.out 0).trans rfl; have ZR : Ew.cell? ⟨f_, 1, none⟩ = some (.int .i64 aJ) := (af b_.out 1).trans rfl; have ZT : Ew.cell? ⟨f_, 2, none⟩ = some (.int .i64 aH) := (af b_.out 2).trans rfl; have ZU : Ew.cell? ⟨f_, 3, none⟩ = some (.int .i64 aI) := (af b_.out 3).trans rfl; have aay := ah b_.out 0; have aaz := ah b_.out 1; have aaA := ah b_.out 2; have aaB := ah b_.out 3))
          go_ret
          exact ⟨by rfl, by repeat ((with_reducible exact HB.out))⟩
         ·rw [if_neg c18] at H
          have af1 : decide ((wrap64 (aA + aH)) ≤ 10000) = false := decide_eq_false c18
          clear c18
          obtain rfl := Option.some.inj H
          go_enter Try.func57, Try.ntmps57
          go_wp2_with (((with_reducible refine aC (N := 1) rfl ?_); refine aQ ?hg (N := 1) ?hd (cs := #[.int .i64 aA, .int .i64 aJ, .int .i64 aH, .int .i64 aI]) (t := 23) ?hr ?_; (case hd => rfl); (case hg => rfl); (case hr => (go_simp; done)); intro f_ hg Ih hbox hb; have b_ := ae.mk (hbox); replace HB := ae.mk (az (by repeat ((with_reducible exact HB.out))) hb); clear hb hbox hg; have ZV : Ih.cell? ⟨f_, 0, none⟩ = some (.int .i64 aA) := (af b_.out 0).trans rfl; have ZW : Ih.cell? ⟨f_, 1, none⟩ = some (.int .i64 aJ) := (af b_.out 1).trans rfl; have ZX : Ih.cell? ⟨f_, 2, none⟩ = some (.int .i64 aH) := (af b_.out 2).trans rfl; have ZY : Ih.cell? ⟨f_, 3, none⟩ = some (.int .i64 aI) := (af b_.out 3).trans rfl; have aaC := ah b_.out 0; have aaD := ah b_.out 1; have aaE := ah b_.out 2; have aaF := ah b_.out 3))
          go_ret
          exact ⟨by rfl, by repeat ((with_reducible exact HB.out))⟩
        ·rw [if_neg c17] at H
         have af0 : decide (aI ≤ 10000) = false := decide_eq_false c17
         clear c17
         obtain rfl := Option.some.inj H
         go_enter Try.func57, Try.ntmps57
         go_wp2_with (((with_reducible refine aC (N := 1) rfl ?_); refine aQ ?hg (N := 1) ?hd (cs := #[.int .i64 aA, .int .i64 aJ, .int .i64 aH, .int .i64 aI]) (t := 23) ?hr ?_; (case hd => rfl); (case hg => rfl); (case hr => (go_simp; done)); intro f_ hg Ii hbox hb; have b_ := ae.mk (hbox); replace HB := ae.mk (az (by repeat ((with_reducible exact HB.out))) hb); clear hb hbox hg; have ZZ : Ii.cell? ⟨f_, 0, none⟩ = some (.int .i64 aA) := (af b_.out 0).trans rfl; have Z4 : Ii.cell? ⟨f_, 1, none⟩ = some (.int .i64 aJ) := (af b_.out 1).trans rfl; have Z5 : Ii.cell? ⟨f_, 2, none⟩ = some (.int .i64 aH) := (af b_.out 2).trans rfl; have Z7 : Ii.cell? ⟨f_, 3, none⟩ = some (.int .i64 aI) := (af b_.out 3).trans rfl; have aaG := ah b_.out 0; have aaH := ah b_.out 1; have aaI := ah b_.out 2; have aaJ := ah b_.out 3))
         go_ret
         exact ⟨by rfl, by repeat ((with_reducible exact HB.out))⟩
       ·rw [if_neg c16] at H
        have Qw : decide (0 < aI) = false := decide_eq_false c16
        clear c16
        obtain rfl := Option.some.inj H
        go_enter Try.func57, Try.ntmps57
        go_wp2_with (((with_reducible refine aC (N := 1) rfl ?_); refine aQ ?hg (N := 1) ?hd (cs := #[.int .i64 aA, .int .i64 aJ, .int .i64 aH, .int .i64 aI]) (t := 23) ?hr ?_; (case hd => rfl); (case hg => rfl); (case hr => (go_simp; done)); intro f_ hg Vw hbox hb; have b_ := ae.mk (hbox); replace HB := ae.mk (az (by repeat ((with_reducible exact HB.out))) hb); clear hb hbox hg; have ah7 : Vw.cell? ⟨f_, 0, none⟩ = some (.int .i64 aA) := (af b_.out 0).trans rfl; have ah8 : Vw.cell? ⟨f_, 1, none⟩ = some (.int .i64 aJ) := (af b_.out 1).trans rfl; have ah9 : Vw.cell? ⟨f_, 2, none⟩ = some (.int .i64 aH) := (af b_.out 2).trans rfl; have ah_ : Vw.cell? ⟨f_, 3, none⟩ = some (.int .i64 aI) := (af b_.out 3).trans rfl; have aio := ah b_.out 0; have aip := ah b_.out 1; have aiq := ah b_.out 2; have air := ah b_.out 3))
        go_ret
        exact ⟨by rfl, by repeat ((with_reducible exact HB.out))⟩
      ·rw [if_neg c15] at H
       have afY : decide (aH ≤ 10000) = false := decide_eq_false c15
       clear c15
       obtain rfl := Option.some.inj H
       go_enter Try.func57, Try.ntmps57
       go_wp2_with (((with_reducible refine aC (N := 1) rfl ?_); refine aQ ?hg (N := 1) ?hd (cs := #[.int .i64 aA, .int .i64 aJ, .int .i64 aH, .int .i64 aI]) (t := 23) ?hr ?_; (case hd => rfl); (case hg => rfl); (case hr => (go_simp; done)); intro f_ hg Vx hbox hb; have b_ := ae.mk (hbox); replace HB := ae.mk (az (by repeat ((with_reducible exact HB.out))) hb); clear hb hbox hg; have ah' : Vx.cell? ⟨f_, 0, none⟩ = some (.int .i64 aA) := (af b_.out 0).trans rfl; have aia : Vx.cell? ⟨f_, 1, none⟩ = some (.int .i64 aJ) := (af b_.out 1).trans rfl; have aib : Vx.cell? ⟨f_, 2, none⟩ = some (.int .i64 aH) := (af b_.out 2).trans rfl; have aic : Vx.cell? ⟨f_, 3, none⟩ = some (.int .i64 aI) := (af b_.out 3).trans rfl; have ais := ah b_.out 0; have ait := ah b_.out 1; have aiu := ah b_.out 2; have aiv := ah b_.out 3))
       go_ret
       exact ⟨by rfl, by repeat ((with_reducible exact HB.out))⟩
     ·rw [if_neg c14] at H
      have afX : decide (0 < aH) = false := decide_eq_false c14
      clear c14
      obtain rfl := Option.some.inj H
      go_enter Try.func57, Try.ntmps57
      go_wp2_with (((with_reducible refine aC (N := 1) rfl ?_); refine aQ ?hg (N := 1) ?hd (cs := #[.int .i64 aA, .int .i64 aJ, .int .i64 aH, .int .i64 aI]) (t := 23) ?hr ?_; (case hd => rfl); (case hg => rfl); (case hr => (go_simp; done)); intro f_ hg J9 hbox hb; have b_ := ae.mk (hbox); replace HB := ae.mk (az (by repeat ((with_reducible exact HB.out))) hb); clear hb hbox hg; have aid : J9.cell? ⟨f_, 0, none⟩ = some (.int .i64 aA) := (af b_.out 0).trans rfl; have aie : J9.cell? ⟨f_, 1, none⟩ = some (.int .i64 aJ) := (af b_.out 1).trans rfl; have aif : J9.cell? ⟨f_, 2, none⟩ = some (.int .i64 aH) := (af b_.out 2).trans rfl; have aih : J9.cell? ⟨f_, 3, none⟩ = some (.int .i64 aI) := (af b_.out 3).trans rfl; have aiw := ah b_.out 0; have aix := ah b_.out 1; have aiy := ah b_.out 2; have aiz := ah b_.out 3))
      go_ret
      exact ⟨by rfl, by repeat ((with_reducible exact HB.out))⟩
end Go.Proofs.Ytfdmfgaiblfbhaa.P
namespace Go.Proofs.Ytfdmfgaiblfbhaa.P
open Go.RowKit Go.Proofs.ag.aW Go.Proofs.ag.dA Go.Proofs.ag.dU
theorem wq {x : Int} (h0 : -9223372036854775808 ≤ x) (h1 : x ≤ 9223372036854775807) : wrap64 x = x := by unfold wrap64; omega
theorem adt {α : Type} {c : Prop} [Decidable c] {g f : Nat → Option α} {r : α} (hc : c) (h : Ev g r) : Ev (fun k => if c then g k else f k) r := by simp only [if_pos hc]; exact h
def rZ (X Y W H : Int) : Bool := decide (0 ≤ X ∧ 1 ≤ W ∧ W ≤ 10000 ∧ X + W ≤ 10000 ∧ 0 ≤ Y ∧ 1 ≤ H ∧ H ≤ 10000 ∧ Y + H ≤ 10000)
theorem PL {X Y W H : Int} : rZ X Y W H = true ↔ (0 ≤ X ∧ 1 ≤ W ∧ W ≤ 10000 ∧ X + W ≤ 10000 ∧ 0 ≤ Y ∧ 1 ≤ H ∧ H ≤ 10000 ∧ Y + H ≤ 10000) := by unfold rZ; rw [decide_eq_true_iff]
theorem NW (X Y W H : Int) : wZ.f X Y W H = some (rZ X Y W H) := by
 unfold wZ.f rZ
 by_cases h1 : X ≥ 0
 ·by_cases h2 : W ≥ 1
  ·by_cases h3 : W ≤ 10000
   ·rw [if_pos h1, if_pos h2, if_pos h3, wq (x := 10000 - W) (by omega) (by omega)]
    by_cases h4 : X ≤ 10000 - W
    ·rw [if_pos h4]
     by_cases h5 : Y ≥ 0
     ·by_cases h6 : H ≥ 1
      ·by_cases h7 : H ≤ 10000
       ·rw [if_pos h5, if_pos h6, if_pos h7, wq (x := 10000 - H) (by omega) (by omega)]
        congr 1
        rw [decide_eq_decide]
        omega
       ·rw [if_pos h5, if_pos h6, if_neg h7, decide_eq_false (by omega)]
      ·rw [if_pos h5, if_neg h6, decide_eq_false (by omega)]
     ·rw [if_neg h5, decide_eq_false (by omega)]
    ·rw [if_neg h4, decide_eq_false (by omega)]
   ·rw [if_pos h1, if_pos h2, if_neg h3, decide_eq_false (by omega)]
  ·rw [if_pos h1, if_neg h2, decide_eq_false (by omega)]
 ·rw [if_neg h1, decide_eq_false (by omega)]
theorem Fj (X Y W H : Int) : oK.f X Y W H = some (rZ X Y W H) := by
 unfold oK.f rZ
 by_cases h1 : X < 0
 ·rw [if_pos h1, decide_eq_false (by omega)]
 ·rw [if_neg h1]
  by_cases h2 : X > 10000
  ·rw [if_pos h2, decide_eq_false (by omega)]
  ·rw [if_neg h2]
   by_cases h3 : Y < 0
   ·rw [if_pos h3, decide_eq_false (by omega)]
   ·rw [if_neg h3]
    by_cases h4 : Y > 10000
    ·rw [if_pos h4, decide_eq_false (by omega)]
    ·rw [if_neg h4]
     by_cases h5 : W > 0
     ·by_cases h6 : W ≤ 10000
      ·by_cases h7 : H > 0
       ·by_cases h8 : H ≤ 10000
        ·rw [if_pos h5, if_pos h6, if_pos h7, if_pos h8, wq (x := X + W) (by omega) (by omega), wq (x := Y + H) (by omega) (by omega)]
         by_cases h9 : X + W ≤ 10000
         ·rw [if_pos h9]
          congr 1
          rw [decide_eq_decide]
          omega
         ·rw [if_neg h9, decide_eq_false (by omega)]
        ·rw [if_pos h5, if_pos h6, if_pos h7, if_neg h8, decide_eq_false (by omega)]
       ·rw [if_pos h5, if_pos h6, if_neg h7, decide_eq_false (by omega)]
      ·rw [if_pos h5, if_neg h6, decide_eq_false (by omega)]
     ·rw [if_neg h5, decide_eq_false (by omega)]
def n_ (r : dW) : Bool := rZ r.f0 r.f1 r.f2 r.f3
end Go.Proofs.Ytfdmfgaiblfbhaa.P
namespace Go.Proofs.Ytfdmfgaiblfbhaa.P
open Go.RowKit Go.Proofs.ag.aW Go.Proofs.ag.dA Go.Proofs.ag.dU
attribute [local go_sem] kM kZ lN l7 kz kC kY lg
mutual
def dS.l0 : Nat → Int → Int → Int → Int → Int → Int → Int → Int → Int → Int → List (ai) → Option (Int)
 | 0, _, _, _, _, _, _, _, _, _, _, _ => none
 | k + 1, x1, x5, x9, x10, abw, abx, aby, abz, abA, abB, sW => if x10 < x9 then (if x5 > x1 then (some x5) else (if 0 ≤ x10 then (if x10 < (sW.length : Int) then ((dS.f k ((aG sW x10).f0) ((aG sW x10).f1.f0) ((aG sW x10).f1.f1) ((aG sW x10).f1.f2) ((aG sW x10).f1.f3) ((aG sW x10).f2) ((aG sW x10).f3) x1).bind fun t103 => (dS.l0 k x1 (wrap64 (x5 + t103)) x9 (wrap64 (x10 + 1)) abw abx aby abz abA abB sW)) else (none)) else (none))) else (some x5)
def dS.f : Nat → Int → Int → Int → Int → Int → Int → List (ai) → Int → Option (Int)
 | 0, _, _, _, _, _, _, _, _ => none
 | k + 1, aA, aJ, aH, aI, bI, bJ, aK, a1 => dS.l0 k a1 1 (aK.length : Int) 0 aA aJ aH aI bI bJ aK
end
theorem dS.calls (k : Nat) : ∀ (aA : Int) (aJ : Int) (aH : Int) (aI : Int) (bI : Int) (bJ : Int) (eQ : Option Addr) (eU : Nat) (aK : List (ai)) (a1 : Int) (r : Int) (w : World) (pR : Kd.C k26 w eQ aK.length aK) (qH : aK.length ≤ eU) (h : dS.f k aA aJ aH aI bI bJ aK a1 = some r),
  Calls Try.prog 124 #[.agg #[.int .u8 aA, .int .i64 aJ, .int .i64 aH, .int .i64 aI, .int .i64 bI, .int .i64 bJ, .slice eQ aK.length eU], .int .i64 a1] w fun e w' => e = .returned (.int .i64 r) ∧ Below w.heap.size w w' := by
 induction k using Nat.strongRecOn with
 | _ k ih =>
 intro aA aJ aH aI bI bJ eQ eU aK a1 r w pR qH h
 cases k with
 | zero => exact absurd h (by simp [dS.f])
 | succ k =>
 simp only [dS.f] at h
 have I8 := Try.underlying26
 have Qk := ae.mk pR
 clear pR qH
 have HB := ae.mk (Below.refl w.heap.size w)
 have H : (dS.l0 k a1 1 (aK.length : Int) 0 aA aJ aH aI bI bJ aK) = some r := h
 clear h
 have H' := ae.mk H
 clear H
 go_enter Try.func124, Try.ntmps124
 go_wp2_with (((with_reducible refine aC (N := 2) rfl ?_); refine aQ ?hg (N := 2) ?hd (cs := #[.int .u8 aA, .int .i64 aJ, .int .i64 aH, .int .i64 aI, .int .i64 bI, .int .i64 bJ, .slice eQ aK.length eU]) (t := 26) ?hr ?_; (case hd => rfl); (case hg => rfl); (case hr => (go_simp; done)); intro qG hg w3 hbox hb; have ji := ae.mk (hbox); replace HB := ae.mk (az (by repeat ((with_reducible exact HB.out))) hb); clear hb hbox hg; have Nv : w3.cell? ⟨qG, 0, none⟩ = some (.int .u8 aA) := (af ji.out 0).trans rfl; have Nw : w3.cell? ⟨qG, 1, none⟩ = some (.int .i64 aJ) := (af ji.out 1).trans rfl; have Ny : w3.cell? ⟨qG, 2, none⟩ = some (.int .i64 aH) := (af ji.out 2).trans rfl; have Nz : w3.cell? ⟨qG, 3, none⟩ = some (.int .i64 aI) := (af ji.out 3).trans rfl; have TK : w3.cell? ⟨qG, 4, none⟩ = some (.int .i64 bI) := (af ji.out 4).trans rfl; have TL : w3.cell? ⟨qG, 5, none⟩ = some (.int .i64 bJ) := (af ji.out 5).trans rfl; have TM : w3.cell? ⟨qG, 6, none⟩ = some (.slice eQ aK.length eU) := (af ji.out 6).trans rfl; have NF := ah ji.out 0; have NG := ah ji.out 1; have NH := ah ji.out 2; have NI := ah ji.out 3; have Ud := ah ji.out 4; have Ue := ah ji.out 5; have Uf := ah ji.out 6))
 go_loopg [5, 10] k (fun kq v5 v10 w' => ∃ (lM : Int) (fB : Int), v5 = .int .i64 lM ∧ v10 = .int .i64 fB ∧ ae (dS.l0 kq a1 lM (aK.length : Int) fB aA aJ aH aI bI bJ aK = some r) ∧ ae (kq ≤ k) ∧ ae (w'.heap[qG]? = some (.cells #[.int .u8 aA, .int .i64 aJ, .int .i64 aH, .int .i64 aI, .int .i64 bI, .int .i64 bJ, (.slice eQ aK.length eU)] 26 (0, 0))) ∧ ae (Below w.heap.size w w'))
 case atStart => exact ⟨(1), (0), (by rfl), (by rfl), H', ⟨Nat.le_refl _⟩, ⟨by exact ji.out⟩, ⟨by repeat ((with_reducible exact HB.out))⟩⟩
 case round =>
  clear H'
  clear Nv Nw Ny Nz TK TL TM NF NG NH NI Ud Ue Uf
  obtain ⟨lM, fB, rfl, rfl, HA, mf, ji, HB⟩ := hrel
  cases gk with
  | zero => exact absurd HA.out (by simp [dS.l0])
  | succ k1 =>
   have H := HA.out
   clear HA
   simp only [dS.l0] at H
   by_cases c5 : fB < (aK.length : Int)
   ·rw [if_pos c5] at H
    have BR : decide (fB < (aK.length : Int)) = true := decide_eq_true c5
    clear c5
    by_cases c6 : lM > a1
    ·rw [if_pos c6] at H
     have vP : decide (a1 < lM) = true := decide_eq_true c6
     clear c6
     obtain rfl := Option.some.inj H
     go_wp2
     go_ret
     exact ⟨by rfl, by repeat ((with_reducible exact HB.out))⟩
    ·rw [if_neg c6] at H
     have vP : decide (a1 < lM) = false := decide_eq_false c6
     clear c6
     by_cases c7 : 0 ≤ fB
     ·rw [if_pos c7] at H
      have rU : decide (0 ≤ fB) = true := decide_eq_true c7
      clear c7
      by_cases c8 : fB < (aK.length : Int)
      ·rw [if_pos c8] at H
       have wS : decide (fB < (aK.length : Int)) = true := decide_eq_true c8
       clear c8
       replace H := Option.bind_eq_some_iff.mp H
       obtain ⟨t103, RJ, H⟩ := H
       replace H : (dS.l0 k1 a1 (wrap64 (lM + t103)) (aK.length : Int) (wrap64 (fB + 1)) aA aJ aH aI bI bJ aK) = some r := H
       have A9 := ae.mk RJ
       clear RJ
       have H' := ae.mk H
       clear H
       have O7 : wr.cell? ⟨qG, 0, none⟩ = some (.int .u8 aA) := (af ji.out 0).trans rfl
       have O8 : wr.cell? ⟨qG, 1, none⟩ = some (.int .i64 aJ) := (af ji.out 1).trans rfl
       have O9 : wr.cell? ⟨qG, 2, none⟩ = some (.int .i64 aH) := (af ji.out 2).trans rfl
       have O_ : wr.cell? ⟨qG, 3, none⟩ = some (.int .i64 aI) := (af ji.out 3).trans rfl
       have ah1 : wr.cell? ⟨qG, 4, none⟩ = some (.int .i64 bI) := (af ji.out 4).trans rfl
       have ah2 : wr.cell? ⟨qG, 5, none⟩ = some (.int .i64 bJ) := (af ji.out 5).trans rfl
       have ah3 : wr.cell? ⟨qG, 6, none⟩ = some (.slice eQ aK.length eU) := (af ji.out 6).trans rfl
       have Pn := ah ji.out 0
       have Po := ah ji.out 1
       have Pq := ah ji.out 2
       have Pv := ah ji.out 3
       have aii := ah ji.out 4
       have aij := ah ji.out 5
       have aik := ah ji.out 6
       have Xr : 0 ≤ (fB : Int) := of_decide_eq_true (by (with_reducible assumption))
       have Xw : fB < (aK.length : Int) := of_decide_eq_true (by (with_reducible assumption))
       obtain ⟨akG, abO, acR, ahj, I9, I_, Ja, Jb, Jc, Jd, Je, PG, PE⟩ := rQ Qk.out fB Xr Xw
       cases ahj
       replace I9 := (HB.out.cell (World.block_lt_of_cell? w _ I9)).trans I9
       replace I_ := (HB.out.cell (World.block_lt_of_cell? w _ I_)).trans I_
       replace Ja := (HB.out.cell (World.block_lt_of_cell? w _ Ja)).trans Ja
       replace Jb := (HB.out.cell (World.block_lt_of_cell? w _ Jb)).trans Jb
       replace Jc := (HB.out.cell (World.block_lt_of_cell? w _ Jc)).trans Jc
       replace Jd := (HB.out.cell (World.block_lt_of_cell? w _ Jd)).trans Jd
       replace Je := (HB.out.cell (World.block_lt_of_cell? w _ Je)).trans Je
       have Y7 := ae.mk PE
       have Y6 := ae.mk PG
       clear PE PG
       replace Xr := eq_true Xr
       replace Xw := eq_true Xw
       go_wp2_with (((with_reducible refine gW (f := 124) rfl ?_); refine jL (some 24) rfl rfl Try.func124 (by kernel_rfl) rfl #[.agg #[.int .u8 ((aG aK fB).f0), .int .i64 ((aG aK fB).f1.f0), .int .i64 ((aG aK fB).f1.f1), .int .i64 ((aG aK fB).f1.f2), .int .i64 ((aG aK fB).f1.f3), .int .i64 ((aG aK fB).f2), .slice abO ((aG aK fB).f3).length acR], .int .i64 a1] rfl (by (try simp only [List.map_toArray, List.map_cons, List.map_nil]); rfl) ?_; (with_reducible refine (ih k1 (by have := mf.out; omega) ((aG aK fB).f0) ((aG aK fB).f1.f0) ((aG aK fB).f1.f1) ((aG aK fB).f1.f2) ((aG aK fB).f1.f3) ((aG aK fB).f2) _ _ ((aG aK fB).f3) a1 t103 _ ?mD ?o8 A9.out).mono ?_); (case mD => repeat (exact (Kd.fC Y7.out HB.out))); (case o8 => exact Y6.out); rintro e Aw ⟨rfl, hb⟩; refine ⟨_, rfl, ?_⟩; replace ji := ae.mk (aV ji.out hb); replace HB := ae.mk (az (by repeat ((with_reducible exact HB.out))) hb); (try clear hb)))
       go_roundg k1
       case measure => have := mf.out; omega
       case rel => exact ⟨(wrap64 (lM + t103)), (wrap64 (fB + 1)), (by rfl), (by rfl), H', ⟨by have := mf.out; omega⟩, ⟨by exact ji.out⟩, ⟨by repeat ((with_reducible exact HB.out))⟩⟩
      ·rw [if_neg c8] at H
       exact absurd H (by simp)
     ·rw [if_neg c7] at H
      exact absurd H (by simp)
   ·rw [if_neg c5] at H
    have BR : decide (fB < (aK.length : Int)) = false := decide_eq_false c5
    clear c5
    obtain rfl := Option.some.inj H
    go_wp2
    go_ret
    exact ⟨by rfl, by repeat ((with_reducible exact HB.out))⟩
def jA.f (k : Nat) (aA : Int) (aJ : Int) (aH : Int) (aI : Int) (bI : Int) (bJ : Int) (aK : List (ai)) : Option (Bool) := (dS.f k aA aJ aH aI bI bJ aK 200).bind fun t105 => (some (decide (t105 > 200)))
theorem jA.calls (k : Nat) (aA : Int) (aJ : Int) (aH : Int) (aI : Int) (bI : Int) (bJ : Int) (eQ : Option Addr) (eU : Nat) (aK : List (ai)) (r : Bool) (w : World) (pR : Kd.C k26 w eQ aK.length aK) (qH : aK.length ≤ eU) (h : jA.f k aA aJ aH aI bI bJ aK = some r) :
  Calls Try.prog 34 #[.agg #[.int .u8 aA, .int .i64 aJ, .int .i64 aH, .int .i64 aI, .int .i64 bI, .int .i64 bJ, .slice eQ aK.length eU]] w fun e w' => e = .returned (.bool r) ∧ Below w.heap.size w w' := by
 have I8 := Try.underlying26
 have Qk := ae.mk pR
 have afk := ae.mk qH
 clear pR qH
 have HB := ae.mk (Below.refl w.heap.size w)
 have H : ((dS.f k aA aJ aH aI bI bJ aK 200).bind fun t105 => (some (decide (t105 > 200)))) = some r := h
 clear h
 replace H := Option.bind_eq_some_iff.mp H
 obtain ⟨t105, JG, H⟩ := H
 replace H : (some (decide (t105 > 200))) = some r := H
 have A2 := ae.mk JG
 clear JG
 obtain rfl := Option.some.inj H
 go_enter Try.func34, Try.ntmps34
 go_wp2_with (first | ((with_reducible refine aC (N := 1) rfl ?_); refine aQ ?hg (N := 1) ?hd (cs := #[.int .u8 aA, .int .i64 aJ, .int .i64 aH, .int .i64 aI, .int .i64 bI, .int .i64 bJ, .slice eQ aK.length eU]) (t := 26) ?hr ?_; (case hd => rfl); (case hg => rfl); (case hr => (go_simp; done)); intro CO hg w3 hbox hb; have pG := ae.mk (hbox); replace HB := ae.mk (az (by repeat ((with_reducible exact HB.out))) hb); clear hb hbox hg; have Nv : w3.cell? ⟨CO, 0, none⟩ = some (.int .u8 aA) := (af pG.out 0).trans rfl; have Nw : w3.cell? ⟨CO, 1, none⟩ = some (.int .i64 aJ) := (af pG.out 1).trans rfl; have Ny : w3.cell? ⟨CO, 2, none⟩ = some (.int .i64 aH) := (af pG.out 2).trans rfl; have Nz : w3.cell? ⟨CO, 3, none⟩ = some (.int .i64 aI) := (af pG.out 3).trans rfl; have TK : w3.cell? ⟨CO, 4, none⟩ = some (.int .i64 bI) := (af pG.out 4).trans rfl; have TL : w3.cell? ⟨CO, 5, none⟩ = some (.int .i64 bJ) := (af pG.out 5).trans rfl; have TM : w3.cell? ⟨CO, 6, none⟩ = some (.slice eQ aK.length eU) := (af pG.out 6).trans rfl; have NF := ah pG.out 0; have NG := ah pG.out 1; have NH := ah pG.out 2; have NI := ah pG.out 3; have Ud := ah pG.out 4; have Ue := ah pG.out 5; have Uf := ah pG.out 6) | ((with_reducible refine gW (f := 124) rfl ?_); refine jL (some 4) rfl rfl Try.func124 (by kernel_rfl) rfl #[.agg #[.int .u8 aA, .int .i64 aJ, .int .i64 aH, .int .i64 aI, .int .i64 bI, .int .i64 bJ, .slice eQ aK.length eU], .int .i64 200] rfl (by (try simp only [List.map_toArray, List.map_cons, List.map_nil]); rfl) ?_; (with_reducible refine (dS.calls k aA aJ aH aI bI bJ _ _ aK 200 t105 _ ?mD ?o8 A2.out).mono ?_); (case mD => repeat (exact (Kd.fC Qk.out HB.out))); (case o8 => exact afk.out); rintro e w5 ⟨rfl, hb⟩; refine ⟨_, rfl, ?_⟩; replace pG := ae.mk (aV pG.out hb); replace HB := ae.mk (az (by repeat ((with_reducible exact HB.out))) hb); (try clear hb)))
 go_ret
 exact ⟨by rfl, by repeat ((with_reducible exact HB.out))⟩
mutual
def dY.l0 : Nat → List (ai) → Int → Int → Int → Int → Int → Int → Int → Int → List (ai) → Option ((List (ai)))
 | 0, _, _, _, _, _, _, _, _, _, _ => none
 | k + 1, x3, x9, x10, abC, abD, abE, abG, abH, abI, sZ => if x10 < x9 then (if 0 ≤ x10 then (if x10 < (sZ.length : Int) then ((dY.f k ((aG sZ x10).f0) ((aG sZ x10).f1.f0) ((aG sZ x10).f1.f1) ((aG sZ x10).f1.f2) ((aG sZ x10).f1.f3) ((aG sZ x10).f2) ((aG sZ x10).f3)).bind fun t136 => (if x3.length + t136.length < 1954687338268 then (dY.l0 k (x3 ++ t136) x9 (wrap64 (x10 + 1)) abC abD abE abG abH abI sZ) else (none))) else (none)) else (none)) else (some x3)
def dY.f : Nat → Int → Int → Int → Int → Int → Int → List (ai) → Option ((List (ai)))
 | 0, _, _, _, _, _, _, _ => none
 | k + 1, aA, aJ, aH, aI, bI, bJ, aK => dY.l0 k (([(⟨aA, (⟨aJ, aH, aI, bI⟩ : dW), bJ, aK⟩ : ai)] : List (ai))) (aK.length : Int) 0 aA aJ aH aI bI bJ aK
end
theorem dY.calls (k : Nat) : ∀ (aA : Int) (aJ : Int) (aH : Int) (aI : Int) (bI : Int) (bJ : Int) (gq : Nat → Prop) (eQ : Option Addr) (eU : Nat) (aK : List (ai)) (r : List (ai)) (w : World) (EP : Kd.V k26 26 w w.heap.size (fun k_ => gq k_) (.slice eQ aK.length eU) aK) (h : dY.f k aA aJ aH aI bI bJ aK = some r),
  Calls Try.prog 79 #[.agg #[.int .u8 aA, .int .i64 aJ, .int .i64 aH, .int .i64 aI, .int .i64 bI, .int .i64 bJ, .slice eQ aK.length eU]] w fun e w' => ∃ o_ : Value, e = .returned (o_) ∧ Kd.N k26 26 w' w.heap.size (fun k_ => (gq k_ ∨ w.heap.size ≤ k_)) o_ r ∧ Below w.heap.size w w' := by
 induction k using Nat.strongRecOn with
 | _ k ih =>
 intro aA aJ aH aI bI bJ gq eQ eU aK r w EP h
 cases k with
 | zero => exact absurd h (by simp [dY.f])
 | succ k =>
 simp only [dY.f] at h
 have I8 := Try.underlying26
 have jH := ae.mk (show Kd.V k26 26 w w.heap.size (fun k_ => (gq k_ ∨ w.heap.size ≤ k_)) (.slice eQ aK.length eU) aK from Kd.ik EP (fun k_ hk => .inl hk))
 have HB := ae.mk (Below.refl w.heap.size w)
 have H : (dY.l0 k (([(⟨aA, (⟨aJ, aH, aI, bI⟩ : dW), bJ, aK⟩ : ai)] : List (ai))) (aK.length : Int) 0 aA aJ aH aI bI bJ aK) = some r := h
 clear h
 obtain ⟨afa, QM⟩ : ∃ y_ : List (ai), y_ = (([(⟨aA, (⟨aJ, aH, aI, bI⟩ : dW), bJ, aK⟩ : ai)] : List (ai))) := ⟨_, rfl⟩
 replace H : (dY.l0 k afa (aK.length : Int) 0 aA aJ aH aI bI bJ aK) = some r := by (rw [QM]; with_reducible exact H)
 have afw := ae.mk QM
 clear QM
 have H' := ae.mk H
 clear H
 go_enter Try.func79, Try.ntmps79
 go_wp2_with (first | ((with_reducible refine aC (N := 1) rfl ?_); refine aQ ?hg (N := 1) ?hd (cs := #[.int .u8 aA, .int .i64 aJ, .int .i64 aH, .int .i64 aI, .int .i64 bI, .int .i64 bJ, .slice eQ aK.length eU]) (t := 26) ?hr ?_; (case hd => rfl); (case hg => rfl); (case hr => (go_simp; done)); intro iQ hg w2 hbox hb; have fO := ae.mk (hbox); replace jH := ae.mk (Kd.jQ (Kd.nO jH.out iQ (Nat.le_of_eq hg.symm)) hb); replace HB := ae.mk (az (by repeat ((with_reducible exact HB.out))) hb); clear hb hbox hg; have adM : w2.cell? ⟨iQ, 0, none⟩ = some (.int .u8 aA) := (af fO.out 0).trans rfl; have adN : w2.cell? ⟨iQ, 1, none⟩ = some (.int .i64 aJ) := (af fO.out 1).trans rfl; have adO : w2.cell? ⟨iQ, 2, none⟩ = some (.int .i64 aH) := (af fO.out 2).trans rfl; have adP : w2.cell? ⟨iQ, 3, none⟩ = some (.int .i64 aI) := (af fO.out 3).trans rfl; have adQ : w2.cell? ⟨iQ, 4, none⟩ = some (.int .i64 bI) := (af fO.out 4).trans rfl; have adR : w2.cell? ⟨iQ, 5, none⟩ = some (.int .i64 bJ) := (af fO.out 5).trans rfl; have adS : w2.cell? ⟨iQ, 6, none⟩ = some (.slice eQ aK.length eU) := (af fO.out 6).trans rfl; have ad5 := ah fO.out 0; have ad6 := ah fO.out 1; have ad7 := ah fO.out 2; have ad8 := ah fO.out 3; have ad9 := ah fO.out 4; have ad_ := ah fO.out 5; have aea := ah fO.out 6) | ((with_reducible refine aC (N := 6) rfl ?_); refine Kd.yF k26 _ 26 ?hg (N' := 6) ?hd (xs := ([(⟨aA, (⟨aJ, aH, aI, bI⟩ : dW), bJ, aK⟩ : ai)] : List (ai))) (inner := [.int .u8 aA, .int .i64 aJ, .int .i64 aH, .int .i64 aI, .int .i64 bI, .int .i64 bJ, .slice eQ aK.length eU]) (ok := (fun k_ => (gq k_ ∨ w.heap.size ≤ k_) ∧ k_ ≠ iQ)) (gm := (fun k_ => (gq k_ ∨ w.heap.size ≤ k_) ∧ k_ ≠ iQ)) ?hr ?hp (fun _ hk => hk) ((show ∀ k_, w2.heap.size ≤ k_ → (fun k_ => (gq k_ ∨ w.heap.size ≤ k_) ∧ k_ ≠ iQ) k_ from fun k_ hk => ⟨(.inr (Nat.le_trans (cO (by repeat ((with_reducible exact HB.out)))) hk)), Kd.y9 fO.out k_ hk⟩) _ (Nat.le_refl _)) (Below.refl _ _) (Nat.le_refl _) (by simp) ?_; (case hd => rfl); (case hg => rfl); (case hr => (go_simp; done)); (case hp => exact (bT.c7 (show Kd.FK k26 _ _ (⟨aA, (⟨aJ, aH, aI, bI⟩ : dW), bJ, aK⟩ : ai) [.int .u8 aA, .int .i64 aJ, .int .i64 aH, .int .i64 aI, .int .i64 bI, .int .i64 bJ, .slice eQ aK.length eU] from (qh _ _ (⟨aA, (⟨aJ, aH, aI, bI⟩ : dW), bJ, aK⟩ : ai) (Kd.jY (Kd.ik (ok' := (fun k_ => (gq k_ ∨ w.heap.size ≤ k_) ∧ k_ ≠ iQ)) (jH.out) (fun k_ hk => ⟨hk.1, hk.2⟩))).2.1 (Kd.OT (Kd.ik (ok' := (fun k_ => (gq k_ ∨ w.heap.size ≤ k_) ∧ k_ ≠ iQ)) (jH.out) (fun k_ hk => ⟨hk.1, hk.2⟩))))) (bT.none _ _))); intro alI w4 Bl hb lh iG; clear lh iG; (rw [← afw.out] at Bl); have afl := ae.mk (Kd.wO Bl (cO (by repeat ((with_reducible exact HB.out))))); replace jH := ae.mk (Kd.wP jH.out (Kd.t_ Bl) hb); replace fO := ae.mk (aV fO.out hb); replace HB := ae.mk (az (by repeat ((with_reducible exact HB.out))) hb); clear hb Bl; have DK : w4.cell? ⟨iQ, 0, none⟩ = some (.int .u8 aA) := (af fO.out 0).trans rfl; have DL : w4.cell? ⟨iQ, 1, none⟩ = some (.int .i64 aJ) := (af fO.out 1).trans rfl; have DN : w4.cell? ⟨iQ, 2, none⟩ = some (.int .i64 aH) := (af fO.out 2).trans rfl; have DR : w4.cell? ⟨iQ, 3, none⟩ = some (.int .i64 aI) := (af fO.out 3).trans rfl; have DT : w4.cell? ⟨iQ, 4, none⟩ = some (.int .i64 bI) := (af fO.out 4).trans rfl; have DU : w4.cell? ⟨iQ, 5, none⟩ = some (.int .i64 bJ) := (af fO.out 5).trans rfl; have DV : w4.cell? ⟨iQ, 6, none⟩ = some (.slice eQ aK.length eU) := (af fO.out 6).trans rfl; have DW := ah fO.out 0; have DX := ah fO.out 1; have DY := ah fO.out 2; have DZ := ah fO.out 3; have D5 := ah fO.out 4; have D6 := ah fO.out 5; have D7 := ah fO.out 6))
 go_loopg [3, 10] k (fun kq v3 v10 w' => ∃ (tY : List (ai)) (fB : Int), v10 = .int .i64 fB ∧ ae (dY.l0 kq tY (aK.length : Int) fB aA aJ aH aI bI bJ aK = some r) ∧ ae (kq ≤ k) ∧ ae (Kd.N k26 26 w' w.heap.size (fun k_ => (gq k_ ∨ w.heap.size ≤ k_) ∧ k_ ≠ iQ) v3 tY) ∧ ae (Kd.V k26 26 w' w.heap.size (fun k_ => (gq k_ ∨ w.heap.size ≤ k_) ∧ some k_ ≠ (v3 : Value).ownBlock ∧ k_ ≠ iQ) (.slice eQ aK.length eU) aK) ∧ ae (w'.heap[iQ]? = some (.cells #[.int .u8 aA, .int .i64 aJ, .int .i64 aH, .int .i64 aI, .int .i64 bI, .int .i64 bJ, (.slice eQ aK.length eU)] 26 (0, 0))) ∧ ae (Below w.heap.size w w'))
 case atStart => exact ⟨(afa), (0), (by rfl), H', ⟨Nat.le_refl _⟩, ⟨by exact afl.out⟩, ⟨by exact Kd.ik jH.out (fun _ hk => ⟨hk.1.1, ⟨hk.2, hk.1.2⟩⟩)⟩, ⟨by exact fO.out⟩, ⟨by repeat ((with_reducible exact HB.out))⟩⟩
 case round =>
  clear H'
  clear adM adN adO adP adQ adR adS DK DL DN DR DT DU DV ad5 ad6 ad7 ad8 ad9 ad_ aea DW DX DY DZ D5 D6 D7
  obtain ⟨tY, fB, rfl, HA, mf, wM, rJ, fO, HB⟩ := hrel
  cases gk with
  | zero => exact absurd HA.out (by simp [dY.l0])
  | succ k1 =>
   have H := HA.out
   clear HA
   simp only [dY.l0] at H
   by_cases c7 : fB < (aK.length : Int)
   ·rw [if_pos c7] at H
    have rU : decide (fB < (aK.length : Int)) = true := decide_eq_true c7
    clear c7
    by_cases c8 : 0 ≤ fB
    ·rw [if_pos c8] at H
     have wS : decide (0 ≤ fB) = true := decide_eq_true c8
     clear c8
     by_cases c9 : fB < (aK.length : Int)
     ·rw [if_pos c9] at H
      have MF : decide (fB < (aK.length : Int)) = true := decide_eq_true c9
      clear c9
      replace H := Option.bind_eq_some_iff.mp H
      obtain ⟨t136, abN, H⟩ := H
      replace H : (if tY.length + t136.length < 1954687338268 then (dY.l0 k1 (tY ++ t136) (aK.length : Int) (wrap64 (fB + 1)) aA aJ aH aI bI bJ aK) else (none)) = some r := H
      have X6 := ae.mk abN
      clear abN
      by_cases c11 : tY.length + t136.length < 1954687338268
      ·rw [if_pos c11] at H
       have afu := ae.mk c11
       clear c11
       obtain ⟨afb, QN⟩ : ∃ y_ : List (ai), y_ = (tY ++ t136) := ⟨_, rfl⟩
       replace H : (dY.l0 k1 afb (aK.length : Int) (wrap64 (fB + 1)) aA aJ aH aI bI bJ aK) = some r := by (rw [QN]; with_reducible exact H)
       have afx := ae.mk QN
       clear QN
       have H' := ae.mk H
       clear H
       have Zx : wr.cell? ⟨iQ, 0, none⟩ = some (.int .u8 aA) := (af fO.out 0).trans rfl
       have Zy : wr.cell? ⟨iQ, 1, none⟩ = some (.int .i64 aJ) := (af fO.out 1).trans rfl
       have Zz : wr.cell? ⟨iQ, 2, none⟩ = some (.int .i64 aH) := (af fO.out 2).trans rfl
       have ZA : wr.cell? ⟨iQ, 3, none⟩ = some (.int .i64 aI) := (af fO.out 3).trans rfl
       have ah4 : wr.cell? ⟨iQ, 4, none⟩ = some (.int .i64 bI) := (af fO.out 4).trans rfl
       have ah5 : wr.cell? ⟨iQ, 5, none⟩ = some (.int .i64 bJ) := (af fO.out 5).trans rfl
       have ah6 : wr.cell? ⟨iQ, 6, none⟩ = some (.slice eQ aK.length eU) := (af fO.out 6).trans rfl
       have aag := ah fO.out 0
       have aah := ah fO.out 1
       have aai := ah fO.out 2
       have aaj := ah fO.out 3
       have ail := ah fO.out 4
       have aim := ah fO.out 5
       have ain := ah fO.out 6
       have Q3 : 0 ≤ (fB : Int) := of_decide_eq_true (by (with_reducible assumption))
       have Q7 : fB < (aK.length : Int) := of_decide_eq_true (by (with_reducible assumption))
       obtain ⟨akH, abP, acS, ahk, aiA, aiB, aiC, aiD, aiE, aiF, aaO, aaM, aaK⟩ := rQ (Kd.jY rJ.out).2.2 fB Q3 Q7
       cases ahk
       obtain ⟨akM, adK, adH, TI⟩ := Kd.afM rJ.out z26 fB Q3 Q7
       obtain ⟨aiO, aiQ, rfl, Jo, IJ⟩ := nI adH
       have ER := TI 6 _ rfl
       rw [kP _ _ 6 (by omega)] at ER
       replace ER := Option.some.inj (ER.symm.trans aaO)
       injection ER with zg F6 zh
       rw [zg] at IJ
       rw [zh] at Jo
       have AZ := ae.mk (show Kd.V k26 26 _ w.heap.size _ _ ((aG aK fB).f3) from Kd.uJ Jo IJ)
       clear zg F6 zh IJ Jo
       clear TI adK
       clear aaK aaM
       replace Q3 := eq_true Q3
       replace Q7 := eq_true Q7
       go_wp2_with (first | ((with_reducible refine gW (f := 79) rfl ?_); refine jL (some 19) rfl rfl Try.func79 (by kernel_rfl) rfl #[.agg #[.int .u8 ((aG aK fB).f0), .int .i64 ((aG aK fB).f1.f0), .int .i64 ((aG aK fB).f1.f1), .int .i64 ((aG aK fB).f1.f2), .int .i64 ((aG aK fB).f1.f3), .int .i64 ((aG aK fB).f2), .slice abP ((aG aK fB).f3).length acS]] rfl (by (try simp only [List.map_toArray, List.map_cons, List.map_nil]); rfl) ?_; (with_reducible refine (ih k1 (by have := mf.out; omega) ((aG aK fB).f0) ((aG aK fB).f1.f0) ((aG aK fB).f1.f1) ((aG aK fB).f1.f2) ((aG aK fB).f1.f3) ((aG aK fB).f2) (fun k_ => ((gq k_ ∨ w.heap.size ≤ k_) ∧ (some k_ ≠ (u3 : Value).ownBlock ∧ k_ ≠ iQ))) _ _ ((aG aK fB).f3) t136 _ ?mD X6.out).mono ?_); (case mD => exact AZ.out); rintro e sG ⟨alJ, rfl, ho0, hb⟩; refine ⟨_, rfl, ?_⟩; have Ky := ae.mk (Kd.wO (Kd.jg (ok' := fun k_ => (gq k_ ∨ w.heap.size ≤ k_) ∧ some k_ ≠ (u3 : Value).ownBlock ∧ k_ ≠ iQ) ho0 (fun k_ NK => ⟨Or.elim NK (fun hs_ => hs_.1) (fun D8 => (.inr (Nat.le_trans (cO (by repeat ((with_reducible exact HB.out)))) D8))), Or.elim NK (fun hs_ => hs_.2.1) (fun D8 => (Kd.fresh' (Kd.DD wM.out) k_ D8)), Or.elim NK (fun hs_ => hs_.2.2) (fun D8 => (Kd.y9 fO.out k_ D8))⟩)) (cO (by repeat ((with_reducible exact HB.out))))); replace wM := ae.mk (Kd.Lt wM.out (Kd.t_ ho0) hb); replace rJ := ae.mk (Kd.wP rJ.out (Kd.t_ ho0) hb); replace AZ := ae.mk (Kd.wP AZ.out (Kd.t_ ho0) hb); replace fO := ae.mk (aV fO.out hb); replace HB := ae.mk (az (by repeat ((with_reducible exact HB.out))) hb); (try clear hb); (try clear ho0); obtain ⟨Qc, QC, WC⟩ := Kd.jE Ky.out; subst WC) | ((with_reducible refine qc (b := .append) (xs := #[.tmp 13, .tmp 19]) rfl ?_); at_builtin; refine Kd.yj k26 (w0 := w) w.heap.size rfl (.tmp 13) (.tmp 19) 24 26 (.agg #[(.int .u8 0), (.int .i64 0), (.int .i64 0), (.int .i64 0), (.int .i64 0), (.int .i64 0), (.slice none 0 0)]) 72 rfl Try.underlying24 info26 rfl (by decide) (by omega) u3 tY t136 _ _ _ (fun k_ => (gq k_ ∨ w.heap.size ≤ k_) ∧ k_ ≠ iQ) (fun k_ => ((fun k_ => (gq k_ ∨ w.heap.size ≤ k_) ∧ k_ ≠ iQ)) k_ ∧ some k_ ≠ (u3 : Value).ownBlock) rfl rfl ?aO ?aR (fun _ hk => hk) ?aF ?aB ?aS ?aL ?_; (case aR => exact (by exact Kd.Yh (Kd.jg (ok' := (fun k_ => ((fun k_ => (gq k_ ∨ w.heap.size ≤ k_) ∧ k_ ≠ iQ)) k_ ∧ some k_ ≠ (u3 : Value).ownBlock)) (Ky.out) (fun k_ hk => ⟨⟨hk.1, hk.2.2⟩, hk.2.1⟩)))); (case aB => exact (by repeat ((with_reducible exact HB.out)))); (case aF => exact (fun k_ hk => ⟨(.inr (Nat.le_trans (cO (by repeat ((with_reducible exact HB.out)))) hk)), Kd.y9 fO.out k_ hk⟩)); (case aO => exact (by exact Kd.jg wM.out (fun _ hk => ⟨hk.1.1, hk.1.2⟩))); (case aS => exact (cO (by repeat ((with_reducible exact HB.out))))); (case aL => have := afu.out; omega); intro alK YY ho hb hg hat; rw [← afx.out] at ho; have afm := ae.mk (ho); replace rJ := ae.mk (Kd.BM (ok := (fun k_ => (gq k_ ∨ w.heap.size ≤ k_) ∧ some k_ ≠ (.slice Qc t136.length QC : Value).ownBlock ∧ k_ ≠ iQ)) (by exact Kd.ik rJ.out (fun _ hk => ⟨⟨hk.1.1, ⟨hk.2, hk.1.2.2⟩⟩, hk.1.2.1⟩)) hg hat); replace fO := ae.mk (dJ fO.out hg (Kd.Su wM.out (fun _ hk => hk.1.2))); replace AZ := ae.mk (Kd.BM (ok := (fun k_ => (gq k_ ∨ w.heap.size ≤ k_) ∧ some k_ ≠ (.slice Qc t136.length QC : Value).ownBlock ∧ k_ ≠ iQ)) (by exact Kd.ik AZ.out (fun _ hk => ⟨⟨hk.1.1, ⟨hk.2, hk.1.2.2⟩⟩, hk.1.2.1⟩)) hg hat); replace Ky := ae.mk (Kd.Lp (ok := (fun k_ => (gq k_ ∨ w.heap.size ≤ k_) ∧ k_ ≠ iQ)) (by exact Kd.jg Ky.out (fun _ hk => ⟨⟨hk.1, hk.2.2⟩, hk.2.1⟩)) hg hat); replace HB := ae.mk (hb); clear wM; clear ho hb hg hat))
       go_roundg k1
       case measure => have := mf.out; omega
       case rel => exact ⟨(afb), (wrap64 (fB + 1)), (by rfl), H', ⟨by have := mf.out; omega⟩, ⟨by exact afm.out⟩, ⟨by exact Kd.ik rJ.out (fun _ hk => ⟨hk.1.1, ⟨hk.2, hk.1.2.2⟩⟩)⟩, ⟨by exact fO.out⟩, ⟨by repeat ((with_reducible exact HB.out))⟩⟩
      ·rw [if_neg c11] at H
       exact absurd H (by simp)
     ·rw [if_neg c9] at H
      exact absurd H (by simp)
    ·rw [if_neg c8] at H
     exact absurd H (by simp)
   ·rw [if_neg c7] at H
    have rU : decide (fB < (aK.length : Int)) = false := decide_eq_false c7
    clear c7
    obtain rfl := Option.some.inj H
    go_wp2
    go_ret
    exact ⟨_, by rfl, by exact Kd.jg wM.out (fun _ hk => hk.1), by repeat ((with_reducible exact HB.out))⟩
def fA.l0 : Nat → List (ai) → List (ai) → Int → Int → Option ((List (ai)))
 | 0, _, _, _, _ => none
 | k + 1, x3, x4, x10, x11 => if x11 < x10 then (if 0 ≤ x11 then (if x11 < (x4.length : Int) then (if ((aG x4 x11).f0) = 1 then (if x3.length < 1954687338268 then (fA.l0 k (x3 ++ [(⟨(aG x4 x11).f0, (⟨(aG x4 x11).f1.f0, (aG x4 x11).f1.f1, (aG x4 x11).f1.f2, (aG x4 x11).f1.f3⟩ : dW), (aG x4 x11).f2, (aG x4 x11).f3⟩ : ai)]) x4 x10 (wrap64 (x11 + 1))) else (none)) else (fA.l0 k x3 x4 x10 (wrap64 (x11 + 1)))) else (none)) else (none)) else (some x3)
def fA.f (k : Nat) (aA : Int) (aJ : Int) (aH : Int) (aI : Int) (bI : Int) (bJ : Int) (aK : List (ai)) : Option ((List (ai))) := (dY.f k aA aJ aH aI bI bJ aK).bind fun t146 => (fA.l0 k (([] : List (ai))) t146 (t146.length : Int) 0)
theorem fA.calls (k : Nat) (aA : Int) (aJ : Int) (aH : Int) (aI : Int) (bI : Int) (bJ : Int) (gq : Nat → Prop) (eQ : Option Addr) (eU : Nat) (aK : List (ai)) (r : List (ai)) (w : World) (EP : Kd.V k26 26 w w.heap.size (fun k_ => gq k_) (.slice eQ aK.length eU) aK) (h : fA.f k aA aJ aH aI bI bJ aK = some r) :
  Calls Try.prog 126 #[.agg #[.int .u8 aA, .int .i64 aJ, .int .i64 aH, .int .i64 aI, .int .i64 bI, .int .i64 bJ, .slice eQ aK.length eU]] w fun e w' => ∃ o_ : Value, e = .returned (o_) ∧ Kd.N k26 26 w' w.heap.size (fun k_ => (gq k_ ∨ w.heap.size ≤ k_)) o_ r ∧ Below w.heap.size w w' := by
 have I8 := Try.underlying26
 have jH := ae.mk (show Kd.V k26 26 w w.heap.size (fun k_ => (gq k_ ∨ w.heap.size ≤ k_)) (.slice eQ aK.length eU) aK from Kd.ik EP (fun k_ hk => .inl hk))
 have HB := ae.mk (Below.refl w.heap.size w)
 have H : ((dY.f k aA aJ aH aI bI bJ aK).bind fun t146 => (fA.l0 k (([] : List (ai))) t146 (t146.length : Int) 0)) = some r := h
 clear h
 obtain ⟨X0, QO⟩ : ∃ y_ : List (ai), y_ = (([] : List (ai))) := ⟨_, rfl⟩
 replace H : ((dY.f k aA aJ aH aI bI bJ aK).bind fun t146 => (fA.l0 k X0 t146 (t146.length : Int) 0)) = some r := by (rw [QO]; with_reducible exact H)
 have afy := ae.mk QO
 clear QO
 replace H := Option.bind_eq_some_iff.mp H
 obtain ⟨t146, JG, H⟩ := H
 replace H : (fA.l0 k X0 t146 (t146.length : Int) 0) = some r := H
 have A2 := ae.mk JG
 clear JG
 have H' := ae.mk H
 clear H
 go_enter Try.func126, Try.ntmps126
 go_wp2_with (first | ((with_reducible refine aC (N := 1) rfl ?_); refine aQ ?hg (N := 1) ?hd (cs := #[.int .u8 aA, .int .i64 aJ, .int .i64 aH, .int .i64 aI, .int .i64 bI, .int .i64 bJ, .slice eQ aK.length eU]) (t := 26) ?hr ?_; (case hd => rfl); (case hg => rfl); (case hr => (go_simp; done)); intro lu hg w3 hbox hb; have kD := ae.mk (hbox); replace jH := ae.mk (Kd.jQ (Kd.nO jH.out lu (Nat.le_of_eq hg.symm)) hb); replace HB := ae.mk (az (by repeat ((with_reducible exact HB.out))) hb); clear hb hbox hg) | ((with_reducible refine aC (N := 6) rfl ?_); refine Kd.yF k26 _ 26 ?hg (N' := 6) ?hd (xs := ([] : List (ai))) (inner := []) (ok := (fun k_ => (gq k_ ∨ w.heap.size ≤ k_) ∧ k_ ≠ lu)) (gm := (fun k_ => (gq k_ ∨ w.heap.size ≤ k_) ∧ k_ ≠ lu)) ?hr ?hp (fun _ hk => hk) ((show ∀ k_, w3.heap.size ≤ k_ → (fun k_ => (gq k_ ∨ w.heap.size ≤ k_) ∧ k_ ≠ lu) k_ from fun k_ hk => ⟨(.inr (Nat.le_trans (cO (by repeat ((with_reducible exact HB.out)))) hk)), Kd.y9 kD.out k_ hk⟩) _ (Nat.le_refl _)) (Below.refl _ _) (Nat.le_refl _) (by simp) ?_; (case hd => rfl); (case hg => rfl); (case hr => (go_simp; done)); (case hp => exact (bT.none _ _)); intro ae7 w4 Bl hb lh iG; clear lh iG; (rw [← afy.out] at Bl); have Kz := ae.mk (Kd.wO Bl (cO (by repeat ((with_reducible exact HB.out))))); replace jH := ae.mk (Kd.wP jH.out (Kd.t_ Bl) hb); replace kD := ae.mk (aV kD.out hb); replace HB := ae.mk (az (by repeat ((with_reducible exact HB.out))) hb); clear hb Bl; have DK : w4.cell? ⟨lu, 0, none⟩ = some (.int .u8 aA) := (af kD.out 0).trans rfl; have DL : w4.cell? ⟨lu, 1, none⟩ = some (.int .i64 aJ) := (af kD.out 1).trans rfl; have DN : w4.cell? ⟨lu, 2, none⟩ = some (.int .i64 aH) := (af kD.out 2).trans rfl; have DR : w4.cell? ⟨lu, 3, none⟩ = some (.int .i64 aI) := (af kD.out 3).trans rfl; have DT : w4.cell? ⟨lu, 4, none⟩ = some (.int .i64 bI) := (af kD.out 4).trans rfl; have DU : w4.cell? ⟨lu, 5, none⟩ = some (.int .i64 bJ) := (af kD.out 5).trans rfl; have DV : w4.cell? ⟨lu, 6, none⟩ = some (.slice eQ aK.length eU) := (af kD.out 6).trans rfl; have DW := ah kD.out 0; have DX := ah kD.out 1; have DY := ah kD.out 2; have DZ := ah kD.out 3; have D5 := ah kD.out 4; have D6 := ah kD.out 5; have D7 := ah kD.out 6) | ((with_reducible refine gW (f := 79) rfl ?_); refine jL (some 8) rfl rfl Try.func79 (by kernel_rfl) rfl #[.agg #[.int .u8 aA, .int .i64 aJ, .int .i64 aH, .int .i64 aI, .int .i64 bI, .int .i64 bJ, .slice eQ aK.length eU]] rfl (by (try simp only [List.map_toArray, List.map_cons, List.map_nil]); rfl) ?_; (with_reducible refine (dY.calls k aA aJ aH aI bI bJ (fun k_ => (((gq k_ ∨ w.heap.size ≤ k_) ∧ k_ ≠ lu) ∧ some k_ ≠ (ae7 : Value).ownBlock)) _ _ aK t146 _ ?mD A2.out).mono ?_); (case mD => exact jH.out); rintro e w7 ⟨alL, rfl, ho0, hb⟩; refine ⟨_, rfl, ?_⟩; have Yd := ae.mk (Kd.wO (Kd.jg (ok' := fun k_ => (gq k_ ∨ w.heap.size ≤ k_) ∧ some k_ ≠ (ae7 : Value).ownBlock ∧ k_ ≠ lu) ho0 (fun k_ NK => ⟨Or.elim NK (fun hs_ => hs_.1.1) (fun D8 => (.inr (Nat.le_trans (cO (by repeat ((with_reducible exact HB.out)))) D8))), Or.elim NK (fun hs_ => hs_.2) (fun D8 => (Kd.fresh' (Kd.DD Kz.out) k_ D8)), Or.elim NK (fun hs_ => hs_.1.2) (fun D8 => (Kd.y9 kD.out k_ D8))⟩)) (cO (by repeat ((with_reducible exact HB.out))))); replace jH := ae.mk (Kd.wP jH.out (Kd.t_ ho0) hb); replace Kz := ae.mk (Kd.Lt Kz.out (Kd.t_ ho0) hb); replace kD := ae.mk (aV kD.out hb); replace HB := ae.mk (az (by repeat ((with_reducible exact HB.out))) hb); (try clear hb); (try clear ho0); obtain ⟨Ao8, He, eo8⟩ := Kd.jE Yd.out; subst eo8))
 go_loopg [3, 11] k (fun kq v3 v11 w' => ∃ (tY : List (ai)) (bZ : Int), v11 = .int .i64 bZ ∧ ae (fA.l0 kq tY t146 (t146.length : Int) bZ = some r) ∧ ae (kq ≤ k) ∧ ae (Kd.N k26 26 w' w.heap.size (fun k_ => (gq k_ ∨ w.heap.size ≤ k_) ∧ some k_ ≠ ((.slice Ao8 t146.length He) : Value).ownBlock ∧ k_ ≠ lu) v3 tY) ∧ ae (Kd.N k26 26 w' w.heap.size (fun k_ => (gq k_ ∨ w.heap.size ≤ k_) ∧ some k_ ≠ (v3 : Value).ownBlock ∧ k_ ≠ lu) (.slice Ao8 t146.length He) t146) ∧ ae (Kd.V k26 26 w' w.heap.size (fun k_ => (gq k_ ∨ w.heap.size ≤ k_) ∧ some k_ ≠ (v3 : Value).ownBlock ∧ some k_ ≠ ((.slice Ao8 t146.length He) : Value).ownBlock ∧ k_ ≠ lu) (.slice eQ aK.length eU) aK) ∧ ae (w'.heap[lu]? = some (.cells #[.int .u8 aA, .int .i64 aJ, .int .i64 aH, .int .i64 aI, .int .i64 bI, .int .i64 bJ, (.slice eQ aK.length eU)] 26 (0, 0))) ∧ ae (Below w.heap.size w w'))
 case atStart => exact ⟨(X0), (0), (by rfl), H', ⟨Nat.le_refl _⟩, ⟨by exact Kd.jg Kz.out (fun _ hk => ⟨hk.1.1, ⟨hk.2, hk.1.2⟩⟩)⟩, ⟨by exact Yd.out⟩, ⟨by exact Kd.ik jH.out (fun _ hk => ⟨hk.1.1.1, ⟨hk.1.2, ⟨hk.2, hk.1.1.2⟩⟩⟩)⟩, ⟨by exact kD.out⟩, ⟨by repeat ((with_reducible exact HB.out))⟩⟩
 case round =>
  clear H'
  clear DK DL DN DR DT DU DV DW DX DY DZ D5 D6 D7
  obtain ⟨tY, bZ, rfl, HA, mf, wM, yS, zM, kD, HB⟩ := hrel
  cases gk with
  | zero => exact absurd HA.out (by simp [fA.l0])
  | succ k1 =>
   have H := HA.out
   clear HA
   simp only [fA.l0] at H
   by_cases c9 : bZ < (t146.length : Int)
   ·rw [if_pos c9] at H
    have MF : decide (bZ < (t146.length : Int)) = true := decide_eq_true c9
    clear c9
    by_cases c10 : 0 ≤ bZ
    ·rw [if_pos c10] at H
     have G6 : decide (0 ≤ bZ) = true := decide_eq_true c10
     clear c10
     by_cases c11 : bZ < (t146.length : Int)
     ·rw [if_pos c11] at H
      have BQ : decide (bZ < (t146.length : Int)) = true := decide_eq_true c11
      clear c11
      by_cases c12 : ((aG t146 bZ).f0) = 1
      ·rw [if_pos c12] at H
       have yI : (((aG t146 bZ).f0) == 1) = true := beq_iff_eq.mpr c12
       have G_ : (((aG t146 bZ).f0) != 1) = false := bne_eq_false_iff_eq.mpr c12
       clear c12
       by_cases c13 : tY.length < 1954687338268
       ·rw [if_pos c13] at H
        have Qm := ae.mk c13
        clear c13
        obtain ⟨y151, hy151⟩ : ∃ y_ : List (ai), y_ = (tY ++ [(⟨(aG t146 bZ).f0, (⟨(aG t146 bZ).f1.f0, (aG t146 bZ).f1.f1, (aG t146 bZ).f1.f2, (aG t146 bZ).f1.f3⟩ : dW), (aG t146 bZ).f2, (aG t146 bZ).f3⟩ : ai)]) := ⟨_, rfl⟩
        replace H : (fA.l0 k1 y151 t146 (t146.length : Int) (wrap64 (bZ + 1))) = some r := by (rw [hy151]; with_reducible exact H)
        have afz := ae.mk hy151
        clear hy151
        have H' := ae.mk H
        clear H
        have CZ : 0 ≤ (bZ : Int) := of_decide_eq_true (by (with_reducible assumption))
        have C9 : bZ < (t146.length : Int) := of_decide_eq_true (by (with_reducible assumption))
        obtain ⟨zN, RH, SV, Ws, aaP, aaQ, aaR, aaS, aaT, aaU, ET, I5, IZ⟩ := rQ (Kd.jl yS.out).2.2 bZ CZ C9
        cases Ws
        obtain ⟨af6, Nu, Nr, DJ⟩ := Kd.Qn yS.out z26 bZ CZ C9
        obtain ⟨abr, abt, rfl, BD, Bi⟩ := nI Nr
        have sQ := DJ 6 _ rfl
        rw [kP _ _ 6 (by omega)] at sQ
        replace sQ := Option.some.inj (sQ.symm.trans ET)
        injection sQ with zg F6 zh
        rw [zg] at Bi
        rw [zh] at BD
        clear zg F6 zh Bi BD
        clear DJ Nu
        clear IZ I5
        replace CZ := eq_true CZ
        replace C9 := eq_true C9
        have Q4 : 0 ≤ (bZ : Int) := of_decide_eq_true (by (with_reducible assumption))
        have Q8 : bZ < (t146.length : Int) := of_decide_eq_true (by (with_reducible assumption))
        obtain ⟨afO, aiT, ajx, ahl, aiG, aiH, aiI, aiJ, aiK, aiL, PH, aaN, aaL⟩ := rQ (Kd.jl yS.out).2.2 bZ Q4 Q8
        obtain rfl : zN = afO := (by injection ahl)
        obtain ⟨akN, adL, adI, TJ⟩ := Kd.Qn yS.out z26 bZ Q4 Q8
        obtain ⟨aiP, aiR, rfl, Jp, IK⟩ := nI adI
        have ES := TJ 6 _ rfl
        rw [kP _ _ 6 (by omega)] at ES
        replace ES := Option.some.inj (ES.symm.trans PH)
        injection ES with zg F6 zh
        rw [zg] at IK
        rw [zh] at Jp
        have EC := ae.mk (show Kd.V k26 26 _ w.heap.size _ _ ((aG t146 bZ).f3) from Kd.uJ Jp IK)
        clear zg F6 zh IK Jp
        clear TJ adL
        clear aaL aaN
        replace Q4 := eq_true Q4
        replace Q8 := eq_true Q8
        have ea_ := Option.some.inj (ET.symm.trans PH)
        injection ea_ with ea_ en_ ec_
        subst ea_
        subst ec_
        clear en_
        go_wp2_with (((with_reducible refine qc (b := .append) (xs := #[.tmp 20, .tmp 25]) rfl ?_); at_builtin; refine Kd.Lr k26 (w0 := w) w.heap.size rfl (.tmp 20) (.tmp 25) 24 26 (.agg #[(.int .u8 0), (.int .i64 0), (.int .i64 0), (.int .i64 0), (.int .i64 0), (.int .i64 0), (.slice none 0 0)]) 72 rfl Try.underlying24 info26 rfl (by decide) (by omega) u3 tY (⟨(aG t146 bZ).f0, (⟨(aG t146 bZ).f1.f0, (aG t146 bZ).f1.f1, (aG t146 bZ).f1.f2, (aG t146 bZ).f1.f3⟩ : dW), (aG t146 bZ).f2, (aG t146 bZ).f3⟩ : ai) [.int .u8 ((aG t146 bZ).f0), .int .i64 ((aG t146 bZ).f1.f0), .int .i64 ((aG t146 bZ).f1.f1), .int .i64 ((aG t146 bZ).f1.f2), .int .i64 ((aG t146 bZ).f1.f3), .int .i64 ((aG t146 bZ).f2), .slice RH ((aG t146 bZ).f3).length SV] (fun k_ => (gq k_ ∨ w.heap.size ≤ k_) ∧ some k_ ≠ (.slice (some zN) t146.length He : Value).ownBlock ∧ k_ ≠ lu) (fun k_ => ((fun k_ => (gq k_ ∨ w.heap.size ≤ k_) ∧ some k_ ≠ (.slice (some zN) t146.length He : Value).ownBlock ∧ k_ ≠ lu)) k_ ∧ some k_ ≠ (u3 : Value).ownBlock) rfl rfl ?aP (fun _ hk => hk) ?aF ?aO ?aB ?aS ?aL ?_; (case aP => exact (qh _ _ (⟨(aG t146 bZ).f0, (⟨(aG t146 bZ).f1.f0, (aG t146 bZ).f1.f1, (aG t146 bZ).f1.f2, (aG t146 bZ).f1.f3⟩ : dW), (aG t146 bZ).f2, (aG t146 bZ).f3⟩ : ai) (Kd.jY (Kd.ik (ok' := (fun k_ => ((fun k_ => (gq k_ ∨ w.heap.size ≤ k_) ∧ some k_ ≠ (.slice (some zN) t146.length He : Value).ownBlock ∧ k_ ≠ lu)) k_ ∧ some k_ ≠ (u3 : Value).ownBlock)) (EC.out) (fun k_ hk => ⟨⟨hk.1.1, ⟨hk.2, hk.1.2.2⟩⟩, hk.1.2.1⟩))).2.1 (Kd.OT (Kd.ik (ok' := (fun k_ => ((fun k_ => (gq k_ ∨ w.heap.size ≤ k_) ∧ some k_ ≠ (.slice (some zN) t146.length He : Value).ownBlock ∧ k_ ≠ lu)) k_ ∧ some k_ ≠ (u3 : Value).ownBlock)) (EC.out) (fun k_ hk => ⟨⟨hk.1.1, ⟨hk.2, hk.1.2.2⟩⟩, hk.1.2.1⟩))))); (case aB => exact (by repeat ((with_reducible exact HB.out)))); (case aF => exact (fun k_ hk => ⟨(.inr (Nat.le_trans (cO (by repeat ((with_reducible exact HB.out)))) hk)), Kd.fresh' (Kd.DD yS.out) k_ hk, Kd.y9 kD.out k_ hk⟩)); (case aO => exact wM.out); (case aS => exact (cO (by repeat ((with_reducible exact HB.out))))); (case aL => have := Qm.out; omega); intro v152 YY ho hb hg hat; rw [← afz.out] at ho; have afn := ae.mk (ho); replace yS := ae.mk (Kd.Lp (ok := (fun k_ => (gq k_ ∨ w.heap.size ≤ k_) ∧ k_ ≠ lu)) (by exact Kd.jg yS.out (fun _ hk => ⟨⟨hk.1, hk.2.2⟩, hk.2.1⟩)) hg hat); replace zM := ae.mk (Kd.BM (ok := (fun k_ => (gq k_ ∨ w.heap.size ≤ k_) ∧ some k_ ≠ (.slice (some zN) t146.length He : Value).ownBlock ∧ k_ ≠ lu)) (by exact Kd.ik zM.out (fun _ hk => ⟨⟨hk.1, ⟨hk.2.2.1, hk.2.2.2⟩⟩, hk.2.1⟩)) hg hat); replace kD := ae.mk (dJ kD.out hg (Kd.Su wM.out (fun _ hk => hk.2.2))); replace EC := ae.mk (Kd.BM (ok := (fun k_ => (gq k_ ∨ w.heap.size ≤ k_) ∧ some k_ ≠ (.slice (some zN) t146.length He : Value).ownBlock ∧ k_ ≠ lu)) (by exact Kd.ik EC.out (fun _ hk => ⟨⟨hk.1.1, ⟨hk.2, hk.1.2.2⟩⟩, hk.1.2.1⟩)) hg hat); replace HB := ae.mk (hb); clear wM; clear ho hb hg hat))
        go_roundg k1
        case measure => have := mf.out; omega
        case rel => exact ⟨(y151), (wrap64 (bZ + 1)), (by rfl), H', ⟨by have := mf.out; omega⟩, ⟨by exact afn.out⟩, ⟨by exact Kd.jg yS.out (fun _ hk => ⟨hk.1.1, ⟨hk.2, hk.1.2⟩⟩)⟩, ⟨by exact Kd.ik zM.out (fun _ hk => ⟨hk.1.1, ⟨hk.2, ⟨hk.1.2.1, hk.1.2.2⟩⟩⟩)⟩, ⟨by exact kD.out⟩, ⟨by repeat ((with_reducible exact HB.out))⟩⟩
       ·rw [if_neg c13] at H
        exact absurd H (by simp)
      ·rw [if_neg c12] at H
       have yI : (((aG t146 bZ).f0) == 1) = false := beq_eq_false_iff_ne.mpr c12
       have G_ : (((aG t146 bZ).f0) != 1) = true := bne_iff_ne.mpr c12
       have H' := ae.mk H
       clear H
       have CZ : 0 ≤ (bZ : Int) := of_decide_eq_true (by (with_reducible assumption))
       have C9 : bZ < (t146.length : Int) := of_decide_eq_true (by (with_reducible assumption))
       obtain ⟨zN, RH, SV, Ws, aaP, aaQ, aaR, aaS, aaT, aaU, ET, I5, IZ⟩ := rQ (Kd.jl yS.out).2.2 bZ CZ C9
       cases Ws
       obtain ⟨af6, Nu, Nr, DJ⟩ := Kd.Qn yS.out z26 bZ CZ C9
       obtain ⟨abr, abt, rfl, BD, Bi⟩ := nI Nr
       have sQ := DJ 6 _ rfl
       rw [kP _ _ 6 (by omega)] at sQ
       replace sQ := Option.some.inj (sQ.symm.trans ET)
       injection sQ with zg F6 zh
       rw [zg] at Bi
       rw [zh] at BD
       clear zg F6 zh Bi BD
       clear DJ Nu
       clear IZ I5
       replace CZ := eq_true CZ
       replace C9 := eq_true C9
       go_wp2
       go_roundg k1
       case measure => have := mf.out; omega
       case rel => exact ⟨(tY), (wrap64 (bZ + 1)), (by rfl), H', ⟨by have := mf.out; omega⟩, ⟨by exact wM.out⟩, ⟨by exact yS.out⟩, ⟨by exact zM.out⟩, ⟨by exact kD.out⟩, ⟨by repeat ((with_reducible exact HB.out))⟩⟩
     ·rw [if_neg c11] at H
      exact absurd H (by simp)
    ·rw [if_neg c10] at H
     exact absurd H (by simp)
   ·rw [if_neg c9] at H
    have MF : decide (bZ < (t146.length : Int)) = false := decide_eq_false c9
    clear c9
    obtain rfl := Option.some.inj H
    go_wp2
    go_ret
    exact ⟨_, by rfl, by exact Kd.jg wM.out (fun _ hk => hk.1), by repeat ((with_reducible exact HB.out))⟩
end Go.Proofs.Ytfdmfgaiblfbhaa.P
namespace Go.Proofs.Ytfdmfgaiblfbhaa.P
open Go.RowKit Go.Proofs.ag.aW Go.Proofs.ag.dA Go.Proofs.ag.dU
theorem jF (pre : List ai) (p : ai) (rest : List ai) : aG (pre ++ p :: rest) (pre.length : Int) = p := by
 simp [aG, List.getD_eq_getElem?_getD]
theorem Ry {α : Type} (pre : List α) (p : α) (rest : List α) (h : (pre ++ p :: rest).length ≤ 9223372036854775807) : wrap64 ((pre.length : Int) + 1) = ((pre ++ [p]).length : Int) := by
 simp only [List.length_append, List.length_cons, List.length_nil] at h ⊢
 rw [wq (by omega) (by omega)]
 omega
theorem Wj (L : Int) : ∀ (N : Nat) (c : ai), sz c ≤ N → N ≤ 1048576 → ∃ n : Int, Ev (fun k => dS.f k c.f0 c.f1.f0 c.f1.f1 c.f1.f2 c.f1.f3 c.f2 c.f3 L) n ∧ 1 ≤ n ∧ n ≤ (sz c : Int) ∧ (n > L ∨ n = (sz c : Int)) := by
 intro N
 induction N with
 | zero => intro c h _; rw [dL] at h; omega
 | succ N ih =>
  intro c hc hN
  have hs := dL c
  have key : ∀ (rest pre : List ai), pre ++ rest = c.f3 → ∀ acc : Int, 1 ≤ acc → acc + (gy rest : Int) ≤ 1048576 → (acc > L ∨ acc = 1 + (gy pre : Int)) →
    ∃ n : Int, Ev (fun k => dS.l0 k L acc (c.f3.length : Int) (pre.length : Int) c.f0 c.f1.f0 c.f1.f1 c.f1.f2 c.f1.f3 c.f2 c.f3) n ∧ acc ≤ n ∧ n ≤ acc + (gy rest : Int) ∧ (n > L ∨ n = 1 + (gy c.f3 : Int)) := by
   intro rest
   induction rest with
   | nil =>
    intro pre hp acc h1 h2 h3
    rw [List.append_nil] at hp
    refine ⟨acc, Ev.step (f := fun _ => some acc) (fun k => ?_) (Ev.now _), by omega, by omega, by rw [← hp]; exact h3⟩
    simp only [dS.l0]
    rw [if_neg (by rw [hp]; omega)]
   | cons x xs ihr =>
    intro pre hp acc h1 h2 h3
    have hl : (pre.length : Int) < (c.f3.length : Int) := by rw [← hp, List.length_append, List.length_cons]; omega
    have hlen := jR c.f3
    by_cases hL : acc > L
    ·refine ⟨acc, Ev.step (f := fun _ => some acc) (fun k => ?_) (Ev.now _), by omega, by omega, .inl hL⟩
     simp only [dS.l0]
     rw [if_pos hl, if_pos hL]
    ·have h3' : acc = 1 + (gy pre : Int) := by omega
     have hsum : gy c.f3 = gy pre + (sz x + gy xs) := by rw [← hp, nJ, eG]
     obtain ⟨n1, e1, a1, b1, c1⟩ := ih x (by omega) (by omega)
     rw [eG] at h2
     obtain ⟨n, e2, a2, b2, c2⟩ := ihr (pre ++ [x]) (by rw [List.append_assoc]; exact hp) (acc + n1) (by omega) (by omega) (by
      rw [nJ, eG, qY]
      omega)
     refine ⟨n, ?_, by omega, by rw [eG]; omega, c2⟩
     have hw : wrap64 (acc + n1) = acc + n1 := wq (by omega) (by omega)
     have hr : aG c.f3 (pre.length : Int) = x := by rw [← hp]; exact jF pre x xs
     have hu : wrap64 ((pre.length : Int) + 1) = ((pre ++ [x]).length : Int) := Ry pre x xs (by rw [hp]; omega)
     refine Ev.step (f := fun k => (dS.f k x.f0 x.f1.f0 x.f1.f1 x.f1.f2 x.f1.f3 x.f2 x.f3 L).bind fun t => dS.l0 k L (wrap64 (acc + t)) (c.f3.length : Int) (wrap64 ((pre.length : Int) + 1)) c.f0 c.f1.f0 c.f1.f1 c.f1.f2 c.f1.f3 c.f2 c.f3) (fun k => ?_) (Ev.bind e1 ?_)
     ·simp only [dS.l0]
      rw [if_pos hl, if_neg hL, if_pos (by omega), if_pos hl, hr]
     ·rw [hw, hu]
      exact e2
  obtain ⟨n, e, a, b, d⟩ := key c.f3 [] rfl 1 (by omega) (by omega) (.inr (by rw [qY]; rfl))
  refine ⟨n, Ev.step (fun k => ?_) e, a, by omega, by omega⟩
  simp only [dS.f]
  rfl
theorem WL (c : ai) (h : sz c ≤ 1048576) : ∃ b : Bool, Ev (fun k => jA.f k c.f0 c.f1.f0 c.f1.f1 c.f1.f2 c.f1.f3 c.f2 c.f3) b ∧ (b = false → sz c ≤ 200) := by
 obtain ⟨n, e, h1, h2, h3⟩ := Wj 200 1048576 c h (Nat.le_refl _)
 refine ⟨decide (n > 200), ?_, fun hb => ?_⟩
 ·unfold jA.f
  exact Ev.bind e (Ev.now _)
 ·have := of_decide_eq_false hb
  omega
theorem JJ : ∀ (N : Nat) (c : ai), sz c ≤ N → N ≤ 1048576 → Ev (fun k => dY.f k c.f0 c.f1.f0 c.f1.f1 c.f1.f2 c.f1.f3 c.f2 c.f3) (iH c) := by
 intro N
 induction N with
 | zero => intro c h _; rw [dL] at h; omega
 | succ N ih =>
  intro c hc hN
  have hs := dL c
  have key : ∀ (rest pre : List ai), pre ++ rest = c.f3 → Ev (fun k => dY.l0 k (c :: allL pre) (c.f3.length : Int) (pre.length : Int) c.f0 c.f1.f0 c.f1.f1 c.f1.f2 c.f1.f3 c.f2 c.f3) (iH c) := by
   intro rest
   induction rest with
   | nil =>
    intro pre hp
    rw [List.append_nil] at hp
    refine Ev.step (f := fun _ => some (iH c)) (fun k => ?_) (Ev.now _)
    simp only [dY.l0]
    rw [if_neg (by rw [hp]; omega), hp, uU]
   | cons x xs ihr =>
    intro pre hp
    have hl : (pre.length : Int) < (c.f3.length : Int) := by rw [← hp, List.length_append, List.length_cons]; omega
    have hlen := jR c.f3
    have hsum : gy c.f3 = gy pre + (sz x + gy xs) := by rw [← hp, nJ, eG]
    have e2 := ihr (pre ++ [x]) (by rw [List.append_assoc]; exact hp)
    have hr : aG c.f3 (pre.length : Int) = x := by rw [← hp]; exact jF pre x xs
    have hu : wrap64 ((pre.length : Int) + 1) = ((pre ++ [x]).length : Int) := Ry pre x xs (by rw [hp]; omega)
    have ha : c :: allL (pre ++ [x]) = (c :: allL pre) ++ iH x := by rw [BN, oP, qC, List.append_nil, List.cons_append]
    have hb : (c :: allL pre).length + (iH x).length < 1954687338268 := by
     have h1 : (allL pre).length = gy pre := rfl
     have h2 : (iH x).length = sz x := rfl
     rw [List.length_cons, h1, h2]
     omega
    rw [ha] at e2
    refine Ev.step (f := fun k => (dY.f k x.f0 x.f1.f0 x.f1.f1 x.f1.f2 x.f1.f3 x.f2 x.f3).bind fun t => (if (c :: allL pre).length + t.length < 1954687338268 then (dY.l0 k ((c :: allL pre) ++ t) (c.f3.length : Int) (wrap64 ((pre.length : Int) + 1)) c.f0 c.f1.f0 c.f1.f1 c.f1.f2 c.f1.f3 c.f2 c.f3) else none)) (fun k => ?_) (Ev.bind (ih x (by omega) (by omega)) (adt hb ?_))
    ·simp only [dY.l0]
     rw [if_pos hl, if_pos (by omega), if_pos hl, hr]
    ·rw [hu]
     exact e2
  refine Ev.step (fun k => ?_) (key c.f3 [] rfl)
  simp only [dY.f, qC, EM]
  rfl
def oH (c : ai) : List ai := (iH c).filter fun x => decide (x.f0 = 1)
theorem UE (c : ai) (h : sz c ≤ 1048576) : Ev (fun k => fA.f k c.f0 c.f1.f0 c.f1.f1 c.f1.f2 c.f1.f3 c.f2 c.f3) (oH c) := by
 unfold fA.f
 refine Ev.bind (JJ _ c h (Nat.le_refl _)) ?_
 have key : ∀ (rest pre : List ai), pre ++ rest = iH c → Ev (fun k => fA.l0 k (pre.filter fun x => decide (x.f0 = 1)) (iH c) ((iH c).length : Int) (pre.length : Int)) (oH c) := by
  intro rest
  induction rest with
  | nil =>
   intro pre hp
   rw [List.append_nil] at hp
   refine Ev.step (f := fun _ => some (oH c)) (fun k => ?_) (Ev.now _)
   simp only [fA.l0]
   rw [if_neg (by rw [hp]; omega), hp]
   rfl
  | cons x xs ihr =>
   intro pre hp
   have hsz : (iH c).length ≤ 1048576 := h
   have hl : (pre.length : Int) < ((iH c).length : Int) := by rw [← hp, List.length_append, List.length_cons]; omega
   have e2 := ihr (pre ++ [x]) (by rw [List.append_assoc]; exact hp)
   have hr : aG (iH c) (pre.length : Int) = x := by rw [← hp]; exact jF pre x xs
   have hu : wrap64 ((pre.length : Int) + 1) = ((pre ++ [x]).length : Int) := Ry pre x xs (by rw [hp]; omega)
   have hb : (pre.filter fun x => decide (x.f0 = 1)).length < 1954687338268 := by
    have := List.length_filter_le (fun x : ai => decide (x.f0 = 1)) pre
    omega
   rw [List.filter_append] at e2
   refine Ev.step (fun k => ?_) e2
   simp only [fA.l0]
   rw [if_pos hl, if_pos (by omega), if_pos hl, hr, hu]
   by_cases h1 : x.f0 = 1
   ·rw [if_pos h1, if_pos hb, List.filter_cons_of_pos (by simpa using h1), EM]
    rfl
   ·rw [if_neg h1, List.filter_cons_of_neg (by simpa using h1), List.filter_nil, List.append_nil]
 exact key (iH c) [] rfl
def qi (c : ai) : Bool := n_ c.f1 && decide (1 ≤ c.f0 ∧ c.f0 ≤ 3) && decide (c.f0 = 1 → c.f3.length = 0 ∧ 0 ≤ c.f2 ∧ c.f2 ≤ 2147483647) && decide (c.f0 > 1 → 2 ≤ c.f3.length ∧ c.f2 = 0)
def gJ : List ai → Bool
 | [] => true
 | x :: xs => (xs.all fun y => decide (y.f2 ≠ x.f2)) && gJ xs
def oG (pre : List ai) (x : ai) : Bool := pre.all fun y => decide (x.f2 ≠ y.f2)
theorem qQ (pre : List ai) (x : ai) : gJ (pre ++ [x]) = (gJ pre && oG pre x) := by
 induction pre with
 | nil => simp [gJ, oG]
 | cons y ys ih =>
  have : (decide (x.f2 ≠ y.f2)) = decide (¬ x.f2 = y.f2) := rfl
  simp only [List.cons_append, gJ, ih, oG, List.all_append, List.all_cons, List.all_nil, Bool.and_true]
  cases (ys.all fun z => decide (z.f2 ≠ y.f2)) <;> cases (decide (x.f2 ≠ y.f2)) <;> cases gJ ys <;> cases (ys.all fun z => decide (x.f2 ≠ z.f2)) <;> rfl
theorem yw : ∀ (pre rest : List ai), gJ pre = false → gJ (pre ++ rest) = false := by
 intro pre rest h
 induction rest generalizing pre with
 | nil => rw [List.append_nil]; exact h
 | cons x xs ih =>
  have := ih (pre ++ [x]) (by rw [qQ, h, Bool.false_and])
  rwa [List.append_assoc] at this
def lZ (c : ai) : Bool := decide (sz c ≤ 20000) && ((iH c).all qi && gJ (oH c))
theorem aex {σ : Type} (Inv : σ → World → Prop) (step : σ → ai → Bool × σ) (g : Nat) (lb : Array Value) (eg : ∀ args w, (callFunc g args).run Try.prog w = .ok (.enter g args) w) (l : List ai) (A : Option Addr) (c : Nat)
  (w0 : World) (hR : Kd.C k26 w0 A l.length l) (hW : ∀ s W, Inv s W → Below w0.heap.size w0 W) (hD : ∀ s W n, Inv s W → Inv s (W.drewN n))
  (hcall : ∀ s W (x : ai) (B : Option Addr) (cb : Nat), x ∈ l → Inv s W → Kd.C k26 w0 B x.f3.length x.f3 → x.f3.length ≤ cb → Calls Try.prog g (#[.agg #[.int .u8 x.f0, .int .i64 x.f1.f0, .int .i64 x.f1.f1, .int .i64 x.f1.f2, .int .i64 x.f1.f3, .int .i64 x.f2, .slice B x.f3.length cb]] ++ lb) W fun e w' => e = .returned (.bool (step s x).1) ∧ Inv (step s x).2 w')
  (s : σ) (w : World) (hI : Inv s w) (hl : l.length ≤ 9223372036854775807) :
  Calls Try.prog 192 #[.slice A l.length c, .func (.func g) #[] lb] w fun e w' => e = .returned (.int .i64 (lD step 0 s l).1) ∧ Inv (lD step 0 s l).2 w' := by
 have HR := ae.mk hR
 have HW := ae.mk hW
 have HI := ae.mk hI
 have yE := ae.mk hcall
 clear hR hW hcall hD hI
 go_enter Try.func192, Try.ntmps192
 go_wp2
 go_loopg [5, 8] l.length (fun gg _ v8 wr => ∃ (kk : Nat) (t : σ), kk ≤ l.length ∧ l.length - kk ≤ gg ∧ v8 = .int .i64 kk ∧ ae (Inv t wr) ∧ ae (lD step 0 s l = lD step kk t (l.drop kk)))
 case atStart => exact ⟨0, s, Nat.zero_le _, by omega, rfl, HI, ⟨by simp⟩⟩
 case round =>
  clear HI
  obtain ⟨kk, t, hkk, hg, rfl, HI, HS⟩ := hrel
  by_cases hlt : kk < l.length
  ·have hltz : (kk : Int) < (l.length : Int) := by omega
   obtain ⟨ad, B, cb, rfl, hc0, hc1, hc2, hc3, hc4, hc5, hc6, hlb, hgb⟩ := rQ HR.out (kk : Int) (by omega) (by omega)
   have hbw := HW.out t wr HI.out
   replace hc0 := (hbw.cell (World.block_lt_of_cell? w0 _ hc0)).trans hc0
   replace hc1 := (hbw.cell (World.block_lt_of_cell? w0 _ hc1)).trans hc1
   replace hc2 := (hbw.cell (World.block_lt_of_cell? w0 _ hc2)).trans hc2
   replace hc3 := (hbw.cell (World.block_lt_of_cell? w0 _ hc3)).trans hc3
   replace hc4 := (hbw.cell (World.block_lt_of_cell? w0 _ hc4)).trans hc4
   replace hc5 := (hbw.cell (World.block_lt_of_cell? w0 _ hc5)).trans hc5
   replace hc6 := (hbw.cell (World.block_lt_of_cell? w0 _ hc6)).trans hc6
   clear hbw
   have HX : ae (lD step kk t (l.drop kk) = if (step t (aG l (kk : Int))).1 = true then ((kk : Int), (step t (aG l (kk : Int))).2) else lD step ((kk + 1 : Nat) : Int) (step t (aG l (kk : Int))).2 (l.drop (kk + 1))) := ⟨PW step z26 l kk hlt t⟩
   have hmem : (aG l (kk : Int)) ∈ l := Di z26 l kk hlt
   have hcall := yE.out t wr _ B cb hmem HI.out hgb hlb
   clear hmem hgb hlb
   simp only [Int.toNat_natCast] at hc0 hc1 hc2 hc3 hc4 hc5 hc6
   generalize aG l (kk : Int) = x at hc0 hc1 hc2 hc3 hc4 hc5 hc6 HX hcall
   have HC := ae.mk hcall
   clear hcall
   cases hq : (step t x).1 with
   | true =>
    have h := HC.out
    rw [hq] at h
    have HH := ae.mk h
    have HQ := ae.mk hq
    clear hq HC h
    go_wp2_with fail
    refine HH.out.mono ?_
    rintro e w' ⟨rfl, hb'⟩
    have HB := ae.mk hb'
    clear hb'
    go_wp2
    go_ret
    rw [HS.out, HX.out, if_pos HQ.out]
    exact ⟨rfl, HB.out⟩
   | false =>
    have h := HC.out
    rw [hq] at h
    have HH := ae.mk h
    have HQ := ae.mk hq
    clear hq HC h
    go_wp2_with fail
    refine HH.out.mono ?_
    rintro e w' ⟨rfl, hb'⟩
    have HB := ae.mk hb'
    clear hb'
    go_wp2
    go_roundg (l.length - (kk + 1))
    case measure => omega
    case rel =>
     refine ⟨kk + 1, (step t x).2, by omega, by omega, by go_num, HB, ⟨?_⟩⟩
     rw [HS.out, HX.out, if_neg (by rw [HQ.out]; simp)]
  ·have hltz : ¬ (kk : Int) < (l.length : Int) := by omega
   go_wp2
   go_ret
   rw [HS.out, List.drop_eq_nil_of_le (by omega)]
   exact ⟨rfl, HI.out⟩
theorem Tn {σ : Type} (Inv : σ → World → Prop) (step : σ → ai → Bool × σ) (g : Nat) (lb : Array Value) (eg : ∀ args w, (callFunc g args).run Try.prog w = .ok (.enter g args) w) (l : List ai) (A : Option Addr) (c : Nat)
  (w0 : World) (hR : Kd.C k26 w0 A l.length l) (hW : ∀ s W, Inv s W → Below w0.heap.size w0 W) (hD : ∀ s W n, Inv s W → Inv s (W.drewN n))
  (hcall : ∀ s W (x : ai) (B : Option Addr) (cb : Nat), x ∈ l → Inv s W → Kd.C k26 w0 B x.f3.length x.f3 → x.f3.length ≤ cb → Calls Try.prog g (#[.agg #[.int .u8 x.f0, .int .i64 x.f1.f0, .int .i64 x.f1.f1, .int .i64 x.f1.f2, .int .i64 x.f1.f3, .int .i64 x.f2, .slice B x.f3.length cb]] ++ lb) W fun e w' => e = .returned (.bool (step s x).1) ∧ Inv (step s x).2 w')
  (s : σ) (w : World) (hI : Inv s w) (hl : l.length ≤ 9223372036854775807) :
  Calls Try.prog 174 #[.slice A l.length c, .func (.func g) #[] lb] w fun e w' => e = .returned (.bool (rF step s l).1) ∧ Inv (rF step s l).2 w' := by
 have hi := aex Inv step g lb eg l A c w0 hR hW hD hcall s w hI hl
 rw [Ol]
 clear hR hW hD hcall hI
 generalize lD step 0 s l = r at hi
 have HI := ae.mk hi
 clear hi
 go_enter Try.func174, Try.ntmps174
 go_wp2_with fail
 refine HI.out.mono ?_
 rintro e w' ⟨rfl, hb'⟩
 have HB := ae.mk hb'
 clear hb'
 go_wp2
 go_ret
 exact ⟨rfl, HB.out⟩
theorem PM (l : List ai) (A : Option Addr) (c : Nat) (g : Nat) (lb : Array Value) (Q : World → Prop) (b : Bool) (w : World)
  (h : Calls Try.prog 174 #[.slice A l.length c, .func (.func g) #[] lb] w fun e w' => e = .returned (.bool b) ∧ Q w') (hD : ∀ W n, Q W → Q (W.drewN n)) :
  Calls Try.prog 142 #[.slice A l.length c, .func (.func g) #[] lb] w fun e w' => e = .returned (.bool (!b)) ∧ Q w' := by
 have H := ae.mk h
 clear h hD
 cases b
 all_goals
  go_enter Try.func142, Try.ntmps142
  go_wp2_with fail
  refine H.out.mono ?_
  rintro e w' ⟨rfl, hb⟩
  have HB := ae.mk hb
  clear hb
  go_wp2
  go_ret
  exact ⟨rfl, HB.out⟩
structure Kp (S : Nat → Prop) (W W' : World) : Prop where
 size : W.heap.size ≤ W'.heap.size
 blk : ∀ k, k < W.heap.size → ¬ S k → W'.heap[k]? = W.heap[k]?
theorem Kp.refl (S : Nat → Prop) (W : World) : Kp S W W := ⟨Nat.le_refl _, fun _ _ _ => rfl⟩
theorem Kp.trans {S : Nat → Prop} {W W1 W2 : World} (h : Kp S W W1) (k : Kp S W1 W2) : Kp S W W2 := ⟨Nat.le_trans h.size k.size, fun i hi hs => (k.blk i (Nat.lt_of_lt_of_le hi h.size) hs).trans (h.blk i hi hs)⟩
theorem Kp.below {S : Nat → Prop} {W W1 : World} (h : Below W.heap.size W W1) : Kp S W W1 := ⟨h.size, fun i hi _ => h.block i hi⟩
theorem Kp.at {S : Nat → Prop} {W W1 : World} {g : Nat} {o : Obj} (h : Kp S W W1) (hb : W.heap[g]? = some o) (hs : ¬ S g) : W1.heap[g]? = some o := (h.blk g (gu hb) hs).trans hb
theorem ac_ (x : ai) (B : Option Addr) (cb g : Nat) (lb : Array Value) (b3 : Nat) (r : Bool) (R : World → Prop) (W : World) (hk : W.heap[b3]? = some (.cells #[.func (.func g) #[] lb] 27 (0, 0)))
  (h : ∀ W1, Below W.heap.size W W1 → Calls Try.prog 175 #[.agg #[.int .u8 x.f0, .int .i64 x.f1.f0, .int .i64 x.f1.f1, .int .i64 x.f1.f2, .int .i64 x.f1.f3, .int .i64 x.f2, .slice B x.f3.length cb], .func (.func g) #[] lb] W1 fun e w' => e = .returned (.bool r) ∧ R w') :
  Calls Try.prog 193 (#[.agg #[.int .u8 x.f0, .int .i64 x.f1.f0, .int .i64 x.f1.f1, .int .i64 x.f1.f2, .int .i64 x.f1.f3, .int .i64 x.f2, .slice B x.f3.length cb]] ++ #[.pointer (some ⟨b3, 0, none⟩)]) W fun e w' => e = .returned (.bool (!r)) ∧ R w' := by
 have HK := ae.mk hk
 have H := ae.mk h
 clear hk h
 simp only [List.append_toArray, List.cons_append, List.nil_append]
 cases r
 all_goals
  go_enter Try.func193, Try.ntmps193
  go_wp2_with (((with_reducible refine aC (N := 2) rfl ?_); refine aQ ?hg (N := 2) ?hd (cs := #[.int .u8 x.f0, .int .i64 x.f1.f0, .int .i64 x.f1.f1, .int .i64 x.f1.f2, .int .i64 x.f1.f3, .int .i64 x.f2, .slice B x.f3.length cb]) (t := 26) ?hr ?_; (case hd => rfl); (case hg => rfl); (case hr => (go_simp; done)); intro b2 hg w2 hbox hb; have HB := ae.mk hb; have K2 := ae.mk hbox; have K3 := ae.mk (aV HK.out hb); clear hb hbox hg; have c0 := (af K2.out 0).trans rfl; have c1 := (af K2.out 1).trans rfl; have c2 := (af K2.out 2).trans rfl; have c3 := (af K2.out 3).trans rfl; have c4 := (af K2.out 4).trans rfl; have c5 := (af K2.out 5).trans rfl; have c6 := (af K2.out 6).trans rfl; have d0 := (af K3.out 0).trans rfl))
  clear c0 c1 c2 c3 c4 c5 c6 d0
  refine (H.out _ HB.out).mono ?_
  rintro e w' ⟨rfl, hR⟩
  have HR := ae.mk hR
  clear hR
  go_wp2
  go_ret
  exact ⟨rfl, HR.out⟩
theorem acF {σ : Type} (S : Nat → Prop) (Inv : σ → World → Prop) (step : σ → ai → Bool × σ) (g : Nat) (lb : Array Value) (eg : ∀ args w, (callFunc g args).run Try.prog w = .ok (.enter g args) w) (w0 : World)
  (hW : ∀ s W, Inv s W → Below w0.heap.size w0 W) (hB : ∀ s W W', Inv s W → Below W.heap.size W W' → Inv s W') (hS : ∀ s W, Inv s W → ∀ k, S k → k < W.heap.size)
  (hcall : ∀ s W (x : ai) (B : Option Addr) (cb : Nat), Inv s W → Kd.C k26 w0 B x.f3.length x.f3 → x.f3.length ≤ cb → Calls Try.prog g (#[.agg #[.int .u8 x.f0, .int .i64 x.f1.f0, .int .i64 x.f1.f1, .int .i64 x.f1.f2, .int .i64 x.f1.f3, .int .i64 x.f2, .slice B x.f3.length cb]] ++ lb) W fun e w' => e = .returned (.bool (step s x).1) ∧ Inv (step s x).2 w' ∧ Kp S W w') :
  ∀ (N : Nat) (c : ai), sz c ≤ N → ∀ (A : Option Addr) (cc : Nat), Kd.C k26 w0 A c.f3.length c.f3 → c.f3.length ≤ cc → ∀ s W, Inv s W →
   Calls Try.prog 175 #[.agg #[.int .u8 c.f0, .int .i64 c.f1.f0, .int .i64 c.f1.f1, .int .i64 c.f1.f2, .int .i64 c.f1.f3, .int .i64 c.f2, .slice A c.f3.length cc], .func (.func g) #[] lb] W fun e w' => e = .returned (.bool (rf step c s).1) ∧ Inv (rf step c s).2 w' ∧ Kp S W w' := by
 intro N
 induction N with
 | zero => intro c h; rw [dL] at h; omega
 | succ N ih =>
  intro c hc A cc hr hlc s W hI
  have hsz := dL c
  have YG : ∀ (b3 : Nat) (s1 : σ) (W1 : World), Inv s1 W1 → W1.heap[b3]? = some (.cells #[.func (.func g) #[] lb] 27 (0, 0)) → ¬ S b3 →
    Calls Try.prog 142 #[.slice A c.f3.length cc, .func (.func 193) #[] #[.pointer (some ⟨b3, 0, none⟩)]] W1 fun e w' => e = .returned (.bool (rD step c.f3 s1).1) ∧ Inv (rD step c.f3 s1).2 w' ∧ Kp S W1 w' := by
   intro b3 s1 W1 hI1 hk3 hs3
   have hcon := Tn (fun t w' => Inv t w' ∧ Kp S W1 w') (fun t k => (!(rf step k t).1, (rf step k t).2)) 193 #[.pointer (some ⟨b3, 0, none⟩)] (rX Try.func193 (by decide +kernel) (by kernel_rfl)) c.f3 A cc w0 hr (fun t w' h => hW t w' h.1)
    (fun t w' n h => ⟨hB t w' _ h.1 (dC (Below.refl _ _) n), h.2.trans (Kp.below (dC (Below.refl _ _) n))⟩)
    (fun t w' x B cb hx h hCx hlx => by
     refine ac_ x B cb g lb b3 _ _ w' (h.2.at hk3 hs3) (fun W2 hb2 => ?_)
     refine (ih x ?_ B cb hCx hlx t W2 (hB t w' W2 h.1 hb2)).mono fun e w'' ⟨he, hi, hk⟩ => ⟨he, hi, (h.2.trans (Kp.below hb2)).trans hk⟩
     have : sz x ≤ gy c.f3 := by
      obtain ⟨p, q, e⟩ := List.append_of_mem hx
      rw [e, nJ, eG]; omega
     omega) s1 W1 ⟨hI1, Kp.refl S W1⟩ hr.2.1
   rw [Vf] at hcon
   have := PM c.f3 A cc 193 _ _ _ W1 hcon (fun w' n h => ⟨hB _ w' _ h.1 (dC (Below.refl _ _) n), h.2.trans (Kp.below (dC (Below.refl _ _) n))⟩)
   rw [Bool.not_not] at this
   exact this
  have adF : ∀ k, S k → k < W.heap.size := hS s W hI
  have hE := OU step c s
  have hcl := fun W1 (h : Inv s W1) => hcall s W1 c A cc h hr hlc
  rcases hst : step s c with ⟨q, s1⟩
  rw [hst] at hE hcl
  simp only [] at hE hcl
  rw [hE]
  have HN := ae.mk fun b3 W1 => YG b3 s1 W1
  have HI := ae.mk hI
  have yE := ae.mk hcl
  have X9 := ae.mk hB
  have HS := ae.mk hS
  have HS0 := ae.mk adF
  have HK := ae.mk (Kp.refl S W)
  clear YG hI hcall hB hS ih hr hlc hsz hc hW hE hcl hst adF
  obtain ⟨ck, ⟨cx, cy, cw, ch⟩, ay, l⟩ := c
  simp only [] at HN yE ⊢
  generalize rD step l s1 = ns at HN ⊢
  obtain ⟨n1, n2⟩ := ns
  cases q with
  | false =>
   simp only [Bool.false_eq_true, if_false]
   clear HN
   go_enter Try.func175, Try.ntmps175
   go_wp2_with (first | ((with_reducible refine aC (N := 2) rfl ?_); refine aQ ?hg (N := 2) ?hd (cs := #[.int .u8 ck, .int .i64 cx, .int .i64 cy, .int .i64 cw, .int .i64 ch, .int .i64 ay, .slice A l.length cc]) (t := 26) ?hr ?_; (case hd => rfl); (case hg => rfl); (case hr => (go_simp; done)); intro b2 hg Y0 hbox hb; have K2 := ae.mk hbox; have HS2 := ae.mk (show ¬ b2 < W.heap.size by rw [hg]; exact Nat.lt_irrefl _); have fH := ae.mk (X9.out _ _ _ HI.out hb); have fV := ae.mk (HK.out.trans (Kp.below hb)); clear HI HK; have HI := fH; have HK := fV; clear fH fV; clear hb hbox hg) | ((with_reducible refine aC (N := 3) rfl ?_); refine aQ ?hg (N := 3) ?hd (cs := #[.func (.func g) #[] lb]) (t := 27) ?hr ?_; (case hd => rfl); (case hg => rfl); (case hr => (go_simp; done)); intro b3 hg Vy hbox hb; have K3 := ae.mk hbox; have iW := ae.mk (aV K2.out hb); have NS := ae.mk (fun h => Nat.lt_irrefl _ (Nat.lt_of_lt_of_le (hg ▸ HS.out _ _ HI.out b3 h) (Nat.le_refl _)) : ¬ S b3); have NS2 := ae.mk (fun h => HS2.out (HS0.out b2 h) : ¬ S b2); clear K2; have K2 := iW; clear iW; have fH := ae.mk (X9.out _ _ _ HI.out hb); have fV := ae.mk (HK.out.trans (Kp.below hb)); clear HI HK; have HI := fH; have HK := fV; clear fH fV; clear hb hbox hg; have c0 := (af K2.out 0).trans rfl; have c1 := (af K2.out 1).trans rfl; have c2 := (af K2.out 2).trans rfl; have c3 := (af K2.out 3).trans rfl; have c4 := (af K2.out 4).trans rfl; have c5 := (af K2.out 5).trans rfl; have c6 := (af K2.out 6).trans rfl; have d0 := (af K3.out 0).trans rfl))
   clear c0 c1 c2 c3 c4 c5 c6 d0
   refine (yE.out _ HI.out).mono ?_
   rintro e w' ⟨rfl, hi, hk⟩
   have HI' := ae.mk hi
   have HK' := ae.mk (HK.out.trans hk)
   clear hi hk
   go_wp2
   go_ret
   exact ⟨rfl, HI'.out, HK'.out⟩
  | true =>
   simp only [if_true]
   cases n1
   all_goals
    go_enter Try.func175, Try.ntmps175
    go_wp2_with (first | ((with_reducible refine aC (N := 2) rfl ?_); refine aQ ?hg (N := 2) ?hd (cs := #[.int .u8 ck, .int .i64 cx, .int .i64 cy, .int .i64 cw, .int .i64 ch, .int .i64 ay, .slice A l.length cc]) (t := 26) ?hr ?_; (case hd => rfl); (case hg => rfl); (case hr => (go_simp; done)); intro b2 hg Y0 hbox hb; have K2 := ae.mk hbox; have HS2 := ae.mk (show ¬ b2 < W.heap.size by rw [hg]; exact Nat.lt_irrefl _); have fH := ae.mk (X9.out _ _ _ HI.out hb); have fV := ae.mk (HK.out.trans (Kp.below hb)); clear HI HK; have HI := fH; have HK := fV; clear fH fV; clear hb hbox hg) | ((with_reducible refine aC (N := 3) rfl ?_); refine aQ ?hg (N := 3) ?hd (cs := #[.func (.func g) #[] lb]) (t := 27) ?hr ?_; (case hd => rfl); (case hg => rfl); (case hr => (go_simp; done)); intro b3 hg Vy hbox hb; have K3 := ae.mk hbox; have iW := ae.mk (aV K2.out hb); have NS := ae.mk (fun h => Nat.lt_irrefl _ (Nat.lt_of_lt_of_le (hg ▸ HS.out _ _ HI.out b3 h) (Nat.le_refl _)) : ¬ S b3); have NS2 := ae.mk (fun h => HS2.out (HS0.out b2 h) : ¬ S b2); clear K2; have K2 := iW; clear iW; have fH := ae.mk (X9.out _ _ _ HI.out hb); have fV := ae.mk (HK.out.trans (Kp.below hb)); clear HI HK; have HI := fH; have HK := fV; clear fH fV; clear hb hbox hg; have c0 := (af K2.out 0).trans rfl; have c1 := (af K2.out 1).trans rfl; have c2 := (af K2.out 2).trans rfl; have c3 := (af K2.out 3).trans rfl; have c4 := (af K2.out 4).trans rfl; have c5 := (af K2.out 5).trans rfl; have c6 := (af K2.out 6).trans rfl; have d0 := (af K3.out 0).trans rfl))
    clear c0 c1 c2 c3 c4 c5 c6 d0
    refine (yE.out _ HI.out).mono ?_
    rintro e w' ⟨rfl, hi, hk⟩
    have HI' := ae.mk hi
    have HK' := ae.mk (HK.out.trans hk)
    have K3' := ae.mk (hk.at K3.out NS.out)
    have K2' := ae.mk (hk.at K2.out NS2.out)
    clear hi hk
    have c6 : w'.cell? ⟨b2, 6, none⟩ = some (.slice A l.length cc) := (af K2'.out 6).trans rfl
    go_wp2_with fail
    clear c6
    refine (HN.out b3 w' HI'.out K3'.out NS.out).mono ?_
    rintro e w'' ⟨rfl, hi, hk⟩
    have HI2 := ae.mk hi
    have vI := ae.mk (HK'.out.trans hk)
    clear hi hk
    go_wp2
    go_ret
    exact ⟨rfl, HI2.out, vI.out⟩
def wC (x : ai) : Bool := if x.f0 = 1 then decide (x.f3.length = 0) && (decide (0 ≤ x.f2) && decide (x.f2 ≤ 2147483647)) else if x.f0 = 2 ∨ x.f0 = 3 then decide (2 ≤ x.f3.length) && decide (x.f2 = 0) else false
theorem zl (x : ai) : qi x = (wC x && n_ x.f1) := by
 unfold qi wC
 by_cases h1 : x.f0 = 1
 ·simp [h1, Bool.and_comm, Bool.and_assoc]
 ·by_cases h2 : x.f0 = 2
  ·simp [h2, Bool.and_comm]
  ·by_cases h3 : x.f0 = 3
   ·simp [h3, Bool.and_comm]
   ·have : ¬ (1 ≤ x.f0 ∧ x.f0 ≤ 3) := by omega
    simp [h1, h2, h3, this]
def jy (s : Int × List Int) (x : ai) : Bool × (Int × List Int) :=
 if 20000 < wrap64 (s.1 + 1) then (false, (wrap64 (s.1 + 1), s.2))
 else if qi x = false then (false, (wrap64 (s.1 + 1), s.2))
 else if x.f0 = 1 then (if x.f2 ∈ s.2 then (false, (wrap64 (s.1 + 1), s.2)) else (true, (wrap64 (s.1 + 1), x.f2 :: s.2)))
 else (true, (wrap64 (s.1 + 1), s.2))
def lv (l : List ai) : List ai := l.filter fun x => decide (x.f0 = 1)
theorem UH : ∀ (rest pre : List ai), (pre ++ rest).length ≤ 1048576 → pre.length ≤ 20000 → gJ (lv pre) = true →
  (tN jy rest ((pre.length : Int), ((lv pre).map (·.f2)).reverse)).1 = (decide (pre.length + rest.length ≤ 20000) && (rest.all qi && gJ (lv (pre ++ rest)))) := by
 intro rest
 induction rest with
 | nil =>
  intro pre _ h2 h3
  simp [tN, h3]
  exact h2
 | cons x xs ih =>
  intro pre h1 h2 h3
  have hlen : (pre ++ x :: xs).length = pre.length + xs.length + 1 := by simp; omega
  have hw : wrap64 ((pre.length : Int) + 1) = ((pre.length + 1 : Nat) : Int) := (wq (by omega) (by omega)).trans (by omega)
  have hsp : pre ++ x :: xs = (pre ++ [x]) ++ xs := by simp
  simp only [tN]
  unfold jy
  simp only [hw]
  by_cases c1 : (20000 : Int) < ((pre.length + 1 : Nat) : Int)
  ·rw [if_pos c1]
   simp
   intro h
   omega
  ·rw [if_neg c1]
   cases c2 : qi x with
   | false => simp [c2]
   | true =>
    simp only [Bool.true_eq_false, if_false, List.all_cons, c2, Bool.true_and]
    have hl1 : (pre ++ [x]).length = pre.length + 1 := by simp
    have hcnt : decide (pre.length + (x :: xs).length ≤ 20000) = decide ((pre ++ [x]).length + xs.length ≤ 20000) := by
     rw [hl1, List.length_cons, decide_eq_decide]; omega
    rw [hcnt]
    by_cases c3 : x.f0 = 1
    ·rw [if_pos c3]
     have hlv : lv (pre ++ [x]) = lv pre ++ [x] := by simp [lv, c3]
     have hmem : x.f2 ∈ ((lv pre).map (·.f2)).reverse ↔ oG (lv pre) x = false := by
      simp [oG]
      constructor
      ·rintro ⟨y, hy, e⟩; exact ⟨y, hy, e.symm⟩
      ·rintro ⟨y, hy, e⟩; exact ⟨y, hy, e.symm⟩
     by_cases c4 : x.f2 ∈ ((lv pre).map (·.f2)).reverse
     ·rw [if_pos c4]
      have hd : gJ (lv (pre ++ x :: xs)) = false := by
       rw [hsp]
       unfold lv
       rw [List.filter_append]
       apply yw
       have : List.filter (fun x => decide (x.f0 = 1)) (pre ++ [x]) = lv pre ++ [x] := hlv
       rw [this, qQ, hmem.1 c4, Bool.and_false]
      simp [hd]
     ·rw [if_neg c4]
      have ha : oG (lv pre) x = true := by
       cases h : oG (lv pre) x with
       | true => rfl
       | false => exact absurd (hmem.2 h) c4
      have e := ih (pre ++ [x]) (by rw [← hsp]; exact h1) (by rw [hl1]; omega) (by rw [hlv, qQ, h3, ha]; rfl)
      rw [hlv, List.map_append, List.reverse_append, hl1, ← hsp] at e
      simp only [if_true]
      rw [hl1]
      exact e
    ·rw [if_neg c3]
     have hlv : lv (pre ++ [x]) = lv pre := by simp [lv, c3]
     have e := ih (pre ++ [x]) (by rw [← hsp]; exact h1) (by rw [hl1]; omega) (by rw [hlv]; exact h3)
     rw [hlv, hl1, ← hsp] at e
     simp only [if_true]
     rw [hl1]
     exact e
theorem VS (c : ai) (h : sz c ≤ 1048576) : (rf jy c (0, [])).1 = lZ c := by
 rw [(VT jy (sz c)).1 c (Nat.le_refl _)]
 have e := UH (iH c) [] (by rw [List.nil_append]; exact h) (by simp) rfl
 have e2 : (tN jy (iH c) (0, [])).1 = (decide (0 + (iH c).length ≤ 20000) && ((iH c).all qi && gJ (lv ([] ++ iH c)))) := e
 rw [e2, Nat.zero_add, List.nil_append]
 rfl
theorem Xm : ∀ (N : Nat) (l : List Int), l.Nodup → (∀ i ∈ l, 0 ≤ i ∧ i < (N : Int)) → l.length ≤ N := by
 intro N
 induction N with
 | zero =>
  intro l _ h
  cases l with
  | nil => simp
  | cons x xs => have := h x (by simp); omega
 | succ N ih =>
  intro l hn h
  have h1 := ih (l.filter fun i => decide (i ≠ (N : Int))) (hn.filter _) (fun i hi => by
   have h2 := List.mem_filter.1 hi
   have h3 := h i h2.1
   have h4 := of_decide_eq_true h2.2
   omega)
  have h5 : ∀ (m : List Int), m.Nodup → m.length ≤ (m.filter fun i => decide (i ≠ (N : Int))).length + 1 := by
   intro m
   induction m with
   | nil => intro _; simp
   | cons y ys ihm =>
    intro hm
    rw [List.nodup_cons] at hm
    by_cases hy : y = (N : Int)
    ·have : ys.filter (fun i => decide (i ≠ (N : Int))) = ys := by
      rw [List.filter_eq_self]
      intro i hi
      exact decide_eq_true (fun e => hm.1 (by rw [hy, ← e]; exact hi))
     rw [List.filter_cons_of_neg (by simp [hy]), this, List.length_cons]
     exact Nat.le_refl _
    ·rw [List.filter_cons_of_pos (by simpa using hy), List.length_cons, List.length_cons]
     have := ihm hm.2
     omega
  have := h5 l hn
  omega
def Gp (ids : List Int) : DataW Unit := ids.foldr (fun i D => D.put (.int .i64 i) (.lit (.bool true))) (.map [])
theorem XM : ∀ ids : List Int, Maps.IsMap (Gp ids) := by
 intro ids
 induction ids with
 | nil => exact Maps.isMap_empty
 | cons x xs ih => exact Maps.IsMap.put ih _ _
theorem PZ (i : Int) : ∀ ids : List Int, (Gp ids).atKey (.int .i64 i) (.lit (.bool false)) = .lit (.bool (decide (i ∈ ids))) := by
 intro ids
 induction ids with
 | nil => rfl
 | cons x xs ih =>
  show (DataW.put (Gp xs) (.int .i64 x) (.lit (.bool true))).atKey (.int .i64 i) (.lit (.bool false)) = _
  by_cases h : i = x
  ·subst h
   rw [Maps.atKey_put_same (XM xs) (by simp [WideAt.IsKeyLit])]
   simp
  ·rw [Maps.atKey_put_other (by intro e; injection e with _ e; exact h e), ih]
   simp [h]
structure lV (w0 : World) (bn bm B : Nat) (s : Int × List Int) (W : World) : Prop where
 hn : W.heap[bn]? = some (.cells #[.int .i64 s.1] 3 (0, 0))
 hm : W.heap[bm]? = some (.cells #[.map (some B)] 161 (0, 0))
 map : W.ownsMap (H := Unit) Try.prog 3 (plainElem Try.prog 4) B s.2.length (Gp s.2)
 below : Below w0.heap.size w0 W
 gn : w0.heap.size ≤ bn
 gB : w0.heap.size ≤ B
 nd : s.2.Nodup
 rg : ∀ i ∈ s.2, 0 ≤ i ∧ i ≤ 2147483647
theorem below_grown {W W' : World} (h : Below W.heap.size W W') : W.grownBy W' none := ⟨h.os, h.tape, h.output, h.size, fun k hk _ => h.block k hk⟩
theorem lV.step {w0 W W' : World} {bn bm B : Nat} {s : Int × List Int} (h : lV w0 bn bm B s W) (hb : Below W.heap.size W W') : lV w0 bn bm B s W' :=
 ⟨aV h.hn hb, aV h.hm hb, h.map.kept (below_grown hb) (by simp), az h.below hb, h.gn, h.gB, h.nd, h.rg⟩
theorem lV.YQ {w0 W : World} {bn bm B : Nat} {s : Int × List Int} (h : lV w0 bn bm B s W) : bn ≠ B ∧ bm ≠ B ∧ bm ≠ bn := by
 obtain ⟨es, cl, hB, _⟩ := h.map
 refine ⟨fun e => ?_, fun e => ?_, ug h.hm h.hn (by decide)⟩
 ·have := h.hn; rw [e, hB] at this; cases this
 ·have := h.hm; rw [e, hB] at this; cases this
def vJ (bn B : Nat) (k : Nat) : Prop := k = bn ∨ k = B
section
variable {P : Program} {ops : Array Oper} {rest : List Oper} {o : Oper} {a : Act} {Q : Exit → Act → World → Prop}
theorem Fe (w : World) (hg : o.guard = none) (m x : Operand) (t : TypeId) (hop : o.op = Op.lookup t m x false)
  (k e : TypeId) (K : Maps.Keyed P k) (ht : P.underlying t = some (.map k e)) (he : P.underlying e = some .bool) (hz : (zeroValue e).run P w = .ok (.bool false) w) (b n : Nat) (D : DataW Unit)
  (hm : a.eval m = .map (some b)) (hown : w.ownsMap P k (plainElem P e) b n D) (key : Value) (kl : Lit) (hx : a.eval x = key) (hkey : keyOf P k key = some kl) (r : Bool) (hr : D.atKey kl (.lit (.bool false)) = .lit (.bool r))
  (hK : wpList P ops Q rest (a.put o.dst (.bool r)) w) : wpList P ops Q (o :: rest) a w := by
 refine wpList_plain hg fun K' hK' => ?_
 obtain ⟨v, ps, hrun, hv⟩ := hown.lookup K ht hz (plainElem_bool he false) hkey
 have hv2 : v = .bool r := by
  rw [hr] at hv
  unfold plainElem at hv
  rw [he] at hv
  cases v with
  | bool q =>
   simp only [Option.some.injEq, Prod.mk.injEq, DataW.lit.injEq, Lit.bool.injEq] at hv
   rw [hv.1]
  | _ => cases hv
 subst hv2
 unfold Oper.wp
 simp [execOp, hop, hm, hx, hrun, Result.andThen]
 exact hK' _ _ hK
end
theorem Bo (x : ai) (B : Option Addr) (cb : Nat) (w : World) : Calls Try.prog 177 #[.agg #[.int .u8 x.f0, .int .i64 x.f1.f0, .int .i64 x.f1.f1, .int .i64 x.f1.f2, .int .i64 x.f1.f3, .int .i64 x.f2, .slice B x.f3.length cb]] w fun e w' => e = .returned (.bool (wC x)) ∧ Below w.heap.size w w' := by
 unfold wC
 by_cases k1 : x.f0 = 1
 ·rw [if_pos k1]
  have k1b : (x.f0 == 1) = true := beq_iff_eq.mpr k1
  clear k1
  by_cases l0 : x.f3.length = 0
  ·rw [decide_eq_true l0, Bool.true_and]
   have l1 : ((x.f3.length : Int) == 0) = true := by simp [l0]
   have l2 : (x.f3.length == 0) = true := by simp [l0]
   clear l0
   by_cases i0 : 0 ≤ x.f2
   ·rw [decide_eq_true i0, Bool.true_and]
    have Uy : decide (0 ≤ x.f2) = true := decide_eq_true i0
    by_cases i1 : x.f2 ≤ 2147483647
    ·rw [decide_eq_true i1]
     have i1b : decide (x.f2 ≤ 2147483647) = true := decide_eq_true i1
     go_enter Try.func177, Try.ntmps177
     go_wp2_with (((with_reducible refine aC (N := 1) rfl ?_); refine aQ ?hg (N := 1) ?hd (cs := #[.int .u8 x.f0, .int .i64 x.f1.f0, .int .i64 x.f1.f1, .int .i64 x.f1.f2, .int .i64 x.f1.f3, .int .i64 x.f2, .slice B x.f3.length cb]) (t := 26) ?hr ?_; (case hd => rfl); (case hg => rfl); (case hr => (go_simp; done)); intro b1 hg w1 hbox hb; have HB := ae.mk hb; have K1 := ae.mk hbox; clear hb hbox hg; have c0 := (af K1.out 0).trans rfl; have c1 := (af K1.out 1).trans rfl; have c2 := (af K1.out 2).trans rfl; have c3 := (af K1.out 3).trans rfl; have c4 := (af K1.out 4).trans rfl; have c5 := (af K1.out 5).trans rfl; have c6 := (af K1.out 6).trans rfl))
     go_ret
     exact ⟨rfl, HB.out⟩
    ·rw [decide_eq_false i1]
     have i1b : decide (x.f2 ≤ 2147483647) = false := decide_eq_false i1
     go_enter Try.func177, Try.ntmps177
     go_wp2_with (((with_reducible refine aC (N := 1) rfl ?_); refine aQ ?hg (N := 1) ?hd (cs := #[.int .u8 x.f0, .int .i64 x.f1.f0, .int .i64 x.f1.f1, .int .i64 x.f1.f2, .int .i64 x.f1.f3, .int .i64 x.f2, .slice B x.f3.length cb]) (t := 26) ?hr ?_; (case hd => rfl); (case hg => rfl); (case hr => (go_simp; done)); intro b1 hg w1 hbox hb; have HB := ae.mk hb; have K1 := ae.mk hbox; clear hb hbox hg; have c0 := (af K1.out 0).trans rfl; have c1 := (af K1.out 1).trans rfl; have c2 := (af K1.out 2).trans rfl; have c3 := (af K1.out 3).trans rfl; have c4 := (af K1.out 4).trans rfl; have c5 := (af K1.out 5).trans rfl; have c6 := (af K1.out 6).trans rfl))
     go_ret
     exact ⟨rfl, HB.out⟩
   ·rw [decide_eq_false i0, Bool.false_and]
    have Uy : decide (0 ≤ x.f2) = false := decide_eq_false i0
    go_enter Try.func177, Try.ntmps177
    go_wp2_with (((with_reducible refine aC (N := 1) rfl ?_); refine aQ ?hg (N := 1) ?hd (cs := #[.int .u8 x.f0, .int .i64 x.f1.f0, .int .i64 x.f1.f1, .int .i64 x.f1.f2, .int .i64 x.f1.f3, .int .i64 x.f2, .slice B x.f3.length cb]) (t := 26) ?hr ?_; (case hd => rfl); (case hg => rfl); (case hr => (go_simp; done)); intro b1 hg w1 hbox hb; have HB := ae.mk hb; have K1 := ae.mk hbox; clear hb hbox hg; have c0 := (af K1.out 0).trans rfl; have c1 := (af K1.out 1).trans rfl; have c2 := (af K1.out 2).trans rfl; have c3 := (af K1.out 3).trans rfl; have c4 := (af K1.out 4).trans rfl; have c5 := (af K1.out 5).trans rfl; have c6 := (af K1.out 6).trans rfl))
    go_ret
    exact ⟨rfl, HB.out⟩
  ·rw [decide_eq_false l0, Bool.false_and]
   have l1 : ((x.f3.length : Int) == 0) = false := by simp; intro h; exact l0 (by simp [h])
   have l2 : (x.f3.length == 0) = false := by simpa using l0
   clear l0
   go_enter Try.func177, Try.ntmps177
   go_wp2_with (((with_reducible refine aC (N := 1) rfl ?_); refine aQ ?hg (N := 1) ?hd (cs := #[.int .u8 x.f0, .int .i64 x.f1.f0, .int .i64 x.f1.f1, .int .i64 x.f1.f2, .int .i64 x.f1.f3, .int .i64 x.f2, .slice B x.f3.length cb]) (t := 26) ?hr ?_; (case hd => rfl); (case hg => rfl); (case hr => (go_simp; done)); intro b1 hg w1 hbox hb; have HB := ae.mk hb; have K1 := ae.mk hbox; clear hb hbox hg; have c0 := (af K1.out 0).trans rfl; have c1 := (af K1.out 1).trans rfl; have c2 := (af K1.out 2).trans rfl; have c3 := (af K1.out 3).trans rfl; have c4 := (af K1.out 4).trans rfl; have c5 := (af K1.out 5).trans rfl; have c6 := (af K1.out 6).trans rfl))
   go_ret
   exact ⟨rfl, HB.out⟩
 ·rw [if_neg k1]
  have k1b : (x.f0 == 1) = false := beq_eq_false_iff_ne.mpr k1
  by_cases k2 : x.f0 = 2
  ·rw [if_pos (.inl k2)]
   have k2b : (x.f0 == 2) = true := beq_iff_eq.mpr k2
   clear k2 k1
   by_cases l0 : 2 ≤ x.f3.length
   ·rw [decide_eq_true l0, Bool.true_and]
    have l1 : (2 : Int) ≤ (x.f3.length : Int) := by omega
    by_cases i0 : x.f2 = 0
    ·rw [decide_eq_true i0]
     have Uy : (x.f2 == 0) = true := beq_iff_eq.mpr i0
     clear i0
     go_enter Try.func177, Try.ntmps177
     go_wp2_with (((with_reducible refine aC (N := 1) rfl ?_); refine aQ ?hg (N := 1) ?hd (cs := #[.int .u8 x.f0, .int .i64 x.f1.f0, .int .i64 x.f1.f1, .int .i64 x.f1.f2, .int .i64 x.f1.f3, .int .i64 x.f2, .slice B x.f3.length cb]) (t := 26) ?hr ?_; (case hd => rfl); (case hg => rfl); (case hr => (go_simp; done)); intro b1 hg w1 hbox hb; have HB := ae.mk hb; have K1 := ae.mk hbox; clear hb hbox hg; have c0 := (af K1.out 0).trans rfl; have c1 := (af K1.out 1).trans rfl; have c2 := (af K1.out 2).trans rfl; have c3 := (af K1.out 3).trans rfl; have c4 := (af K1.out 4).trans rfl; have c5 := (af K1.out 5).trans rfl; have c6 := (af K1.out 6).trans rfl))
     go_ret
     exact ⟨rfl, HB.out⟩
    ·rw [decide_eq_false i0]
     have Uy : (x.f2 == 0) = false := beq_eq_false_iff_ne.mpr i0
     clear i0
     go_enter Try.func177, Try.ntmps177
     go_wp2_with (((with_reducible refine aC (N := 1) rfl ?_); refine aQ ?hg (N := 1) ?hd (cs := #[.int .u8 x.f0, .int .i64 x.f1.f0, .int .i64 x.f1.f1, .int .i64 x.f1.f2, .int .i64 x.f1.f3, .int .i64 x.f2, .slice B x.f3.length cb]) (t := 26) ?hr ?_; (case hd => rfl); (case hg => rfl); (case hr => (go_simp; done)); intro b1 hg w1 hbox hb; have HB := ae.mk hb; have K1 := ae.mk hbox; clear hb hbox hg; have c0 := (af K1.out 0).trans rfl; have c1 := (af K1.out 1).trans rfl; have c2 := (af K1.out 2).trans rfl; have c3 := (af K1.out 3).trans rfl; have c4 := (af K1.out 4).trans rfl; have c5 := (af K1.out 5).trans rfl; have c6 := (af K1.out 6).trans rfl))
     go_ret
     exact ⟨rfl, HB.out⟩
   ·rw [decide_eq_false l0, Bool.false_and]
    have l1 : ¬ (2 : Int) ≤ (x.f3.length : Int) := by omega
    go_enter Try.func177, Try.ntmps177
    go_wp2_with (((with_reducible refine aC (N := 1) rfl ?_); refine aQ ?hg (N := 1) ?hd (cs := #[.int .u8 x.f0, .int .i64 x.f1.f0, .int .i64 x.f1.f1, .int .i64 x.f1.f2, .int .i64 x.f1.f3, .int .i64 x.f2, .slice B x.f3.length cb]) (t := 26) ?hr ?_; (case hd => rfl); (case hg => rfl); (case hr => (go_simp; done)); intro b1 hg w1 hbox hb; have HB := ae.mk hb; have K1 := ae.mk hbox; clear hb hbox hg; have c0 := (af K1.out 0).trans rfl; have c1 := (af K1.out 1).trans rfl; have c2 := (af K1.out 2).trans rfl; have c3 := (af K1.out 3).trans rfl; have c4 := (af K1.out 4).trans rfl; have c5 := (af K1.out 5).trans rfl; have c6 := (af K1.out 6).trans rfl))
    go_ret
    exact ⟨rfl, HB.out⟩
  ·by_cases k3 : x.f0 = 3
   ·rw [if_pos (.inr k3)]
    have k2b : (x.f0 == 2) = false := beq_eq_false_iff_ne.mpr k2
    have k3b : (x.f0 == 3) = true := beq_iff_eq.mpr k3
    clear k3 k2 k1
    by_cases l0 : 2 ≤ x.f3.length
    ·rw [decide_eq_true l0, Bool.true_and]
     have l1 : (2 : Int) ≤ (x.f3.length : Int) := by omega
     by_cases i0 : x.f2 = 0
     ·rw [decide_eq_true i0]
      have Uy : (x.f2 == 0) = true := beq_iff_eq.mpr i0
      clear i0
      go_enter Try.func177, Try.ntmps177
      go_wp2_with (((with_reducible refine aC (N := 1) rfl ?_); refine aQ ?hg (N := 1) ?hd (cs := #[.int .u8 x.f0, .int .i64 x.f1.f0, .int .i64 x.f1.f1, .int .i64 x.f1.f2, .int .i64 x.f1.f3, .int .i64 x.f2, .slice B x.f3.length cb]) (t := 26) ?hr ?_; (case hd => rfl); (case hg => rfl); (case hr => (go_simp; done)); intro b1 hg w1 hbox hb; have HB := ae.mk hb; have K1 := ae.mk hbox; clear hb hbox hg; have c0 := (af K1.out 0).trans rfl; have c1 := (af K1.out 1).trans rfl; have c2 := (af K1.out 2).trans rfl; have c3 := (af K1.out 3).trans rfl; have c4 := (af K1.out 4).trans rfl; have c5 := (af K1.out 5).trans rfl; have c6 := (af K1.out 6).trans rfl))
      go_ret
      exact ⟨rfl, HB.out⟩
     ·rw [decide_eq_false i0]
      have Uy : (x.f2 == 0) = false := beq_eq_false_iff_ne.mpr i0
      clear i0
      go_enter Try.func177, Try.ntmps177
      go_wp2_with (((with_reducible refine aC (N := 1) rfl ?_); refine aQ ?hg (N := 1) ?hd (cs := #[.int .u8 x.f0, .int .i64 x.f1.f0, .int .i64 x.f1.f1, .int .i64 x.f1.f2, .int .i64 x.f1.f3, .int .i64 x.f2, .slice B x.f3.length cb]) (t := 26) ?hr ?_; (case hd => rfl); (case hg => rfl); (case hr => (go_simp; done)); intro b1 hg w1 hbox hb; have HB := ae.mk hb; have K1 := ae.mk hbox; clear hb hbox hg; have c0 := (af K1.out 0).trans rfl; have c1 := (af K1.out 1).trans rfl; have c2 := (af K1.out 2).trans rfl; have c3 := (af K1.out 3).trans rfl; have c4 := (af K1.out 4).trans rfl; have c5 := (af K1.out 5).trans rfl; have c6 := (af K1.out 6).trans rfl))
      go_ret
      exact ⟨rfl, HB.out⟩
    ·rw [decide_eq_false l0, Bool.false_and]
     have l1 : ¬ (2 : Int) ≤ (x.f3.length : Int) := by omega
     go_enter Try.func177, Try.ntmps177
     go_wp2_with (((with_reducible refine aC (N := 1) rfl ?_); refine aQ ?hg (N := 1) ?hd (cs := #[.int .u8 x.f0, .int .i64 x.f1.f0, .int .i64 x.f1.f1, .int .i64 x.f1.f2, .int .i64 x.f1.f3, .int .i64 x.f2, .slice B x.f3.length cb]) (t := 26) ?hr ?_; (case hd => rfl); (case hg => rfl); (case hr => (go_simp; done)); intro b1 hg w1 hbox hb; have HB := ae.mk hb; have K1 := ae.mk hbox; clear hb hbox hg; have c0 := (af K1.out 0).trans rfl; have c1 := (af K1.out 1).trans rfl; have c2 := (af K1.out 2).trans rfl; have c3 := (af K1.out 3).trans rfl; have c4 := (af K1.out 4).trans rfl; have c5 := (af K1.out 5).trans rfl; have c6 := (af K1.out 6).trans rfl))
     go_ret
     exact ⟨rfl, HB.out⟩
   ·rw [if_neg (fun h => h.elim k2 k3)]
    have k2b : (x.f0 == 2) = false := beq_eq_false_iff_ne.mpr k2
    have k3b : (x.f0 == 3) = false := beq_eq_false_iff_ne.mpr k3
    go_enter Try.func177, Try.ntmps177
    go_wp2_with (((with_reducible refine aC (N := 1) rfl ?_); refine aQ ?hg (N := 1) ?hd (cs := #[.int .u8 x.f0, .int .i64 x.f1.f0, .int .i64 x.f1.f1, .int .i64 x.f1.f2, .int .i64 x.f1.f3, .int .i64 x.f2, .slice B x.f3.length cb]) (t := 26) ?hr ?_; (case hd => rfl); (case hg => rfl); (case hr => (go_simp; done)); intro b1 hg w1 hbox hb; have HB := ae.mk hb; have K1 := ae.mk hbox; clear hb hbox hg; have c0 := (af K1.out 0).trans rfl; have c1 := (af K1.out 1).trans rfl; have c2 := (af K1.out 2).trans rfl; have c3 := (af K1.out 3).trans rfl; have c4 := (af K1.out 4).trans rfl; have c5 := (af K1.out 5).trans rfl; have c6 := (af K1.out 6).trans rfl))
    go_ret
    exact ⟨rfl, HB.out⟩
theorem aew {σ : Type} (Inv : σ → World → Prop) (step : σ → dW → Bool × σ) (g : Nat) (lb : Array Value) (eg : ∀ args w, (callFunc g args).run Try.prog w = .ok (.enter g args) w) (l : List dW) (A : Option Addr) (c : Nat)
  (hR : ∀ s W, Inv s W → Kd.C k23 W A l.length l) (hD : ∀ s W n, Inv s W → Inv s (W.drewN n))
  (hcall : ∀ s W (x : dW), x ∈ l → Inv s W → Calls Try.prog g (#[.agg #[.int .i64 x.f0, .int .i64 x.f1, .int .i64 x.f2, .int .i64 x.f3]] ++ lb) W fun e w' => e = .returned (.bool (step s x).1) ∧ Inv (step s x).2 w')
  (s : σ) (w : World) (hI : Inv s w) (hl : l.length ≤ 9223372036854775807) :
  Calls Try.prog 173 #[.slice A l.length c, .func (.func g) #[] lb] w fun e w' => e = .returned (.int .i64 (lD step 0 s l).1) ∧ Inv (lD step 0 s l).2 w' := by
 have HR := ae.mk hR
 have HI := ae.mk hI
 have yE := ae.mk hcall
 clear hR hcall hD hI
 go_enter Try.func173, Try.ntmps173
 go_wp2
 go_loopg [5, 8] l.length (fun gg _ v8 wr => ∃ (kk : Nat) (t : σ), kk ≤ l.length ∧ l.length - kk ≤ gg ∧ v8 = .int .i64 kk ∧ ae (Inv t wr) ∧ ae (lD step 0 s l = lD step kk t (l.drop kk)))
 case atStart => exact ⟨0, s, Nat.zero_le _, by omega, rfl, HI, ⟨by simp⟩⟩
 case round =>
  clear HI
  obtain ⟨kk, t, hkk, hg, rfl, HI, HS⟩ := hrel
  by_cases hlt : kk < l.length
  ·have hltz : (kk : Int) < (l.length : Int) := by omega
   obtain ⟨ad, rfl, hc0, hc1, hc2, hc3⟩ := L_ (HR.out t wr HI.out) (kk : Int) (by omega) (by omega)
   have HX : ae (lD step kk t (l.drop kk) = if (step t (ql l (kk : Int))).1 = true then ((kk : Int), (step t (ql l (kk : Int))).2) else lD step ((kk + 1 : Nat) : Int) (step t (ql l (kk : Int))).2 (l.drop (kk + 1))) := ⟨PW step z23 l kk hlt t⟩
   have hmem : (ql l (kk : Int)) ∈ l := Di z23 l kk hlt
   have hcall := yE.out t wr _ hmem HI.out
   clear hmem
   simp only [Int.toNat_natCast] at hc0 hc1 hc2 hc3
   generalize ql l (kk : Int) = x at hc0 hc1 hc2 hc3 HX hcall
   have HC := ae.mk hcall
   clear hcall
   cases hq : (step t x).1 with
   | true =>
    have h := HC.out
    rw [hq] at h
    have HH := ae.mk h
    have HQ := ae.mk hq
    clear hq HC h
    go_wp2_with fail
    refine HH.out.mono ?_
    rintro e w' ⟨rfl, hb'⟩
    have HB := ae.mk hb'
    clear hb'
    go_wp2
    go_ret
    rw [HS.out, HX.out, if_pos HQ.out]
    exact ⟨rfl, HB.out⟩
   | false =>
    have h := HC.out
    rw [hq] at h
    have HH := ae.mk h
    have HQ := ae.mk hq
    clear hq HC h
    go_wp2_with fail
    refine HH.out.mono ?_
    rintro e w' ⟨rfl, hb'⟩
    have HB := ae.mk hb'
    clear hb'
    go_wp2
    go_roundg (l.length - (kk + 1))
    case measure => omega
    case rel =>
     refine ⟨kk + 1, (step t x).2, by omega, by omega, by go_num, HB, ⟨?_⟩⟩
     rw [HS.out, HX.out, if_neg (by rw [HQ.out]; simp)]
  ·have hltz : ¬ (kk : Int) < (l.length : Int) := by omega
   go_wp2
   go_ret
   rw [HS.out, List.drop_eq_nil_of_le (by omega)]
   exact ⟨rfl, HI.out⟩
theorem adb {σ : Type} (Inv : σ → World → Prop) (step : σ → dW → Bool × σ) (g : Nat) (lb : Array Value) (eg : ∀ args w, (callFunc g args).run Try.prog w = .ok (.enter g args) w) (l : List dW) (A : Option Addr) (c : Nat)
  (hR : ∀ s W, Inv s W → Kd.C k23 W A l.length l) (hD : ∀ s W n, Inv s W → Inv s (W.drewN n))
  (hcall : ∀ s W (x : dW), x ∈ l → Inv s W → Calls Try.prog g (#[.agg #[.int .i64 x.f0, .int .i64 x.f1, .int .i64 x.f2, .int .i64 x.f3]] ++ lb) W fun e w' => e = .returned (.bool (step s x).1) ∧ Inv (step s x).2 w')
  (s : σ) (w : World) (hI : Inv s w) (hl : l.length ≤ 9223372036854775807) :
  Calls Try.prog 134 #[.slice A l.length c, .func (.func g) #[] lb] w fun e w' => e = .returned (.bool (rF step s l).1) ∧ Inv (rF step s l).2 w' := by
 have hi := aew Inv step g lb eg l A c hR hD hcall s w hI hl
 rw [Ol]
 clear hR hD hcall hI
 generalize lD step 0 s l = r at hi
 have HI := ae.mk hi
 clear hi
 go_enter Try.func134, Try.ntmps134
 go_wp2_with fail
 refine HI.out.mono ?_
 rintro e w' ⟨rfl, hb'⟩
 have HB := ae.mk hb'
 clear hb'
 go_wp2
 go_ret
 exact ⟨rfl, HB.out⟩
theorem may1 (x : dW) (w : World) : Calls Try.prog 138 #[.agg #[.int .i64 x.f0, .int .i64 x.f1, .int .i64 x.f2, .int .i64 x.f3]] w fun e w' => e = .returned (.bool (!n_ x)) ∧ Below w.heap.size w w' := by
 have hc := fun W => wZ.calls x.f0 x.f1 x.f2 x.f3 (n_ x) W (NW _ _ _ _)
 have HC := ae.mk hc
 clear hc
 cases hm : n_ x with
 | true =>
  rw [hm] at HC
  clear hm
  go_enter Try.func138, Try.ntmps138
  go_wp2_with fail
  refine (HC.out _).mono ?_
  rintro e w' ⟨rfl, hb⟩
  have HB := ae.mk hb
  clear hb
  go_wp2
  go_ret
  exact ⟨rfl, vN (gz (Below.refl _ _) _) (by simp) HB.out⟩
 | false =>
  rw [hm] at HC
  clear hm
  go_enter Try.func138, Try.ntmps138
  go_wp2_with fail
  refine (HC.out _).mono ?_
  rintro e w' ⟨rfl, hb⟩
  have HB := ae.mk hb
  clear hb
  go_wp2
  go_ret
  exact ⟨rfl, vN (gz (Below.refl _ _) _) (by simp) HB.out⟩
def lJ.f (l0 : List (dW)) : Option Bool := some (l0.all n_)
theorem lJ.calls (A0 : Option Addr) (c0 : Nat) (l0 : List (dW)) (r : Bool) (w : World) (hr0 : Kd.C k23 w A0 l0.length l0) (ahd : l0.length ≤ c0) (h : lJ.f l0 = some r) :
  Calls Try.prog 68 #[.slice A0 l0.length c0] w fun e w' => e = .returned (.bool r) ∧ Below w.heap.size w w' := by
 have hcon := adb (fun (_ : Unit) W => Below w.heap.size w W) (fun _ x => (!n_ x, ())) 138 #[] (rX Try.func138 (by decide +kernel) (by kernel_rfl)) l0 A0 c0 (fun _ W hW => Kd.fC hr0 hW) (fun _ W n hW => dC hW n)
  (fun _ W x _ hW => by
   rw [show (#[Value.agg #[.int .i64 x.f0, .int .i64 x.f1, .int .i64 x.f2, .int .i64 x.f3]] ++ #[] : Array Value) = #[.agg #[.int .i64 x.f0, .int .i64 x.f1, .int .i64 x.f2, .int .i64 x.f3]] by simp]
   exact (may1 x W).mono fun e w' ⟨he, hb⟩ => ⟨he, vN hW hW.size hb⟩) () w (Below.refl _ _) hr0.2.1
 rw [J6] at hcon
 have e1 : r = !(l0.any fun x => !n_ x) := by
  injection h with h
  rw [← h]
  clear h hcon hr0 ahd
  induction l0 with
  | nil => rfl
  | cons x xs ih => simp only [List.all_cons, List.any_cons, ih, Bool.not_or, Bool.not_not]
 subst e1
 generalize (l0.any fun x => !n_ x) = b at hcon
 have HC := ae.mk hcon
 clear hcon h hr0
 go_enter Try.func68, Try.ntmps68
 go_wp2_with fail
 refine HC.out.mono ?_
 rintro e w' ⟨rfl, hb⟩
 have HB := ae.mk hb
 clear hb
 go_wp2
 go_ret
 exact ⟨rfl, HB.out⟩
theorem Kp.grown {S : Nat → Prop} {W W1 : World} {g : Nat} (h : W.grownBy W1 (some g)) (hs : S g) : Kp S W W1 := ⟨h.size, fun k hk hn => h.block k hk (fun e => hn (by injection e with e; rw [e]; exact hs))⟩
theorem lV.count {w0 W W1 : World} {bn bm B : Nat} {s : Int × List Int} {n : Int} (h : lV w0 bn bm B s W) (hk : W1.heap[bn]? = some (.cells #[.int .i64 n] 3 (0, 0))) (hb : Below w0.heap.size w0 W1) (hg : W.grownBy W1 (some bn)) : lV w0 bn bm B (n, s.2) W1 :=
 ⟨hk, dJ h.hm hg (fun e => h.YQ.2.2 (Option.some.inj e)), h.map.kept hg (fun e => h.YQ.1 (Option.some.inj e).symm), hb, h.gn, h.gB, h.nd, h.rg⟩
theorem lV.met {w0 W W1 : World} {bn bm B : Nat} {s : Int × List Int} {i : Int} (h : lV w0 bn bm B s W) (hm : W1.ownsMap (H := Unit) Try.prog 3 (plainElem Try.prog 4) B (s.2.length + 1) ((Gp s.2).put (.int .i64 i) (.lit (.bool true)))) (hg : W.grownBy W1 (some B)) (hi : i ∉ s.2) (h0 : 0 ≤ i) (h1 : i ≤ 2147483647) : lV w0 bn bm B (s.1, i :: s.2) W1 :=
 ⟨dJ h.hn hg (fun e => h.YQ.1 (Option.some.inj e)), dJ h.hm hg (fun e => h.YQ.2.1 (Option.some.inj e)), hm, grown_below h.below hg h.gB h.below.size, h.gn, h.gB, List.nodup_cons.2 ⟨hi, h.nd⟩, fun j hj => by
  rcases List.mem_cons.1 hj with rfl | hj
  ·exact ⟨h0, h1⟩
  ·exact h.rg j hj⟩
theorem Y2 (w : World) : (zeroValue 4).run Try.prog w = .ok (.bool false) w := by kernel_rfl
theorem agc (w0 : World) (bn bm B : Nat) (s : Int × List Int) (W : World) (x : ai) (A : Option Addr) (cb : Nat) (hI : lV w0 bn bm B s W) (h1 : 20000 < wrap64 (s.1 + 1)) :
  Calls Try.prog 176 (#[.agg #[.int .u8 x.f0, .int .i64 x.f1.f0, .int .i64 x.f1.f1, .int .i64 x.f1.f2, .int .i64 x.f1.f3, .int .i64 x.f2, .slice A x.f3.length cb]] ++ #[.pointer (some ⟨bn, 0, none⟩), .pointer (some ⟨bm, 0, none⟩)]) W fun e w' => e = .returned (.bool (jy s x).1) ∧ lV w0 bn bm B (jy s x).2 w' ∧ Kp (vJ bn B) W w' := by
 rw [show jy s x = (false, (wrap64 (s.1 + 1), s.2)) from by unfold jy; rw [if_pos h1]]
 have HI := ae.mk hI
 have HK := ae.mk (Kp.refl (vJ bn B) W)
 clear hI
 simp only [List.append_toArray, List.cons_append, List.nil_append]
 go_enter Try.func176, Try.ntmps176
 go_wp2_with (first | ((with_reducible refine aC (N := 3) rfl ?_); refine aQ ?hg (N := 3) ?hd (cs := #[.int .u8 x.f0, .int .i64 x.f1.f0, .int .i64 x.f1.f1, .int .i64 x.f1.f2, .int .i64 x.f1.f3, .int .i64 x.f2, .slice A x.f3.length cb]) (t := 26) ?hr ?_; (case hd => rfl); (case hg => rfl); (case hr => (go_simp; done)); intro b3 hg w3 hbox hb; have K3 := ae.mk hbox; have fH := ae.mk (HI.out.step hb); have fV := ae.mk (HK.out.trans (Kp.below hb)); clear HI HK; have HI := fH; have HK := fV; clear fH fV; clear hb hbox hg; have cn := (af HI.out.hn 0).trans rfl) | ((with_reducible refine lG (.store 3 (.tmp 1) (.tmp 6)) rfl ?_); go_loud (clear cn; refine iF (w0 := w0) rfl rfl 3 (.tmp 1) (.tmp 6) rfl (g := bn) (j := 0) (base := w0.heap.size) #[.int .i64 (wrap64 (s.1 + 1))] (u := .int .i64 (wrap64 (s.1 + 1))) (bP := [.int .i64 (wrap64 (s.1 + 1))]) ?sA ?sX rfl ?sT ?s1 HI.out.hn ?sJ rfl HI.out.below HI.out.below.size HI.out.gn ?_; (case sA => rfl); (case sX => rfl); (case sT => rfl); (case s1 => (simp [Value.oneCell'])); (case sJ => (simp)); intro ws hbk hbb hgg; have fH := ae.mk (HI.out.count hbk hbb hgg); have fV := ae.mk (HK.out.trans (Kp.grown hgg (Or.inl rfl))); have iW := ae.mk (dJ K3.out hgg (fun e_ => ug K3.out HI.out.hn (by decide) (Option.some.inj e_))); clear HI HK K3 hbk hbb hgg; have HI := fH; have HK := fV; have K3 := iW; clear fH fV iW; have cn := (af HI.out.hn 0).trans rfl; have c0 := (af K3.out 0).trans rfl; have c1 := (af K3.out 1).trans rfl; have c2 := (af K3.out 2).trans rfl; have c3 := (af K3.out 3).trans rfl; have c4 := (af K3.out 4).trans rfl; have c5 := (af K3.out 5).trans rfl; have c6 := (af K3.out 6).trans rfl)))
 go_ret
 exact ⟨rfl, HI.out, HK.out⟩
theorem agd (w0 : World) (bn bm B : Nat) (s : Int × List Int) (W : World) (x : ai) (A : Option Addr) (cb : Nat) (hI : lV w0 bn bm B s W) (h1 : ¬ 20000 < wrap64 (s.1 + 1)) (h2 : wC x = false) :
  Calls Try.prog 176 (#[.agg #[.int .u8 x.f0, .int .i64 x.f1.f0, .int .i64 x.f1.f1, .int .i64 x.f1.f2, .int .i64 x.f1.f3, .int .i64 x.f2, .slice A x.f3.length cb]] ++ #[.pointer (some ⟨bn, 0, none⟩), .pointer (some ⟨bm, 0, none⟩)]) W fun e w' => e = .returned (.bool (jy s x).1) ∧ lV w0 bn bm B (jy s x).2 w' ∧ Kp (vJ bn B) W w' := by
 rw [show jy s x = (false, (wrap64 (s.1 + 1), s.2)) from by unfold jy; rw [if_neg h1, zl, h2]; simp]
 have HN := ae.mk fun W => Bo x A cb W
 rw [h2] at HN
 clear h2
 have HI := ae.mk hI
 have HK := ae.mk (Kp.refl (vJ bn B) W)
 clear hI
 simp only [List.append_toArray, List.cons_append, List.nil_append]
 go_enter Try.func176, Try.ntmps176
 go_wp2_with (first | ((with_reducible refine aC (N := 3) rfl ?_); refine aQ ?hg (N := 3) ?hd (cs := #[.int .u8 x.f0, .int .i64 x.f1.f0, .int .i64 x.f1.f1, .int .i64 x.f1.f2, .int .i64 x.f1.f3, .int .i64 x.f2, .slice A x.f3.length cb]) (t := 26) ?hr ?_; (case hd => rfl); (case hg => rfl); (case hr => (go_simp; done)); intro b3 hg w3 hbox hb; have K3 := ae.mk hbox; have fH := ae.mk (HI.out.step hb); have fV := ae.mk (HK.out.trans (Kp.below hb)); clear HI HK; have HI := fH; have HK := fV; clear fH fV; clear hb hbox hg; have cn := (af HI.out.hn 0).trans rfl) | ((with_reducible refine lG (.store 3 (.tmp 1) (.tmp 6)) rfl ?_); go_loud (clear cn; refine iF (w0 := w0) rfl rfl 3 (.tmp 1) (.tmp 6) rfl (g := bn) (j := 0) (base := w0.heap.size) #[.int .i64 (wrap64 (s.1 + 1))] (u := .int .i64 (wrap64 (s.1 + 1))) (bP := [.int .i64 (wrap64 (s.1 + 1))]) ?sA ?sX rfl ?sT ?s1 HI.out.hn ?sJ rfl HI.out.below HI.out.below.size HI.out.gn ?_; (case sA => rfl); (case sX => rfl); (case sT => rfl); (case s1 => (simp [Value.oneCell'])); (case sJ => (simp)); intro ws hbk hbb hgg; have fH := ae.mk (HI.out.count hbk hbb hgg); have fV := ae.mk (HK.out.trans (Kp.grown hgg (Or.inl rfl))); have iW := ae.mk (dJ K3.out hgg (fun e_ => ug K3.out HI.out.hn (by decide) (Option.some.inj e_))); clear HI HK K3 hbk hbb hgg; have HI := fH; have HK := fV; have K3 := iW; clear fH fV iW; have cn := (af HI.out.hn 0).trans rfl; have c0 := (af K3.out 0).trans rfl; have c1 := (af K3.out 1).trans rfl; have c2 := (af K3.out 2).trans rfl; have c3 := (af K3.out 3).trans rfl; have c4 := (af K3.out 4).trans rfl; have c5 := (af K3.out 5).trans rfl; have c6 := (af K3.out 6).trans rfl)))
 clear cn
 clear c0 c1 c2 c3 c4 c5 c6
 refine (HN.out _).mono ?_
 rintro e wk ⟨rfl, hb⟩
 have iW := ae.mk (aV K3.out hb)
 clear K3
 have K3 := iW
 clear iW
 have fH := ae.mk (HI.out.step hb); have fV := ae.mk (HK.out.trans (Kp.below hb)); clear HI HK; have HI := fH; have HK := fV; clear fH fV
 clear hb
 go_wp2
 go_ret
 exact ⟨rfl, HI.out, HK.out⟩
theorem age (w0 : World) (bn bm B : Nat) (s : Int × List Int) (W : World) (x : ai) (A : Option Addr) (cb : Nat) (hI : lV w0 bn bm B s W) (h1 : ¬ 20000 < wrap64 (s.1 + 1)) (h2 : wC x = true) (h3 : n_ x.f1 = false) :
  Calls Try.prog 176 (#[.agg #[.int .u8 x.f0, .int .i64 x.f1.f0, .int .i64 x.f1.f1, .int .i64 x.f1.f2, .int .i64 x.f1.f3, .int .i64 x.f2, .slice A x.f3.length cb]] ++ #[.pointer (some ⟨bn, 0, none⟩), .pointer (some ⟨bm, 0, none⟩)]) W fun e w' => e = .returned (.bool (jy s x).1) ∧ lV w0 bn bm B (jy s x).2 w' ∧ Kp (vJ bn B) W w' := by
 rw [show jy s x = (false, (wrap64 (s.1 + 1), s.2)) from by unfold jy; rw [if_neg h1, zl, h2, h3]; simp]
 have HN := ae.mk fun W => Bo x A cb W
 rw [h2] at HN
 clear h2
 have M1 := ae.mk (show lJ.f [x.f1] = some false by simp [lJ.f, h3])
 clear h3
 have HI := ae.mk hI
 have HK := ae.mk (Kp.refl (vJ bn B) W)
 clear hI
 simp only [List.append_toArray, List.cons_append, List.nil_append]
 go_enter Try.func176, Try.ntmps176
 go_wp2_with (first | ((with_reducible refine aC (N := 3) rfl ?_); refine aQ ?hg (N := 3) ?hd (cs := #[.int .u8 x.f0, .int .i64 x.f1.f0, .int .i64 x.f1.f1, .int .i64 x.f1.f2, .int .i64 x.f1.f3, .int .i64 x.f2, .slice A x.f3.length cb]) (t := 26) ?hr ?_; (case hd => rfl); (case hg => rfl); (case hr => (go_simp; done)); intro b3 hg w3 hbox hb; have K3 := ae.mk hbox; have fH := ae.mk (HI.out.step hb); have fV := ae.mk (HK.out.trans (Kp.below hb)); clear HI HK; have HI := fH; have HK := fV; clear fH fV; clear hb hbox hg; have cn := (af HI.out.hn 0).trans rfl) | ((with_reducible refine lG (.store 3 (.tmp 1) (.tmp 6)) rfl ?_); go_loud (clear cn; refine iF (w0 := w0) rfl rfl 3 (.tmp 1) (.tmp 6) rfl (g := bn) (j := 0) (base := w0.heap.size) #[.int .i64 (wrap64 (s.1 + 1))] (u := .int .i64 (wrap64 (s.1 + 1))) (bP := [.int .i64 (wrap64 (s.1 + 1))]) ?sA ?sX rfl ?sT ?s1 HI.out.hn ?sJ rfl HI.out.below HI.out.below.size HI.out.gn ?_; (case sA => rfl); (case sX => rfl); (case sT => rfl); (case s1 => (simp [Value.oneCell'])); (case sJ => (simp)); intro ws hbk hbb hgg; have fH := ae.mk (HI.out.count hbk hbb hgg); have fV := ae.mk (HK.out.trans (Kp.grown hgg (Or.inl rfl))); have iW := ae.mk (dJ K3.out hgg (fun e_ => ug K3.out HI.out.hn (by decide) (Option.some.inj e_))); clear HI HK K3 hbk hbb hgg; have HI := fH; have HK := fV; have K3 := iW; clear fH fV iW; have cn := (af HI.out.hn 0).trans rfl; have c0 := (af K3.out 0).trans rfl; have c1 := (af K3.out 1).trans rfl; have c2 := (af K3.out 2).trans rfl; have c3 := (af K3.out 3).trans rfl; have c4 := (af K3.out 4).trans rfl; have c5 := (af K3.out 5).trans rfl; have c6 := (af K3.out 6).trans rfl)))
 clear cn
 clear c0 c1 c2 c3 c4 c5 c6
 refine (HN.out _).mono ?_
 rintro e wk ⟨rfl, hb⟩
 have iW := ae.mk (aV K3.out hb)
 clear K3
 have K3 := iW
 clear iW
 have fH := ae.mk (HI.out.step hb); have fV := ae.mk (HK.out.trans (Kp.below hb)); clear HI HK; have HI := fH; have HK := fV; clear fH fV
 clear hb
 have c0 := (af K3.out 0).trans rfl
 have c1 := (af K3.out 1).trans rfl
 have c2 := (af K3.out 2).trans rfl
 have c3 := (af K3.out 3).trans rfl
 have c4 := (af K3.out 4).trans rfl
 have c5 := (af K3.out 5).trans rfl
 have c6 := (af K3.out 6).trans rfl
 go_wp2_with (((with_reducible refine aC (N := 17) rfl ?_); (try (refine fZ (by rfl) ?_; dsimp only)); refine Kd.pI k23 _ 23 ?hg (N := 17) ?hd (xs := ([x.f1] : List dW)) (inner := [.int .i64 x.f1.f0, .int .i64 x.f1.f1, .int .i64 x.f1.f2, .int .i64 x.f1.f3]) (ok := fun _ => True) (gm := fun _ => True) ?hr ?hp (fun _ hk => hk) trivial (Below.refl _ _) (Nat.le_refl _) (by simp) ?_; (case hd => rfl); (case hg => rfl); (case hr => (go_simp; done)); (case hp => exact (bT.c4 (show Kd.M k23 _ _ _ x.f1 [.int .i64 x.f1.f0, .int .i64 x.f1.f1, .int .i64 x.f1.f2, .int .i64 x.f1.f3] from qV _ _ _ x.f1) (bT.none _ _))); intro vr wr ho hb lh iG; clear lh iG; obtain ⟨Ar, cr, er⟩ := Kd.fQ ho; subst er; have iW := ae.mk (aV K3.out hb); clear K3; have K3 := iW; clear iW; have fH := ae.mk (HI.out.step hb); have fV := ae.mk (HK.out.trans (Kp.below hb)); clear HI HK; have HI := fH; have HK := fV; clear fH fV; have HR := ae.mk (Kd.dn ho).2.2; have LR := ae.mk (Kd.dn ho).2.1; clear ho hb))
 clear c0 c1 c2 c3 c4 c5 c6
 refine (lJ.calls Ar cr [x.f1] false _ HR.out LR.out M1.out).mono ?_
 rintro e wk ⟨rfl, hb⟩
 have iW := ae.mk (aV K3.out hb)
 clear K3
 have K3 := iW
 clear iW
 have fH := ae.mk (HI.out.step hb); have fV := ae.mk (HK.out.trans (Kp.below hb)); clear HI HK; have HI := fH; have HK := fV; clear fH fV
 clear hb
 go_wp2
 go_ret
 exact ⟨rfl, HI.out, HK.out⟩
theorem agf (w0 : World) (bn bm B : Nat) (s : Int × List Int) (W : World) (x : ai) (A : Option Addr) (cb : Nat) (hI : lV w0 bn bm B s W) (h1 : ¬ 20000 < wrap64 (s.1 + 1)) (h2 : wC x = true) (h3 : n_ x.f1 = true) (h4 : x.f0 ≠ 1) :
  Calls Try.prog 176 (#[.agg #[.int .u8 x.f0, .int .i64 x.f1.f0, .int .i64 x.f1.f1, .int .i64 x.f1.f2, .int .i64 x.f1.f3, .int .i64 x.f2, .slice A x.f3.length cb]] ++ #[.pointer (some ⟨bn, 0, none⟩), .pointer (some ⟨bm, 0, none⟩)]) W fun e w' => e = .returned (.bool (jy s x).1) ∧ lV w0 bn bm B (jy s x).2 w' ∧ Kp (vJ bn B) W w' := by
 rw [show jy s x = (true, (wrap64 (s.1 + 1), s.2)) from by unfold jy; rw [if_neg h1, zl, h2, h3, if_neg (by simp), if_neg h4]]
 have HN := ae.mk fun W => Bo x A cb W
 rw [h2] at HN
 clear h2
 have M1 := ae.mk (show lJ.f [x.f1] = some true by simp [lJ.f, h3])
 clear h3
 have Bj : (x.f0 == 1) = false := beq_eq_false_iff_ne.mpr h4
 clear h4
 have HI := ae.mk hI
 have HK := ae.mk (Kp.refl (vJ bn B) W)
 clear hI
 simp only [List.append_toArray, List.cons_append, List.nil_append]
 go_enter Try.func176, Try.ntmps176
 go_wp2_with (first | ((with_reducible refine aC (N := 3) rfl ?_); refine aQ ?hg (N := 3) ?hd (cs := #[.int .u8 x.f0, .int .i64 x.f1.f0, .int .i64 x.f1.f1, .int .i64 x.f1.f2, .int .i64 x.f1.f3, .int .i64 x.f2, .slice A x.f3.length cb]) (t := 26) ?hr ?_; (case hd => rfl); (case hg => rfl); (case hr => (go_simp; done)); intro b3 hg w3 hbox hb; have K3 := ae.mk hbox; have fH := ae.mk (HI.out.step hb); have fV := ae.mk (HK.out.trans (Kp.below hb)); clear HI HK; have HI := fH; have HK := fV; clear fH fV; clear hb hbox hg; have cn := (af HI.out.hn 0).trans rfl) | ((with_reducible refine lG (.store 3 (.tmp 1) (.tmp 6)) rfl ?_); go_loud (clear cn; refine iF (w0 := w0) rfl rfl 3 (.tmp 1) (.tmp 6) rfl (g := bn) (j := 0) (base := w0.heap.size) #[.int .i64 (wrap64 (s.1 + 1))] (u := .int .i64 (wrap64 (s.1 + 1))) (bP := [.int .i64 (wrap64 (s.1 + 1))]) ?sA ?sX rfl ?sT ?s1 HI.out.hn ?sJ rfl HI.out.below HI.out.below.size HI.out.gn ?_; (case sA => rfl); (case sX => rfl); (case sT => rfl); (case s1 => (simp [Value.oneCell'])); (case sJ => (simp)); intro ws hbk hbb hgg; have fH := ae.mk (HI.out.count hbk hbb hgg); have fV := ae.mk (HK.out.trans (Kp.grown hgg (Or.inl rfl))); have iW := ae.mk (dJ K3.out hgg (fun e_ => ug K3.out HI.out.hn (by decide) (Option.some.inj e_))); clear HI HK K3 hbk hbb hgg; have HI := fH; have HK := fV; have K3 := iW; clear fH fV iW; have cn := (af HI.out.hn 0).trans rfl; have c0 := (af K3.out 0).trans rfl; have c1 := (af K3.out 1).trans rfl; have c2 := (af K3.out 2).trans rfl; have c3 := (af K3.out 3).trans rfl; have c4 := (af K3.out 4).trans rfl; have c5 := (af K3.out 5).trans rfl; have c6 := (af K3.out 6).trans rfl)))
 clear cn
 clear c0 c1 c2 c3 c4 c5 c6
 refine (HN.out _).mono ?_
 rintro e wk ⟨rfl, hb⟩
 have iW := ae.mk (aV K3.out hb)
 clear K3
 have K3 := iW
 clear iW
 have fH := ae.mk (HI.out.step hb); have fV := ae.mk (HK.out.trans (Kp.below hb)); clear HI HK; have HI := fH; have HK := fV; clear fH fV
 clear hb
 have c0 := (af K3.out 0).trans rfl
 have c1 := (af K3.out 1).trans rfl
 have c2 := (af K3.out 2).trans rfl
 have c3 := (af K3.out 3).trans rfl
 have c4 := (af K3.out 4).trans rfl
 have c5 := (af K3.out 5).trans rfl
 have c6 := (af K3.out 6).trans rfl
 go_wp2_with (((with_reducible refine aC (N := 17) rfl ?_); (try (refine fZ (by rfl) ?_; dsimp only)); refine Kd.pI k23 _ 23 ?hg (N := 17) ?hd (xs := ([x.f1] : List dW)) (inner := [.int .i64 x.f1.f0, .int .i64 x.f1.f1, .int .i64 x.f1.f2, .int .i64 x.f1.f3]) (ok := fun _ => True) (gm := fun _ => True) ?hr ?hp (fun _ hk => hk) trivial (Below.refl _ _) (Nat.le_refl _) (by simp) ?_; (case hd => rfl); (case hg => rfl); (case hr => (go_simp; done)); (case hp => exact (bT.c4 (show Kd.M k23 _ _ _ x.f1 [.int .i64 x.f1.f0, .int .i64 x.f1.f1, .int .i64 x.f1.f2, .int .i64 x.f1.f3] from qV _ _ _ x.f1) (bT.none _ _))); intro vr wr ho hb lh iG; clear lh iG; obtain ⟨Ar, cr, er⟩ := Kd.fQ ho; subst er; have iW := ae.mk (aV K3.out hb); clear K3; have K3 := iW; clear iW; have fH := ae.mk (HI.out.step hb); have fV := ae.mk (HK.out.trans (Kp.below hb)); clear HI HK; have HI := fH; have HK := fV; clear fH fV; have HR := ae.mk (Kd.dn ho).2.2; have LR := ae.mk (Kd.dn ho).2.1; clear ho hb))
 clear c0 c1 c2 c3 c4 c5 c6
 refine (lJ.calls Ar cr [x.f1] true _ HR.out LR.out M1.out).mono ?_
 rintro e wk ⟨rfl, hb⟩
 have iW := ae.mk (aV K3.out hb)
 clear K3
 have K3 := iW
 clear iW
 have fH := ae.mk (HI.out.step hb); have fV := ae.mk (HK.out.trans (Kp.below hb)); clear HI HK; have HI := fH; have HK := fV; clear fH fV
 clear hb
 have c0 := (af K3.out 0).trans rfl
 have c1 := (af K3.out 1).trans rfl
 have c2 := (af K3.out 2).trans rfl
 have c3 := (af K3.out 3).trans rfl
 have c4 := (af K3.out 4).trans rfl
 have c5 := (af K3.out 5).trans rfl
 have c6 := (af K3.out 6).trans rfl
 go_wp2
 go_ret
 exact ⟨rfl, HI.out, HK.out⟩
theorem agh (w0 : World) (bn bm B : Nat) (s : Int × List Int) (W : World) (x : ai) (A : Option Addr) (cb : Nat) (hI : lV w0 bn bm B s W) (h1 : ¬ 20000 < wrap64 (s.1 + 1)) (h2 : wC x = true) (h3 : n_ x.f1 = true) (h4 : x.f0 = 1) (h5 : 0 ≤ x.f2) (h6 : x.f2 ≤ 2147483647) (h7 : x.f2 ∈ s.2) :
  Calls Try.prog 176 (#[.agg #[.int .u8 x.f0, .int .i64 x.f1.f0, .int .i64 x.f1.f1, .int .i64 x.f1.f2, .int .i64 x.f1.f3, .int .i64 x.f2, .slice A x.f3.length cb]] ++ #[.pointer (some ⟨bn, 0, none⟩), .pointer (some ⟨bm, 0, none⟩)]) W fun e w' => e = .returned (.bool (jy s x).1) ∧ lV w0 bn bm B (jy s x).2 w' ∧ Kp (vJ bn B) W w' := by
 rw [show jy s x = (false, (wrap64 (s.1 + 1), s.2)) from by unfold jy; rw [if_neg h1, zl, h2, h3, if_neg (by simp), if_pos h4, if_pos h7]]
 have HN := ae.mk fun W => Bo x A cb W
 rw [h2] at HN
 clear h2
 have M1 := ae.mk (show lJ.f [x.f1] = some true by simp [lJ.f, h3])
 clear h3
 have LK : ae ((Gp s.2).atKey (.int .i64 x.f2) (.lit (.bool false)) = .lit (.bool true)) := ⟨by rw [PZ, decide_eq_true h7]⟩
 clear h7
 have WF : ae ((Lit.int .i64 x.f2).wf = true) := ⟨WalkArith.wf_i64 (by omega)⟩
 have Bj : (x.f0 == 1) = true := beq_iff_eq.mpr h4
 clear h4 h5 h6
 have HI := ae.mk hI
 have HK := ae.mk (Kp.refl (vJ bn B) W)
 clear hI
 simp only [List.append_toArray, List.cons_append, List.nil_append]
 go_enter Try.func176, Try.ntmps176
 go_wp2_with (first | ((with_reducible refine aC (N := 3) rfl ?_); refine aQ ?hg (N := 3) ?hd (cs := #[.int .u8 x.f0, .int .i64 x.f1.f0, .int .i64 x.f1.f1, .int .i64 x.f1.f2, .int .i64 x.f1.f3, .int .i64 x.f2, .slice A x.f3.length cb]) (t := 26) ?hr ?_; (case hd => rfl); (case hg => rfl); (case hr => (go_simp; done)); intro b3 hg w3 hbox hb; have K3 := ae.mk hbox; have fH := ae.mk (HI.out.step hb); have fV := ae.mk (HK.out.trans (Kp.below hb)); clear HI HK; have HI := fH; have HK := fV; clear fH fV; clear hb hbox hg; have cn := (af HI.out.hn 0).trans rfl) | ((with_reducible refine lG (.store 3 (.tmp 1) (.tmp 6)) rfl ?_); go_loud (clear cn; refine iF (w0 := w0) rfl rfl 3 (.tmp 1) (.tmp 6) rfl (g := bn) (j := 0) (base := w0.heap.size) #[.int .i64 (wrap64 (s.1 + 1))] (u := .int .i64 (wrap64 (s.1 + 1))) (bP := [.int .i64 (wrap64 (s.1 + 1))]) ?sA ?sX rfl ?sT ?s1 HI.out.hn ?sJ rfl HI.out.below HI.out.below.size HI.out.gn ?_; (case sA => rfl); (case sX => rfl); (case sT => rfl); (case s1 => (simp [Value.oneCell'])); (case sJ => (simp)); intro ws hbk hbb hgg; have fH := ae.mk (HI.out.count hbk hbb hgg); have fV := ae.mk (HK.out.trans (Kp.grown hgg (Or.inl rfl))); have iW := ae.mk (dJ K3.out hgg (fun e_ => ug K3.out HI.out.hn (by decide) (Option.some.inj e_))); clear HI HK K3 hbk hbb hgg; have HI := fH; have HK := fV; have K3 := iW; clear fH fV iW; have cn := (af HI.out.hn 0).trans rfl; have c0 := (af K3.out 0).trans rfl; have c1 := (af K3.out 1).trans rfl; have c2 := (af K3.out 2).trans rfl; have c3 := (af K3.out 3).trans rfl; have c4 := (af K3.out 4).trans rfl; have c5 := (af K3.out 5).trans rfl; have c6 := (af K3.out 6).trans rfl)))
 clear cn
 clear c0 c1 c2 c3 c4 c5 c6
 refine (HN.out _).mono ?_
 rintro e wk ⟨rfl, hb⟩
 have iW := ae.mk (aV K3.out hb)
 clear K3
 have K3 := iW
 clear iW
 have fH := ae.mk (HI.out.step hb); have fV := ae.mk (HK.out.trans (Kp.below hb)); clear HI HK; have HI := fH; have HK := fV; clear fH fV
 clear hb
 have c0 := (af K3.out 0).trans rfl
 have c1 := (af K3.out 1).trans rfl
 have c2 := (af K3.out 2).trans rfl
 have c3 := (af K3.out 3).trans rfl
 have c4 := (af K3.out 4).trans rfl
 have c5 := (af K3.out 5).trans rfl
 have c6 := (af K3.out 6).trans rfl
 go_wp2_with (((with_reducible refine aC (N := 17) rfl ?_); (try (refine fZ (by rfl) ?_; dsimp only)); refine Kd.pI k23 _ 23 ?hg (N := 17) ?hd (xs := ([x.f1] : List dW)) (inner := [.int .i64 x.f1.f0, .int .i64 x.f1.f1, .int .i64 x.f1.f2, .int .i64 x.f1.f3]) (ok := fun _ => True) (gm := fun _ => True) ?hr ?hp (fun _ hk => hk) trivial (Below.refl _ _) (Nat.le_refl _) (by simp) ?_; (case hd => rfl); (case hg => rfl); (case hr => (go_simp; done)); (case hp => exact (bT.c4 (show Kd.M k23 _ _ _ x.f1 [.int .i64 x.f1.f0, .int .i64 x.f1.f1, .int .i64 x.f1.f2, .int .i64 x.f1.f3] from qV _ _ _ x.f1) (bT.none _ _))); intro vr wr ho hb lh iG; clear lh iG; obtain ⟨Ar, cr, er⟩ := Kd.fQ ho; subst er; have iW := ae.mk (aV K3.out hb); clear K3; have K3 := iW; clear iW; have fH := ae.mk (HI.out.step hb); have fV := ae.mk (HK.out.trans (Kp.below hb)); clear HI HK; have HI := fH; have HK := fV; clear fH fV; have HR := ae.mk (Kd.dn ho).2.2; have LR := ae.mk (Kd.dn ho).2.1; clear ho hb))
 clear c0 c1 c2 c3 c4 c5 c6
 refine (lJ.calls Ar cr [x.f1] true _ HR.out LR.out M1.out).mono ?_
 rintro e wk ⟨rfl, hb⟩
 have iW := ae.mk (aV K3.out hb)
 clear K3
 have K3 := iW
 clear iW
 have fH := ae.mk (HI.out.step hb); have fV := ae.mk (HK.out.trans (Kp.below hb)); clear HI HK; have HI := fH; have HK := fV; clear fH fV
 clear hb
 have c0 := (af K3.out 0).trans rfl
 have c1 := (af K3.out 1).trans rfl
 have c2 := (af K3.out 2).trans rfl
 have c3 := (af K3.out 3).trans rfl
 have c4 := (af K3.out 4).trans rfl
 have c5 := (af K3.out 5).trans rfl
 have c6 := (af K3.out 6).trans rfl
 have cm := (af HI.out.hm 0).trans rfl
 go_wp2_with (((with_reducible refine aC (N := 29) rfl ?_); (try (refine fZ (by rfl) ?_; dsimp only)); refine Fe _ rfl _ _ 161 rfl 3 4 (Maps.int_keyed Try.underlying3) Try.underlying161 Try.underlying4 (Y2 _) B _ _ rfl HI.out.map _ (.int .i64 x.f2) rfl (Maps.keyOf_int_mk Try.underlying3 WF.out) true LK.out ?_))
 go_ret
 exact ⟨rfl, HI.out, HK.out⟩
theorem agi (w0 : World) (bn bm B : Nat) (s : Int × List Int) (W : World) (x : ai) (A : Option Addr) (cb : Nat) (hI : lV w0 bn bm B s W) (h1 : ¬ 20000 < wrap64 (s.1 + 1)) (h2 : wC x = true) (h3 : n_ x.f1 = true) (h4 : x.f0 = 1) (h5 : 0 ≤ x.f2) (h6 : x.f2 ≤ 2147483647) (h7 : x.f2 ∉ s.2) :
  Calls Try.prog 176 (#[.agg #[.int .u8 x.f0, .int .i64 x.f1.f0, .int .i64 x.f1.f1, .int .i64 x.f1.f2, .int .i64 x.f1.f3, .int .i64 x.f2, .slice A x.f3.length cb]] ++ #[.pointer (some ⟨bn, 0, none⟩), .pointer (some ⟨bm, 0, none⟩)]) W fun e w' => e = .returned (.bool (jy s x).1) ∧ lV w0 bn bm B (jy s x).2 w' ∧ Kp (vJ bn B) W w' := by
 rw [show jy s x = (true, (wrap64 (s.1 + 1), x.f2 :: s.2)) from by unfold jy; rw [if_neg h1, zl, h2, h3, if_neg (by simp), if_pos h4, if_neg h7]]
 have HN := ae.mk fun W => Bo x A cb W
 rw [h2] at HN
 clear h2
 have M1 := ae.mk (show lJ.f [x.f1] = some true by simp [lJ.f, h3])
 clear h3
 have LK : ae ((Gp s.2).atKey (.int .i64 x.f2) (.lit (.bool false)) = .lit (.bool false)) := ⟨by rw [PZ, decide_eq_false h7]⟩
 have NM := ae.mk h7
 clear h7
 have zK : ae (s.2.length < maxLen) := ⟨by have h8 := Xm 2147483648 s.2 hI.nd (fun i hi => by have := hI.rg i hi; omega); unfold maxLen; omega⟩
 have I0 := ae.mk h5
 have I1 := ae.mk h6
 have WF : ae ((Lit.int .i64 x.f2).wf = true) := ⟨WalkArith.wf_i64 (by omega)⟩
 have Bj : (x.f0 == 1) = true := beq_iff_eq.mpr h4
 clear h4 h5 h6
 have HI := ae.mk hI
 have HK := ae.mk (Kp.refl (vJ bn B) W)
 clear hI
 simp only [List.append_toArray, List.cons_append, List.nil_append]
 go_enter Try.func176, Try.ntmps176
 go_wp2_with (first | ((with_reducible refine aC (N := 3) rfl ?_); refine aQ ?hg (N := 3) ?hd (cs := #[.int .u8 x.f0, .int .i64 x.f1.f0, .int .i64 x.f1.f1, .int .i64 x.f1.f2, .int .i64 x.f1.f3, .int .i64 x.f2, .slice A x.f3.length cb]) (t := 26) ?hr ?_; (case hd => rfl); (case hg => rfl); (case hr => (go_simp; done)); intro b3 hg w3 hbox hb; have K3 := ae.mk hbox; have fH := ae.mk (HI.out.step hb); have fV := ae.mk (HK.out.trans (Kp.below hb)); clear HI HK; have HI := fH; have HK := fV; clear fH fV; clear hb hbox hg; have cn := (af HI.out.hn 0).trans rfl) | ((with_reducible refine lG (.store 3 (.tmp 1) (.tmp 6)) rfl ?_); go_loud (clear cn; refine iF (w0 := w0) rfl rfl 3 (.tmp 1) (.tmp 6) rfl (g := bn) (j := 0) (base := w0.heap.size) #[.int .i64 (wrap64 (s.1 + 1))] (u := .int .i64 (wrap64 (s.1 + 1))) (bP := [.int .i64 (wrap64 (s.1 + 1))]) ?sA ?sX rfl ?sT ?s1 HI.out.hn ?sJ rfl HI.out.below HI.out.below.size HI.out.gn ?_; (case sA => rfl); (case sX => rfl); (case sT => rfl); (case s1 => (simp [Value.oneCell'])); (case sJ => (simp)); intro ws hbk hbb hgg; have fH := ae.mk (HI.out.count hbk hbb hgg); have fV := ae.mk (HK.out.trans (Kp.grown hgg (Or.inl rfl))); have iW := ae.mk (dJ K3.out hgg (fun e_ => ug K3.out HI.out.hn (by decide) (Option.some.inj e_))); clear HI HK K3 hbk hbb hgg; have HI := fH; have HK := fV; have K3 := iW; clear fH fV iW; have cn := (af HI.out.hn 0).trans rfl; have c0 := (af K3.out 0).trans rfl; have c1 := (af K3.out 1).trans rfl; have c2 := (af K3.out 2).trans rfl; have c3 := (af K3.out 3).trans rfl; have c4 := (af K3.out 4).trans rfl; have c5 := (af K3.out 5).trans rfl; have c6 := (af K3.out 6).trans rfl)))
 clear cn
 clear c0 c1 c2 c3 c4 c5 c6
 refine (HN.out _).mono ?_
 rintro e wk ⟨rfl, hb⟩
 have iW := ae.mk (aV K3.out hb)
 clear K3
 have K3 := iW
 clear iW
 have fH := ae.mk (HI.out.step hb); have fV := ae.mk (HK.out.trans (Kp.below hb)); clear HI HK; have HI := fH; have HK := fV; clear fH fV
 clear hb
 have c0 := (af K3.out 0).trans rfl
 have c1 := (af K3.out 1).trans rfl
 have c2 := (af K3.out 2).trans rfl
 have c3 := (af K3.out 3).trans rfl
 have c4 := (af K3.out 4).trans rfl
 have c5 := (af K3.out 5).trans rfl
 have c6 := (af K3.out 6).trans rfl
 go_wp2_with (((with_reducible refine aC (N := 17) rfl ?_); (try (refine fZ (by rfl) ?_; dsimp only)); refine Kd.pI k23 _ 23 ?hg (N := 17) ?hd (xs := ([x.f1] : List dW)) (inner := [.int .i64 x.f1.f0, .int .i64 x.f1.f1, .int .i64 x.f1.f2, .int .i64 x.f1.f3]) (ok := fun _ => True) (gm := fun _ => True) ?hr ?hp (fun _ hk => hk) trivial (Below.refl _ _) (Nat.le_refl _) (by simp) ?_; (case hd => rfl); (case hg => rfl); (case hr => (go_simp; done)); (case hp => exact (bT.c4 (show Kd.M k23 _ _ _ x.f1 [.int .i64 x.f1.f0, .int .i64 x.f1.f1, .int .i64 x.f1.f2, .int .i64 x.f1.f3] from qV _ _ _ x.f1) (bT.none _ _))); intro vr wr ho hb lh iG; clear lh iG; obtain ⟨Ar, cr, er⟩ := Kd.fQ ho; subst er; have iW := ae.mk (aV K3.out hb); clear K3; have K3 := iW; clear iW; have fH := ae.mk (HI.out.step hb); have fV := ae.mk (HK.out.trans (Kp.below hb)); clear HI HK; have HI := fH; have HK := fV; clear fH fV; have HR := ae.mk (Kd.dn ho).2.2; have LR := ae.mk (Kd.dn ho).2.1; clear ho hb))
 clear c0 c1 c2 c3 c4 c5 c6
 refine (lJ.calls Ar cr [x.f1] true _ HR.out LR.out M1.out).mono ?_
 rintro e wk ⟨rfl, hb⟩
 have iW := ae.mk (aV K3.out hb)
 clear K3
 have K3 := iW
 clear iW
 have fH := ae.mk (HI.out.step hb); have fV := ae.mk (HK.out.trans (Kp.below hb)); clear HI HK; have HI := fH; have HK := fV; clear fH fV
 clear hb
 have c0 := (af K3.out 0).trans rfl
 have c1 := (af K3.out 1).trans rfl
 have c2 := (af K3.out 2).trans rfl
 have c3 := (af K3.out 3).trans rfl
 have c4 := (af K3.out 4).trans rfl
 have c5 := (af K3.out 5).trans rfl
 have c6 := (af K3.out 6).trans rfl
 have cm := (af HI.out.hm 0).trans rfl
 go_wp2_with (first | ((with_reducible refine aC (N := 29) rfl ?_); (try (refine fZ (by rfl) ?_; dsimp only)); refine Fe _ rfl _ _ 161 rfl 3 4 (Maps.int_keyed Try.underlying3) Try.underlying161 Try.underlying4 (Y2 _) B _ _ rfl HI.out.map _ (.int .i64 x.f2) rfl (Maps.keyOf_int_mk Try.underlying3 WF.out) false LK.out ?_) | (at_mapUpdate; refine wpList_mapUpdate_own _ rfl _ _ _ 161 rfl 3 4 (Maps.int_keyed Try.underlying3) Try.underlying161 _ B _ _ rfl HI.out.map zK.out _ _ (.int .i64 x.f2) rfl rfl (Maps.keyOf_int_mk Try.underlying3 WF.out) (.lit (.bool true)) [] (plainElem_bool Try.underlying4 true) ?_; intro wu hown1 hgrow1; have fH := ae.mk (HI.out.met hown1 hgrow1 NM.out I0.out I1.out); have fV := ae.mk (HK.out.trans (Kp.grown hgrow1 (Or.inr rfl))); clear HI HK hown1 hgrow1; have HI := fH; have HK := fV; clear fH fV))
 go_ret
 exact ⟨rfl, HI.out, HK.out⟩
theorem aeE (w0 : World) (bn bm B : Nat) (s : Int × List Int) (W : World) (x : ai) (A : Option Addr) (cb : Nat) (hI : lV w0 bn bm B s W) :
  Calls Try.prog 176 (#[.agg #[.int .u8 x.f0, .int .i64 x.f1.f0, .int .i64 x.f1.f1, .int .i64 x.f1.f2, .int .i64 x.f1.f3, .int .i64 x.f2, .slice A x.f3.length cb]] ++ #[.pointer (some ⟨bn, 0, none⟩), .pointer (some ⟨bm, 0, none⟩)]) W fun e w' => e = .returned (.bool (jy s x).1) ∧ lV w0 bn bm B (jy s x).2 w' ∧ Kp (vJ bn B) W w' := by
 by_cases h1 : 20000 < wrap64 (s.1 + 1)
 ·exact agc w0 bn bm B s W x A cb hI h1
 ·cases h2 : wC x with
  | false => exact agd w0 bn bm B s W x A cb hI h1 h2
  | true =>
   cases h3 : n_ x.f1 with
   | false => exact age w0 bn bm B s W x A cb hI h1 h2 h3
   | true =>
    by_cases h4 : x.f0 = 1
    ·have h8 := h2
     unfold wC at h8
     rw [if_pos h4] at h8
     simp only [Bool.and_eq_true, decide_eq_true_eq] at h8
     by_cases h7 : x.f2 ∈ s.2
     ·exact agh w0 bn bm B s W x A cb hI h1 h2 h3 h4 h8.2.1 h8.2.2 h7
     ·exact agi w0 bn bm B s W x A cb hI h1 h2 h3 h4 h8.2.1 h8.2.2 h7
    ·exact agf w0 bn bm B s W x A cb hI h1 h2 h3 h4
section
variable {P : Program} {ops : Array Oper} {rest : List Oper} {o : Oper} {a : Act} {Q : Exit → Act → World → Prop}
theorem UI {W : World} (hgd : o.guard = none) {N : Tmp} (_hd : o.dst = some N) (t k e : TypeId) (ho : o.op = .makeMap t none)
  (h : ∀ g, g = W.heap.size → ∀ w1, Below W.heap.size W w1 → w1.ownsMap (H := Unit) P k (plainElem P e) g 0 (.map []) → wpList P ops Q rest (a.put o.dst (.map (some g))) w1) : wpList P ops Q (o :: rest) a W := by
 refine Kd.zY hgd (w1 := W.alloc (.map #[] 0)) (v := .map (some W.heap.size)) ?_ (h _ rfl _ (gz (Below.refl _ _) _) (World.ownsMap_made W P k _))
 unfold execOp
 simp [ho, run_makeMap, Result.andThen]
end
theorem aeD (c : ai) (A : Option Addr) (cc : Nat) (W : World) (hz : sz c ≤ 1048576) (hr : Kd.C k26 W A c.f3.length c.f3) (hc : c.f3.length ≤ cc) : Calls Try.prog 144 #[.agg #[.int .u8 c.f0, .int .i64 c.f1.f0, .int .i64 c.f1.f1, .int .i64 c.f1.f2, .int .i64 c.f1.f3, .int .i64 c.f2, .slice A c.f3.length cc]] W fun e w' => e = .returned (.bool (lZ c)) ∧ Below W.heap.size W w' := by
 have VH := ae.mk fun (bn bm B : Nat) (W1 : World) (hI : lV W bn bm B (0, []) W1) => acF (vJ bn B) (lV W bn bm B) jy 176 #[.pointer (some ⟨bn, 0, none⟩), .pointer (some ⟨bm, 0, none⟩)] (rX Try.func176 (by decide +kernel) (by kernel_rfl)) W (fun s w h => h.below) (fun s w w' h hb => h.step hb)
  (fun s w h k hk => hk.elim (fun e => e ▸ gu h.hn) (fun e => e ▸ h.map.lt)) (fun s w x B' cb h _ _ => aeE W bn bm B s w x B' cb h) (sz c) c (Nat.le_refl _) A cc hr hc (0, []) W1 hI
 rw [VS c hz] at VH
 have HB := ae.mk (Below.refl W.heap.size W)
 clear hr hc hz
 generalize lZ c = r at VH ⊢
 go_enter Try.func144, Try.ntmps144
 go_wp2_with (first | ((with_reducible refine aC (N := 1) rfl ?_); refine aQ ?hg (N := 1) ?hd (cs := #[.int .u8 c.f0, .int .i64 c.f1.f0, .int .i64 c.f1.f1, .int .i64 c.f1.f2, .int .i64 c.f1.f3, .int .i64 c.f2, .slice A c.f3.length cc]) (t := 26) ?hr ?_; (case hd => rfl); (case hg => rfl); (case hr => (go_simp; done)); intro b1 hg YZ hbox hb; have fE := ae.mk hbox; have dN := ae.mk (az HB.out hb); clear HB; have HB := dN; clear dN; clear hb hbox hg) | ((with_reducible refine aC (N := 5) rfl ?_); refine UI rfl (N := 5) rfl 161 3 4 rfl ?_; intro B hg wB hb hM; have GB := ae.mk (show W.heap.size ≤ B by rw [hg]; exact HB.out.size); have HM := ae.mk hM; have dN := ae.mk (az HB.out hb); have iy := ae.mk (aV fE.out hb); clear HB fE; have HB := dN; have fE := iy; clear dN iy; clear hb hM hg) | ((with_reducible refine aC (N := 3) rfl ?_); refine aQ ?hg (N := 3) ?hd (cs := #[.map none]) (t := 161) ?hr ?_; (case hd => rfl); (case hg => rfl); (case hr => (go_simp; done)); intro bm hg wbm hbox hb; have Ba := ae.mk hbox; have Gbm := ae.mk (show W.heap.size ≤ bm by rw [hg]; exact HB.out.size); have dN := ae.mk (az HB.out hb); have iy := ae.mk (aV fE.out hb); have zA := ae.mk (HM.out.kept (below_grown hb) (by simp)); clear HB fE HM; have HB := dN; have fE := iy; have HM := zA; clear dN iy zA; clear hb hbox hg) | ((with_reducible refine lG (.store 161 (.tmp 3) (.tmp 5)) rfl ?_); go_loud (refine iF (w0 := W) rfl rfl 161 (.tmp 3) (.tmp 5) rfl (g := bm) (j := 0) (base := W.heap.size) #[.map (some B)] (u := .map (some B)) (bP := [.map (some B)]) ?sA ?sX rfl ?sT ?s1 Ba.out ?sJ rfl HB.out HB.out.size Gbm.out ?_; (case sA => rfl); (case sX => rfl); (case sT => rfl); (case s1 => (simp [Value.oneCell'])); (case sJ => (simp)); intro al3 hbk hbb hgg; have NB : ae (B ≠ bm) := ⟨fun e => by have hq := Ba.out; obtain ⟨es, cl, hB, _⟩ := HM.out; rw [← e, hB] at hq; cases hq⟩; have iy := ae.mk (dJ fE.out hgg (fun e_ => ug fE.out Ba.out (by decide) (Option.some.inj e_))); have zA := ae.mk (HM.out.kept hgg (fun e_ => NB.out (Option.some.inj e_))); clear fE HM; have fE := iy; have HM := zA; clear iy zA; clear Ba HB; have Ba := ae.mk hbk; have HB := ae.mk hbb; clear hbk hbb hgg)) | ((with_reducible refine aC (N := 4) rfl ?_); refine aQ ?hg (N := 4) ?hd (cs := #[.int .i64 0]) (t := 3) ?hr ?_; (case hd => rfl); (case hg => rfl); (case hr => (go_simp; done)); intro bn hg wbn hbox hb; have Ll := ae.mk hbox; have Gbn := ae.mk (show W.heap.size ≤ bn by rw [hg]; exact HB.out.size); have dN := ae.mk (az HB.out hb); have iy := ae.mk (aV fE.out hb); have H5 := ae.mk (aV Ba.out hb); have zA := ae.mk (HM.out.kept (below_grown hb) (by simp)); clear HB fE Ba HM; have HB := dN; have fE := iy; have Ba := H5; have HM := zA; clear dN iy H5 zA; clear hb hbox hg) | ((with_reducible refine lG (.store 3 (.tmp 4) (.const (.int .i64 0))) rfl ?_); go_loud (refine iF (w0 := W) rfl rfl 3 (.tmp 4) (.const (.int .i64 0)) rfl (g := bn) (j := 0) (base := W.heap.size) #[.int .i64 0] (u := .int .i64 0) (bP := [.int .i64 0]) ?sA ?sX rfl ?sT ?s1 Ll.out ?sJ rfl HB.out HB.out.size Gbn.out ?_; (case sA => rfl); (case sX => rfl); (case sT => rfl); (case s1 => (simp [Value.oneCell'])); (case sJ => (decide)); intro al4 hbk hbb hgg; have NN : ae (B ≠ bn) := ⟨fun e => by have hq := Ll.out; obtain ⟨es, cl, hB, _⟩ := HM.out; rw [← e, hB] at hq; cases hq⟩; have iy := ae.mk (dJ fE.out hgg (fun e_ => ug fE.out Ll.out (by decide) (Option.some.inj e_))); have H5 := ae.mk (dJ Ba.out hgg (fun e_ => ug Ba.out Ll.out (by decide) (Option.some.inj e_))); have zA := ae.mk (HM.out.kept hgg (fun e_ => NN.out (Option.some.inj e_))); clear fE Ba HM; have fE := iy; have Ba := H5; have HM := zA; clear iy H5 zA; clear Ll HB; have Ll := ae.mk hbk; have HB := ae.mk hbb; clear hbk hbb hgg; have c0 := (af fE.out 0).trans rfl; have c1 := (af fE.out 1).trans rfl; have c2 := (af fE.out 2).trans rfl; have c3 := (af fE.out 3).trans rfl; have c4 := (af fE.out 4).trans rfl; have c5 := (af fE.out 5).trans rfl; have c6 := (af fE.out 6).trans rfl)))
 clear c0 c1 c2 c3 c4 c5 c6
 refine (VH.out bn bm B _ ⟨Ll.out, Ba.out, HM.out, HB.out, Gbn.out, GB.out, List.nodup_nil, fun i hi => absurd hi (by simp)⟩).mono ?_
 rintro e w' ⟨rfl, hi, _⟩
 have HI := ae.mk hi.below
 clear hi
 go_wp2
 go_ret
 exact ⟨rfl, HI.out⟩
theorem aeC (c : ai) (A : Option Addr) (cc : Nat) (W : World) (hz : sz c ≤ 1048576) (hr : Kd.C k26 W A c.f3.length c.f3) (hc : c.f3.length ≤ cc) : Calls Try.prog 143 #[.agg #[.int .u8 c.f0, .int .i64 c.f1.f0, .int .i64 c.f1.f1, .int .i64 c.f1.f2, .int .i64 c.f1.f3, .int .i64 c.f2, .slice A c.f3.length cc]] W fun e w' => e = .returned (.bool (!lZ c)) ∧ Below W.heap.size W w' := by
 have H := ae.mk fun (W1 : World) (hb : Below W.heap.size W W1) => aeD c A cc W1 hz (Kd.fC hr hb) hc
 clear hr hc hz
 cases hm : lZ c
 all_goals
  rw [hm] at H
  clear hm
  go_enter Try.func143, Try.ntmps143
  go_wp2_with (((with_reducible refine aC (N := 1) rfl ?_); refine aQ ?hg (N := 1) ?hd (cs := #[.int .u8 c.f0, .int .i64 c.f1.f0, .int .i64 c.f1.f1, .int .i64 c.f1.f2, .int .i64 c.f1.f3, .int .i64 c.f2, .slice A c.f3.length cc]) (t := 26) ?hr ?_; (case hd => rfl); (case hg => rfl); (case hr => (go_simp; done)); intro b1 hg w1 hbox hb; have HB := ae.mk hb; have K1 := ae.mk hbox; clear hb hbox hg; have c0 := (af K1.out 0).trans rfl; have c1 := (af K1.out 1).trans rfl; have c2 := (af K1.out 2).trans rfl; have c3 := (af K1.out 3).trans rfl; have c4 := (af K1.out 4).trans rfl; have c5 := (af K1.out 5).trans rfl; have c6 := (af K1.out 6).trans rfl))
  clear c0 c1 c2 c3 c4 c5 c6
  refine (H.out _ HB.out).mono ?_
  rintro e w' ⟨rfl, hb⟩
  have HB2 := ae.mk (az HB.out hb)
  clear hb
  go_wp2
  go_ret
  exact ⟨rfl, HB2.out⟩
def rV.f (l0 : List ai) : Option Bool := if l0.all (fun c => decide (sz c ≤ 1048576)) = true then some (l0.all lZ) else none
theorem rV.calls (A0 : Option Addr) (c0 : Nat) (l0 : List ai) (r : Bool) (w : World) (hr0 : Kd.C k26 w A0 l0.length l0) (hc0 : l0.length ≤ c0) (h : rV.f l0 = some r) :
  Calls Try.prog 76 #[.slice A0 l0.length c0] w fun e w' => e = .returned (.bool r) ∧ Below w.heap.size w w' := by
 unfold rV.f at h
 split at h
 ·rename_i hz
  injection h with h
  have hcon := Tn (fun (_ : Unit) W => Below w.heap.size w W) (fun _ x => (!lZ x, ())) 143 #[] (rX Try.func143 (by decide +kernel) (by kernel_rfl)) l0 A0 c0 w hr0 (fun _ W hW => hW) (fun _ W n hW => dC hW n)
   (fun _ W x B cb hx hW hC hl => by
    rw [show (#[Value.agg #[.int .u8 x.f0, .int .i64 x.f1.f0, .int .i64 x.f1.f1, .int .i64 x.f1.f2, .int .i64 x.f1.f3, .int .i64 x.f2, .slice B x.f3.length cb]] ++ #[] : Array Value) = #[.agg #[.int .u8 x.f0, .int .i64 x.f1.f0, .int .i64 x.f1.f1, .int .i64 x.f1.f2, .int .i64 x.f1.f3, .int .i64 x.f2, .slice B x.f3.length cb]] by simp]
    exact (aeC x B cb W (of_decide_eq_true (List.all_eq_true.1 hz x hx)) (Kd.fC hC hW) hl).mono fun e w' ⟨he, hb⟩ => ⟨he, vN hW hW.size hb⟩) () w (Below.refl _ _) hr0.2.1
  rw [J6] at hcon
  have hnone := PM l0 A0 c0 143 #[] _ _ w hcon (fun W n hW => dC hW n)
  have e1 : r = !(l0.any fun x => !lZ x) := by
   rw [← h]
   clear h hcon hr0 hc0 hz hnone
   induction l0 with
   | nil => rfl
   | cons x xs ih => simp only [List.all_cons, List.any_cons, ih, Bool.not_or, Bool.not_not]
  subst e1
  generalize (l0.any fun x => !lZ x) = b at hnone
  have HC := ae.mk hnone
  clear hcon h hr0 hnone hz
  go_enter Try.func76, Try.ntmps76
  go_wp2_with fail
  refine HC.out.mono ?_
  rintro e w' ⟨rfl, hb⟩
  have HB := ae.mk hb
  clear hb
  go_wp2
  go_ret
  exact ⟨rfl, HB.out⟩
 ·exact absurd h (by simp)
end Go.Proofs.Ytfdmfgaiblfbhaa.P
namespace Go.Proofs.Ytfdmfgaiblfbhaa.P
open Go.RowKit Go.Proofs.ag.aW Go.Proofs.ag.dA Go.Proofs.ag.dU
attribute [local go_sem] kM kZ lN l7 kz kC kY lg
def bf.l0 : Nat → List Int → List Int → Int → Int → Option (Bool)
 | 0, _, _, _, _ => none
 | k + 1, x0, x1, x12, Ik => if Ik < x12 then (if 0 ≤ Ik then (if Ik < (x0.length : Int) then (if Ik < (x1.length : Int) then (if (rd x0 Ik) = (rd x1 Ik) then (bf.l0 k x0 x1 x12 (wrap64 (Ik + 1))) else (some false)) else (none)) else (none)) else (none)) else (some true)
def bf.f (k : Nat) (l0 : List Int) (l1 : List Int) : Option (Bool) := if (l0.length : Int) = (l1.length : Int) then (bf.l0 k l0 l1 (l0.length : Int) 0) else (some false)
theorem bf.xJ : ∀ k, (∀ y0 y1 y2 y3, je (bf.l0 k y0 y1 y2 y3) (bf.l0 (k + 1) y0 y1 y2 y3))
 | 0 => fun _ _ _ _ r h => by simp [bf.l0] at h
 | k + 1 => by
  have D_ := bf.xJ k
  ·intro y0 y1 y2 y3
   unfold bf.l0
   repeat' first | (with_reducible exact D_ _ _ _ _) | (with_reducible exact je.refl _) | (with_reducible refine je.ite ?_ ?_)
theorem bf.mono : ∀ a0 a1 k, je (bf.f k a0 a1) (bf.f (k + 1) a0 a1) := by
 intro a0 a1 k
 have D_ := bf.xJ k
 unfold bf.f
 repeat' first | (with_reducible exact D_ _ _ _ _) | (with_reducible exact je.refl _) | (with_reducible refine je.ite ?_ ?_)
theorem bf.calls (k : Nat) (A0 : Option Addr) (c0 : Nat) (l0 : List Int) (A1 : Option Addr) (c1 : Nat) (l1 : List Int) (r : Bool) (w : World) (hr0 : Kd.C (Kd.int .i64) w A0 l0.length l0) (hc0 : l0.length ≤ c0) (hr1 : Kd.C (Kd.int .i64) w A1 l1.length l1) (hc1 : l1.length ≤ c1) (h : bf.f k l0 l1 = some r) :
  Calls Try.prog 51 #[.slice A0 l0.length c0, .slice A1 l1.length c1] w fun e w' => e = .returned (.bool r) ∧ kJ w w' := by
 have HR0 := ae.mk hr0
 clear hr0 hc0
 have HR1 := ae.mk hr1
 clear hr1 hc1
 have H : (if (l0.length : Int) = (l1.length : Int) then (bf.l0 k l0 l1 (l0.length : Int) 0) else (some false)) = some r := h
 clear h
 by_cases c3 : (l0.length : Int) = (l1.length : Int)
 ·rw [if_pos c3] at H
  have pq : ((l0.length : Int) == (l1.length : Int)) = true := beq_iff_eq.mpr c3
  have vO : ((l0.length : Int) != (l1.length : Int)) = false := bne_eq_false_iff_eq.mpr c3
  have acT : (l0.length == l1.length) = true := by (simp at c3 ⊢; omega)
  clear c3
  have H' := ae.mk H
  clear H
  go_enter Try.func51, Try.ntmps51
  go_wp2
  go_loopg [13] k (fun kq v13 w' => ∃ (jd : Int), v13 = .int .i64 jd ∧ ae (bf.l0 kq l0 l1 (l0.length : Int) jd = some r) ∧ ae (kq ≤ k) ∧ kJ w w')
  case atStart => exact ⟨(0), (by rfl), H', ⟨Nat.le_refl _⟩, by repeat (exact kJ.refl _)⟩
  case round =>
   clear H'
   clear pq vO acT
   obtain ⟨jd, rfl, HA, mf, ⟨m1, rfl⟩⟩ := hrel
   cases gk with
   | zero => exact absurd HA.out (by simp [bf.l0])
   | succ k1 =>
    have H := HA.out
    clear HA
    simp only [bf.l0] at H
    by_cases c4 : jd < (l0.length : Int)
    ·rw [if_pos c4] at H
     have yu : decide (jd < (l0.length : Int)) = true := decide_eq_true c4
     clear c4
     by_cases c5 : 0 ≤ jd
     ·rw [if_pos c5] at H
      have BR : decide (0 ≤ jd) = true := decide_eq_true c5
      clear c5
      by_cases c6 : jd < (l0.length : Int)
      ·rw [if_pos c6] at H
       have vP : decide (jd < (l0.length : Int)) = true := decide_eq_true c6
       clear c6
       by_cases c7 : jd < (l1.length : Int)
       ·rw [if_pos c7] at H
        have rU : decide (jd < (l1.length : Int)) = true := decide_eq_true c7
        clear c7
        by_cases c8 : (rd l0 jd) = (rd l1 jd)
        ·rw [if_pos c8] at H
         have wS : ((rd l0 jd) == (rd l1 jd)) = true := beq_iff_eq.mpr c8
         have acU : ((rd l0 jd) != (rd l1 jd)) = false := bne_eq_false_iff_eq.mpr c8
         clear c8
         have H' := ae.mk H
         clear H
         have Gf : 0 ≤ (jd : Int) := of_decide_eq_true (by (with_reducible assumption))
         have Gl : jd < (l0.length : Int) := of_decide_eq_true (by (with_reducible assumption))
         obtain ⟨afS, Wx, aaX⟩ := Kd.iq HR0.out jd Gf Gl
         cases Wx
         replace Gf := eq_true Gf
         replace Gl := eq_true Gl
         have Gg : 0 ≤ (jd : Int) := of_decide_eq_true (by (with_reducible assumption))
         have Gm : jd < (l1.length : Int) := of_decide_eq_true (by (with_reducible assumption))
         obtain ⟨afT, Wy, aaY⟩ := Kd.iq HR1.out jd Gg Gm
         cases Wy
         replace Gg := eq_true Gg
         replace Gm := eq_true Gm
         go_wp2
         repeat (go_quiet (fail); try go_wp2)
         go_roundg k1
         case measure => have := mf.out; omega
         case rel => exact ⟨(wrap64 (jd + 1)), (by rfl), H', ⟨by have := mf.out; omega⟩, by repeat (first | exact kJ.refl _ | apply kJ.step)⟩
        ·rw [if_neg c8] at H
         have wS : ((rd l0 jd) == (rd l1 jd)) = false := beq_eq_false_iff_ne.mpr c8
         have acU : ((rd l0 jd) != (rd l1 jd)) = true := bne_iff_ne.mpr c8
         obtain rfl := Option.some.inj H
         have Gf : 0 ≤ (jd : Int) := of_decide_eq_true (by (with_reducible assumption))
         have Gl : jd < (l0.length : Int) := of_decide_eq_true (by (with_reducible assumption))
         obtain ⟨afS, Wx, aaX⟩ := Kd.iq HR0.out jd Gf Gl
         cases Wx
         replace Gf := eq_true Gf
         replace Gl := eq_true Gl
         have Gg : 0 ≤ (jd : Int) := of_decide_eq_true (by (with_reducible assumption))
         have Gm : jd < (l1.length : Int) := of_decide_eq_true (by (with_reducible assumption))
         obtain ⟨afT, Wy, aaY⟩ := Kd.iq HR1.out jd Gg Gm
         cases Wy
         replace Gg := eq_true Gg
         replace Gm := eq_true Gm
         go_wp2
         repeat (go_quiet (fail); try go_wp2)
         go_ret
         exact ⟨by rfl, by repeat (first | exact kJ.refl _ | apply kJ.step)⟩
       ·rw [if_neg c7] at H
        exact absurd H (by simp)
      ·rw [if_neg c6] at H
       exact absurd H (by simp)
     ·rw [if_neg c5] at H
      exact absurd H (by simp)
    ·rw [if_neg c4] at H
     have yu : decide (jd < (l0.length : Int)) = false := decide_eq_false c4
     clear c4
     obtain rfl := Option.some.inj H
     go_wp2
     go_ret
     exact ⟨by rfl, by repeat (first | exact kJ.refl _ | apply kJ.step)⟩
 ·rw [if_neg c3] at H
  have pq : ((l0.length : Int) == (l1.length : Int)) = false := beq_eq_false_iff_ne.mpr c3
  have vO : ((l0.length : Int) != (l1.length : Int)) = true := bne_iff_ne.mpr c3
  have acT : (l0.length == l1.length) = false := by (simp at c3 ⊢; omega)
  obtain rfl := Option.some.inj H
  go_enter Try.func51, Try.ntmps51
  go_wp2
  go_ret
  exact ⟨by rfl, by repeat (exact kJ.refl _)⟩
def agU.f (aA : Int) (aJ : Int) (aH : Int) (aI : Int) (a1 : Int) : Option (Int × Int × Int × Int × Int × Int × (List (ai))) := some (1, aA, aJ, aH, aI, a1, ([] : List (ai)))
mutual
def zW.l0 : Nat → Int → List (ai) → Int → Int → Option (Int)
 | 0, _, _, _, _ => none
 | k + 1, x3, x8, x9, x10 => if x10 < x9 then (if 0 ≤ x10 then (if x10 < (x8.length : Int) then ((zW.f k ((aG x8 x10).f3)).bind fun ahO => (zW.l0 k (wrap64 (x3 + ahO)) x8 x9 (wrap64 (x10 + 1)))) else (none)) else (none)) else (some x3)
def zW.f : Nat → List (ai) → Option (Int)
 | 0, _ => none
 | k + 1, l0 => zW.l0 k (l0.length : Int) l0 (l0.length : Int) 0
end
end Go.Proofs.Ytfdmfgaiblfbhaa.P
namespace Go.Proofs.Ytfdmfgaiblfbhaa.P
open Go.RowKit Go.Proofs.ag.aW Go.Proofs.ag.dA Go.Proofs.ag.dU
def Zj.T2 : Bool × List (List Nat × List Nat) := (true, [([], []), ([], []), ([1], [1]), ([], []), ([3, 2], [3]), ([2, 4], [2, 4]), ([0, 5], [0, 5]), ([], []), ([7, 6, 4, 0, 1, 2, 3, 4, 5, 6, 7], [6, 7])])
def Zj.B2 : List Nat := [0, 0, 2, 0, 14, 30, 63, 0, 255]
def YU.f : Option Bool := some true
end Go.Proofs.Ytfdmfgaiblfbhaa.P
namespace Go.Proofs.Ytfdmfgaiblfbhaa.P
open Go.RowKit Go.Proofs.ag.aW Go.Proofs.ag.dA Go.Proofs.ag.dU
attribute [local go_sem] kM kZ lN l7 kz kC kY lg
mutual
def aU.l0 : Nat → Int → List Int → List Int → Option (List Int)
 | 0, _, _, _ => none
 | k + 1, x0, x1, x5 => if x0 > 0 then (aU.l1 k x0 x1 x5 0 x0 x1 (x1.length : Int) 0) else (some x5)
def aU.l1 : Nat → Int → List Int → List Int → Int → Int → List Int → Int → Int → Option (List Int)
 | 0, _, _, _, _, _, _, _, _ => none
 | k + 1, x0, x1, x5, x6, x7, x20, x21, Fz => if Fz < x21 then (if 0 ≤ Fz then (if Fz < (x20.length : Int) then (if Fz < (x5.length : Int) then (if (wrap64 ((rd x20 Fz) + (rd x5 Fz))) > 0 then (aU.l1 k x0 x1 x5 (wrap64 (x6 + 1)) (mn x7 (wrap64 ((rd x20 Fz) + (rd x5 Fz)))) x20 x21 (wrap64 (Fz + 1))) else (aU.l1 k x0 x1 x5 x6 x7 x20 x21 (wrap64 (Fz + 1)))) else (none)) else (none)) else (none)) else (if x6 = 0 then (none) else (aU.l2 k x0 x1 x5 (mx 1 (mn x7 (wrap64 (Int.tdiv x0 x6)))) x1 (x1.length : Int) 0))
def aU.l2 : Nat → Int → List Int → List Int → Int → List Int → Int → Int → Option (List Int)
 | 0, _, _, _, _, _, _, _ => none
 | k + 1, x0, x1, x5, x10, VB, Y1, Ey => if Ey < Y1 then (if 0 ≤ Ey then (if Ey < (VB.length : Int) then (if Ey < (x5.length : Int) then (if (wrap64 ((rd VB Ey) + (rd x5 Ey))) > 0 then (if x0 > 0 then (aU.l2 k (wrap64 (x0 - (mn x10 x0))) x1 (x5.set (Ey : Int).toNat (wrap64 ((rd x5 Ey) - (mn x10 x0)))) x10 VB Y1 (wrap64 (Ey + 1))) else (aU.l2 k x0 x1 x5 x10 VB Y1 (wrap64 (Ey + 1)))) else (aU.l2 k x0 x1 x5 x10 VB Y1 (wrap64 (Ey + 1)))) else (none)) else (none)) else (none)) else (aU.l0 k x0 x1 x5)
end
def aU.f (k : Nat) (a0 : Int) (l1 : List Int) : Option (List Int) := if 0 ≤ (l1.length : Int) then (if ((l1.length : Int) : Int).toNat ≤ 35184372088832 then (aU.l0 k a0 l1 (List.replicate ((l1.length : Int) : Int).toNat 0)) else (none)) else (none)
theorem aU.xJ : ∀ k, (∀ y0 y1 y2, je (aU.l0 k y0 y1 y2) (aU.l0 (k + 1) y0 y1 y2)) ∧ (∀ y0 y1 y2 y3 y4 y5 y6 y7, je (aU.l1 k y0 y1 y2 y3 y4 y5 y6 y7) (aU.l1 (k + 1) y0 y1 y2 y3 y4 y5 y6 y7)) ∧ (∀ y0 y1 y2 y3 y4 y5 y6, je (aU.l2 k y0 y1 y2 y3 y4 y5 y6) (aU.l2 (k + 1) y0 y1 y2 y3 y4 y5 y6))
 | 0 => ⟨fun _ _ _ r h => by simp [aU.l0] at h, fun _ _ _ _ _ _ _ _ r h => by simp [aU.l1] at h, fun _ _ _ _ _ _ _ r h => by simp [aU.l2] at h⟩
 | k + 1 => by
  obtain ⟨D_, ih1, ih2⟩ := aU.xJ k
  refine ⟨?_, ?_, ?_⟩
  ·intro y0 y1 y2
   unfold aU.l0
   repeat' first | (with_reducible exact ih1 _ _ _ _ _ _ _ _) | (with_reducible exact je.refl _) | (with_reducible refine je.ite ?_ ?_)
  ·intro y0 y1 y2 y3 y4 y5 y6 y7
   unfold aU.l1
   repeat' first | (with_reducible exact ih1 _ _ _ _ _ _ _ _) | (with_reducible exact ih2 _ _ _ _ _ _ _) | (with_reducible exact je.refl _) | (with_reducible refine je.ite ?_ ?_)
  ·intro y0 y1 y2 y3 y4 y5 y6
   unfold aU.l2
   repeat' first | (with_reducible exact D_ _ _ _) | (with_reducible exact ih2 _ _ _ _ _ _ _) | (with_reducible exact je.refl _) | (with_reducible refine je.ite ?_ ?_)
theorem aU.mono : ∀ a0 a1 k, je (aU.f k a0 a1) (aU.f (k + 1) a0 a1) := by
 intro a0 a1 k
 obtain ⟨D_, ih1, ih2⟩ := aU.xJ k
 unfold aU.f
 repeat' first | (with_reducible exact D_ _ _ _) | (with_reducible exact je.refl _) | (with_reducible refine je.ite ?_ ?_)
theorem aU.calls (k : Nat) (a0 : Int) (A1 : Option Addr) (c1 : Nat) (l1 : List Int) (r : List Int) (w : World) (hr1 : Kd.C (Kd.int .i64) w A1 l1.length l1) (hc1 : l1.length ≤ c1) (h : aU.f k a0 l1 = some r) :
  Calls Try.prog 130 #[.int .i64 a0, .slice A1 l1.length c1] w fun e w' => ∃ o_ : Value, e = .returned (o_) ∧ Kd.R (Kd.int .i64) 3 w' w.heap.size (fun _ => True) o_ r ∧ Below w.heap.size w w' := by
 have HR1 := ae.mk hr1
 clear hr1 hc1
 have HB := ae.mk (Below.refl w.heap.size w)
 have H : (if 0 ≤ (l1.length : Int) then (if ((l1.length : Int) : Int).toNat ≤ 35184372088832 then (aU.l0 k a0 l1 (List.replicate ((l1.length : Int) : Int).toNat 0)) else (none)) else (none)) = some r := h
 clear h
 by_cases c3 : 0 ≤ (l1.length : Int)
 ·rw [if_pos c3] at H
  have pq := eq_true c3
  have vO : decide (0 ≤ (l1.length : Int)) = true := decide_eq_true c3
  clear c3
  by_cases c4 : ((l1.length : Int) : Int).toNat ≤ 35184372088832
  ·rw [if_pos c4] at H
   have yu := eq_true c4
   have MC : decide (((l1.length : Int) : Int).toNat ≤ 35184372088832) = true := decide_eq_true c4
   clear c4
   obtain ⟨afc, QP⟩ : ∃ y_ : List Int, y_ = (List.replicate ((l1.length : Int) : Int).toNat 0) := ⟨_, rfl⟩
   replace H : (aU.l0 k a0 l1 afc) = some r := by (rw [QP]; with_reducible exact H)
   have afA := ae.mk QP
   clear QP
   have H' := ae.mk H
   clear H
   go_enter Try.func130, Try.ntmps130
   go_wp2_with (((with_reducible refine aC (N := 16) rfl ?_); refine Kd.SG (Kd.int .i64) _ 3 rfl (N := 16) rfl 41 _ _ rfl (l1.length : Int) rfl rfl Try.underlying41 (.int .i64 0) 8 info3 rfl (by decide) (by omega) 0 (ok := fun _ => True) (gm := fun _ => True) rfl (fun _ hk => hk) trivial (of_decide_eq_true (by (with_reducible assumption))) (Nat.le_trans (Nat.mul_le_mul_right _ (of_decide_eq_true (by (with_reducible assumption)) : (l1.length : Int).toNat ≤ 35184372088832)) (by omega)) (Below.refl _ _) (Nat.le_refl _) ?_; intro XV w5 ho6 hb lh iG; clear lh iG; (rw [← afA.out] at ho6); have afo := ae.mk (Kd.iZ ho6 (cO (by repeat ((with_reducible exact HB.out))))); replace HB := ae.mk (az (by repeat ((with_reducible exact HB.out))) hb); clear hb ho6))
   go_loopg [0] k (fun kq v0 w' => ∃ (uP : Int) (lM : List Int), v0 = .int .i64 uP ∧ ae (aU.l0 kq uP l1 lM = some r) ∧ ae (kq ≤ k) ∧ ae (Kd.R (Kd.int .i64) 3 w' w.heap.size (fun _ => True) XV lM) ∧ ae (Below w.heap.size w w'))
   case atStart => exact ⟨(a0), (afc), (by rfl), H', ⟨Nat.le_refl _⟩, ⟨by exact afo.out⟩, ⟨by repeat ((with_reducible exact HB.out))⟩⟩
   case round =>
    clear H'
    clear pq vO yu MC
    obtain ⟨uP, lM, rfl, HA, mf, lU, HB⟩ := hrel
    cases gk with
    | zero => exact absurd HA.out (by simp [aU.l0])
    | succ k1 =>
     have H := HA.out
     clear HA
     simp only [aU.l0] at H
     by_cases c7 : uP > 0
     ·rw [if_pos c7] at H
      have rU : decide (0 < uP) = true := decide_eq_true c7
      clear c7
      have H' := ae.mk H
      clear H
      go_wp2
      go_loopg [6, 7, 22] k1 (fun kq v6 v7 v22 w' => ∃ (oz : Int) (AV : Int) (gZ : Int), v6 = .int .i64 oz ∧ v7 = .int .i64 AV ∧ v22 = .int .i64 gZ ∧ ae (aU.l1 kq uP l1 lM oz AV l1 (l1.length : Int) gZ = some r) ∧ ae (kq ≤ k1) ∧ ae (Kd.R (Kd.int .i64) 3 w' w.heap.size (fun _ => True) XV lM) ∧ ae (Below w.heap.size w w'))
      case atStart => exact ⟨(0), (uP), (0), (by rfl), (by rfl), (by rfl), H', ⟨Nat.le_refl _⟩, ⟨by exact lU.out⟩, ⟨by repeat ((with_reducible exact HB.out))⟩⟩
      case round =>
       clear H'
       clear rU
       obtain ⟨oz, AV, gZ, rfl, rfl, rfl, HA, vI, lU, HB⟩ := hrel
       cases gk with
       | zero => exact absurd HA.out (by simp [aU.l1])
       | succ k2 =>
        have H := HA.out
        clear HA
        simp only [aU.l1] at H
        by_cases c8 : gZ < (l1.length : Int)
        ·rw [if_pos c8] at H
         have wS : decide (gZ < (l1.length : Int)) = true := decide_eq_true c8
         clear c8
         by_cases c9 : 0 ≤ gZ
         ·rw [if_pos c9] at H
          have MF : decide (0 ≤ gZ) = true := decide_eq_true c9
          clear c9
          by_cases c10 : gZ < (l1.length : Int)
          ·rw [if_pos c10] at H
           have G6 : decide (gZ < (l1.length : Int)) = true := decide_eq_true c10
           clear c10
           by_cases c11 : gZ < (lM.length : Int)
           ·rw [if_pos c11] at H
            have BQ : decide (gZ < (lM.length : Int)) = true := decide_eq_true c11
            clear c11
            by_cases c12 : (wrap64 ((rd l1 gZ) + (rd lM gZ))) > 0
            ·rw [if_pos c12] at H
             have yI : decide (0 < (wrap64 ((rd l1 gZ) + (rd lM gZ)))) = true := decide_eq_true c12
             clear c12
             obtain ⟨WX, YI⟩ : ∃ j_ : Int, (mn AV (wrap64 ((rd l1 gZ) + (rd lM gZ)))) = j_ := ⟨_, rfl⟩
             replace H : (aU.l1 k2 uP l1 lM (wrap64 (oz + 1)) WX l1 (l1.length : Int) (wrap64 (gZ + 1))) = some r := by (rw [YI] at H; exact H)
             have aj3 : (if (wrap64 ((rd l1 gZ) + (rd lM gZ))) < AV then (wrap64 ((rd l1 gZ) + (rd lM gZ))) else AV) = WX := YI
             have H' := ae.mk H
             clear H
             have F9 : 0 ≤ (gZ : Int) := of_decide_eq_true (by (with_reducible assumption))
             have Gi : gZ < (l1.length : Int) := of_decide_eq_true (by (with_reducible assumption))
             obtain ⟨afP, Wu, wX⟩ := Kd.iq HR1.out gZ F9 Gi
             cases Wu
             replace wX := (HB.out.cell (World.block_lt_of_cell? w _ wX)).trans wX
             replace F9 := eq_true F9
             replace Gi := eq_true Gi
             obtain ⟨ak3, alk, ahp⟩ := Kd.fQ lU.out
             subst ahp
             have F_ : 0 ≤ (gZ : Int) := of_decide_eq_true (by (with_reducible assumption))
             have Gj : gZ < (lM.length : Int) := of_decide_eq_true (by (with_reducible assumption))
             obtain ⟨Yk, Wv, aaV⟩ := Kd.iq (Kd.dn lU.out).2.2 gZ F_ Gj
             cases Wv
             replace F_ := eq_true F_
             replace Gj := eq_true Gj
             have Xt : 0 ≤ (gZ : Int) := of_decide_eq_true (by (with_reducible assumption))
             have Xx : gZ < (lM.length : Int) := of_decide_eq_true (by (with_reducible assumption))
             obtain ⟨afQ, ahm, aiM⟩ := Kd.iq (Kd.dn lU.out).2.2 gZ Xt Xx
             obtain rfl : Yk = afQ := (by injection ahm)
             replace Xt := eq_true Xt
             replace Xx := eq_true Xx
             go_wp2
             go_roundg k2
             case measure => have := mf.out; have := vI.out; omega
             case rel => exact ⟨(wrap64 (oz + 1)), (WX), (wrap64 (gZ + 1)), (by rfl), (by rfl), (by rfl), H', ⟨by have := mf.out; have := vI.out; omega⟩, ⟨by exact lU.out⟩, ⟨by repeat ((with_reducible exact HB.out))⟩⟩
            ·rw [if_neg c12] at H
             have yI : decide (0 < (wrap64 ((rd l1 gZ) + (rd lM gZ)))) = false := decide_eq_false c12
             clear c12
             have H' := ae.mk H
             clear H
             have F9 : 0 ≤ (gZ : Int) := of_decide_eq_true (by (with_reducible assumption))
             have Gi : gZ < (l1.length : Int) := of_decide_eq_true (by (with_reducible assumption))
             obtain ⟨afP, Wu, wX⟩ := Kd.iq HR1.out gZ F9 Gi
             cases Wu
             replace wX := (HB.out.cell (World.block_lt_of_cell? w _ wX)).trans wX
             replace F9 := eq_true F9
             replace Gi := eq_true Gi
             obtain ⟨Qc, QC, WC⟩ := Kd.fQ lU.out
             subst WC
             have F_ : 0 ≤ (gZ : Int) := of_decide_eq_true (by (with_reducible assumption))
             have Gj : gZ < (lM.length : Int) := of_decide_eq_true (by (with_reducible assumption))
             obtain ⟨Yk, Wv, aaV⟩ := Kd.iq (Kd.dn lU.out).2.2 gZ F_ Gj
             cases Wv
             replace F_ := eq_true F_
             replace Gj := eq_true Gj
             go_wp2
             go_roundg k2
             case measure => have := mf.out; have := vI.out; omega
             case rel => exact ⟨(oz), (AV), (wrap64 (gZ + 1)), (by rfl), (by rfl), (by rfl), H', ⟨by have := mf.out; have := vI.out; omega⟩, ⟨by exact lU.out⟩, ⟨by repeat ((with_reducible exact HB.out))⟩⟩
           ·rw [if_neg c11] at H
            exact absurd H (by simp)
          ·rw [if_neg c10] at H
           exact absurd H (by simp)
         ·rw [if_neg c9] at H
          exact absurd H (by simp)
        ·rw [if_neg c8] at H
         have wS : decide (gZ < (l1.length : Int)) = false := decide_eq_false c8
         clear c8
         by_cases c16 : oz = 0
         ·rw [if_pos c16] at H
          exact absurd H (by simp)
         ·rw [if_neg c16] at H
          have Qw : (oz == 0) = false := beq_eq_false_iff_ne.mpr c16
          have afZ : (oz != 0) = true := bne_iff_ne.mpr c16
          obtain ⟨NR, YJ⟩ : ∃ j_ : Int, (mn AV (wrap64 (Int.tdiv uP oz))) = j_ := ⟨_, rfl⟩
          replace H : (aU.l2 k2 uP l1 lM (mx 1 (NR)) l1 (l1.length : Int) 0) = some r := by (rw [YJ] at H; exact H)
          have aj6 : (if (wrap64 (Int.tdiv uP oz)) < AV then (wrap64 (Int.tdiv uP oz)) else AV) = NR := YJ
          obtain ⟨Ea, YK⟩ : ∃ j_ : Int, (mx 1 (NR)) = j_ := ⟨_, rfl⟩
          replace H : (aU.l2 k2 uP l1 lM Ea l1 (l1.length : Int) 0) = some r := by (rw [YK] at H; exact H)
          have aj7 : (if 1 < (NR) then (NR) else 1) = Ea := YK
          have H' := ae.mk H
          clear H
          go_wp2
          go_loopg [0, 53] k2 (fun kq v0 v53 w' => ∃ (uQ : Int) (nU : List Int) (fM : Int), v0 = .int .i64 uQ ∧ v53 = .int .i64 fM ∧ ae (aU.l2 kq uQ l1 nU Ea l1 (l1.length : Int) fM = some r) ∧ ae (kq ≤ k2) ∧ ae (Kd.R (Kd.int .i64) 3 w' w.heap.size (fun _ => True) XV nU) ∧ ae (Below w.heap.size w w'))
          case atStart => exact ⟨(uP), (lM), (0), (by rfl), (by rfl), H', ⟨Nat.le_refl _⟩, ⟨by exact lU.out⟩, ⟨by repeat ((with_reducible exact HB.out))⟩⟩
          case round =>
           clear H'
           clear wS c16 Qw afZ
           obtain ⟨uQ, nU, fM, rfl, rfl, HA, JH, lU, HB⟩ := hrel
           cases gk with
           | zero => exact absurd HA.out (by simp [aU.l2])
           | succ k3 =>
            have H := HA.out
            clear HA
            simp only [aU.l2] at H
            by_cases c19 : fM < (l1.length : Int)
            ·rw [if_pos c19] at H
             have af2 : decide (fM < (l1.length : Int)) = true := decide_eq_true c19
             clear c19
             by_cases c20 : 0 ≤ fM
             ·rw [if_pos c20] at H
              have akJ : decide (0 ≤ fM) = true := decide_eq_true c20
              clear c20
              by_cases c21 : fM < (l1.length : Int)
              ·rw [if_pos c21] at H
               have akK : decide (fM < (l1.length : Int)) = true := decide_eq_true c21
               clear c21
               by_cases Yx : fM < (nU.length : Int)
               ·rw [if_pos Yx] at H
                have akL : decide (fM < (nU.length : Int)) = true := decide_eq_true Yx
                clear Yx
                by_cases c23 : (wrap64 ((rd l1 fM) + (rd nU fM))) > 0
                ·rw [if_pos c23] at H
                 have af4 : decide (0 < (wrap64 ((rd l1 fM) + (rd nU fM)))) = true := decide_eq_true c23
                 clear c23
                 by_cases c24 : uQ > 0
                 ·rw [if_pos c24] at H
                  have af5 : decide (0 < uQ) = true := decide_eq_true c24
                  clear c24
                  obtain ⟨Eb, YL⟩ : ∃ j_ : Int, (mn Ea uQ) = j_ := ⟨_, rfl⟩
                  replace H : (aU.l2 k3 (wrap64 (uQ - (Eb))) l1 (nU.set (fM : Int).toNat (wrap64 ((rd nU fM) - (Eb)))) Ea l1 (l1.length : Int) (wrap64 (fM + 1))) = some r := by (rw [YL] at H; exact H)
                  have aj8 : (if uQ < Ea then uQ else Ea) = Eb := YL
                  obtain ⟨X3, QQ⟩ : ∃ y_ : List Int, y_ = (nU.set (fM : Int).toNat (wrap64 ((rd nU fM) - (Eb)))) := ⟨_, rfl⟩
                  replace H : (aU.l2 k3 (wrap64 (uQ - (Eb))) l1 X3 Ea l1 (l1.length : Int) (wrap64 (fM + 1))) = some r := by (rw [QQ]; with_reducible exact H)
                  have afB := ae.mk QQ
                  clear QQ
                  have H' := ae.mk H
                  clear H
                  have zn : 0 ≤ (fM : Int) := of_decide_eq_true (by (with_reducible assumption))
                  have zu : fM < (l1.length : Int) := of_decide_eq_true (by (with_reducible assumption))
                  obtain ⟨Yl, Nc, qf⟩ := Kd.iq HR1.out fM zn zu
                  cases Nc
                  replace qf := (HB.out.cell (World.block_lt_of_cell? w _ qf)).trans qf
                  replace zn := eq_true zn
                  replace zu := eq_true zu
                  obtain ⟨ak8, ahi, ahv⟩ := Kd.fQ lU.out
                  subst ahv
                  have zo : 0 ≤ (fM : Int) := of_decide_eq_true (by (with_reducible assumption))
                  have zx : fM < (nU.length : Int) := of_decide_eq_true (by (with_reducible assumption))
                  obtain ⟨Qr, Nh, Jf⟩ := Kd.iq (Kd.dn lU.out).2.2 fM zo zx
                  cases Nh
                  replace zo := eq_true zo
                  replace zx := eq_true zx
                  have Xu : 0 ≤ (fM : Int) := of_decide_eq_true (by (with_reducible assumption))
                  have Xy : fM < (nU.length : Int) := of_decide_eq_true (by (with_reducible assumption))
                  obtain ⟨afR, ahn, aaW⟩ := Kd.iq (Kd.dn lU.out).2.2 fM Xu Xy
                  obtain rfl : Qr = afR := (by injection ahn)
                  replace Xu := eq_true Xu
                  replace Xy := eq_true Xy
                  have p26 : 0 ≤ (fM : Int) := of_decide_eq_true (by (with_reducible assumption))
                  have q26 : (fM : Int) < ((nU.length : Int) : Int) := of_decide_eq_true (by (with_reducible assumption))
                  obtain ⟨WJ, alq, ahu, adx, ahz, alg, ag9⟩ := Kd.SE lU.out (by omega)
                  (cases ahu)
                  have ag8 := ae.mk adx
                  clear adx ahz ag9
                  (simp only [add_plain] at Jf)
                  (simp only [add_plain] at aaW)
                  obtain ⟨aj', aj2⟩ := Kd.Zb 0 lU.out (fM : Int) p26 q26
                  replace p26 := eq_true p26
                  replace q26 := eq_true q26
                  have VL := Kd.acA lU.out (fM : Int) (wrap64 ((rd nU fM) - (Eb)))
                  go_wp2_with (((with_reducible refine QF (t := 3) (p := 78) rfl ?_); refine OG (t := 3) (p := 78) (v := ?ako) (w1 := (wr.setCell ⟨WJ, (fM : Int).toNat, none⟩ (.int .i64 (wrap64 ((rd nU fM) - (Eb)))))) ?hg ?ho ?hn ?hr ?_; (case ho => rfl); (case hg => rfl); (case hn => rfl); (case hr => (go_simp; done)); intro J9 hw; have hg : wr.grownBy J9 (some WJ) := (by rw [hw]; exact VL.2); have hp_ : Kd.R (Kd.int .i64) 3 J9 w.heap.size (fun _ => True) (.slice (some ⟨WJ, 0, none⟩) nU.length ahi) X3 := (by rw [hw, afB.out]; exact VL.1); clear VL; replace lU := ae.mk (hp_); replace HB := ae.mk ((by rw [hw]; exact mF (HB.out) ag8.out : Below w.heap.size w J9)); clear hg hw hp_))
                  go_roundg k3
                  case measure => have := mf.out; have := vI.out; have := JH.out; omega
                  case rel => exact ⟨(wrap64 (uQ - (Eb))), (X3), (wrap64 (fM + 1)), (by rfl), (by rfl), H', ⟨by have := mf.out; have := vI.out; have := JH.out; omega⟩, ⟨by exact lU.out⟩, ⟨by repeat ((with_reducible exact HB.out))⟩⟩
                 ·rw [if_neg c24] at H
                  have af5 : decide (0 < uQ) = false := decide_eq_false c24
                  clear c24
                  have H' := ae.mk H
                  clear H
                  have zn : 0 ≤ (fM : Int) := of_decide_eq_true (by (with_reducible assumption))
                  have zu : fM < (l1.length : Int) := of_decide_eq_true (by (with_reducible assumption))
                  obtain ⟨Yl, Nc, qf⟩ := Kd.iq HR1.out fM zn zu
                  cases Nc
                  replace qf := (HB.out.cell (World.block_lt_of_cell? w _ qf)).trans qf
                  replace zn := eq_true zn
                  replace zu := eq_true zu
                  obtain ⟨ak9, alr, ahw⟩ := Kd.fQ lU.out
                  subst ahw
                  have zo : 0 ≤ (fM : Int) := of_decide_eq_true (by (with_reducible assumption))
                  have zx : fM < (nU.length : Int) := of_decide_eq_true (by (with_reducible assumption))
                  obtain ⟨Qr, Nh, Jf⟩ := Kd.iq (Kd.dn lU.out).2.2 fM zo zx
                  cases Nh
                  replace zo := eq_true zo
                  replace zx := eq_true zx
                  go_wp2
                  go_roundg k3
                  case measure => have := mf.out; have := vI.out; have := JH.out; omega
                  case rel => exact ⟨(uQ), (nU), (wrap64 (fM + 1)), (by rfl), (by rfl), H', ⟨by have := mf.out; have := vI.out; have := JH.out; omega⟩, ⟨by exact lU.out⟩, ⟨by repeat ((with_reducible exact HB.out))⟩⟩
                ·rw [if_neg c23] at H
                 have af4 : decide (0 < (wrap64 ((rd l1 fM) + (rd nU fM)))) = false := decide_eq_false c23
                 clear c23
                 have H' := ae.mk H
                 clear H
                 have zn : 0 ≤ (fM : Int) := of_decide_eq_true (by (with_reducible assumption))
                 have zu : fM < (l1.length : Int) := of_decide_eq_true (by (with_reducible assumption))
                 obtain ⟨Yl, Nc, qf⟩ := Kd.iq HR1.out fM zn zu
                 cases Nc
                 replace qf := (HB.out.cell (World.block_lt_of_cell? w _ qf)).trans qf
                 replace zn := eq_true zn
                 replace zu := eq_true zu
                 obtain ⟨ak_, als, ahx⟩ := Kd.fQ lU.out
                 subst ahx
                 have zo : 0 ≤ (fM : Int) := of_decide_eq_true (by (with_reducible assumption))
                 have zx : fM < (nU.length : Int) := of_decide_eq_true (by (with_reducible assumption))
                 obtain ⟨Qr, Nh, Jf⟩ := Kd.iq (Kd.dn lU.out).2.2 fM zo zx
                 cases Nh
                 replace zo := eq_true zo
                 replace zx := eq_true zx
                 go_wp2
                 go_roundg k3
                 case measure => have := mf.out; have := vI.out; have := JH.out; omega
                 case rel => exact ⟨(uQ), (nU), (wrap64 (fM + 1)), (by rfl), (by rfl), H', ⟨by have := mf.out; have := vI.out; have := JH.out; omega⟩, ⟨by exact lU.out⟩, ⟨by repeat ((with_reducible exact HB.out))⟩⟩
               ·rw [if_neg Yx] at H
                exact absurd H (by simp)
              ·rw [if_neg c21] at H
               exact absurd H (by simp)
             ·rw [if_neg c20] at H
              exact absurd H (by simp)
            ·rw [if_neg c19] at H
             have af2 : decide (fM < (l1.length : Int)) = false := decide_eq_false c19
             clear c19
             have H' := ae.mk H
             clear H
             go_wp2
             go_roundg k3
             case measure => have := mf.out; have := vI.out; have := JH.out; omega
             case rel => exact ⟨(uQ), (nU), (by rfl), H', ⟨by have := mf.out; have := vI.out; have := JH.out; omega⟩, ⟨by exact lU.out⟩, ⟨by repeat ((with_reducible exact HB.out))⟩⟩
     ·rw [if_neg c7] at H
      have rU : decide (0 < uP) = false := decide_eq_false c7
      clear c7
      obtain rfl := Option.some.inj H
      go_wp2
      go_ret
      exact ⟨_, by rfl, by exact lU.out, by repeat ((with_reducible exact HB.out))⟩
  ·rw [if_neg c4] at H
   exact absurd H (by simp)
 ·rw [if_neg c3] at H
  exact absurd H (by simp)
end Go.Proofs.Ytfdmfgaiblfbhaa.P
namespace Go.Proofs.Ytfdmfgaiblfbhaa.P
open Go.RowKit Go.Proofs.ag.aW Go.Proofs.ag.dA Go.Proofs.ag.dU
def kU (a n : Int) (i : Int) : Int := a / n + if i < a % n then 1 else 0
def moreL (a : Int) (n : Nat) : List Int := (List.range n).map fun i => kU a n (i : Nat)
theorem mJ (a : Int) (n : Nat) : (moreL a n).length = n := by simp [moreL]
theorem UJ (a : Int) (n k : Nat) (h : k < n) : (moreL a n)[k]? = some (kU a n k) := by simp [moreL, h]
theorem XN {α : Type} (L : List α) (x z : α) (k : Nat) (hx : L[k]? = some x) : (L.take k ++ List.replicate (L.length - k) z).set k x = L.take (k + 1) ++ List.replicate (L.length - (k + 1)) z := by
 obtain ⟨h, rfl⟩ := List.getElem?_eq_some_iff.1 hx
 obtain ⟨m, hm⟩ : ∃ m, L.length - k = m + 1 := ⟨L.length - k - 1, by omega⟩
 rw [List.set_append_right _ _ (by simp; omega), List.length_take, show k - min k L.length = 0 by omega, hm, List.replicate_succ, List.set_cons_zero, List.take_succ_eq_append_getElem h, List.append_assoc, show L.length - (k + 1) = m by omega]
 rfl
theorem Hu (a : Int) (n k : Nat) (h : k < n) : ((moreL a n).take k ++ List.replicate (n - k) 0).set k (kU a n k) = (moreL a n).take (k + 1) ++ List.replicate (n - (k + 1)) 0 := by
 have := XN (moreL a n) (kU a n k) 0 k (UJ a n k h)
 rwa [mJ] at this
theorem Xi (a : Int) (n : Nat) (w : World) (h0 : 0 ≤ a) (h1 : a ≤ 9000000000000000000) (h2 : 1 ≤ n) (h3 : n ≤ 100000) :
  Calls Try.prog 129 #[.int .i64 a, .int .i64 n] w fun e w' => ∃ o_ : Value, e = .returned o_ ∧ Kd.R (Kd.int .i64) 3 w' w.heap.size (fun _ => True) o_ (moreL a n) ∧ Below w.heap.size w w' := by
 have hmk := Hz (P := Try.prog) 41 3 .i64 8 Try.underlying41 info3 (by decide) n (by omega)
 have hs := N8 w w.heap.size 3 .i64 n (Nat.le_refl _) (by omega)
 have hq0 : 0 ≤ a / (n : Int) := Int.ediv_nonneg h0 (by omega)
 have hq1 : a / (n : Int) ≤ a := Int.ediv_le_self _ h0
 have HS := ae.mk hs
 clear hs
 go_enter Try.func129, Try.ntmps129
 go_wp2
 go_loopw [11] (fun v11 wr => ∃ k : Nat, k ≤ n ∧ v11 = .int .i64 k ∧ ae (wr.ownsRow w.heap.size 3 1 (.slice (some ⟨w.heap.size, 0, none⟩) n n) n (nums .i64 ((moreL a n).take k ++ List.replicate (n - k) 0))) ∧ ae (Below w.heap.size w wr)) (fun v11 _ => n - (intOf v11).toNat)
 case atStart => exact ⟨0, by omega, rfl, ⟨by simpa using HS.out⟩, ⟨gz (Below.refl _ _) _⟩⟩
 case round =>
  obtain ⟨k, hk, rfl, HO, HB⟩ := hrel
  clear hmk HS
  by_cases hlt : k < n
  ·have hlt' : (k : Int) < (n : Int) := by omega
   obtain ⟨hc, hf⟩ := UR HO.out (k : Int) (by omega) (by omega)
   simp only [Int.toNat_natCast] at hc hf
   by_cases hr : (k : Int) < a % (n : Int)
   ·have HK := ae.mk (Hu a n k hlt)
    have HR := ae.mk hr
    go_wp2
    go_roundw
    case rel =>
     obtain ⟨s1, _⟩ := z_ HO.out (k : Int) (a / n)
     obtain ⟨s2, _⟩ := z_ s1 (k : Int) (a / n + 1)
     simp only [Int.toNat_natCast, List.set_set] at s1 s2
     have e : kU a n k = a / n + 1 := by unfold kU; rw [if_pos HR.out]
     rw [← e, HK.out] at s2
     exact ⟨k + 1, by omega, by go_num, ⟨by rw [← e]; exact s2⟩, ⟨mF (mF HB.out (Nat.le_refl _)) (Nat.le_refl _)⟩⟩
    case measure => simp [intOf]; omega
   ·have HK := ae.mk (Hu a n k hlt)
    have HR := ae.mk hr
    go_wp2
    go_roundw
    case rel =>
     obtain ⟨s1, _⟩ := z_ HO.out (k : Int) (a / n)
     simp only [Int.toNat_natCast] at s1
     have e : kU a n k = a / n := by unfold kU; rw [if_neg HR.out]; omega
     rw [← e, HK.out] at s1
     exact ⟨k + 1, by omega, by go_num, ⟨by rw [← e]; exact s1⟩, ⟨mF HB.out (Nat.le_refl _)⟩⟩
    case measure => simp [intOf]; omega
  ·obtain rfl : k = n := by omega
   go_wp2
   go_ret
   refine ⟨_, rfl, ?_, HB.out⟩
   have h := HO.out
   rw [List.take_of_length_le (by rw [mJ]; omega), Nat.sub_self] at h
   simp only [List.replicate_zero, List.append_nil] at h
   exact Kd.rO (enc := Value.int .i64) (h1 := fun _ => rfl) (by rw [mJ]; exact h) (fun _ _ => trivial)
def pg.f (a0 a1 : Int) : Option (List Int) := if 0 ≤ a0 ∧ a0 ≤ 9000000000000000000 ∧ 1 ≤ a1 ∧ a1 ≤ 100000 then some (moreL a0 a1.toNat) else none
theorem pg.calls (a0 a1 : Int) (r : List Int) (w : World) (h : pg.f a0 a1 = some r) : Calls Try.prog 129 #[.int .i64 a0, .int .i64 a1] w fun e w' => ∃ o_ : Value, e = .returned (o_) ∧ Kd.R (Kd.int .i64) 3 w' w.heap.size (fun _ => True) o_ r ∧ Below w.heap.size w w' := by
 unfold pg.f at h
 split at h
 ·rename_i hc
  obtain ⟨n, rfl⟩ := Int.eq_ofNat_of_zero_le (show 0 ≤ a1 by omega)
  obtain rfl := Option.some.inj h
  exact Xi a0 n w hc.1 hc.2.1 (by omega) (by omega)
 ·exact absurd h (by simp)
end Go.Proofs.Ytfdmfgaiblfbhaa.P
