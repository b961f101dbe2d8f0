/- PushIs: part 3 of 7 of this claim's texts, one behind the other, made small by a program: the words of the kit's printer cut down to those that are used, the claim's own names made short. -/
import Derived.Test.YtfdmfgaiblfbhaaProg
import Derived.Below
import Derived.Deep.Draws
import Derived.Deep.AppendLies
import Derived.Maps.AppendAt
import Derived.OwnWalk
import Derived.Laws.BytesArg
import Derived.Laws.MakeOwn
import Derived.Laws.OwnMore
import Derived.Deep.OwnRows
import Derived.Tactics
import Derived.Lib.ConvBytes
import Derived.Laws.Slices
import Derived.WalkKit
import Derived.KernelRfl
import Derived.RowKit3
import Derived.Deep.LoopGhost
import Derived.Deep.QuietTactic
import Derived.BigQuiet
import Derived.WideLaws
import Derived.Deep.DeepCutAuto
import Derived.Deep.CutBlock
import Derived.Deep.RegionHeld3
import Derived.Laws.Rows
import Derived.Lib.AppendStr
import Derived.ArgAppend
import Derived.Laws.IdiomCopy
import Derived.OrdersHeld
import Derived.Laws.BitsLemmas
import Derived.RowKit
import Derived.Test.YtfdmfgaiblfbhaaMPushIsa
import Derived.Test.YtfdmfgaiblfbhaaMPushIsb
import Derived.Shelf.Spec.SlicesInsert
import Derived.Shelf.Spec.SlicesInsertGrow
import Derived.Lib.Hide
import Derived.Maps.OwnOps
import Derived.Maps.Views
set_option maxHeartbeats 8000000
set_option maxRecDepth 100000
set_option linter.unusedVariables false
set_option linter.unusedSimpArgs false
namespace Go.Proofs.Ytfdmfgaiblfbhaa.P
open Go.RowKit Go.Proofs.ag.aV Go.Proofs.ag.bP Go.Proofs.ag.cO
attribute [local go_sem] kJ kS lM l7 lI lJ mJ mO
theorem info3 : (Try.prog.info? 3).map (fun i => (i.zero, i.size, i.bytes)) = some (some (.int .i64 0), 1, 8) := by kernel_rfl
theorem info23 : (Try.prog.info? 23).map (fun i => (i.zero, i.size, i.bytes)) = some (some (.agg #[(.int .i64 0), (.int .i64 0), (.int .i64 0), (.int .i64 0)]), 4, 32) := by kernel_rfl
theorem info26 : (Try.prog.info? 26).map (fun i => (i.zero, i.size, i.bytes)) = some (some (.agg #[(.int .u8 0), (.int .i64 0), (.int .i64 0), (.int .i64 0), (.int .i64 0), (.int .i64 0), (.slice none 0 0)]), 7, 72) := by kernel_rfl
structure dO where
 f0 : Int
 f1 : Int
 f2 : Int
 f3 : Int
def z23 : dO := ⟨(0 : Int), (0 : Int), (0 : Int), (0 : Int)⟩
def k23 : Kd dO := Kd.V9 (Kd.pair (Kd.int .i64) (Kd.pair (Kd.int .i64) (Kd.pair (Kd.int .i64) (Kd.int .i64)))) (fun x : dO => (x.f0, x.f1, x.f2, x.f3))
theorem Yr : Kd.Heap k23 := Kd.PK _ (Kd.xK (Kd.yO .i64) (Kd.xK (Kd.yO .i64) (Kd.xK (Kd.yO .i64) (Kd.yO .i64))))
theorem IC {w : World} {x : dO} {cs : List Value} (h : k23.K w x cs) : cs = [.int .i64 x.f0, .int .i64 x.f1, .int .i64 x.f2, .int .i64 x.f3] := by
 obtain ⟨_, _, rfl, rfl, ⟨_, _, rfl, rfl, ⟨_, _, rfl, rfl, rfl⟩⟩⟩ := h
 exact rfl
theorem PV (w : World) (x : dO)  : k23.K w x [.int .i64 x.f0, .int .i64 x.f1, .int .i64 x.f2, .int .i64 x.f3] := ⟨[.int .i64 x.f0], [.int .i64 x.f1, .int .i64 x.f2, .int .i64 x.f3], rfl, rfl, ⟨[.int .i64 x.f1], [.int .i64 x.f2, .int .i64 x.f3], rfl, rfl, ⟨[.int .i64 x.f2], [.int .i64 x.f3], rfl, rfl, rfl⟩⟩⟩
theorem tN (w : World) (base : Nat) (ok : Nat → Prop) (x : dO)  : k23.M w base ok x [.int .i64 x.f0, .int .i64 x.f1, .int .i64 x.f2, .int .i64 x.f3] := ⟨[.int .i64 x.f0], [.int .i64 x.f1, .int .i64 x.f2, .int .i64 x.f3], rfl, rfl, ⟨[.int .i64 x.f1], [.int .i64 x.f2, .int .i64 x.f3], rfl, rfl, ⟨[.int .i64 x.f2], [.int .i64 x.f3], rfl, rfl, rfl⟩⟩⟩
def rM (xs : List dO) (i : Int) : dO := xs.getD i.toNat z23
theorem OH {w : World} {A : Option Addr} {n : Nat} {xs : List dO} (h : Kd.C k23 w A n xs) (i : Int) (h0 : 0 ≤ i) (h1 : i < n) : ∃ ad , A = some ad ∧ w.cell? (ad.add (i.toNat * 4)) = some (.int .i64 (rM xs i).f0) ∧ w.cell? ⟨(ad.add (i.toNat * 4)).block, (ad.add (i.toNat * 4)).off + 1, none⟩ = some (.int .i64 (rM xs i).f1) ∧ w.cell? ⟨(ad.add (i.toNat * 4)).block, (ad.add (i.toNat * 4)).off + 2, none⟩ = some (.int .i64 (rM xs i).f2) ∧ w.cell? ⟨(ad.add (i.toNat * 4)).block, (ad.add (i.toNat * 4)).off + 3, none⟩ = some (.int .i64 (rM xs i).f3) := by
 obtain ⟨ad, c, e, _, hK, hc0⟩ := Kd.I5 h z23 i h0 h1
 have hc : ∀ j u, c[j]? = some u → w.cell? (ad.add (i.toNat * 4 + j)) = some u := hc0
 obtain rfl := IC hK
 exact ⟨ad, e, hc 0 _ rfl, by rw [← lC _ _ 1 (by omega)]; exact hc 1 _ rfl, by rw [← lC _ _ 2 (by omega)]; exact hc 2 _ rfl, by rw [← lC _ _ 3 (by omega)]; exact hc 3 _ rfl⟩
structure ai where
 f0 : Int
 f1 : dO
 f2 : Int
 f3 : (List ai)
def z26 : ai := ⟨(0 : Int), z23, (0 : Int), ([] : List ai)⟩
def QI (d : Kd ai) : Kd ai := Kd.V9 (Kd.pair (Kd.int .u8) (Kd.pair k23 (Kd.pair (Kd.int .i64) (Kd.slice 26 d)))) (fun x : ai => (x.f0, x.f1, x.f2, x.f3))
theorem P5 : Kd.xZ QI := Kd.YB _ (Kd.FV (Kd.Ed _) (Kd.FV (Kd.Ed _) (Kd.FV (Kd.Ed _) (Kd.TR 26 Kd.ack))))
theorem ahr : Kd.Sub QI [26] := Kd.acC _ (Kd.IX (Kd.sub_const _ (by decide)) (Kd.IX (Kd.sub_const _ (by decide)) (Kd.IX (Kd.sub_const _ (by decide)) (Kd.Xg 26 (by decide) Kd.aga))))
theorem Ug : ∀ n, (Kd.upto QI 7 [26] n).sz = 7 := Kd.acL (fun _ => rfl)
def k26 : Kd ai := Kd.fix QI 7 [26] Ug (Kd.Xk ahr)
theorem qM : Kd.Heap k26 := Kd.Ym (fun _ h_ => Kd.PK _ (Kd.xK (Kd.yO .u8) (Kd.xK Yr (Kd.xK (Kd.yO .i64) (Kd.TE 26 h_)))))
theorem Ea {w : World} {x : ai} {cs : List Value} (h : k26.K w x cs) : ∃ A6 c6, cs = [.int .u8 x.f0, .int .i64 x.f1.f0, .int .i64 x.f1.f1, .int .i64 x.f1.f2, .int .i64 x.f1.f3, .int .i64 x.f2, .slice A6 x.f3.length c6] ∧ x.f3.length ≤ c6 ∧ k26.C w A6 x.f3.length x.f3 := by
 obtain ⟨n, h⟩ := h
 cases n with
 | zero => exact h.elim
 | succ n =>
  obtain ⟨_, _, rfl, rfl, ⟨_, _, rfl, s1, ⟨_, _, rfl, rfl, ⟨A6, c6, rfl, l6, g6⟩⟩⟩⟩ := h
  obtain rfl := IC s1
  exact ⟨A6, c6, rfl, l6, Kd.ag9 g6⟩
theorem afG (w : World) (x : ai) {A6 : Option Addr} {c6 : Nat} (l6 : x.f3.length ≤ c6) (g6 : k26.C w A6 x.f3.length x.f3) : k26.K w x [.int .u8 x.f0, .int .i64 x.f1.f0, .int .i64 x.f1.f1, .int .i64 x.f1.f2, .int .i64 x.f1.f3, .int .i64 x.f2, .slice A6 x.f3.length c6] := by
 obtain ⟨n6, q6⟩ := Kd.Tq P5 g6
 have r6 := Kd.Xj P5 Ug (show n6 ≤ n6 by omega) q6
 exact ⟨n6 + 1, ⟨[.int .u8 x.f0], [.int .i64 x.f1.f0, .int .i64 x.f1.f1, .int .i64 x.f1.f2, .int .i64 x.f1.f3, .int .i64 x.f2, .slice A6 x.f3.length c6], rfl, rfl, ⟨[.int .i64 x.f1.f0, .int .i64 x.f1.f1, .int .i64 x.f1.f2, .int .i64 x.f1.f3], [.int .i64 x.f2, .slice A6 x.f3.length c6], rfl, (PV w x.f1 ), ⟨[.int .i64 x.f2], [.slice A6 x.f3.length c6], rfl, rfl, ⟨A6, c6, rfl, l6, r6⟩⟩⟩⟩⟩
theorem o5 {W : World} {ok : Nat → Prop} {x : ai} {cs : List Value} (h : Kd.FK k26 W ok x cs) : ∃ A6 c6, cs = [.int .u8 x.f0, .int .i64 x.f1.f0, .int .i64 x.f1.f1, .int .i64 x.f1.f2, .int .i64 x.f1.f3, .int .i64 x.f2, .slice A6 x.f3.length c6] ∧ x.f3.length ≤ c6 ∧ Kd.F k26 W ok A6 x.f3.length x.f3 := by
 obtain ⟨A6, c6, rfl, l6, _⟩ := Ea (Kd.vZ h)
 exact ⟨A6, c6, rfl, l6, (fun W' hW => by obtain ⟨A6_, c6_, he, l6_, g6_⟩ := Ea (h W' hW); injection (Option.some.inj (show some (Value.slice A6 x.f3.length c6) = some (Value.slice A6_ x.f3.length c6_) from congrArg (fun l => l[6]?) he)) with ha_ _ _; rw [ha_]; exact g6_)⟩
theorem o_ (W : World) (ok : Nat → Prop) (x : ai) {A6 : Option Addr} {c6 : Nat} (l6 : x.f3.length ≤ c6) (g6 : Kd.F k26 W ok A6 x.f3.length x.f3) : Kd.FK k26 W ok x [.int .u8 x.f0, .int .i64 x.f1.f0, .int .i64 x.f1.f1, .int .i64 x.f1.f2, .int .i64 x.f1.f3, .int .i64 x.f2, .slice A6 x.f3.length c6] := fun W2 hW => afG W2 x l6 (g6 W2 hW)
def aA (xs : List ai) (i : Int) : ai := xs.getD i.toNat z26
theorem uC {w : World} {A : Option Addr} {n : Nat} {xs : List ai} (h : Kd.C k26 w A n xs) (i : Int) (h0 : 0 ≤ i) (h1 : i < n) : ∃ ad A6 c6, A = some ad ∧ w.cell? (ad.add (i.toNat * 7)) = some (.int .u8 (aA xs i).f0) ∧ w.cell? ⟨(ad.add (i.toNat * 7)).block, (ad.add (i.toNat * 7)).off + 1, none⟩ = some (.int .i64 (aA xs i).f1.f0) ∧ w.cell? ⟨(ad.add (i.toNat * 7)).block, (ad.add (i.toNat * 7)).off + 2, none⟩ = some (.int .i64 (aA xs i).f1.f1) ∧ w.cell? ⟨(ad.add (i.toNat * 7)).block, (ad.add (i.toNat * 7)).off + 3, none⟩ = some (.int .i64 (aA xs i).f1.f2) ∧ w.cell? ⟨(ad.add (i.toNat * 7)).block, (ad.add (i.toNat * 7)).off + 4, none⟩ = some (.int .i64 (aA xs i).f1.f3) ∧ w.cell? ⟨(ad.add (i.toNat * 7)).block, (ad.add (i.toNat * 7)).off + 5, none⟩ = some (.int .i64 (aA xs i).f2) ∧ w.cell? ⟨(ad.add (i.toNat * 7)).block, (ad.add (i.toNat * 7)).off + 6, none⟩ = some (.slice A6 (aA xs i).f3.length c6) ∧ (aA xs i).f3.length ≤ c6 ∧ k26.C w A6 (aA xs i).f3.length (aA xs i).f3 := by
 obtain ⟨ad, c, e, _, hK, hc0⟩ := Kd.I5 h z26 i h0 h1
 have hc : ∀ j u, c[j]? = some u → w.cell? (ad.add (i.toNat * 7 + j)) = some u := hc0
 obtain ⟨A6, c6, rfl, l6, g6⟩ := Ea hK
 exact ⟨ad, A6, c6, e, hc 0 _ rfl, by rw [← lC _ _ 1 (by omega)]; exact hc 1 _ rfl, by rw [← lC _ _ 2 (by omega)]; exact hc 2 _ rfl, by rw [← lC _ _ 3 (by omega)]; exact hc 3 _ rfl, by rw [← lC _ _ 4 (by omega)]; exact hc 4 _ rfl, by rw [← lC _ _ 5 (by omega)]; exact hc 5 _ rfl, by rw [← lC _ _ 6 (by omega)]; exact hc 6 _ rfl, l6, g6⟩
structure S35 where
 f0 : Int
 f1 : dO
end Go.Proofs.Ytfdmfgaiblfbhaa.P
namespace Go.Proofs.Ytfdmfgaiblfbhaa.P
open Go.RowKit Go.Proofs.ag.aV Go.Proofs.ag.bP Go.Proofs.ag.cO
section
variable {P : Program} {ops : Array Oper} {rest : List Oper} {o : Oper} {a : Act} {Q : Exit → Act → World → Prop}
theorem grown_below {w0 W w1 : World} {g base : Nat} (HB : Below base w0 W) (hg : W.grownBy w1 (some g)) (hbg : base ≤ g) (hs : base ≤ W.heap.size) : Below base w0 w1 := HB.trans ⟨hg.os, hg.tape, hg.output, hg.size, fun k hk => hg.block k (by omega) (fun he => by injection he with he; omega)⟩
theorem rQ {W : World} {g j : Nat} {cs cs' : Array Value} {t0 : TypeId} {bK : List Value} (hb : W.heap[g]? = some (.cells cs t0 (0, 0))) (hj : j + bK.length ≤ cs.size) (he : cs.toList.take j ++ bK ++ cs.toList.drop (j + bK.length) = cs'.toList) :
  (W.setCells g j bK).heap[g]? = some (.cells cs' t0 (0, 0)) ∧ W.grownBy (W.setCells g j bK) (some g) := by
 obtain ⟨cur', h3, h4, h5⟩ := mY bK j W cs hb hj
 obtain ⟨s1, s2, s3, s4⟩ := xe g bK j W
 have hc : cur' = cs' := Array.toList_inj.1 (h5.trans he)
 subst hc
 exact ⟨h3, ⟨s1, s2, s3, by rw [s4]; exact Nat.le_refl _, fun k _ hk => yA bK _ k (fun e => hk (by rw [e]))⟩⟩
theorem iO {W w0 : World} (hN : o.dst = none) (hgd : o.guard = none) (t : TypeId) (p x : Operand) (ho : o.op = .store t p x) {g j base : Nat} {cs : Array Value} (cs' : Array Value) {t0 : TypeId} {u : Value} {bK : List Value}
  (kZ : a.eval p = .pointer (some ⟨g, j, none⟩)) (hx : a.eval x = u) (hu : u.cells.toList = bK) (ht : (P.info? t).map (·.size) = some bK.length) (h1 : ∀ q ∈ bK, q.oneCell' = true)
  (hb : W.heap[g]? = some (.cells cs t0 (0, 0))) (hj : j + bK.length ≤ cs.size) (he : cs.toList.take j ++ bK ++ cs.toList.drop (j + bK.length) = cs'.toList) (HB : Below base w0 W) (hbs : base ≤ W.heap.size) (hbg : base ≤ g)
  (h : ∀ w1, w1.heap[g]? = some (.cells cs' t0 (0, 0)) → Below base w0 w1 → W.grownBy w1 (some g) → wpList P ops Q rest a w1) : wpList P ops Q (o :: rest) a W := by
 obtain ⟨h2, h3⟩ := rQ hb hj he
 refine wpList_plain hgd fun K hK => ?_
 have hrun := EJ (P := P) t u bK hb hu ht hj h1
 unfold Oper.wp execOp
 simp only [ho, kZ, hx, Sem.run_bind, Sem.run_pure, Result.andThen_ok, hrun]
 show K (a.put o.dst undef) _
 rw [hN]
 exact hK a _ (h _ h2 (grown_below HB h3 hbg hbs) h3)
theorem Et {W : World} (t : TypeId) (p x : Operand) (ho : o.op = .store t p x) {g j : Nat} {cs : Array Value} {t0 : TypeId} {u : Value} {bK : List Value}
  (kZ : a.eval p = .pointer (some ⟨g, j, none⟩)) (hx : a.eval x = u) (hu : u.cells.toList = bK) (ht : (P.info? t).map (·.size) = some bK.length) (h1 : ∀ q ∈ bK, q.oneCell' = true)
  (hb : W.heap[g]? = some (.cells cs t0 (0, 0))) (hj : j + bK.length ≤ cs.size) : (execOp a.eval o).run P W = .ok .skip (W.setCells g j bK) := by
 have hrun := EJ (P := P) t u bK hb hu ht hj h1
 unfold execOp
 simp only [ho, kZ, hx, Sem.run_bind, Sem.run_pure, Result.andThen_ok, hrun]
end
theorem Ol {α : Type} {d : Kd α} {e base b c : Nat} {P : Nat → Prop} {W w1 : World} {v : Value} {xs : List α} (h : Kd.N d e w1 W.heap.size (fun k => ((P k ∧ k ≠ b) ∧ k ≠ c) ∨ W.heap.size ≤ k) v xs) (hb : b < W.heap.size) (hc : c < W.heap.size) (hs : base ≤ W.heap.size) :
  Kd.N d e w1 base (fun k => ((P k ∨ base ≤ k) ∧ k ≠ b) ∧ k ≠ c) v xs :=
 Kd.xE (Kd.jq h (fun k hk => hk.elim (fun q => ⟨⟨.inl q.1.1, q.1.2⟩, q.2⟩) (fun q => ⟨⟨.inr (by omega), by omega⟩, by omega⟩))) hs
def keys (bs : List (Option Nat × Obj)) (ow : List (Value × List ai)) : List Nat := bs.filterMap (·.1) ++ ow.flatMap (fun r => r.1.ownBlock.toList)
def Ok (w : World) (P : Nat → Prop) (ks : List Nat) (k : Nat) : Prop := (P k ∨ w.heap.size ≤ k) ∧ k ∉ ks
structure St (w : World) (P : Nat → Prop) (bs : List (Option Nat × Obj)) (ow : List (Value × List ai)) (ts : List (Value × List ai)) (ro : List (Addr × Value)) (W : World) : Prop where
 below : Below w.heap.size w W
 blk : ∀ p, p ∈ bs → ∀ g, p.1 = some g → W.heap[g]? = some p.2
 new : ∀ k, k ∈ keys bs ow → w.heap.size ≤ k ∧ k < W.heap.size
 nd : (keys bs ow).Nodup
 tree : ∀ t, t ∈ ts → Kd.V k26 26 W 0 (Ok w P (keys bs ow)) t.1 t.2
 own : ∀ r, r ∈ ow → Kd.N k26 26 W w.heap.size (fun k => Ok w P (keys bs ow) k ∨ r.1.ownBlock = some k) r.1 r.2
 cell : ∀ c, c ∈ ro → W.cell? c.1 = some c.2 ∧ c.1.block ∉ keys bs ow
section
variable {w : World} {P : Nat → Prop} {bs : List (Option Nat × Obj)} {ow : List (Value × List ai)} {ts : List (Value × List ai)} {ro : List (Addr × Value)} {W W1 : World} {g b0 cap : Nat} {o o' : Obj} {v : Value} {l : List ai}
theorem eY {α : Type} {d : Kd α} {e base base' : Nat} {ok : Nat → Prop} {W : World} {v : Value} {xs : List α} (h : Kd.V d e W base ok v xs) : Kd.V d e W base' ok v xs := Kd.AZ h (fun _ hf => hf)
theorem St.start (h : ∀ t, t ∈ ts → Kd.V k26 26 w b0 P t.1 t.2) : St w P [] [] ts [] w where
 below := Below.refl _ _
 blk := fun _ h => by cases h
 new := fun _ h => by cases h
 nd := List.nodup_nil
 tree := fun t ht => eY (Kd.iq (h t ht) (fun k hk => ⟨.inl hk, by simp [keys]⟩))
 own := fun _ h => by cases h
 cell := fun _ h => by cases h
theorem St.yH (S : St w P [] [] ts ro W) {a : Addr} {u : Value} (h : W.cell? a = some u) : St w P [] [] ts ((a, u) :: ro) W :=
 ⟨S.below, S.blk, S.new, S.nd, S.tree, S.own, fun c hc => by
  rcases List.mem_cons.1 hc with rfl | hc
  ·exact ⟨h, by simp [keys]⟩
  ·exact S.cell c hc⟩
theorem St.lt (S : St w P bs ow ts ro W) {k : Nat} (h : k ∈ keys bs ow) : k < W.heap.size := (S.new k h).2
theorem St.box (S : St w P bs ow ts ro W) (hg : g = W.heap.size) (hbox : W1.heap[g]? = some o) (hb : Below W.heap.size W W1) : St w P ((some g, o) :: bs) ow ts ro W1 where
 below := au S.below hb
 blk := fun p hp q hq => by
  rcases List.mem_cons.1 hp with rfl | hp
  ·rw [← Option.some.inj hq]; exact hbox
  ·exact aQ (S.blk p hp q hq) hb
 new := fun k hk => by
  rcases List.mem_cons.1 (show k ∈ g :: keys bs ow from hk) with rfl | hk
  ·exact ⟨by rw [hg]; exact S.below.size, gJ hbox⟩
  ·exact ⟨(S.new k hk).1, Nat.lt_of_lt_of_le (S.new k hk).2 hb.size⟩
 nd := show (g :: keys bs ow).Nodup from List.nodup_cons.2 ⟨fun h => by have := (S.new g h).2; omega, S.nd⟩
 tree := fun t ht => Kd.iq (Kd.jT (Kd.pG (S.tree t ht) g (Nat.le_of_eq hg.symm)) hb) (fun k hk => ⟨hk.1.1, fun h => (List.mem_cons.1 (show k ∈ g :: keys bs ow from h)).elim hk.2 hk.1.2⟩)
 own := fun r hr => Kd.jq (Kd.qY (Kd.DR (S.own r hr) g (Nat.le_of_eq hg.symm)) hb) (fun k hk => hk.1.elim (fun h1 => .inl ⟨h1.1, fun h => (List.mem_cons.1 (show k ∈ g :: keys bs ow from h)).elim hk.2 h1.2⟩) .inr)
 cell := fun c hc => ⟨(hb.cell (World.block_lt_of_cell? W _ (S.cell c hc).1)).trans (S.cell c hc).1, fun h => (List.mem_cons.1 (show c.1.block ∈ g :: keys bs ow from h)).elim (fun he => by have := World.block_lt_of_cell? W _ (S.cell c hc).1; omega) (S.cell c hc).2⟩
theorem St.call (S : St w P bs ow ts ro W) (hb : Below W.heap.size W W1) : St w P bs ow ts ro W1 where
 below := au S.below hb
 blk := fun p hp q hq => aQ (S.blk p hp q hq) hb
 new := fun k hk => ⟨(S.new k hk).1, Nat.lt_of_lt_of_le (S.new k hk).2 hb.size⟩
 nd := S.nd
 tree := fun t ht => Kd.jT (S.tree t ht) hb
 own := fun r hr => Kd.qY (S.own r hr) hb
 cell := fun c hc => ⟨(hb.cell (World.block_lt_of_cell? W _ (S.cell c hc).1)).trans (S.cell c hc).1, (S.cell c hc).2⟩
theorem St.add (S : St w P bs ow ts ro W) (h : Kd.V k26 26 W b0 (Ok w P (keys bs ow)) v l) : St w P bs ow ((v, l) :: ts) ro W :=
 ⟨S.below, S.blk, S.new, S.nd, fun t ht => by
  rcases List.mem_cons.1 ht with rfl | ht
  ·exact eY h
  ·exact S.tree t ht, S.own, S.cell⟩
theorem St.res (S : St w P bs ow ts ro W) (h : Kd.V k26 26 W1 b0 (fun k => Ok w P (keys bs ow) k ∨ W.heap.size ≤ k) v l) (hb : Below W.heap.size W W1) : St w P bs ow ((v, l) :: ts) ro W1 :=
 (S.call hb).add (Kd.iq h (fun k hk => hk.elim id (fun h1 => ⟨.inr (Nat.le_trans S.below.size h1), fun h2 => by have := S.lt h2; omega⟩)))
theorem iK {k : Nat} : k ∈ keys bs [(v, l)] ↔ k ∈ keys bs [] ∨ v.ownBlock = some k := by
 simp only [keys, List.flatMap_cons, List.flatMap_nil, List.append_nil, List.mem_append, Option.mem_toList]
theorem St.yx (S : St w P bs [] ts ro W) (h : Kd.N k26 26 W1 W.heap.size (fun k => Ok w P (keys bs []) k ∨ W.heap.size ≤ k) v l) (hb : Below W.heap.size W W1) : St w P bs [(v, l)] ts ro W1 := by
 have hgb : ∀ g, v.ownBlock = some g → W.heap.size ≤ g := Kd.wC h
 have hgl : ∀ g, v.ownBlock = some g → g < W1.heap.size := Kd.EP h
 have hlt : ∀ k, k < W.heap.size → v.ownBlock ≠ some k := fun k hk e => by have := hgb k e; omega
 refine ⟨au S.below hb, fun p hp q hq => aQ (S.blk p hp q hq) hb, fun k hk => ?_, ?_, fun t ht => ?_, fun r hr => ?_, fun c hc => ?_⟩
 ·rcases iK.1 hk with h1 | h1
  ·exact ⟨(S.new k h1).1, Nat.lt_of_lt_of_le (S.new k h1).2 hb.size⟩
  ·exact ⟨Nat.le_trans S.below.size (hgb k h1), hgl k h1⟩
 ·have h1 := S.nd
  simp only [keys, List.flatMap_nil, List.append_nil] at h1
  simp only [keys, List.flatMap_cons, List.flatMap_nil, List.append_nil]
  refine List.nodup_append.2 ⟨h1, by cases v.ownBlock <;> simp, fun a ha b hb2 => ?_⟩
  rintro rfl
  exact hlt a (S.lt (by simpa [keys] using ha)) (by simpa using hb2)
 ·exact Kd.iq (Kd.jT (Kd.Dq (S.tree t ht)) hb) (fun k hk => ⟨hk.1.1, fun h2 => (iK.1 h2).elim hk.1.2 (hlt k hk.2)⟩)
 ·rw [List.mem_singleton] at hr
  subst hr
  refine Kd.xE (Kd.jq h (fun k hk => ?_)) S.below.size
  by_cases hkg : v.ownBlock = some k
  ·exact .inr hkg
  ·refine .inl ?_
   rcases hk with h1 | h1
   ·exact ⟨h1.1, fun h2 => (iK.1 h2).elim h1.2 hkg⟩
   ·exact ⟨.inr (Nat.le_trans S.below.size h1), fun h2 => (iK.1 h2).elim (fun h3 => by have := S.lt h3; omega) hkg⟩
 ·exact ⟨(hb.cell (World.block_lt_of_cell? W _ (S.cell c hc).1)).trans (S.cell c hc).1, fun h2 => (iK.1 h2).elim (S.cell c hc).2 (hlt _ (World.block_lt_of_cell? W _ (S.cell c hc).1))⟩
theorem O1 {W W1 : World} {g : Nat} (hg : W.grownBy W1 (some g)) {a : Addr} {u : Value} (h : W.cell? a = some u) (hn : a.block ≠ g) : W1.cell? a = some u := cell_grown hg h (fun e => hn (Option.some.inj e))
theorem Yt {i : Nat} : ∀ {bs : List (Option Nat × Obj)} (ow : List (Value × List ai)) (_ : bs[i]? = some (some g, o)), keys (bs.set i (some g, o')) ow = keys bs ow := by
 induction i with
 | zero => intro bs ow h; cases bs with
  | nil => simp at h
  | cons b bs => simp at h; subst h; rfl
 | succ i ih => intro bs ow h; cases bs with
  | nil => simp at h
  | cons b bs =>
   have := ih (bs := bs) ow (by simpa using h)
   unfold keys at this ⊢
   have h2 := List.append_cancel_right this
   rw [List.set_cons_succ, List.filterMap_cons, List.filterMap_cons, h2]
theorem mem_keys {bs : List (Option Nat × Obj)} {ow : List (Value × List ai)} {p : Option Nat × Obj} {g : Nat} (hp : p ∈ bs) (hg : p.1 = some g) : g ∈ keys bs ow := List.mem_append.2 (.inl (List.mem_filterMap.2 ⟨p, hp, hg⟩))
theorem ahj {p q : Option Nat × Obj} {g : Nat} : ∀ {bs : List (Option Nat × Obj)} {i j : Nat}, (bs.filterMap (·.1)).Nodup → bs[i]? = some p → bs[j]? = some q → i ≠ j → p.1 = some g → q.1 = some g → False := by
 intro bs
 induction bs with
 | nil => intro i j _ hi; simp at hi
 | cons b bs ih =>
  intro i j hn hi hj hij hp hq
  have hn' : (bs.filterMap (·.1)).Nodup := by
   rw [List.filterMap_cons] at hn
   split at hn
   ·exact hn
   ·exact (List.nodup_cons.1 hn).2
  cases i with
  | zero =>
   cases j with
   | zero => exact hij rfl
   | succ j =>
    simp at hi hj
    subst hi
    rw [List.filterMap_cons, hp] at hn
    exact (List.nodup_cons.1 hn).1 (List.mem_filterMap.2 ⟨q, List.mem_of_getElem? hj, hq⟩)
  | succ i =>
   cases j with
   | zero =>
    simp at hi hj
    subst hj
    rw [List.filterMap_cons, hq] at hn
    exact (List.nodup_cons.1 hn).1 (List.mem_filterMap.2 ⟨p, List.mem_of_getElem? hi, hp⟩)
   | succ j => exact ih hn' (by simpa using hi) (by simpa using hj) (by omega) hp hq
theorem St.put (S : St w P bs ow ts ro W) (i : Nat) (hi : bs[i]? = some (some g, o)) (hbk : W1.heap[g]? = some o') (hb : Below w.heap.size w W1) (hg : W.grownBy W1 (some g)) : St w P (bs.set i (some g, o')) ow ts ro W1 := by
 have hk := Yt (o' := o') ow hi
 have hm : g ∈ keys bs ow := mem_keys (List.mem_of_getElem? hi) rfl
 refine ⟨hb, fun p hp q hq => ?_, by rw [hk]; exact fun k h => ⟨(S.new k h).1, Nat.lt_of_lt_of_le (S.new k h).2 hg.size⟩, by rw [hk]; exact S.nd, fun t ht => ?_, fun r hr => ?_, fun c hc => ?_⟩
 ·obtain ⟨j, hj⟩ := List.mem_iff_getElem?.1 hp
  rw [List.getElem?_set] at hj
  by_cases hij : i = j
  ·subst hij
   rw [if_pos rfl] at hj
   split at hj
   ·injection hj with e; subst e; rw [← Option.some.inj hq]; exact hbk
   ·cases hj
  ·rw [if_neg hij] at hj
   exact dG (S.blk p (List.mem_of_getElem? hj) q hq) hg (fun e => ahj (List.nodup_append.1 S.nd).1 hi hj hij rfl (by rw [hq]; exact e))
 ·rw [hk]; exact Kd.xG (S.tree t ht) hg (fun k h e => h.2 (by rw [Option.some.inj e]; exact hm))
 ·rw [hk]
  have hrg : r.1.ownBlock ≠ some g := fun e => (List.nodup_append.1 S.nd).2.2 g (List.mem_filterMap.2 ⟨_, List.mem_of_getElem? hi, rfl⟩) g (List.mem_flatMap.2 ⟨r, hr, by simp [e]⟩) rfl
  exact Kd.xC (S.own r hr) hg (fun k h e => h.elim (fun h1 => h1.2 (by rw [Option.some.inj e]; exact hm)) (fun h1 => hrg (by rw [h1]; exact e)))
 ·rw [hk]; exact ⟨O1 hg (S.cell c hc).1 (fun e => (S.cell c hc).2 (by rw [e]; exact hm)), (S.cell c hc).2⟩
def lN (x : ai) (A : Option Addr) (c : Nat) : List Value := [.int .u8 x.f0, .int .i64 x.f1.f0, .int .i64 x.f1.f1, .int .i64 x.f1.f2, .int .i64 x.f1.f3, .int .i64 x.f2, .slice A x.f3.length c]
theorem St.bK {n : Nat} (S : St w P bs [(.slice (some ⟨g, 0, none⟩) n cap, l)] ts ro W) (i : Int) (h0 : 0 ≤ i) (h1 : i < l.length) (x : ai) {A : Option Addr} {c : Nat} (hm : (.slice A x.f3.length c, x.f3) ∈ ts) (hW : W1 = W.setCells g (i.toNat * 7 + 0) (lN x A c)) :
  St w P bs [(.slice (some ⟨g, 0, none⟩) n cap, l.set i.toNat x)] ts ro W1 ∧ W.grownBy W1 (some g) := by
 have hN := S.own _ (List.mem_singleton.2 rfl)
 have hob : (Value.slice (some ⟨g, 0, none⟩) n cap).ownBlock = some g := by simp [Value.ownBlock]
 have hmem : g ∈ keys bs [(.slice (some ⟨g, 0, none⟩) n cap, l)] := iK.2 (.inr hob)
 have hn : n = l.length := (Kd.jF hN).1
 obtain ⟨c0, hcl, hM, hcc, hfr⟩ := Kd.zu hN z26 i h0 (by rw [hn]; exact h1)
 obtain ⟨hl1, hl2, hF⟩ := Kd.C_ (S.tree _ hm)
 have MH := o_ W _ x hl2 hF
 have hseg := Kd.SX hN i h0 (by rw [hn]; exact h1) (bK := lN x A c) (j := 0) hcl hcc (show 0 + 7 ≤ 7 from by decide) (x' := x) (gU := Ok w P (keys bs [(.slice (some ⟨g, 0, none⟩) n cap, l)])) (by
  have e : c0.take 0 ++ lN x A c ++ c0.drop (0 + (lN x A c).length) = lN x A c := by
   rw [show (0 + (lN x A c).length) = c0.length by rw [hcl]; rfl, List.drop_length, List.take_zero, List.nil_append, List.append_nil]
  rw [e]; exact MH) (fun k hk => ⟨.inl hk, fun e => hk.2 (by rw [e]; exact hmem)⟩)
 have D_ : Kd.N k26 26 W1 w.heap.size (fun k => Ok w P (keys bs [(.slice (some ⟨g, 0, none⟩) n cap, l)]) k ∨ (Value.slice (some ⟨g, 0, none⟩) n cap).ownBlock = some k) (.slice (some ⟨g, 0, none⟩) n cap) (l.set i.toNat x) ∧ W.grownBy W1 (some g) := by rw [hW]; exact hseg
 have hne : ∀ p, p ∈ bs → p.1 ≠ some g := fun p hp e => (List.nodup_append.1 S.nd).2.2 g (List.mem_filterMap.2 ⟨p, hp, e⟩) g (by simp [hob]) rfl
 refine ⟨⟨grown_below S.below D_.2 (S.new g hmem).1 S.below.size, fun p hp q hq => dG (S.blk p hp q hq) D_.2 (fun e => hne p hp (by rw [hq]; exact e)), fun k h => ⟨(S.new k h).1, Nat.lt_of_lt_of_le (S.new k h).2 D_.2.size⟩, S.nd, fun t ht => ?_, fun r hr => ?_, fun c hc => ?_⟩, D_.2⟩
 ·exact Kd.xG (S.tree t ht) D_.2 (fun k h e => h.2 (by rw [Option.some.inj e]; exact hmem))
 ·rw [List.mem_singleton] at hr
  subst hr
  exact D_.1
 ·exact ⟨O1 D_.2 (S.cell c hc).1 (fun e => (S.cell c hc).2 (by rw [e]; exact hmem)), (S.cell c hc).2⟩
theorem St.free (S : St w P bs [(v, l)] ts ro W) : St w P bs [] ((v, l) :: ts) ro W := by
 have hk : ∀ k, k ∈ keys bs [] → k ∈ keys bs [(v, l)] := fun k h => iK.2 (.inl h)
 have hne : ∀ k, k ∈ keys bs [] → v.ownBlock ≠ some k := fun k h e => (List.nodup_append.1 S.nd).2.2 k (by simpa [keys] using h) k (by simp [e]) rfl
 refine ⟨S.below, S.blk, fun k h => S.new k (hk k h), ?_, fun t ht => ?_, fun _ h => (by cases h), fun c hc => ⟨(S.cell c hc).1, fun h => (S.cell c hc).2 (hk _ h)⟩⟩
 ·simp only [keys, List.flatMap_nil, List.append_nil]; exact (List.nodup_append.1 S.nd).1
 ·rcases List.mem_cons.1 ht with rfl | ht
  ·exact Kd.iq (Kd.oD (S.own _ (List.mem_singleton.2 rfl))) (fun k h => h.elim (fun h1 => ⟨h1.1, fun h2 => h1.2 (hk k h2)⟩) (fun h1 => ⟨.inr (S.new k (iK.2 (.inr h1))).1, fun h2 => hne k h2 h1⟩))
  ·exact Kd.iq (S.tree t ht) (fun k h => ⟨h.1, fun h2 => h.2 (hk k h2)⟩)
theorem St.oV (S : St w P bs [(v, l)] ts ro W) : Kd.N k26 26 W w.heap.size (fun k => P k ∨ w.heap.size ≤ k) v l :=
 Kd.jq (S.own _ (List.mem_singleton.2 rfl)) (fun k h => h.elim (fun h1 => h1.1) (fun h1 => .inr (S.new k (iK.2 (.inr h1))).1))
theorem St.P9 (S : St w P bs ow ts ro W) (hm : (v, l) ∈ ts) : Kd.V k26 26 W b0 (fun k => P k ∨ w.heap.size ≤ k) v l := eY (Kd.iq (S.tree _ hm) (fun _ h => h.1))
theorem St.at (S : St w P bs ow ts ro W) {cs : Array Value} {t : TypeId} (hm : (some g, .cells cs t (0, 0)) ∈ bs) (j : Nat) : W.cell? ⟨g, j, none⟩ = cs[j]? := af (S.blk _ hm g rfl) j
theorem St.elem (S : St w P bs ow ts ro W) {A : Option Addr} {n c : Nat} (hm : (.slice A n c, l) ∈ ts) (i : Int) (h0 : 0 ≤ i) (h1 : i < l.length) :
  ∃ ad ua uc, A = some ad ∧ St w P bs ow ((.slice ua (aA l i).f3.length uc, (aA l i).f3) :: ts) ((ad.add (i.toNat * 7), .int .u8 (aA l i).f0) :: (⟨(ad.add (i.toNat * 7)).block, (ad.add (i.toNat * 7)).off + 1, none⟩, .int .i64 (aA l i).f1.f0) :: (⟨(ad.add (i.toNat * 7)).block, (ad.add (i.toNat * 7)).off + 2, none⟩, .int .i64 (aA l i).f1.f1) :: (⟨(ad.add (i.toNat * 7)).block, (ad.add (i.toNat * 7)).off + 3, none⟩, .int .i64 (aA l i).f1.f2) :: (⟨(ad.add (i.toNat * 7)).block, (ad.add (i.toNat * 7)).off + 4, none⟩, .int .i64 (aA l i).f1.f3) :: (⟨(ad.add (i.toNat * 7)).block, (ad.add (i.toNat * 7)).off + 5, none⟩, .int .i64 (aA l i).f2) :: (⟨(ad.add (i.toNat * 7)).block, (ad.add (i.toNat * 7)).off + 6, none⟩, .slice ua (aA l i).f3.length uc) :: ro) W := by
 have hV := S.tree _ hm
 obtain ⟨hn, hl, hF⟩ := Kd.C_ hV
 obtain ⟨ad, ua, uc, ek, y0, y1, y2, y3, y4, y5, y6, MM, hgu⟩ := uC (Kd.I7 hF) i h0 h1
 subst ek
 obtain ⟨ad2, ce, e2, hcl, hFK, hcc, hok⟩ := Kd.SG hF z26 i h0 h1
 injection e2 with e2
 subst e2
 obtain ⟨ub, ud, rfl, lub, fub⟩ := o5 hFK
 have e6 := hcc 6 _ rfl
 rw [show k26.sz = 7 from rfl, lC _ _ 6 (by omega)] at e6
 have e7 := Option.some.inj (e6.symm.trans y6)
 injection e7 with ea en ec
 subst ea
 subst ec
 have hO := (hok (by decide)).2
 have Pv : (ad.add (i.toNat * 7)).block ∉ keys bs ow := by rw [add_block]; exact hO
 refine ⟨ad, ub, ud, rfl, (S.add (Kd.x_ (base := 0) lub fub)).below, S.blk, S.new, S.nd, (S.add (Kd.x_ (base := 0) lub fub)).tree, S.own, ?_⟩
 intro c hc
 rcases List.mem_cons.1 hc with rfl | hc
 ·exact ⟨y0, Pv⟩
 rcases List.mem_cons.1 hc with rfl | hc
 ·exact ⟨y1, Pv⟩
 rcases List.mem_cons.1 hc with rfl | hc
 ·exact ⟨y2, Pv⟩
 rcases List.mem_cons.1 hc with rfl | hc
 ·exact ⟨y3, Pv⟩
 rcases List.mem_cons.1 hc with rfl | hc
 ·exact ⟨y4, Pv⟩
 rcases List.mem_cons.1 hc with rfl | hc
 ·exact ⟨y5, Pv⟩
 rcases List.mem_cons.1 hc with rfl | hc
 ·exact ⟨y6, Pv⟩
 exact S.cell c hc
end
section
variable {Pr : Program} {ops : Array Oper} {rest : List Oper} {op : Oper} {a : Act} {Q : Exit → Act → World → Prop} {w W : World} {P : Nat → Prop} {bs : List (Option Nat × Obj)} {ow : List (Value × List ai)} {ts : List (Value × List ai)} {ro : List (Addr × Value)}
theorem aeb {N : Tmp} (hd : op.dst = some N) (hgd : op.guard = none) (cs : Array Value) (t : TypeId) (S : St w P bs ow ts ro W)
  (hr : (execOp a.eval op).run Pr W = .ok (.value (.pointer (some ⟨W.heap.size, 0, none⟩))) (W.alloc (.cells cs t (0, 0))))
  (h : ∀ g w1, St w P ((some g, .cells cs t (0, 0)) :: bs) ow ts ro w1 → wpList Pr ops Q rest (a.put op.dst (.pointer (some ⟨g, 0, none⟩))) w1) : wpList Pr ops Q (op :: rest) a W :=
 aU hgd hd hr (fun g hg w1 hbox hb => h g w1 (S.box hg hbox hb))
theorem afW (i : Nat) {g : Nat} {cs : Array Value} {t0 : TypeId} (hi : bs[i]? = some (some g, .cells cs t0 (0, 0))) (t : TypeId) (p x : Operand) (ho : op.op = .store t p x) {j : Nat} (cs' : Array Value) {u : Value} {bK : List Value} (S : St w P bs ow ts ro W)
  (kZ : a.eval p = .pointer (some ⟨g, j, none⟩)) (hx : a.eval x = u) (hu : u.cells.toList = bK) (ht : (Pr.info? t).map (·.size) = some bK.length) (h1 : ∀ q ∈ bK, q.oneCell' = true) (hj : j + bK.length ≤ cs.size)
  (he : cs.toList.take j ++ bK ++ cs.toList.drop (j + bK.length) = cs'.toList) (hN : op.dst = none) (hgd : op.guard = none)
  (h : ∀ w1, St w P (bs.set i (some g, .cells cs' t0 (0, 0))) ow ts ro w1 → wpList Pr ops Q rest a w1) : wpList Pr ops Q (op :: rest) a W := by
 have hm : g ∈ keys bs ow := mem_keys (List.mem_of_getElem? hi) rfl
 exact iO hN hgd t p x ho cs' kZ hx hu ht h1 (S.blk _ (List.mem_of_getElem? hi) g rfl) hj he S.below S.below.size (S.new g hm).1 (fun w1 h2 h3 h4 => h w1 (S.put i hi h2 h3 h4))
theorem acu (i : Nat) {g : Nat} {cs : Array Value} {t0 : TypeId} (hi : bs[i]? = some (some g, .cells cs t0 (0, 0))) (t : TypeId) (p x : Operand) (ho : op.op = .store t p x) {j : Nat} (cs' : Array Value) {u : Value} {bK : List Value} (S : St w P bs ow ts ro W)
  (kZ : a.eval p = .pointer (some ⟨g, j, none⟩)) (hx : a.eval x = u) (hu : u.cells.toList = bK) (ht : (Pr.info? t).map (·.size) = some bK.length) (h1 : ∀ q ∈ bK, q.oneCell' = true) (hj : j + bK.length ≤ cs.size)
  (he : cs.toList.take j ++ bK ++ cs.toList.drop (j + bK.length) = cs'.toList) :
  (execOp a.eval op).run Pr W = .ok .skip (W.setCells g j bK) ∧ St w P (bs.set i (some g, .cells cs' t0 (0, 0))) ow ts ro (W.setCells g j bK) := by
 have hm : g ∈ keys bs ow := mem_keys (List.mem_of_getElem? hi) rfl
 have hb := S.blk _ (List.mem_of_getElem? hi) g rfl
 have hc := rQ hb hj he
 exact ⟨Et t p x ho kZ hx hu ht h1 hb hj, S.put i hi hc.1 (grown_below S.below hc.2 (S.new g hm).1 S.below.size) hc.2⟩
theorem RY {g n cap : Nat} {l : List ai} (i : Int) (x : ai) {A : Option Addr} {c : Nat} (p y : Operand) (ho : op.op = .store 26 p y) (S : St w P bs [(.slice (some ⟨g, 0, none⟩) n cap, l)] ts ro W) (h0 : 0 ≤ i) (h1 : i < l.length)
  (kZ : a.eval p = .pointer (some ⟨g, i.toNat * 7, none⟩)) (hx : a.eval y = .agg (lN x A c).toArray) (hsz : (Pr.info? 26).map (·.size) = some 7) (hm : (.slice A x.f3.length c, x.f3) ∈ ts) :
  ∃ w1, (execOp a.eval op).run Pr W = .ok .skip w1 ∧ St w P bs [(.slice (some ⟨g, 0, none⟩) n cap, l.set i.toNat x)] ts ro w1 := by
 obtain ⟨h2, h3⟩ := S.bK i h0 h1 x hm rfl
 obtain ⟨cells, hcells⟩ := Kd.aap (S.own _ (List.mem_singleton.2 rfl)) g (by simp [Value.ownBlock])
 have hN := S.own _ (List.mem_singleton.2 rfl)
 obtain ⟨c0, hcl, hM, hcc, hfr⟩ := Kd.zu hN z26 i h0 (by rw [(Kd.jF hN).1]; exact h1)
 have hcl : c0.length = 7 := hcl
 have hlt : i.toNat * 7 + 7 ≤ cells.size := by
  have h4 := hcc 6 _ (List.getElem?_eq_getElem (by omega))
  have h5 := af hcells (i.toNat * 7 + 6)
  have h6 : W.cell? ⟨g, i.toNat * k26.sz + 6, none⟩ = W.cell? ⟨g, i.toNat * 7 + 6, none⟩ := rfl
  rw [h6, h5] at h4
  by_cases h7 : i.toNat * 7 + 6 < cells.size
  ·omega
  ·rw [Array.getElem?_eq_none (by omega)] at h4; cases h4
 refine ⟨_, ?_, h2⟩
 rw [show i.toNat * 7 + 0 = i.toNat * 7 from rfl]
 exact Et 26 p y ho kZ hx (by rfl) hsz (by simp [lN, Value.oneCell']) hcells (by simpa [lN] using hlt)
theorem lg {K : Act → World → Prop} (i : Nat) {g : Nat} {cs : Array Value} {t0 : TypeId} (hi : bs[i]? = some (some g, .cells cs t0 (0, 0))) (t : TypeId) (p x : Operand) (ho : op.op = .store t p x) {j : Nat} (cs' : Array Value) {u : Value} {bK : List Value} (S : St w P bs ow ts ro W)
  (hw : Region.wanted op (yielded ops a.tmps) = true) (hN : op.dst = none)
  (kZ : a.eval p = .pointer (some ⟨g, j, none⟩)) (hx : a.eval x = u) (hu : u.cells.toList = bK) (ht : (Pr.info? t).map (·.size) = some bK.length) (h1 : ∀ q ∈ bK, q.oneCell' = true) (hj : j + bK.length ≤ cs.size)
  (he : cs.toList.take j ++ bK ++ cs.toList.drop (j + bK.length) = cs'.toList) (h : ∀ w1, St w P (bs.set i (some g, .cells cs' t0 (0, 0))) ow ts ro w1 → K a w1) :
  if Region.wanted op (yielded ops a.tmps) = true then Oper.wp Pr op a W K Q else K (a.put none undef) W := by
 obtain ⟨h2, h3⟩ := acu (a := a) (Pr := Pr) i hi t p x ho cs' S kZ hx hu ht h1 hj he
 exact JK hw hN h2 (h _ h3)
theorem Ld {K : Act → World → Prop} {g n cap : Nat} {l : List ai} (i : Int) (x : ai) {A : Option Addr} {c : Nat} (p y : Operand) (ho : op.op = .store 26 p y) (S : St w P bs [(.slice (some ⟨g, 0, none⟩) n cap, l)] ts ro W)
  (hw : Region.wanted op (yielded ops a.tmps) = true) (hN : op.dst = none) (h0 : 0 ≤ i) (h1 : i < l.length)
  (kZ : a.eval p = .pointer (some ⟨g, i.toNat * 7, none⟩)) (hx : a.eval y = .agg (lN x A c).toArray) (hsz : (Pr.info? 26).map (·.size) = some 7) (hm : (.slice A x.f3.length c, x.f3) ∈ ts) (h : ∀ w1, St w P bs [(.slice (some ⟨g, 0, none⟩) n cap, l.set i.toNat x)] ts ro w1 → K a w1) :
  if Region.wanted op (yielded ops a.tmps) = true then Oper.wp Pr op a W K Q else K (a.put none undef) W := by
 obtain ⟨w1, hr, S1⟩ := RY (a := a) (Pr := Pr) i x p y ho S h0 h1 kZ hx hsz hm
 exact JK hw hN hr (h _ S1)
theorem St.dV {k : Option Nat} {o : Obj} (S : St w P ((k, o) :: bs) ow ts ro W) : St w P bs ow ts ro W := by
 have hin : ∀ x, x ∈ keys bs ow → x ∈ keys ((k, o) :: bs) ow := fun x h => by
  unfold keys at h ⊢
  rw [List.filterMap_cons]
  cases k with
  | none => exact h
  | some g => exact List.mem_cons_of_mem _ h
 refine ⟨S.below, fun p hp => S.blk p (List.mem_cons_of_mem _ hp), fun x hx => S.new x (hin x hx), ?_, fun t ht => Kd.iq (S.tree t ht) (fun x h => ⟨h.1, fun h2 => h.2 (hin x h2)⟩), fun r hr => Kd.jq (S.own r hr) (fun x h => h.elim (fun h1 => .inl ⟨h1.1, fun h2 => h1.2 (hin x h2)⟩) .inr), fun c hc => ⟨(S.cell c hc).1, fun h2 => (S.cell c hc).2 (hin _ h2)⟩⟩
 have h := S.nd
 unfold keys at h ⊢
 rw [List.filterMap_cons] at h
 cases k with
 | none => exact h
 | some g => exact (List.nodup_cons.1 h).2
theorem St.bQ {t : Value × List ai} (S : St w P bs ow (t :: ts) ro W) : St w P bs ow ts ro W :=
 ⟨S.below, S.blk, S.new, S.nd, fun t ht => S.tree t (List.mem_cons_of_mem _ ht), S.own, S.cell⟩
theorem St.ahl {t : Value × List ai} (S : St w P bs ow ts ro W) (hm : t ∈ ts) : St w P bs ow [t] ro W :=
 ⟨S.below, S.blk, S.new, S.nd, fun x hx => by rw [List.mem_singleton.1 hx]; exact S.tree t hm, S.own, S.cell⟩
theorem St.aX {c : Addr × Value} (S : St w P bs ow ts (c :: ro) W) : St w P bs ow ts ro W :=
 ⟨S.below, S.blk, S.new, S.nd, S.tree, S.own, fun c hc => S.cell c (List.mem_cons_of_mem _ hc)⟩
theorem W_ {g n cap : Nat} {l : List ai} (i : Int) (x : ai) {A : Option Addr} {c : Nat} (p y : Operand) (ho : op.op = .store 26 p y) (S : St w P bs [(.slice (some ⟨g, 0, none⟩) n cap, l)] ts ro W) (h0 : 0 ≤ i) (h1 : i < l.length)
  (kZ : a.eval p = .pointer (some ⟨g, i.toNat * 7, none⟩)) (hx : a.eval y = .agg (lN x A c).toArray) (hsz : (Pr.info? 26).map (·.size) = some 7) (hm : (.slice A x.f3.length c, x.f3) ∈ ts) (hN : op.dst = none) (hgd : op.guard = none)
  (h : ∀ w1, St w P bs [(.slice (some ⟨g, 0, none⟩) n cap, l.set i.toNat x)] ts ro w1 → wpList Pr ops Q rest a w1) : wpList Pr ops Q (op :: rest) a W := by
 obtain ⟨w1, hr, S1⟩ := RY (a := a) (Pr := Pr) i x p y ho S h0 h1 kZ hx hsz hm
 refine wpList_plain hgd fun K hK => ?_
 unfold Oper.wp
 rw [hr]
 show K (a.put op.dst undef) _
 rw [hN]
 exact hK a _ (h _ S1)
end
section
variable {Pr : Program} {ops : Array Oper} {rest : List Oper} {op : Oper} {a : Act} {Q : Exit → Act → World → Prop} {w W W1 : World} {P : Nat → Prop} {bs : List (Option Nat × Obj)} {ts : List (Value × List ai)} {ro : List (Addr × Value)} {v v1 : Value} {xs ys : List ai}
theorem St.WT (S : St w P bs [(v, xs)] ts ro W) (hb : Below w.heap.size w W1) (hg : W.grownBy W1 v.ownBlock) (hat : v1.ownBlock = v.ownBlock ∨ ∃ b, v1.ownBlock = some b ∧ W.heap.size ≤ b) (hN : Kd.N k26 26 W1 w.heap.size (Ok w P (keys bs [])) v1 ys) :
  St w P bs [(v1, ys)] ts ro W1 := by
 have hkeep : ∀ k, k ∉ keys bs [(v, xs)] → k < W.heap.size → k ∉ keys bs [(v1, ys)] := fun k h1 h2 h3 => by
  rcases iK.1 h3 with h4 | h4
  ·exact h1 (iK.2 (.inl h4))
  ·rcases hat with e | ⟨b, e, hle⟩
   ·exact h1 (iK.2 (.inr (by rw [← e]; exact h4)))
   ·rw [e] at h4; injection h4 with h4; omega
 have hin : ∀ k, k ∈ keys bs [] → k ∈ keys bs [(v, xs)] := fun k h => iK.2 (.inl h)
 have hnb : ∀ k, k ∈ keys bs [] → v1.ownBlock ≠ some k := fun k h e => (hN.1 k e).2 h
 refine ⟨hb, fun p hp q hq => dG (S.blk p hp q hq) hg (fun e => (List.nodup_append.1 S.nd).2.2 q (List.mem_filterMap.2 ⟨p, hp, hq⟩) q (by simp [← e]) rfl), fun k hk => ?_, ?_, fun t ht => ?_, fun r hr => ?_, fun c hc => ?_⟩
 ·rcases iK.1 hk with h1 | h1
  ·exact ⟨(S.new k (hin k h1)).1, Nat.lt_of_lt_of_le (S.new k (hin k h1)).2 hg.size⟩
  ·exact ⟨Kd.wC hN k h1, Kd.EP hN k h1⟩
 ·simp only [keys, List.flatMap_cons, List.flatMap_nil, List.append_nil]
  refine List.nodup_append.2 ⟨(List.nodup_append.1 S.nd).1, by cases v1.ownBlock <;> simp, fun q hq b hb2 => ?_⟩
  rintro rfl
  exact hnb q (by simpa [keys] using hq) (by simpa using hb2)
 ·exact Kd.iq (Kd.xG (Kd.Dq (S.tree t ht)) hg (fun k h e => h.1.2 (iK.2 (.inr e.symm)))) (fun k h => ⟨h.1.1, hkeep k h.1.2 h.2⟩)
 ·rw [List.mem_singleton] at hr
  subst hr
  refine Kd.jq hN (fun k h => ?_)
  by_cases hk : v1.ownBlock = some k
  ·exact .inr hk
  ·exact .inl ⟨h.1, fun h2 => (iK.1 h2).elim h.2 hk⟩
 ·exact ⟨cell_grown hg (S.cell c hc).1 (fun e => (S.cell c hc).2 (iK.2 (.inr e.symm))), hkeep _ (S.cell c hc).2 (World.block_lt_of_cell? W _ (S.cell c hc).1)⟩
theorem St.ZW (S : St w P bs [(v, xs)] ts ro W) : Kd.N k26 26 W w.heap.size (Ok w P (keys bs [])) v xs :=
 Kd.jq (S.own _ (List.mem_singleton.2 rfl)) (fun k h => h.elim (fun h1 => ⟨h1.1, fun h2 => h1.2 (iK.2 (.inl h2))⟩) (fun h1 => ⟨.inr (S.new k (iK.2 (.inr h1))).1, fun h2 => (List.nodup_append.1 S.nd).2.2 k (by simpa [keys] using h2) k (by simp [h1]) rfl⟩))
theorem rD {W W1 : World} (hg : W.grownBy W1 none) : Below W.heap.size W W1 := ⟨hg.os, hg.tape, hg.output, hg.size, fun k hk => hg.block k hk (by simp)⟩
theorem Jz {N : Tmp} (hd : op.dst = some N) (hgd : op.guard = none) (S : St w P bs [] ts ro W) (hrun : (execOp a.eval op).run Pr W = .ok (.value (.slice (some ⟨W.heap.size, 0, none⟩) 0 0)) (W.alloc (.cells #[] 26)))
  (h : ∀ A c w1, St w P bs [(.slice A 0 c, [])] ts ro w1 → wpList Pr ops Q rest (a.put op.dst (.slice A 0 c)) w1) : wpList Pr ops Q (op :: rest) a W :=
 Kd.yV k26 (w0 := W) W.heap.size 26 hgd hd (xs := []) (inner := []) (ok := fun k => Ok w P (keys bs []) k ∨ W.heap.size ≤ k) (gU := fun _ => False) hrun (dm.none _ _) (fun _ h => h.elim) (.inr (Nat.le_refl _)) (Below.refl _ _) (Nat.le_refl _) (by simp) (fun v1 w1 hN _ hg _ => by
  obtain ⟨A, c, rfl⟩ := Kd.jG hN
  exact h A c w1 (S.yx hN (rD hg)))
theorem Du (t : TypeId) (s x : Operand) (hgd : op.guard = none) (ho : op.op = .call { callee := .builtin .append, args := #[s, x], argTypes := #[t, t] }) (ht : Pr.underlying t = some (.slice 26)) (hinfo : (Pr.info? 26).map (fun i => (i.zero, i.size, i.bytes)) = some (some (.agg #[(.int .u8 0), (.int .i64 0), (.int .i64 0), (.int .i64 0), (.int .i64 0), (.int .i64 0), (.slice none 0 0)]), 7, 72))
  (S : St w P bs [(v, xs)] ts ro W) {A : Option Addr} {m c : Nat} (hm : (.slice A m c, ys) ∈ ts) (hs : a.eval s = v) (hx : a.eval x = .slice A m c) (hl : xs.length + ys.length ≤ 1000000000)
  (h : ∀ A1 c1 w1, St w P bs [(.slice A1 (xs ++ ys).length c1, xs ++ ys)] ts ro w1 → wpList Pr ops Q rest (a.put op.dst (.slice A1 (xs ++ ys).length c1)) w1) : wpList Pr ops Q (op :: rest) a W := by
 have hV := S.tree _ hm
 have hmy : m = ys.length := (Kd.kQ hV).1
 exact Kd.zZ k26 (w0 := w) w.heap.size hgd s x t 26 _ 72 ho ht hinfo rfl (by decide) (by omega) v xs ys A m c (Ok w P (keys bs [])) (Ok w P (keys bs [(v, xs)])) hs hx S.ZW (Kd.QQ hV)
  (fun k h => ⟨⟨h.1, fun h2 => h.2 (iK.2 (.inl h2))⟩, fun e => h.2 (iK.2 (.inr e.symm))⟩) (fun k h => ⟨.inr (Nat.le_trans S.below.size h), fun h2 => by have := S.lt ((iK (v := v) (l := xs)).2 (.inl h2)); omega⟩) S.below S.below.size (by omega)
  (fun v1 w1 hN hb hg hat => by
   obtain ⟨A1, c1, rfl⟩ := Kd.jG hN
   exact h A1 c1 w1 (S.WT hb hg hat hN))
end
section
variable {w : World} {P : Nat → Prop} {bs bs' : List (Option Nat × Obj)} {ow : List (Value × List ai)} {ts : List (Value × List ai)} {ro : List (Addr × Value)} {W W1 : World} {b0 : Nat} {o o1 : Obj} {v v1 : Value} {xs : List Int} {ok : Nat → Prop}
def IR (base : Nat) (v : Value) (xs : List Int) (o : Obj) : Prop := ∀ W : World, (∀ g, v.ownBlock = some g → W.heap[g]? = some o) → (Kd.int .i64).R 3 W base (fun k => some k = v.ownBlock) v xs
theorem SS {b' : Nat} (h : (Kd.int .i64).R 3 W1 b0 ok v xs) (hb : b' ≤ b0) : ∃ o, (∀ g, v.ownBlock = some g → W1.heap[g]? = some o) ∧ IR b' v xs o := by
 have ht := Kd.rf (Kd.Gt rfl h) hb
 cases hv : v.ownBlock with
 | none => exact ⟨.cells #[] 0 (0, 0), fun g hg => (by cases hg), fun W hW => Kd.Bz ht (fun k hk => (by rw [hv] at hk; cases hk))⟩
 | some g =>
  obtain ⟨cells, hc⟩ := Kd.JY h g hv
  refine ⟨_, fun g' hg => (by injection hg with hg; rw [← hg]; exact hc), fun W hW => Kd.Bz ht (fun k hk _ => ?_)⟩
  rw [hv] at hk
  injection hk with hk
  rw [hk, hc]
  exact hW g hv
theorem aam {base n c : Nat} {ad : Addr} (h : IR base (.slice (some ad) n c) xs o) (hW : ∀ g, (Value.slice (some ad) n c).ownBlock = some g → W.heap[g]? = some o) (i : Int) (h0 : 0 ≤ i) (h1 : i < xs.length) : W.cell? (ad.add i.toNat) = some (.int .i64 (rd xs i)) := by
 have hC := (Kd.eQ (h W hW)).2.2
 obtain ⟨ad', he, hc⟩ := Kd.jl hC i h0 h1
 injection he with he
 rw [he]
 exact hc
theorem Bv {base n c : Nat} {ad : Addr} (h : IR base (.slice (some ad) n c) xs o) (hW : ∀ g, (Value.slice (some ad) n c).ownBlock = some g → W.heap[g]? = some o) (i : Nat) (h1 : (i : Int) < xs.length) : W.cell? (ad.add i) = some (.int .i64 (rd xs (i : Int))) := aam h hW (i : Int) (Int.natCast_nonneg _) h1
theorem St.OJ (S : St w P bs ow ts ro W) (k : Option Nat) (hk : ∀ g, k = some g → W.heap.size ≤ g ∧ W1.heap[g]? = some o) (hb : Below W.heap.size W W1) : St w P ((k, o) :: bs) ow ts ro W1 := by
 cases k with
 | none =>
  have S1 := S.call hb
  exact ⟨S1.below, fun p hp q hq => by
   rcases List.mem_cons.1 hp with rfl | hp
   ·cases hq
   ·exact S1.blk p hp q hq, S1.new, S1.nd, S1.tree, S1.own, S1.cell⟩
 | some g =>
  obtain ⟨hg, hbox⟩ := hk g rfl
  refine ⟨au S.below hb, fun p hp q hq => ?_, fun k hk => ?_, List.nodup_cons.2 ⟨fun h => by have := (S.new g h).2; omega, S.nd⟩, fun t ht => ?_, fun r hr => ?_, fun c hc => ?_⟩
  ·rcases List.mem_cons.1 hp with rfl | hp
   ·rw [← Option.some.inj hq]; exact hbox
   ·exact aQ (S.blk p hp q hq) hb
  ·rcases List.mem_cons.1 (show k ∈ g :: keys bs ow from hk) with rfl | hk
   ·exact ⟨Nat.le_trans S.below.size hg, gJ hbox⟩
   ·exact ⟨(S.new k hk).1, Nat.lt_of_lt_of_le (S.new k hk).2 hb.size⟩
  ·exact Kd.iq (Kd.jT (Kd.pG (S.tree t ht) g hg) hb) (fun k hk => ⟨hk.1.1, fun h => (List.mem_cons.1 (show k ∈ g :: keys bs ow from h)).elim hk.2 hk.1.2⟩)
  ·exact Kd.jq (Kd.qY (Kd.DR (S.own r hr) g hg) hb) (fun k hk => hk.1.elim (fun h1 => .inl ⟨h1.1, fun h => (List.mem_cons.1 (show k ∈ g :: keys bs ow from h)).elim hk.2 h1.2⟩) .inr)
  ·exact ⟨(hb.cell (World.block_lt_of_cell? W _ (S.cell c hc).1)).trans (S.cell c hc).1, fun h => (List.mem_cons.1 (show c.1.block ∈ g :: keys bs ow from h)).elim (fun he => by have := World.block_lt_of_cell? W _ (S.cell c hc).1; omega) (S.cell c hc).2⟩
theorem St.Ql (S : St w P bs ow ts ro W) (h : (Kd.int .i64).R 3 W1 W.heap.size ok v xs) (hb : Below W.heap.size W W1) : ∃ o, St w P ((v.ownBlock, o) :: bs) ow ts ro W1 ∧ IR w.heap.size v xs o := by
 obtain ⟨o, h1, h2⟩ := SS h S.below.size
 exact ⟨o, S.OJ v.ownBlock (fun g hg => ⟨Kd.Oo h g hg, h1 g hg⟩) hb, h2⟩
theorem St.noI (S : St w P bs ow ts ro W) : ∃ o, St w P (((Value.slice none 0 0).ownBlock, o) :: bs) ow ts ro W ∧ IR w.heap.size (.slice none 0 0) [] o :=
 S.Ql (ok := fun _ => True) (Kd.wX _ _ _ _ _) (Below.refl _ _)
theorem St.JM {p q : Option Nat × Obj} (S : St w P (p :: q :: bs) ow ts ro W) : St w P (q :: p :: bs) ow ts ro W := by
 have hp : (keys (q :: p :: bs) ow).Perm (keys (p :: q :: bs) ow) := by
  unfold keys
  refine List.Perm.append_right _ ?_
  rw [List.filterMap_cons, List.filterMap_cons, List.filterMap_cons, List.filterMap_cons]
  cases p.1 <;> cases q.1 <;> simp
  exact List.Perm.swap _ _ _
 have hm : ∀ k, k ∈ keys (q :: p :: bs) ow ↔ k ∈ keys (p :: q :: bs) ow := fun k => hp.mem_iff
 have hO : ∀ k, Ok w P (keys (p :: q :: bs) ow) k → Ok w P (keys (q :: p :: bs) ow) k := fun k h => ⟨h.1, fun h2 => h.2 ((hm k).1 h2)⟩
 exact ⟨S.below, fun x hx => S.blk x (by simp only [List.mem_cons] at hx ⊢; rcases hx with h | h | h <;> simp [h]), fun k hk => S.new k ((hm k).1 hk), hp.nodup_iff.2 S.nd, fun t ht => Kd.iq (S.tree t ht) hO, fun r hr => Kd.jq (S.own r hr) (fun k h => h.imp (hO k) id), fun c hc => ⟨(S.cell c hc).1, fun h => (S.cell c hc).2 ((hm _).1 h)⟩⟩
theorem St.DJ (S : St w P ((v.ownBlock, o) :: bs) ow ts ro W) (hb : Below w.heap.size w W1) (hg : W.grownBy W1 v.ownBlock) (hat : v1.ownBlock = v.ownBlock ∨ ∃ b, v1.ownBlock = some b ∧ W.heap.size ≤ b) (ho : ∀ g, v1.ownBlock = some g → W1.heap[g]? = some o1) :
  St w P ((v1.ownBlock, o1) :: bs) ow ts ro W1 := by
 have kc : ∀ (x : Value) (o : Obj) k, k ∈ keys ((x.ownBlock, o) :: bs) ow ↔ x.ownBlock = some k ∨ k ∈ keys bs ow := fun x o k => by
  unfold keys
  rw [List.filterMap_cons]
  cases x.ownBlock with
  | none => simp
  | some g => simp [eq_comm]
 have FN : ∀ k, k ∈ keys bs ow → v.ownBlock ≠ some k := fun k hk e => by
  have h := S.nd
  unfold keys at h hk
  rw [List.filterMap_cons, e] at h
  exact (List.nodup_cons.1 h).1 hk
 have hnb : (keys bs ow).Nodup := by
  have h := S.nd
  unfold keys at h ⊢
  rw [List.filterMap_cons] at h
  split at h
  ·exact h
  ·exact (List.nodup_cons.1 h).2
 have hin : ∀ k, k ∈ keys bs ow → k ∈ keys ((v.ownBlock, o) :: bs) ow := fun k h => (kc v o k).2 (.inr h)
 have hnew : ∀ k, k ∈ keys bs ow → v1.ownBlock ≠ some k := fun k hk e => by
  rcases hat with h | ⟨b, h, hle⟩
  ·exact FN k hk (by rw [← h]; exact e)
  ·rw [h] at e; injection e with e; have := S.lt (hin k hk); omega
 have hkeep : ∀ k, k ∉ keys ((v.ownBlock, o) :: bs) ow → k < W.heap.size → k ∉ keys ((v1.ownBlock, o1) :: bs) ow := fun k h1 h2 h3 => by
  rcases (kc v1 o1 k).1 h3 with h4 | h4
  ·rcases hat with h | ⟨b, h, hle⟩
   ·exact h1 ((kc v o k).2 (.inl (by rw [← h]; exact h4)))
   ·rw [h] at h4; injection h4 with h4; omega
  ·exact h1 (hin k h4)
 refine ⟨hb, fun p hp q hq => ?_, fun k hk => ?_, ?_, fun t ht => ?_, fun r hr => ?_, fun c hc => ?_⟩
 ·rcases List.mem_cons.1 hp with rfl | hp
  ·exact ho q hq
  ·exact dG (S.blk p (List.mem_cons_of_mem _ hp) q hq) hg (fun e => FN q (mem_keys hp hq) e.symm)
 ·rcases (kc v1 o1 k).1 hk with h1 | h1
  ·rcases hat with h | ⟨b, h, hle⟩
   ·have := S.new k ((kc v o k).2 (.inl (by rw [← h]; exact h1)))
    exact ⟨this.1, Nat.lt_of_lt_of_le this.2 hg.size⟩
   ·rw [h] at h1
    injection h1 with h1
    subst h1
    exact ⟨Nat.le_trans S.below.size hle, gJ (ho b h)⟩
  ·exact ⟨(S.new k (hin k h1)).1, Nat.lt_of_lt_of_le (S.new k (hin k h1)).2 hg.size⟩
 ·unfold keys
  rw [List.filterMap_cons]
  cases hv1 : v1.ownBlock with
  | none => exact hnb
  | some g => exact List.nodup_cons.2 ⟨fun h => hnew g h hv1, hnb⟩
 ·exact Kd.iq (Kd.xG (Kd.Dq (S.tree t ht)) hg (fun k h e => h.1.2 ((kc v o k).2 (.inl e.symm)))) (fun k h => ⟨h.1.1, hkeep k h.1.2 h.2⟩)
 ·have hrv : ∀ k, r.1.ownBlock = some k → some k ≠ v.ownBlock := fun k h1 e => FN k (List.mem_append.2 (.inr (List.mem_flatMap.2 ⟨r, hr, by simp [h1]⟩))) e.symm
  exact Kd.jq (Kd.xC (Kd.Dp (S.own r hr)) hg (fun k h e => h.1.elim (fun h1 => h1.2 ((kc v o k).2 (.inl e.symm))) (fun h1 => hrv k h1 e))) (fun k h => h.1.imp (fun h1 => ⟨h1.1, hkeep k h1.2 h.2⟩) id)
 ·exact ⟨cell_grown hg (S.cell c hc).1 (fun e => (S.cell c hc).2 ((kc v o _).2 (.inl e.symm))), hkeep _ (S.cell c hc).2 (World.block_lt_of_cell? W _ (S.cell c hc).1)⟩
end
section
variable {Pr : Program} {ops : Array Oper} {rest : List Oper} {op : Oper} {a : Act} {Q : Exit → Act → World → Prop} {w W : World} {P : Nat → Prop} {bs : List (Option Nat × Obj)} {ow : List (Value × List ai)} {ts : List (Value × List ai)} {ro : List (Addr × Value)} {v : Value} {xs : List Int} {o : Obj}
theorem aax (s x : Operand) (hgd : op.guard = none) (ho : op.op = .call { callee := .builtin .append, args := #[s, x], argTypes := #[41, 41] }) (ht : Pr.underlying 41 = some (.slice 3)) (hinfo : (Pr.info? 3).map (fun i => (i.zero, i.size, i.bytes)) = some (some (.int .i64 0), 1, 8))
  (S : St w P ((v.ownBlock, o) :: bs) ow ts ro W) (hI : IR w.heap.size v xs o) (y : Int) (hs : a.eval s = v) (hx : a.eval x = .slice (some ⟨W.heap.size, 0, none⟩) 1 1) (hl : xs.length ≤ 1000000000)
  (h : ∀ A1 c1 o1 w1, St w P (((Value.slice A1 (xs ++ [y]).length c1).ownBlock, o1) :: bs) ow ts ro w1 → IR w.heap.size (.slice A1 (xs ++ [y]).length c1) (xs ++ [y]) o1 → wpList Pr ops Q rest (a.put op.dst (.slice A1 (xs ++ [y]).length c1)) w1) :
  wpList Pr ops Q (op :: rest) a (W.alloc (.cells #[.int .i64 y] 3)) := by
 have hR := hI W (S.blk _ List.mem_cons_self)
 refine Kd.Ig (Kd.int .i64) (w0 := w) w.heap.size hgd s x 41 3 (.int .i64 0) 8 ho ht hinfo rfl (by decide) (by omega) v xs y [.int .i64 y] (fun _ => True) (fun _ => False) hs hx rfl (fun _ hk => hk.elim) (fun _ _ => trivial) (Kd.wF hR (fun _ _ => trivial)) S.below S.below.size (by omega) ?_
 intro v1 w1 hr hb hg hat
 obtain ⟨A1, c1, rfl⟩ := Kd.iG hr
 obtain ⟨o1, h1, h2⟩ := SS hr (Nat.le_refl _)
 exact h A1 c1 o1 w1 (S.DJ hb hg hat h1) h2
end
section
variable {w : World} {P : Nat → Prop} {bs : List (Option Nat × Obj)} {ts : List (Value × List ai)} {ro : List (Addr × Value)} {W : World} {l : List ai} {g n cap : Nat}
theorem St.Gy (S : St w P bs [(.slice (some ⟨g, 0, none⟩) n cap, l)] ts ro W) (i : Int) (h0 : 0 ≤ i) (h1 : i < l.length) :
  ∃ ua uc, St w P bs [(.slice (some ⟨g, 0, none⟩) n cap, l)] ((.slice ua (aA l i).f3.length uc, (aA l i).f3) :: ts) ro W ∧ ∀ (j : Nat) (u : Value), (lN (aA l i) ua uc)[j]? = some u → W.cell? ⟨g, i.toNat * 7 + j, none⟩ = some u := by
 have hN := S.own _ (List.mem_singleton.2 rfl)
 have hob : (Value.slice (some ⟨g, 0, none⟩) n cap).ownBlock = some g := by simp [Value.ownBlock]
 obtain ⟨c0, hcl, hM, hcc, hfr⟩ := Kd.zu hN z26 i h0 (by rw [(Kd.jF hN).1]; exact h1)
 obtain ⟨A6, c6, rfl, l6, g6⟩ := o5 hM
 have l6 : (aA l i).f3.length ≤ c6 := l6
 have g6 : Kd.F k26 W _ A6 (aA l i).f3.length (aA l i).f3 := g6
 exact ⟨A6, c6, S.add (b0 := 0) (Kd.x_ l6 (Kd.sU g6 (fun k hk => hk.1.elim id (fun e => absurd (by rw [hob] at e; exact (Option.some.inj e).symm) hk.2)))), fun j u h => hcc j u h⟩
end
section
variable {Pr : Program} {ops : Array Oper} {rest : List Oper} {op : Oper} {a : Act} {Q : Exit → Act → World → Prop} {Kc : Act → World → Prop} {w W : World} {P : Nat → Prop} {bs : List (Option Nat × Obj)} {ts : List (Value × List ai)} {ro : List (Addr × Value)}
theorem XH {ow : List (Value × List ai)} {v : Value} {xs : List Int} {o : Obj} (s x : Operand) (hw : Region.wanted op (yielded ops a.tmps) = true) (ho : op.op = .call { callee := .builtin .append, args := #[s, x], argTypes := #[41, 41] }) (ht : Pr.underlying 41 = some (.slice 3)) (hinfo : (Pr.info? 3).map (fun i => (i.zero, i.size, i.bytes)) = some (some (.int .i64 0), 1, 8))
  (S : St w P ((v.ownBlock, o) :: bs) ow ts ro W) (hI : IR w.heap.size v xs o) (y : Int) (hs : a.eval s = v) (hx : a.eval x = .slice (some ⟨W.heap.size, 0, none⟩) 1 1) (hl : xs.length ≤ 1000000000)
  (h : ∀ A1 c1 o1 w1, St w P (((Value.slice A1 (xs ++ [y]).length c1).ownBlock, o1) :: bs) ow ts ro w1 → IR w.heap.size (.slice A1 (xs ++ [y]).length c1) (xs ++ [y]) o1 → Kc (a.put op.dst (.slice A1 (xs ++ [y]).length c1)) w1) :
  if Region.wanted op (yielded ops a.tmps) = true then Oper.wp Pr op a (W.alloc (.cells #[.int .i64 y] 3)) Kc Q else Kc (a.put op.dst undef) (W.alloc (.cells #[.int .i64 y] 3)) := by
 have hR := hI W (S.blk _ List.mem_cons_self)
 refine Kd.EE (Kd.int .i64) (w0 := w) w.heap.size hw s x 41 3 (.int .i64 0) 8 ho ht hinfo rfl (by decide) (by omega) v xs y [.int .i64 y] (fun _ => True) (fun _ => False) hs hx rfl (fun _ hk => hk.elim) (fun _ _ => trivial) (Kd.wF hR (fun _ _ => trivial)) S.below S.below.size (by omega) ?_
 intro v1 w1 hr hb hg hat
 obtain ⟨A1, c1, rfl⟩ := Kd.iG hr
 obtain ⟨o1, h1, h2⟩ := SS hr (Nat.le_refl _)
 exact h A1 c1 o1 w1 (S.DJ hb hg hat h1) h2
theorem Gu {v : Value} {xs : List ai} (s x : Operand) (hgd : op.guard = none) (ho : op.op = .call { callee := .builtin .append, args := #[s, x], argTypes := #[24, 24] }) (ht : Pr.underlying 24 = some (.slice 26)) (hinfo : (Pr.info? 26).map (fun i => (i.zero, i.size, i.bytes)) = some (some (.agg #[(.int .u8 0), (.int .i64 0), (.int .i64 0), (.int .i64 0), (.int .i64 0), (.int .i64 0), (.slice none 0 0)]), 7, 72))
  (S : St w P bs [(v, xs)] ts ro W) (y : ai) {A : Option Addr} {c : Nat} (hm : (.slice A y.f3.length c, y.f3) ∈ ts) (hs : a.eval s = v) (hx : a.eval x = .slice (some ⟨W.heap.size, 0, none⟩) 1 1) (hl : xs.length ≤ 1000000000)
  (h : ∀ A1 c1 w1, St w P bs [(.slice A1 (xs ++ [y]).length c1, xs ++ [y])] ts ro w1 → wpList Pr ops Q rest (a.put op.dst (.slice A1 (xs ++ [y]).length c1)) w1) :
  wpList Pr ops Q (op :: rest) a (W.alloc (.cells (lN y A c).toArray 26)) := by
 obtain ⟨_, hl2, hF⟩ := Kd.C_ (S.tree _ hm)
 exact Kd.Oi k26 (w0 := w) w.heap.size hgd s x 24 26 _ 72 ho ht hinfo rfl (by decide) (by omega) v xs y (lN y A c) (Ok w P (keys bs [])) (Ok w P (keys bs [(v, xs)])) hs hx (o_ W _ y hl2 hF)
  (fun k h => ⟨⟨h.1, fun h2 => h.2 (iK.2 (.inl h2))⟩, fun e => h.2 (iK.2 (.inr e.symm))⟩) (fun k h => ⟨.inr (Nat.le_trans S.below.size h), fun h2 => by have := S.lt ((iK (v := v) (l := xs)).2 (.inl h2)); omega⟩) S.ZW S.below S.below.size (by omega)
  (fun v1 w1 hN hb hg hat => by
   obtain ⟨A1, c1, rfl⟩ := Kd.jG hN
   exact h A1 c1 w1 (S.WT hb hg hat hN))
end
section
variable {Pr : Program} {ops : Array Oper} {md : Region.Mode} {Q : Exit → Act → World → Prop} {S : World → Prop} {ds : List Nat} {T : Bool × List (List Nat × List Nat)} {B : List Nat} {fuel : Nat} {l : Array Bool} {a a' : Act} {w : World} {v : Value} {oi : Oper}
def bA (n m : Nat) : Array Bool := ((List.range n).map fun i => m.testBit i).toArray
theorem ak (i : Nat) (N : Tmp) (l' : Array Bool) (HT : ae (iM md ops = T)) (h : bT Pr md ops Q S ds fuel l' a' w) (hi : ops[i]? = some oi := by rfl) (hN : oi.dst = some N := by rfl) (hc : XG T l.toList l'.toList i = true := by kernel_rfl)
  (hQ : ∀ c a w, Q (.panic c) (a.put oi.dst v) w → Q (.panic c) a w := by exact fun _ _ _ h => h) (hw : Region.wanted oi (yielded ops a.tmps) = true := by rfl) (hv : ∀ w, (execOp a.eval oi).run Pr w = .ok (.value v) w := by intro w'; go_simp; with_reducible rfl)
  (ha : a.put (some N) v = a' := by simp only [Act.put, List.setIfInBounds_toArray, List.set_cons_zero, List.set_cons_succ, lH, lG]; rfl) : bT Pr md ops Q S ds (fuel + 1) l a w :=
 uq l' hi hN (qm HT.out hc) hQ (.inl ⟨hw, hv⟩) ha h
theorem b_ (i : Nat) (N : Tmp) (l' : Array Bool) (HT : ae (iM md ops = T)) (HW : ae (gZ T.2 B = true)) (hS : S w) (h : bT Pr md ops Q S ds fuel l' a' w) (hi : ops[i]? = some oi := by rfl) (hN : oi.dst = some N := by rfl)
  (hc : Uj T B ds l.toList l'.toList i = true := by kernel_rfl) (hQ : ∀ c a w, Q (.panic c) (a.put oi.dst v) w → Q (.panic c) a w := by exact fun _ _ _ h => h) (hw : Region.wanted oi (yielded ops a.tmps) = true := by rfl) (hv : ∀ w, S w → (execOp a.eval oi).run Pr w = .ok (.value v) w)
  (ha : a.put (some N) v = a' := by simp only [Act.put, List.setIfInBounds_toArray, List.set_cons_zero, List.set_cons_succ, lH, lG]; rfl) : bT Pr md ops Q S ds (fuel + 1) l a w :=
 Bf l' hi hN (xx HT.out HW.out hc) hQ (.inl ⟨hw, hv⟩) hS ha h
end
theorem aY {α : Type} {a0 x : α} {l : List α} : x ∈ a0 :: x :: l := (.tail _ (.head _))
theorem dL {α : Type} {a0 a1 x : α} {l : List α} : x ∈ a0 :: a1 :: x :: l := (.tail _ (.tail _ (.head _)))
theorem jB {α : Type} {a0 a1 a2 x : α} {l : List α} : x ∈ a0 :: a1 :: a2 :: x :: l := (.tail _ (.tail _ (.tail _ (.head _))))
theorem lK {α : Type} {a0 a1 a2 a3 x : α} {l : List α} : x ∈ a0 :: a1 :: a2 :: a3 :: x :: l := (.tail _ (.tail _ (.tail _ (.tail _ (.head _)))))
theorem qB {α : Type} {a0 a1 a2 a3 a4 x : α} {l : List α} : x ∈ a0 :: a1 :: a2 :: a3 :: a4 :: x :: l := (.tail _ (.tail _ (.tail _ (.tail _ (.tail _ (.head _))))))
theorem zy {α : Type} {a0 a1 a2 a3 a4 a5 x : α} {l : List α} : x ∈ a0 :: a1 :: a2 :: a3 :: a4 :: a5 :: x :: l := (.tail _ (.tail _ (.tail _ (.tail _ (.tail _ (.tail _ (.head _)))))))
theorem FU {α : Type} {a0 a1 a2 a3 a4 a5 a6 x : α} {l : List α} : x ∈ a0 :: a1 :: a2 :: a3 :: a4 :: a5 :: a6 :: x :: l := (.tail _ (.tail _ (.tail _ (.tail _ (.tail _ (.tail _ (.tail _ (.head _))))))))
theorem mm8 {α : Type} {a0 a1 a2 a3 a4 a5 a6 a7 x : α} {l : List α} : x ∈ a0 :: a1 :: a2 :: a3 :: a4 :: a5 :: a6 :: a7 :: x :: l := (.tail _ (.tail _ (.tail _ (.tail _ (.tail _ (.tail _ (.tail _ (.tail _ (.head _)))))))))
theorem EI {α : Type} {a0 a1 a2 a3 a4 a5 a6 a7 a8 x : α} {l : List α} : x ∈ a0 :: a1 :: a2 :: a3 :: a4 :: a5 :: a6 :: a7 :: a8 :: x :: l := (.tail _ (.tail _ (.tail _ (.tail _ (.tail _ (.tail _ (.tail _ (.tail _ (.tail _ (.head _))))))))))
theorem rU {a b : Int} (h : a = b) : (a == b) = true ∧ (a != b) = false ∧ decide (a = b) = true := ⟨beq_iff_eq.mpr h, bne_eq_false_iff_eq.mpr h, decide_eq_true h⟩
theorem eqF {a b : Int} (h : a ≠ b) : (a == b) = false ∧ (a != b) = true ∧ decide (a = b) = false := ⟨beq_eq_false_iff_ne.mpr h, bne_iff_ne.mpr h, decide_eq_false h⟩
theorem nz {a b : Int} (h : a < b) : decide (a < b) = true ∧ decide (b > a) = true := ⟨decide_eq_true h, decide_eq_true h⟩
theorem lY {a b : Int} (h : ¬ a < b) : decide (a < b) = false ∧ decide (b > a) = false := ⟨decide_eq_false h, decide_eq_false h⟩
end Go.Proofs.Ytfdmfgaiblfbhaa.P
namespace Go.Proofs.Ytfdmfgaiblfbhaa.P
open Go.Shelf
def GR : Ren := ⟨fun f => match f with | 21 => 150 | 27 => 181 | 28 => 182 | 35 => 198 | 39 => 208 | n => n, fun t => match t with | 22 => 41 | n => n, fun g => g⟩
theorem Jv : Lays2.n21 Try.prog GR where
 mixed := by kernel_rfl
 f21 := Try.func150
 f27 := Try.func181
 f28 := Try.func182
 f35 := Try.func198
 f39 := Try.func208
 t0 := Try.underlying0
 a0 := fun w => by kernel_rfl
 z0 := fun w => by kernel_rfl
 v0 := fun w => by kernel_rfl
 t3 := Try.underlying3
 a3 := fun w => by kernel_rfl
 z3 := fun w => by kernel_rfl
 v3 := fun w => by kernel_rfl
 t4 := Try.underlying4
 a4 := fun w => by kernel_rfl
 z4 := fun w => by kernel_rfl
 v4 := fun w => by kernel_rfl
 t22 := Try.underlying41
 a22 := fun w => by kernel_rfl
 z22 := fun w => by kernel_rfl
 v22 := fun w => by kernel_rfl
 i3 := by kernel_rfl
end Go.Proofs.Ytfdmfgaiblfbhaa.P
namespace Go.Proofs.Ytfdmfgaiblfbhaa.P
open Go.RowKit Go.Shelf Go.Proofs.ag.aV Go.Proofs.ag.bP Go.Proofs.ag.cO
theorem GV (n : Nat) : (Builtin.zeroCells (Value.int .i64 0).cells n).size = n := by simp [Builtin.zeroCells, Value.cells]
theorem D5 {w w1 : World} {B : Nat} (h : Below B w.drew w1) : Below B w w1 := ⟨h.os, h.tape.trans rfl, h.output, h.size, h.block⟩
theorem V8 (w : World) (base : Nat) (hbase : base ≤ w.heap.size) (v : Value) (xs : List Int) (x : Int) (vb vc : Nat) (hs : w.ownsRow base 3 1 v xs.length (encs (Value.int .i64) xs)) (hv : w.heap[vb]? = some (.cells #[.int .i64 x] 3 (0, 0))) (hne : v.ownBlock ≠ some vb) (hlen : xs.length ≤ 1000000) :
  Calls Try.prog 150 #[v, .int .i64 0, .slice (some ⟨vb, 0, none⟩) 1 vc] w fun e w' => ∃ v', e = .returned v' ∧ w'.ownsRow base 3 1 v' (x :: xs).length (encs (Value.int .i64) (x :: xs)) ∧ Below base w w' := by
 have hvs : ∀ j u, [Value.int .i64 x][j]? = some u → w.cell? ⟨vb, 0 + j, none⟩ = some u := by
  intro j u hj
  cases j with
  | zero => rw [af hv 0]; exact hj
  | succ j => simp at hj
 have h1v : ∀ u ∈ [Value.int .i64 x], u.oneCell' = true := by simp [Value.oneCell']
 have h1c : ∀ u ∈ encs (Value.int .i64) xs, u.oneCell' = true := by
  intro u hu
  obtain ⟨i, _, rfl⟩ := List.mem_map.1 hu
  rfl
 obtain ⟨hl, hcase⟩ := hs
 rcases hcase with ⟨rfl, h0⟩ | ⟨g, cap, cur, rfl, hbg, hh, hnc, hcm, hcs, htk⟩
 ·obtain rfl : xs = [] := List.eq_nil_of_length_eq_zero h0
  refine (Any2.slices_Insert_int_end_grow Jv none 0 0 vb 0 1 vc [] [.int .i64 x] w (by omega) (by omega) (by omega) (by omega) rfl rfl (fun _ => rfl) (fun a h => by cases h) hvs h1v).mono ?_
  rintro e w' ⟨rfl, rfl⟩
  have hg := grownCap_ge w (0 + 1) 0 3
  have hg2 := grownCap_le_maxLen w (0 + 1) 0 3 (by unfold maxLen; omega)
  refine ⟨_, rfl, ⟨rfl, .inr ⟨w.heap.size, _, _, rfl, hbase, heap_alloc_new w.drew _, hg, hg2, ?_, ?_⟩⟩, D5 ((Below.refl base w.drew).alloc hbase _)⟩
  ·rw [Array.size_append, GV]
   show 1 + (grownCap w (0 + 1) 0 3 - (0 + 1)) = grownCap w (0 + 1) 0 3 * 1
   omega
  ·simp [encs]
 ·have hcl : (encs (Value.int .i64) xs).length = xs.length := wM xs
  have hlt := gJ hh
  have hgv : vb ≠ g := fun e => hne (by rw [e]; rfl)
  have hcells : ∀ j u, (encs (Value.int .i64) xs)[j]? = some u → w.cell? ⟨g, 0 + j, none⟩ = some u := by
   intro j u hj
   rw [af hh, Nat.zero_add, ← Array.getElem?_toList]
   rw [← htk, Nat.mul_one, List.getElem?_take] at hj
   split at hj
   ·exact hj
   ·cases hj
  have hsp : ∀ j, j < cap → (w.cell? ⟨g, 0 + j, none⟩).isSome = true := by
   intro j hj
   rw [af hh, Nat.zero_add, Array.getElem?_eq_getElem (by omega)]
   rfl
  have hfz : ∀ j, w.frozen? ⟨g, 0 + j, none⟩ = false := fun j => ah hh _
  by_cases h0 : xs.length = 0
  ·obtain rfl : xs = [] := List.eq_nil_of_length_eq_zero h0
   by_cases hr : 0 + 1 ≤ cap
   ·refine (Any2.slices_Insert_int_end_room Jv g 0 0 cap vb 0 1 vc [.int .i64 x] w (by omega) hr (by unfold maxLen at hcm; omega) rfl (fun j hj => by rw [Nat.add_assoc]; exact hsp (0 + j) (by omega)) (fun j _ => by rw [Nat.add_assoc]; exact hfz (0 + j)) hvs h1v).mono ?_
    rintro e w' ⟨rfl, rfl⟩
    obtain ⟨cur', h3, h4, h5⟩ := mY [Value.int .i64 x] (0 + 0) w cur hh (by simp; omega)
    obtain ⟨_, hgr⟩ := rQ hh (show (0 + 0) + [Value.int .i64 x].length ≤ cur.size by simp; omega) (cs' := cur') h5.symm
    refine ⟨_, rfl, ⟨rfl, .inr ⟨g, cap, cur', rfl, hbg, h3, hr, hcm, by rw [h4, hcs], ?_⟩⟩, grown_below (Below.refl base w) hgr hbg hbase⟩
    rw [h5]
    simp [encs]
   ·refine (Any2.slices_Insert_int_end_grow Jv (some ⟨g, 0, none⟩) 0 cap vb 0 1 vc [] [.int .i64 x] w (by omega) (by omega) (by omega) (by omega) rfl rfl (fun h => by cases h) (fun a h j u hj => by simp at hj) hvs h1v).mono ?_
    rintro e w' ⟨rfl, rfl⟩
    have hg := grownCap_ge w (0 + 1) cap 3
    have hg2 := grownCap_le_maxLen w (0 + 1) cap 3 (by unfold maxLen; omega)
    refine ⟨_, rfl, ⟨rfl, .inr ⟨w.heap.size, _, _, rfl, hbase, heap_alloc_new w.drew _, hg, hg2, ?_, ?_⟩⟩, D5 ((Below.refl base w.drew).alloc hbase _)⟩
    ·rw [Array.size_append, GV]
     show 1 + (grownCap w (0 + 1) cap 3 - (0 + 1)) = grownCap w (0 + 1) cap 3 * 1
     omega
    ·simp [encs]
  ·by_cases hr : xs.length + 1 ≤ cap
   ·refine (Any2.slices_Insert_int_shift Jv g 0 xs.length cap 0 vb 0 1 vc (encs (Value.int .i64) xs) [.int .i64 x] w (by omega) (by omega) hr (by unfold maxLen at hcm; omega) hgv hcl rfl hcells (fun j hj => hsp j (by omega)) (fun j _ => hfz j) hvs h1c h1v
     3 3 1 cap (by simp [World.shape?, hv]) (by simp [World.shape?, hh, hcs]) (by omega) (ah hv 0) (ah hv 1)).mono ?_
    rintro e w' ⟨rfl, rfl⟩
    have hh' : w.drew.heap[g]? = some (.cells cur 3 (0, 0)) := hh
    have e1 : 0 + (0 + 1) + ((encs (Value.int .i64) xs).drop 0).length ≤ cur.size := by rw [List.drop_zero, hcl]; omega
    obtain ⟨c1, h3, h4, h5⟩ := mY ((encs (Value.int .i64) xs).drop 0) (0 + (0 + 1)) w.drew cur hh' e1
    obtain ⟨_, PQ⟩ := rQ hh' e1 (cs' := c1) h5.symm
    have e2 : (0 + 0) + [Value.int .i64 x].length ≤ c1.size := by simp; omega
    obtain ⟨c2, h6, h7, h8⟩ := mY [Value.int .i64 x] (0 + 0) _ c1 h3 e2
    obtain ⟨_, Yo⟩ := rQ h3 e2 (cs' := c2) h8.symm
    refine ⟨_, rfl, ⟨by rw [wM, Nat.mul_one], .inr ⟨g, cap, c2, rfl, hbg, h6, hr, hcm, by rw [h7, h4, hcs], ?_⟩⟩, D5 (grown_below (grown_below (Below.refl base w.drew) PQ hbg hbase) Yo hbg (Nat.le_trans hbase PQ.size))⟩
    rw [h8, h5]
    have hc1 : cur.toList.length = cap := by rw [Array.length_toList]; omega
    simp only [List.drop_zero, Nat.zero_add, List.take_zero, List.nil_append, List.length_singleton, List.length_cons, List.length_nil]
    have ht : (cur.toList.take 1).length = 1 := by rw [List.length_take]; omega
    rw [List.append_assoc, List.drop_left' ht, Nat.mul_one]
    show (Value.int .i64 x :: (encs (Value.int .i64) xs ++ cur.toList.drop (1 + (encs (Value.int .i64) xs).length))).take (xs.length + 1) = encs (Value.int .i64) (x :: xs)
    rw [List.take_succ_cons, List.take_append_of_le_length (by omega), List.take_of_length_le (by omega)]
    rfl
   ·refine (Any2.slices_Insert_int_grow Jv g 0 xs.length cap 0 vb 0 1 vc (encs (Value.int .i64) xs) [.int .i64 x] w (by omega) (by omega) hnc (by omega) (by omega) hcl rfl hcells hvs h1c h1v).mono ?_
    rintro e w' ⟨rfl, rfl⟩
    have hg := grownCap_ge w (xs.length + 1) cap 3
    have hg2 := grownCap_le_maxLen w (xs.length + 1) cap 3 (by unfold maxLen; omega)
    have hh0 := heap_alloc_new w (.cells (((encs (Value.int .i64) xs).take 0).toArray ++ Builtin.zeroCells (Value.int .i64 0).cells (xs.length + 1 - 0) ++ Builtin.zeroCells (Value.int .i64 0).cells (grownCap w (xs.length + 1) cap (GR.t 3) - (xs.length + 1))) (GR.t 3))
    generalize Yk : ((((encs (Value.int .i64) xs).take 0).toArray ++ Builtin.zeroCells (Value.int .i64 0).cells (xs.length + 1 - 0) ++ Builtin.zeroCells (Value.int .i64 0).cells (grownCap w (xs.length + 1) cap (GR.t 3) - (xs.length + 1)))) = J8 at hh0 ⊢
    have hsz0 : J8.size = grownCap w (xs.length + 1) cap 3 := by
     rw [← Yk, Array.size_append, Array.size_append, GV, GV]
     show 0 + (xs.length + 1 - 0) + (grownCap w (xs.length + 1) cap 3 - (xs.length + 1)) = _
     omega
    have hal : Below base w (w.alloc (.cells J8 (GR.t 3))) := (Below.refl base w).alloc hbase _
    generalize w.alloc (.cells J8 (GR.t 3)) = wa at hh0 hal ⊢
    have hh1 : wa.drew.heap[w.heap.size]? = some (.cells J8 3 (0, 0)) := hh0
    have e1 : 0 + [Value.int .i64 x].length ≤ J8.size := by rw [hsz0]; simp; omega
    obtain ⟨c1, h3, h4, h5⟩ := mY [Value.int .i64 x] 0 wa.drew J8 hh1 e1
    obtain ⟨_, PQ⟩ := rQ hh1 e1 (cs' := c1) h5.symm
    generalize wa.drew.setCells w.heap.size 0 [Value.int .i64 x] = wb at h3 PQ ⊢
    have hh2 : wb.drew.heap[w.heap.size]? = some (.cells c1 3 (0, 0)) := h3
    have e2 : (0 + 1) + ((encs (Value.int .i64) xs).drop 0).length ≤ c1.size := by rw [List.drop_zero, hcl, h4, hsz0]; omega
    obtain ⟨c2, h6, h7, h8⟩ := mY ((encs (Value.int .i64) xs).drop 0) (0 + 1) wb.drew c1 hh2 e2
    obtain ⟨_, Yo⟩ := rQ hh2 e2 (cs' := c2) h8.symm
    have hB1 : Below base w wa.drew := wG hal
    have hB2 : Below base w wb := grown_below hB1 PQ hbase (Nat.le_trans hbase hB1.size)
    refine ⟨_, rfl, ⟨by rw [wM, Nat.mul_one], .inr ⟨w.heap.size, _, c2, rfl, hbase, h6, hg, hg2, by rw [h7, h4, hsz0]; exact (Nat.mul_one _).symm, ?_⟩⟩, grown_below (wG hB2) Yo hbase (Nat.le_trans hbase hB2.size)⟩
    rw [h8, h5]
    simp only [List.drop_zero, Nat.zero_add, List.take_zero, List.nil_append, List.length_singleton, List.length_cons]
    rw [List.singleton_append, List.take_succ_cons, List.take_zero, Nat.mul_one, List.append_assoc]
    show (Value.int .i64 x :: (encs (Value.int .i64) xs ++ _)).take (xs.length + 1) = encs (Value.int .i64) (x :: xs)
    rw [List.take_succ_cons, List.take_append_of_le_length (by omega), List.take_of_length_le (by omega)]
    rfl
end Go.Proofs.Ytfdmfgaiblfbhaa.P
namespace Go.Proofs.Ytfdmfgaiblfbhaa.P
open Go.RowKit Go.Proofs.ag.aV Go.Proofs.ag.bP Go.Proofs.ag.cO
mutual
def iw : ai → List ai
 | ⟨a, b, d, l⟩ => ⟨a, b, d, l⟩ :: allL l
def allL : List ai → List ai
 | [] => []
 | c :: cs => iw c ++ allL cs
end
theorem ru (c : ai) : iw c = c :: allL c.f3 := by cases c; simp [iw]
theorem qL : allL [] = [] := by simp [allL]
theorem ni (c : ai) (cs : List ai) : allL (c :: cs) = iw c ++ allL cs := by simp [allL]
theorem DV (a b : List ai) : allL (a ++ b) = allL a ++ allL b := by
 induction a with
 | nil => simp [qL]
 | cons x xs ih => rw [List.cons_append, ni, ni, ih, List.append_assoc]
def sz (c : ai) : Nat := (iw c).length
def dU (l : List ai) : Nat := (allL l).length
theorem bV (c : ai) : sz c = 1 + dU c.f3 := by unfold sz dU; rw [ru, List.length_cons]; omega
theorem yS : dU [] = 0 := by unfold dU; rw [qL]; rfl
theorem df (c : ai) (cs : List ai) : dU (c :: cs) = sz c + dU cs := by unfold dU sz; rw [ni, List.length_append]
theorem pg (a b : List ai) : dU (a ++ b) = dU a + dU b := by unfold dU; rw [DV, List.length_append]
theorem ig (l : List ai) : l.length ≤ dU l := by
 induction l with
 | nil => simp
 | cons x xs ih => rw [df, List.length_cons, bV]; omega
theorem Gz (c : ai) : (⟨c.f0, ⟨c.f1.f0, c.f1.f1, c.f1.f2, c.f1.f3⟩, c.f2, c.f3⟩ : ai) = c := by cases c; rfl
theorem acF (l : List ai) : dU l = (l.map sz).sum := by
 induction l with
 | nil => rw [yS]; rfl
 | cons x xs ih => rw [df, List.map_cons, List.sum_cons, ih]
section
variable {P : Program} {ops : Array Oper} {rest : List Oper} {o : Oper} {a : Act} {Q : Exit → Act → World → Prop}
theorem MZ {W : World} (hgd : o.guard = none) {N : Tmp} (_hd : o.dst = some N) {cs : Array Value} {t : TypeId} {n c : Nat}
  (hrun : (execOp a.eval o).run P W = .ok (.value (.slice (some ⟨W.heap.size, 0, none⟩) n c)) (W.alloc (.cells cs t (0, 0))))
  (h : ∀ g, g = W.heap.size → ∀ w1, w1.heap[g]? = some (.cells cs t (0, 0)) → Below W.heap.size W w1 → wpList P ops Q rest (a.put o.dst (.slice (some ⟨g, 0, none⟩) n c)) w1) : wpList P ops Q (o :: rest) a W :=
 Kd.CO hgd hrun (h _ rfl _ (J5 W _) (gV (Below.refl _ _) _))
end
mutual
def iR (id : Int) : ai → Option (List Int)
 | ⟨a, _, d, l⟩ => if a = 1 ∧ d = id then some [] else qp id 0 l
def qp (id : Int) : Nat → List ai → Option (List Int)
 | _, [] => none
 | i, k :: ks => match iR id k with
  | some p => some ((i : Int) :: p)
  | none => qp id (i + 1) ks
end
theorem D6 (id : Int) (c : ai) : iR id c = if c.f0 = 1 ∧ c.f2 = id then some [] else qp id 0 c.f3 := by cases c; simp [iR]
theorem uS (id : Int) (i : Nat) : qp id i [] = none := by simp [qp]
theorem qw (id : Int) (i : Nat) (k : ai) (ks : List ai) : qp id i (k :: ks) = match iR id k with | some p => some ((i : Int) :: p) | none => qp id (i + 1) ks := by simp [qp]
theorem D7 (id : Int) : ∀ (N : Nat), (∀ c : ai, sz c ≤ N → ∀ p, iR id c = some p → p.length ≤ sz c) ∧ (∀ l : List ai, dU l ≤ N → ∀ i p, qp id i l = some p → p.length ≤ 1 + dU l) := by
 intro N
 induction N with
 | zero =>
  refine ⟨fun c h => ?_, fun l h => ?_⟩
  ·rw [bV] at h; omega
  ·cases l with
   | nil => intro i p hp; rw [uS] at hp; cases hp
   | cons z zs => rw [df, bV] at h; omega
 | succ N ih =>
  have hC : ∀ c : ai, sz c ≤ N + 1 → ∀ p, iR id c = some p → p.length ≤ sz c := by
   intro c h p hp
   have hs := bV c
   rw [D6] at hp
   split at hp
   ·injection hp with hp; subst hp; simp
   ·have := ih.2 c.f3 (by omega) 0 p hp
    omega
  refine ⟨hC, fun l => ?_⟩
  induction l with
  | nil => intro _ i p hp; rw [uS] at hp; cases hp
  | cons z zs ihl =>
   intro h i p hp
   rw [df] at h ⊢
   rw [qw] at hp
   cases hz : iR id z with
   | some q =>
    rw [hz] at hp
    injection hp with hp
    have := hC z (by omega) q hz
    rw [← hp, List.length_cons]
    omega
   | none =>
    rw [hz] at hp
    have := ihl (by omega) (i + 1) p hp
    omega
def agq (w : World) (r : Option (List Int)) (e : Ending) (w' : World) : Prop := ∃ v : Value, e = .returned (.tuple #[v, .bool r.isSome]) ∧ (Kd.int .i64).R 3 w' w.heap.size (fun _ => True) v (r.getD []) ∧ Below w.heap.size w w'
theorem aeH (id : Int) : ∀ (N : Nat) (c : ai), sz c ≤ N → N ≤ 1000000 → ∀ (A : Option Addr) (cc : Nat) (w : World), Kd.C k26 w A c.f3.length c.f3 → c.f3.length ≤ cc →
  Calls Try.prog 89 #[.agg #[.int .u8 c.f0, .int .i64 c.f1.f0, .int .i64 c.f1.f1, .int .i64 c.f1.f2, .int .i64 c.f1.f3, .int .i64 c.f2, .slice A c.f3.length cc], .int .i64 id] w (agq w (iR id c)) := by
 intro N
 induction N with
 | zero => intro c h; rw [bV] at h; omega
 | succ N ih =>
  intro c hc hN A cc w hr hlc
  have hsz := bV c
  have hlen := ig c.f3
  have hkz : ∀ k : ai, k ∈ c.f3 → sz k ≤ N := by
   intro k hk
   have : sz k ≤ dU c.f3 := by
    obtain ⟨p, q, e⟩ := List.append_of_mem hk
    rw [e, pg, df]; omega
   omega
  have IH := ae.mk fun (k : ai) (hk : k ∈ c.f3) => ih k (hkz k hk) (by omega)
  have zn := ae.mk fun (k : ai) (hk : k ∈ c.f3) (p : List Int) (hp : iR id k = some p) => Nat.le_trans ((D7 id (sz k)).1 k (Nat.le_refl _) p hp) (Nat.le_trans (hkz k hk) (by omega : N ≤ 1000000))
  have HR := ae.mk hr
  have HLC := ae.mk hlc
  have HL := ae.mk (show c.f3.length ≤ 1000000 by omega)
  have HB := ae.mk (Below.refl w.heap.size w)
  rw [D6]
  clear ih hkz hr hlc hc hN hsz hlen
  obtain ⟨ck, ⟨cx, cy, cw, ch⟩, ay, l⟩ := c
  simp only [] at HR HLC HL IH zn ⊢
  by_cases h1 : ck = 1
  ·have h1b : (ck == 1) = true := beq_iff_eq.mpr h1
   by_cases h2 : ay = id
   ·have h2b : (ay == id) = true := beq_iff_eq.mpr h2
    rw [if_pos ⟨h1, h2⟩]
    clear h1 h2
    go_enter Try.func89, Try.ntmps89
    go_wp2_with (((with_reducible refine aG (N := 2) rfl ?_); refine aU ?hg (N := 2) ?hd (cs := #[.int .u8 ck, .int .i64 cx, .int .i64 cy, .int .i64 cw, .int .i64 ch, .int .i64 ay, .slice A l.length cc]) (t := 26) ?hr ?_; (case hd => rfl); (case hg => rfl); (case hr => (go_simp; done)); intro b2 hg w2 hbox hb; have K2 := ae.mk hbox; have q_ := ae.mk (au HB.out hb); clear HB; have HB := q_; clear q_; clear hb hbox hg; have c0 := (af K2.out 0).trans rfl; have c1 := (af K2.out 1).trans rfl; have c2 := (af K2.out 2).trans rfl; have c3 := (af K2.out 3).trans rfl; have c4 := (af K2.out 4).trans rfl; have c5 := (af K2.out 5).trans rfl; have c6 := (af K2.out 6).trans rfl))
    go_ret2
    exact ⟨_, rfl, Kd.wX _ _ _ _ _, HB.out⟩
   ·have h2b : (ay == id) = false := beq_eq_false_iff_ne.mpr h2
    rw [if_neg (fun h => h2 h.2)]
    clear h1 h2
    go_enter Try.func89, Try.ntmps89
    go_wp2_with (((with_reducible refine aG (N := 2) rfl ?_); refine aU ?hg (N := 2) ?hd (cs := #[.int .u8 ck, .int .i64 cx, .int .i64 cy, .int .i64 cw, .int .i64 ch, .int .i64 ay, .slice A l.length cc]) (t := 26) ?hr ?_; (case hd => rfl); (case hg => rfl); (case hr => (go_simp; done)); intro b2 hg w2 hbox hb; have K2 := ae.mk hbox; have q_ := ae.mk (au HB.out hb); clear HB; have HB := q_; clear q_; clear hb hbox hg; have c0 := (af K2.out 0).trans rfl; have c1 := (af K2.out 1).trans rfl; have c2 := (af K2.out 2).trans rfl; have c3 := (af K2.out 3).trans rfl; have c4 := (af K2.out 4).trans rfl; have c5 := (af K2.out 5).trans rfl; have c6 := (af K2.out 6).trans rfl))
    clear c0 c1 c2 c3 c4 c5 c6
    go_loopg [22] l.length (fun gg v22 wr => ∃ (pre rest : List ai), v22 = .int .i64 (pre.length : Int) ∧ ae (pre ++ rest = l) ∧ rest.length ≤ gg ∧ ae (qp id 0 l = qp id pre.length rest) ∧ ae (Below w.heap.size w wr))
    case atStart => exact ⟨[], l, rfl, ⟨rfl⟩, Nat.le_refl _, ⟨rfl⟩, HB⟩
    case round =>
     clear HB K2
     obtain ⟨pre, rest, rfl, HE, hgg, HF, HB⟩ := hrel
     cases rest with
     | nil =>
      have hlt : ¬ ((pre.length : Int) < (l.length : Int)) := by have := HE.out; rw [List.append_nil] at this; rw [this]; omega
      clear hgg
      go_wp2
      go_ret2
      rw [HF.out, uS]
      exact ⟨_, rfl, Kd.wX _ _ _ _ _, HB.out⟩
     | cons k rest =>
      have hk : k ∈ l := by rw [← HE.out]; simp
      have hlt : (pre.length : Int) < (l.length : Int) := by rw [← HE.out, List.length_append, List.length_cons]; omega
      have hw : wrap64 ((pre.length : Int) + 1) = ((pre ++ [k]).length : Int) := by rw [List.length_append, List.length_singleton]; unfold wrap64; have := HL.out; omega
      have hrd : aA l (pre.length : Int) = k := by rw [← HE.out]; simp [aA, List.getD_eq_getElem?_getD]
      obtain ⟨ad, ua, uc, rfl, h0, h1, h2, h3, h4, h5, h6, MM, hgu⟩ := uC HR.out (pre.length : Int) (Int.natCast_nonneg _) hlt
      rw [hrd] at h0 h1 h2 h3 h4 h5 h6 MM hgu
      simp only [Int.toNat_natCast] at h0 h1 h2 h3 h4 h5 h6
      replace h0 := (HB.out.cell (World.block_lt_of_cell? w _ h0)).trans h0
      replace h1 := (HB.out.cell (World.block_lt_of_cell? w _ h1)).trans h1
      replace h2 := (HB.out.cell (World.block_lt_of_cell? w _ h2)).trans h2
      replace h3 := (HB.out.cell (World.block_lt_of_cell? w _ h3)).trans h3
      replace h4 := (HB.out.cell (World.block_lt_of_cell? w _ h4)).trans h4
      replace h5 := (HB.out.cell (World.block_lt_of_cell? w _ h5)).trans h5
      replace h6 := (HB.out.cell (World.block_lt_of_cell? w _ h6)).trans h6
      have HU := ae.mk hgu
      have LU := ae.mk MM
      have HW := ae.mk hw
      have HK := ae.mk hk
      have HG := ae.mk hgg
      clear hgu MM hw hk hgg hrd
      go_wp2_with (first | ((with_reducible refine aG (N := 7) rfl ?_); refine aU ?hg (N := 7) ?hd (cs := #[.int .u8 0, .int .i64 0, .int .i64 0, .int .i64 0, .int .i64 0, .int .i64 0, .slice none 0 0]) (t := 26) ?hr ?_; (case hd => rfl); (case hg => rfl); (case hr => (go_simp; done)); intro b7 hg w7 hbox hb; have K7 := ae.mk hbox; have G7 := ae.mk (show w.heap.size ≤ b7 by rw [hg]; exact HB.out.size); have q_ := ae.mk (au HB.out hb); clear HB; have HB := q_; clear q_; clear hb hbox hg) | ((with_reducible refine mG (.store 26 (.tmp 7) (.tmp 26)) rfl ?_); go_loud (refine iO (w0 := w) rfl rfl 26 (.tmp 7) (.tmp 26) rfl (g := b7) (j := 0) (base := w.heap.size) #[.int .u8 k.f0, .int .i64 k.f1.f0, .int .i64 k.f1.f1, .int .i64 k.f1.f2, .int .i64 k.f1.f3, .int .i64 k.f2, .slice ua k.f3.length uc] (u := .agg #[.int .u8 k.f0, .int .i64 k.f1.f0, .int .i64 k.f1.f1, .int .i64 k.f1.f2, .int .i64 k.f1.f3, .int .i64 k.f2, .slice ua k.f3.length uc]) (bK := [.int .u8 k.f0, .int .i64 k.f1.f0, .int .i64 k.f1.f1, .int .i64 k.f1.f2, .int .i64 k.f1.f3, .int .i64 k.f2, .slice ua k.f3.length uc]) ?sA ?sX rfl ?sT ?s1 K7.out ?sJ rfl HB.out HB.out.size G7.out ?_; (case sA => rfl); (case sX => rfl); (case sT => rfl); (case s1 => (simp [Value.oneCell'])); (case sJ => (simp)); intro ws hbk hbb hgg; clear K7 HB; have K7 := ae.mk hbk; have HB := ae.mk hbb; clear hbk hbb hgg h0 h1 h2 h3 h4 h5 h6; have d0 := (af K7.out 0).trans rfl; have d1 := (af K7.out 1).trans rfl; have d2 := (af K7.out 2).trans rfl; have d3 := (af K7.out 3).trans rfl; have d4 := (af K7.out 4).trans rfl; have d5 := (af K7.out 5).trans rfl; have d6 := (af K7.out 6).trans rfl)))
      clear d0 d1 d2 d3 d4 d5 d6 K7
      refine (IH.out k HK.out ua uc _ (Kd.iE HU.out HB.out) LU.out).mono ?_
      rintro e wk ⟨v, rfl, ho, hb⟩
      have HO := ae.mk (Kd.rf ho HB.out.size)
      have q_ := ae.mk (au HB.out hb); clear HB; have HB := q_; clear q_
      clear ho hb
      cases hf : iR id k with
      | none =>
       rw [hf] at HO
       have HF2 := ae.mk hf
       simp only [hf, Option.isSome_none]
       clear hf
       go_wp2
       go_roundg rest.length
       case measure => exact Nat.lt_of_lt_of_le (Nat.lt_succ_self _) HG.out
       case rel => exact ⟨pre ++ [k], rest, (by rw [HW.out]), ⟨by rw [List.append_assoc]; exact HE.out⟩, Nat.le_refl _, ⟨by rw [HF.out, qw, HF2.out, List.length_append]; rfl⟩, HB⟩
      | some p =>
       rw [hf] at HO
       have HF2 := ae.mk hf
       have HP := ae.mk (zn.out k HK.out p hf)
       simp only [hf, Option.isSome_some]
       clear hf
       obtain ⟨Ap, cp, ep⟩ := Kd.iG HO.out
       subst ep
       go_wp2_with (((with_reducible refine aG (N := 36) rfl ?_); refine MZ ?hg (N := 36) ?hd (cs := #[.int .i64 (pre.length : Int)]) (t := 3) (n := 1) (c := 1) ?hr ?_; (case hd => rfl); (case hg => rfl); (case hr => (go_simp; done)); intro b9 hg w9 hbox hb; have K9 := ae.mk hbox; have NE := ae.mk (fun e_ => Nat.lt_irrefl _ (hg ▸ Kd.Xz HO.out b9 e_) : ¬ (Value.slice Ap ((some p).getD []).length cp).ownBlock = some b9); have fC := ae.mk (Kd.qZ HO.out hb); clear HO; have HO := fC; clear fC; have q_ := ae.mk (au HB.out hb); clear HB; have HB := q_; clear q_; clear hb hbox hg))
       refine (V8 _ w.heap.size HB.out.size _ p (pre.length : Int) b9 1 (Kd.Eg HO.out) K9.out NE.out HP.out).mono ?_
       rintro e wi ⟨v', rfl, ho, hb⟩
       have qX := ae.mk ho
       have HB2 := ae.mk (HB.out.trans hb)
       clear ho hb
       go_wp2
       go_ret2
       rw [HF.out, qw, HF2.out]
       exact ⟨_, rfl, Kd.uB qX.out (fun _ _ => trivial), HB2.out⟩
  ·have h1b : (ck == 1) = false := beq_eq_false_iff_ne.mpr h1
   rw [if_neg (fun h => h1 h.1)]
   clear h1
   go_enter Try.func89, Try.ntmps89
   go_wp2_with (((with_reducible refine aG (N := 2) rfl ?_); refine aU ?hg (N := 2) ?hd (cs := #[.int .u8 ck, .int .i64 cx, .int .i64 cy, .int .i64 cw, .int .i64 ch, .int .i64 ay, .slice A l.length cc]) (t := 26) ?hr ?_; (case hd => rfl); (case hg => rfl); (case hr => (go_simp; done)); intro b2 hg w2 hbox hb; have K2 := ae.mk hbox; have q_ := ae.mk (au HB.out hb); clear HB; have HB := q_; clear q_; clear hb hbox hg; have c0 := (af K2.out 0).trans rfl; have c1 := (af K2.out 1).trans rfl; have c2 := (af K2.out 2).trans rfl; have c3 := (af K2.out 3).trans rfl; have c4 := (af K2.out 4).trans rfl; have c5 := (af K2.out 5).trans rfl; have c6 := (af K2.out 6).trans rfl))
   clear c0 c1 c2 c3 c4 c5 c6
   go_loopg [22] l.length (fun gg v22 wr => ∃ (pre rest : List ai), v22 = .int .i64 (pre.length : Int) ∧ ae (pre ++ rest = l) ∧ rest.length ≤ gg ∧ ae (qp id 0 l = qp id pre.length rest) ∧ ae (Below w.heap.size w wr))
   case atStart => exact ⟨[], l, rfl, ⟨rfl⟩, Nat.le_refl _, ⟨rfl⟩, HB⟩
   case round =>
    clear HB K2
    obtain ⟨pre, rest, rfl, HE, hgg, HF, HB⟩ := hrel
    cases rest with
    | nil =>
     have hlt : ¬ ((pre.length : Int) < (l.length : Int)) := by have := HE.out; rw [List.append_nil] at this; rw [this]; omega
     clear hgg
     go_wp2
     go_ret2
     rw [HF.out, uS]
     exact ⟨_, rfl, Kd.wX _ _ _ _ _, HB.out⟩
    | cons k rest =>
     have hk : k ∈ l := by rw [← HE.out]; simp
     have hlt : (pre.length : Int) < (l.length : Int) := by rw [← HE.out, List.length_append, List.length_cons]; omega
     have hw : wrap64 ((pre.length : Int) + 1) = ((pre ++ [k]).length : Int) := by rw [List.length_append, List.length_singleton]; unfold wrap64; have := HL.out; omega
     have hrd : aA l (pre.length : Int) = k := by rw [← HE.out]; simp [aA, List.getD_eq_getElem?_getD]
     obtain ⟨ad, ua, uc, rfl, h0, h1, h2, h3, h4, h5, h6, MM, hgu⟩ := uC HR.out (pre.length : Int) (Int.natCast_nonneg _) hlt
     rw [hrd] at h0 h1 h2 h3 h4 h5 h6 MM hgu
     simp only [Int.toNat_natCast] at h0 h1 h2 h3 h4 h5 h6
     replace h0 := (HB.out.cell (World.block_lt_of_cell? w _ h0)).trans h0
     replace h1 := (HB.out.cell (World.block_lt_of_cell? w _ h1)).trans h1
     replace h2 := (HB.out.cell (World.block_lt_of_cell? w _ h2)).trans h2
     replace h3 := (HB.out.cell (World.block_lt_of_cell? w _ h3)).trans h3
     replace h4 := (HB.out.cell (World.block_lt_of_cell? w _ h4)).trans h4
     replace h5 := (HB.out.cell (World.block_lt_of_cell? w _ h5)).trans h5
     replace h6 := (HB.out.cell (World.block_lt_of_cell? w _ h6)).trans h6
     have HU := ae.mk hgu
     have LU := ae.mk MM
     have HW := ae.mk hw
     have HK := ae.mk hk
     have HG := ae.mk hgg
     clear hgu MM hw hk hgg hrd
     go_wp2_with (first | ((with_reducible refine aG (N := 7) rfl ?_); refine aU ?hg (N := 7) ?hd (cs := #[.int .u8 0, .int .i64 0, .int .i64 0, .int .i64 0, .int .i64 0, .int .i64 0, .slice none 0 0]) (t := 26) ?hr ?_; (case hd => rfl); (case hg => rfl); (case hr => (go_simp; done)); intro b7 hg w7 hbox hb; have K7 := ae.mk hbox; have G7 := ae.mk (show w.heap.size ≤ b7 by rw [hg]; exact HB.out.size); have q_ := ae.mk (au HB.out hb); clear HB; have HB := q_; clear q_; clear hb hbox hg) | ((with_reducible refine mG (.store 26 (.tmp 7) (.tmp 26)) rfl ?_); go_loud (refine iO (w0 := w) rfl rfl 26 (.tmp 7) (.tmp 26) rfl (g := b7) (j := 0) (base := w.heap.size) #[.int .u8 k.f0, .int .i64 k.f1.f0, .int .i64 k.f1.f1, .int .i64 k.f1.f2, .int .i64 k.f1.f3, .int .i64 k.f2, .slice ua k.f3.length uc] (u := .agg #[.int .u8 k.f0, .int .i64 k.f1.f0, .int .i64 k.f1.f1, .int .i64 k.f1.f2, .int .i64 k.f1.f3, .int .i64 k.f2, .slice ua k.f3.length uc]) (bK := [.int .u8 k.f0, .int .i64 k.f1.f0, .int .i64 k.f1.f1, .int .i64 k.f1.f2, .int .i64 k.f1.f3, .int .i64 k.f2, .slice ua k.f3.length uc]) ?sA ?sX rfl ?sT ?s1 K7.out ?sJ rfl HB.out HB.out.size G7.out ?_; (case sA => rfl); (case sX => rfl); (case sT => rfl); (case s1 => (simp [Value.oneCell'])); (case sJ => (simp)); intro ws hbk hbb hgg; clear K7 HB; have K7 := ae.mk hbk; have HB := ae.mk hbb; clear hbk hbb hgg h0 h1 h2 h3 h4 h5 h6; have d0 := (af K7.out 0).trans rfl; have d1 := (af K7.out 1).trans rfl; have d2 := (af K7.out 2).trans rfl; have d3 := (af K7.out 3).trans rfl; have d4 := (af K7.out 4).trans rfl; have d5 := (af K7.out 5).trans rfl; have d6 := (af K7.out 6).trans rfl)))
     clear d0 d1 d2 d3 d4 d5 d6 K7
     refine (IH.out k HK.out ua uc _ (Kd.iE HU.out HB.out) LU.out).mono ?_
     rintro e wk ⟨v, rfl, ho, hb⟩
     have HO := ae.mk (Kd.rf ho HB.out.size)
     have q_ := ae.mk (au HB.out hb); clear HB; have HB := q_; clear q_
     clear ho hb
     cases hf : iR id k with
     | none =>
      rw [hf] at HO
      have HF2 := ae.mk hf
      simp only [hf, Option.isSome_none]
      clear hf
      go_wp2
      go_roundg rest.length
      case measure => exact Nat.lt_of_lt_of_le (Nat.lt_succ_self _) HG.out
      case rel => exact ⟨pre ++ [k], rest, (by rw [HW.out]), ⟨by rw [List.append_assoc]; exact HE.out⟩, Nat.le_refl _, ⟨by rw [HF.out, qw, HF2.out, List.length_append]; rfl⟩, HB⟩
     | some p =>
      rw [hf] at HO
      have HF2 := ae.mk hf
      have HP := ae.mk (zn.out k HK.out p hf)
      simp only [hf, Option.isSome_some]
      clear hf
      obtain ⟨Ap, cp, ep⟩ := Kd.iG HO.out
      subst ep
      go_wp2_with (((with_reducible refine aG (N := 36) rfl ?_); refine MZ ?hg (N := 36) ?hd (cs := #[.int .i64 (pre.length : Int)]) (t := 3) (n := 1) (c := 1) ?hr ?_; (case hd => rfl); (case hg => rfl); (case hr => (go_simp; done)); intro b9 hg w9 hbox hb; have K9 := ae.mk hbox; have NE := ae.mk (fun e_ => Nat.lt_irrefl _ (hg ▸ Kd.Xz HO.out b9 e_) : ¬ (Value.slice Ap ((some p).getD []).length cp).ownBlock = some b9); have fC := ae.mk (Kd.qZ HO.out hb); clear HO; have HO := fC; clear fC; have q_ := ae.mk (au HB.out hb); clear HB; have HB := q_; clear q_; clear hb hbox hg))
      refine (V8 _ w.heap.size HB.out.size _ p (pre.length : Int) b9 1 (Kd.Eg HO.out) K9.out NE.out HP.out).mono ?_
      rintro e wi ⟨v', rfl, ho, hb⟩
      have qX := ae.mk ho
      have HB2 := ae.mk (HB.out.trans hb)
      clear ho hb
      go_wp2
      go_ret2
      rw [HF.out, qw, HF2.out]
      exact ⟨_, rfl, Kd.uB qX.out (fun _ _ => trivial), HB2.out⟩
def ahV.f (a0 a1 a2 a3 a4 a5 : Int) (l : List ai) (id : Int) : Option (List Int × Bool) := if sz ⟨a0, ⟨a1, a2, a3, a4⟩, a5, l⟩ ≤ 1000000 then some ((iR id ⟨a0, ⟨a1, a2, a3, a4⟩, a5, l⟩).getD [], (iR id ⟨a0, ⟨a1, a2, a3, a4⟩, a5, l⟩).isSome) else none
theorem uP {P : Program} {f : FuncId} {fn : Func} (hf : P.funcs[f]? = some fn) (hname : (fn.name == "runtime.NumGoroutine") = false) (hb : fn.body.isSome = true) : ∀ args w, (callFunc f args).run P w = .ok (.enter f args) w := by
 intro args w
 obtain ⟨c, hc⟩ := Option.isSome_iff_exists.1 hb
 have h1 : fn.name ≠ "runtime.NumGoroutine" := by simpa using hname
 simp [callFunc, hf, h1, hc, mark]
section
variable {σ α : Type}
def mr (step : σ → α → Bool × σ) : Int → σ → List α → Int × σ
 | _, s, [] => (-1, s)
 | i, s, x :: xs => if (step s x).1 = true then (i, (step s x).2) else mr step (i + 1) (step s x).2 xs
def uu (step : σ → α → Bool × σ) : σ → List α → Bool × σ
 | s, [] => (false, s)
 | s, x :: xs => if (step s x).1 = true then (true, (step s x).2) else uu step (step s x).2 xs
theorem acA (step : σ → α → Bool × σ) : ∀ (l : List α) (i : Int) (s : σ), 0 ≤ i → (uu step s l).1 = decide (0 ≤ (mr step i s l).1) ∧ (uu step s l).2 = (mr step i s l).2 := by
 intro l
 induction l with
 | nil => intro i s h; exact ⟨by simp [uu, mr], rfl⟩
 | cons x xs ih =>
  intro i s h
  simp only [uu, mr]
  split
  ·exact ⟨by simp [h], rfl⟩
  ·exact ih (i + 1) _ (by omega)
theorem Qo (step : σ → α → Bool × σ) (s : σ) (l : List α) : uu step s l = (decide (0 ≤ (mr step 0 s l).1), (mr step 0 s l).2) := by
 have h := acA step l 0 s (by omega)
 exact Prod.ext h.1 h.2
theorem RX (step : σ → α → Bool × σ) (z : α) (l : List α) (k : Nat) (h : k < l.length) (t : σ) :
  mr step k t (l.drop k) = if (step t (l.getD (k : Int).toNat z)).1 = true then ((k : Int), (step t (l.getD (k : Int).toNat z)).2) else mr step ((k + 1 : Nat) : Int) (step t (l.getD (k : Int).toNat z)).2 (l.drop (k + 1)) := by
 rw [List.drop_eq_getElem_cons h]
 simp only [mr, Int.toNat_natCast, List.getD_eq_getElem?_getD, List.getElem?_eq_getElem h, Option.getD_some]
 rfl
theorem Es (z : α) (l : List α) (k : Nat) (h : k < l.length) : l.getD (k : Int).toNat z ∈ l := by
 simp only [Int.toNat_natCast, List.getD_eq_getElem?_getD, List.getElem?_eq_getElem h, Option.getD_some]
 exact List.getElem_mem h
theorem Na (p : α → Bool) : ∀ (l : List α) (s : Unit), uu (fun _ x => (p x, ())) s l = (l.any p, ()) := by
 intro l
 induction l with
 | nil => intro s; rfl
 | cons x xs ih =>
  intro s
  simp only [uu, List.any_cons]
  cases h : p x with
  | true => simp
  | false => simp [ih]
end
section
variable {σ : Type} (step : σ → ai → Bool × σ)
mutual
def uj : ai → σ → Bool × σ
 | ⟨a, b, d, l⟩, s => if (step s ⟨a, b, d, l⟩).1 = true then uo l (step s ⟨a, b, d, l⟩).2 else (false, (step s ⟨a, b, d, l⟩).2)
def uo : List ai → σ → Bool × σ
 | [], s => (true, s)
 | k :: ks, s => if (uj k s).1 = true then uo ks (uj k s).2 else (false, (uj k s).2)
end
theorem QR (c : ai) (s : σ) : uj step c s = if (step s c).1 = true then uo step c.f3 (step s c).2 else (false, (step s c).2) := by cases c; simp [uj]
theorem FX (s : σ) : uo step [] s = (true, s) := by simp [uo]
theorem JB (k : ai) (ks : List ai) (s : σ) : uo step (k :: ks) s = if (uj step k s).1 = true then uo step ks (uj step k s).2 else (false, (uj step k s).2) := by simp [uo]
theorem W9 : ∀ (l : List ai) (s : σ), uu (fun s k => (!(uj step k s).1, (uj step k s).2)) s l = (!(uo step l s).1, (uo step l s).2) := by
 intro l
 induction l with
 | nil => intro s; rw [FX]; rfl
 | cons k ks ih =>
  intro s
  rw [JB]
  simp only [uu]
  cases h : (uj step k s).1 with
  | true => simp [ih]
  | false => simp
def vX : List ai → σ → Bool × σ
 | [], s => (true, s)
 | k :: ks, s => if (step s k).1 = true then vX ks (step s k).2 else (false, (step s k).2)
theorem YY : ∀ (a b : List ai) (s : σ), vX step (a ++ b) s = if (vX step a s).1 = true then vX step b (vX step a s).2 else (false, (vX step a s).2) := by
 intro a
 induction a with
 | nil => intro b s; simp [vX]
 | cons k ks ih =>
  intro b s
  simp only [List.cons_append, vX]
  by_cases h : (step s k).1 = true
  ·simp [h, ih]
  ·simp [h]
theorem XE : ∀ (N : Nat), (∀ c : ai, sz c ≤ N → ∀ s, uj step c s = vX step (iw c) s) ∧ (∀ l : List ai, dU l ≤ N → ∀ s, uo step l s = vX step (allL l) s) := by
 intro N
 induction N with
 | zero =>
  refine ⟨fun c h => ?_, fun l h => ?_⟩
  ·rw [bV] at h; omega
  ·cases l with
   | nil => intro s; rw [FX, qL]; rfl
   | cons x xs => rw [df, bV] at h; omega
 | succ N ih =>
  have hC : ∀ c : ai, sz c ≤ N + 1 → ∀ s, uj step c s = vX step (iw c) s := by
   intro c h s
   rw [bV] at h
   rw [QR, ru]
   simp only [vX]
   rw [ih.2 c.f3 (by omega)]
  refine ⟨hC, fun l => ?_⟩
  induction l with
  | nil => intro _ s; rw [FX, qL]; rfl
  | cons x xs ihl =>
   intro h s
   rw [df] at h
   rw [JB, ni, YY, hC x (by omega), ihl (by omega)]
end
end Go.Proofs.Ytfdmfgaiblfbhaa.P
namespace Go.Proofs.Ytfdmfgaiblfbhaa.P
open Go.RowKit Go.Proofs.ag.aV Go.Proofs.ag.bP Go.Proofs.ag.cO
attribute [local go_sem] kJ kS lM l7 lI lJ mJ mO
def yR.f (az : Int) (aK : Int) (aI : Int) (aJ : Int) : Option (Bool) := if az ≥ 0 then (if aI ≥ 1 then (if aI ≤ 10000 then (if az ≤ (wrap64 (10000 - aI)) then (if aK ≥ 0 then (if aJ ≥ 1 then (if aJ ≤ 10000 then (some (decide (aK ≤ (wrap64 (10000 - aJ))))) else (some false)) else (some false)) else (some false)) else (some false)) else (some false)) else (some false)) else (some false)
theorem yR.calls (az : Int) (aK : Int) (aI : Int) (aJ : Int) (r : Bool) (w : World) (h : yR.f az aK aI aJ = some r) :
  Calls Try.prog 128 #[.agg #[.int .i64 az, .int .i64 aK, .int .i64 aI, .int .i64 aJ]] w fun e w' => e = .returned (.bool r) ∧ Below w.heap.size w w' := by
 have PS := Try.underlying23
 have HB := ae.mk (Below.refl w.heap.size w)
 have H : (if az ≥ 0 then (if aI ≥ 1 then (if aI ≤ 10000 then (if az ≤ (wrap64 (10000 - aI)) then (if aK ≥ 0 then (if aJ ≥ 1 then (if aJ ≤ 10000 then (some (decide (aK ≤ (wrap64 (10000 - aJ))))) else (some false)) else (some false)) else (some false)) else (some false)) else (some false)) else (some false)) else (some false)) = some r := h
 clear h
 by_cases c2 : az ≥ 0
 ·rw [if_pos c2] at H
  have OM : decide (0 ≤ az) = true := decide_eq_true c2
  clear c2
  by_cases c3 : aI ≥ 1
  ·rw [if_pos c3] at H
   have vW : decide (1 ≤ aI) = true := decide_eq_true c3
   clear c3
   by_cases c4 : aI ≤ 10000
   ·rw [if_pos c4] at H
    have EW : decide (aI ≤ 10000) = true := decide_eq_true c4
    clear c4
    by_cases c5 : az ≤ (wrap64 (10000 - aI))
    ·rw [if_pos c5] at H
     have J6 : decide (az ≤ (wrap64 (10000 - aI))) = true := decide_eq_true c5
     clear c5
     by_cases c6 : aK ≥ 0
     ·rw [if_pos c6] at H
      have DZ : decide (0 ≤ aK) = true := decide_eq_true c6
      clear c6
      by_cases c7 : aJ ≥ 1
      ·rw [if_pos c7] at H
       have yL : decide (1 ≤ aJ) = true := decide_eq_true c7
       clear c7
       by_cases c8 : aJ ≤ 10000
       ·rw [if_pos c8] at H
        have EX : decide (aJ ≤ 10000) = true := decide_eq_true c8
        clear c8
        obtain rfl := Option.some.inj H
        go_enter Try.func128, Try.ntmps128
        go_wp2_with (((with_reducible refine aG (N := 1) rfl ?_); refine aU ?hg (N := 1) ?hd (cs := #[.int .i64 az, .int .i64 aK, .int .i64 aI, .int .i64 aJ]) (t := 23) ?hr ?_; (case hd => rfl); (case hg => rfl); (case hr => (go_simp; done)); intro iW hg w9 hbox hb; have dP := ae.mk (hbox); replace HB := ae.mk (au (by repeat ((with_reducible exact HB.out))) hb); clear hb hbox hg; have Q8 : w9.cell? ⟨iW, 0, none⟩ = some (.int .i64 az) := (af dP.out 0).trans rfl; have Q9 : w9.cell? ⟨iW, 1, none⟩ = some (.int .i64 aK) := (af dP.out 1).trans rfl; have Q_ : w9.cell? ⟨iW, 2, none⟩ = some (.int .i64 aI) := (af dP.out 2).trans rfl; have Rf : w9.cell? ⟨iW, 3, none⟩ = some (.int .i64 aJ) := (af dP.out 3).trans rfl; have Rl := ah dP.out 0; have Rn := ah dP.out 1; have Ro := ah dP.out 2; have Rq := ah dP.out 3))
        go_ret
        exact ⟨by rfl, by repeat ((with_reducible exact HB.out))⟩
       ·rw [if_neg c8] at H
        have EX : decide (aJ ≤ 10000) = false := decide_eq_false c8
        clear c8
        obtain rfl := Option.some.inj H
        go_enter Try.func128, Try.ntmps128
        go_wp2_with (((with_reducible refine aG (N := 1) rfl ?_); refine aU ?hg (N := 1) ?hd (cs := #[.int .i64 az, .int .i64 aK, .int .i64 aI, .int .i64 aJ]) (t := 23) ?hr ?_; (case hd => rfl); (case hg => rfl); (case hr => (go_simp; done)); intro iW hg CZ hbox hb; have dP := ae.mk (hbox); replace HB := ae.mk (au (by repeat ((with_reducible exact HB.out))) hb); clear hb hbox hg; have aaP : CZ.cell? ⟨iW, 0, none⟩ = some (.int .i64 az) := (af dP.out 0).trans rfl; have aaQ : CZ.cell? ⟨iW, 1, none⟩ = some (.int .i64 aK) := (af dP.out 1).trans rfl; have aaR : CZ.cell? ⟨iW, 2, none⟩ = some (.int .i64 aI) := (af dP.out 2).trans rfl; have aaS : CZ.cell? ⟨iW, 3, none⟩ = some (.int .i64 aJ) := (af dP.out 3).trans rfl; have abr := ah dP.out 0; have abt := ah dP.out 1; have abu := ah dP.out 2; have abv := ah dP.out 3))
        go_ret
        exact ⟨by rfl, by repeat ((with_reducible exact HB.out))⟩
      ·rw [if_neg c7] at H
       have yL : decide (1 ≤ aJ) = false := decide_eq_false c7
       clear c7
       obtain rfl := Option.some.inj H
       go_enter Try.func128, Try.ntmps128
       go_wp2_with (((with_reducible refine aG (N := 1) rfl ?_); refine aU ?hg (N := 1) ?hd (cs := #[.int .i64 az, .int .i64 aK, .int .i64 aI, .int .i64 aJ]) (t := 23) ?hr ?_; (case hd => rfl); (case hg => rfl); (case hr => (go_simp; done)); intro iW hg vT hbox hb; have dP := ae.mk (hbox); replace HB := ae.mk (au (by repeat ((with_reducible exact HB.out))) hb); clear hb hbox hg; have Kt : vT.cell? ⟨iW, 0, none⟩ = some (.int .i64 az) := (af dP.out 0).trans rfl; have Ku : vT.cell? ⟨iW, 1, none⟩ = some (.int .i64 aK) := (af dP.out 1).trans rfl; have Kv : vT.cell? ⟨iW, 2, none⟩ = some (.int .i64 aI) := (af dP.out 2).trans rfl; have Kw : vT.cell? ⟨iW, 3, none⟩ = some (.int .i64 aJ) := (af dP.out 3).trans rfl; have Ky := ah dP.out 0; have Kz := ah dP.out 1; have KA := ah dP.out 2; have KC := ah dP.out 3))
       go_ret
       exact ⟨by rfl, by repeat ((with_reducible exact HB.out))⟩
     ·rw [if_neg c6] at H
      have DZ : decide (0 ≤ aK) = false := decide_eq_false c6
      clear c6
      obtain rfl := Option.some.inj H
      go_enter Try.func128, Try.ntmps128
      go_wp2_with (((with_reducible refine aG (N := 1) rfl ?_); refine aU ?hg (N := 1) ?hd (cs := #[.int .i64 az, .int .i64 aK, .int .i64 aI, .int .i64 aJ]) (t := 23) ?hr ?_; (case hd => rfl); (case hg => rfl); (case hr => (go_simp; done)); intro iW hg vU hbox hb; have dP := ae.mk (hbox); replace HB := ae.mk (au (by repeat ((with_reducible exact HB.out))) hb); clear hb hbox hg; have Rh : vU.cell? ⟨iW, 0, none⟩ = some (.int .i64 az) := (af dP.out 0).trans rfl; have Ri : vU.cell? ⟨iW, 1, none⟩ = some (.int .i64 aK) := (af dP.out 1).trans rfl; have Rj : vU.cell? ⟨iW, 2, none⟩ = some (.int .i64 aI) := (af dP.out 2).trans rfl; have Rk : vU.cell? ⟨iW, 3, none⟩ = some (.int .i64 aJ) := (af dP.out 3).trans rfl; have Rt := ah dP.out 0; have Ru := ah dP.out 1; have Rw := ah dP.out 2; have Rx := ah dP.out 3))
      go_ret
      exact ⟨by rfl, by repeat ((with_reducible exact HB.out))⟩
    ·rw [if_neg c5] at H
     have J6 : decide (az ≤ (wrap64 (10000 - aI))) = false := decide_eq_false c5
     clear c5
     obtain rfl := Option.some.inj H
     go_enter Try.func128, Try.ntmps128
     go_wp2_with (((with_reducible refine aG (N := 1) rfl ?_); refine aU ?hg (N := 1) ?hd (cs := #[.int .i64 az, .int .i64 aK, .int .i64 aI, .int .i64 aJ]) (t := 23) ?hr ?_; (case hd => rfl); (case hg => rfl); (case hr => (go_simp; done)); intro iW hg Xm hbox hb; have dP := ae.mk (hbox); replace HB := ae.mk (au (by repeat ((with_reducible exact HB.out))) hb); clear hb hbox hg; have aa3 : Xm.cell? ⟨iW, 0, none⟩ = some (.int .i64 az) := (af dP.out 0).trans rfl; have aa4 : Xm.cell? ⟨iW, 1, none⟩ = some (.int .i64 aK) := (af dP.out 1).trans rfl; have aa5 : Xm.cell? ⟨iW, 2, none⟩ = some (.int .i64 aI) := (af dP.out 2).trans rfl; have aa6 : Xm.cell? ⟨iW, 3, none⟩ = some (.int .i64 aJ) := (af dP.out 3).trans rfl; have abH := ah dP.out 0; have abI := ah dP.out 1; have abJ := ah dP.out 2; have abK := ah dP.out 3))
     go_ret
     exact ⟨by rfl, by repeat ((with_reducible exact HB.out))⟩
   ·rw [if_neg c4] at H
    have EW : decide (aI ≤ 10000) = false := decide_eq_false c4
    clear c4
    obtain rfl := Option.some.inj H
    go_enter Try.func128, Try.ntmps128
    go_wp2_with (((with_reducible refine aG (N := 1) rfl ?_); refine aU ?hg (N := 1) ?hd (cs := #[.int .i64 az, .int .i64 aK, .int .i64 aI, .int .i64 aJ]) (t := 23) ?hr ?_; (case hd => rfl); (case hg => rfl); (case hr => (go_simp; done)); intro iW hg Hy hbox hb; have dP := ae.mk (hbox); replace HB := ae.mk (au (by repeat ((with_reducible exact HB.out))) hb); clear hb hbox hg; have aa7 : Hy.cell? ⟨iW, 0, none⟩ = some (.int .i64 az) := (af dP.out 0).trans rfl; have aa8 : Hy.cell? ⟨iW, 1, none⟩ = some (.int .i64 aK) := (af dP.out 1).trans rfl; have aa9 : Hy.cell? ⟨iW, 2, none⟩ = some (.int .i64 aI) := (af dP.out 2).trans rfl; have aa_ : Hy.cell? ⟨iW, 3, none⟩ = some (.int .i64 aJ) := (af dP.out 3).trans rfl; have abL := ah dP.out 0; have abM := ah dP.out 1; have abN := ah dP.out 2; have abO := ah dP.out 3))
    go_ret
    exact ⟨by rfl, by repeat ((with_reducible exact HB.out))⟩
  ·rw [if_neg c3] at H
   have vW : decide (1 ≤ aI) = false := decide_eq_false c3
   clear c3
   obtain rfl := Option.some.inj H
   go_enter Try.func128, Try.ntmps128
   go_wp2_with (((with_reducible refine aG (N := 1) rfl ?_); refine aU ?hg (N := 1) ?hd (cs := #[.int .i64 az, .int .i64 aK, .int .i64 aI, .int .i64 aJ]) (t := 23) ?hr ?_; (case hd => rfl); (case hg => rfl); (case hr => (go_simp; done)); intro iW hg JP hbox hb; have dP := ae.mk (hbox); replace HB := ae.mk (au (by repeat ((with_reducible exact HB.out))) hb); clear hb hbox hg; have aa' : JP.cell? ⟨iW, 0, none⟩ = some (.int .i64 az) := (af dP.out 0).trans rfl; have aba : JP.cell? ⟨iW, 1, none⟩ = some (.int .i64 aK) := (af dP.out 1).trans rfl; have abb : JP.cell? ⟨iW, 2, none⟩ = some (.int .i64 aI) := (af dP.out 2).trans rfl; have abd : JP.cell? ⟨iW, 3, none⟩ = some (.int .i64 aJ) := (af dP.out 3).trans rfl; have abP := ah dP.out 0; have abQ := ah dP.out 1; have abR := ah dP.out 2; have abS := ah dP.out 3))
   go_ret
   exact ⟨by rfl, by repeat ((with_reducible exact HB.out))⟩
 ·rw [if_neg c2] at H
  have OM : decide (0 ≤ az) = false := decide_eq_false c2
  clear c2
  obtain rfl := Option.some.inj H
  go_enter Try.func128, Try.ntmps128
  go_wp2_with (((with_reducible refine aG (N := 1) rfl ?_); refine aU ?hg (N := 1) ?hd (cs := #[.int .i64 az, .int .i64 aK, .int .i64 aI, .int .i64 aJ]) (t := 23) ?hr ?_; (case hd => rfl); (case hg => rfl); (case hr => (go_simp; done)); intro iW hg JQ hbox hb; have dP := ae.mk (hbox); replace HB := ae.mk (au (by repeat ((with_reducible exact HB.out))) hb); clear hb hbox hg; have abe : JQ.cell? ⟨iW, 0, none⟩ = some (.int .i64 az) := (af dP.out 0).trans rfl; have abf : JQ.cell? ⟨iW, 1, none⟩ = some (.int .i64 aK) := (af dP.out 1).trans rfl; have abg : JQ.cell? ⟨iW, 2, none⟩ = some (.int .i64 aI) := (af dP.out 2).trans rfl; have abh : JQ.cell? ⟨iW, 3, none⟩ = some (.int .i64 aJ) := (af dP.out 3).trans rfl; have abT := ah dP.out 0; have abU := ah dP.out 1; have abV := ah dP.out 2; have abW := ah dP.out 3))
  go_ret
  exact ⟨by rfl, by repeat ((with_reducible exact HB.out))⟩
def qh.f (az : Int) (aK : Int) (aI : Int) (aJ : Int) : Option (Bool) := if az < 0 then (some false) else (if az > 10000 then (some false) else (if aK < 0 then (some false) else (if aK > 10000 then (some false) else (if aI > 0 then (if aI ≤ 10000 then (if aJ > 0 then (if aJ ≤ 10000 then (if (wrap64 (az + aI)) ≤ 10000 then (some (decide ((wrap64 (aK + aJ)) ≤ 10000))) else (some false)) else (some false)) else (some false)) else (some false)) else (some false)))))
theorem qh.calls (az : Int) (aK : Int) (aI : Int) (aJ : Int) (r : Bool) (w : World) (h : qh.f az aK aI aJ = some r) :
  Calls Try.prog 57 #[.agg #[.int .i64 az, .int .i64 aK, .int .i64 aI, .int .i64 aJ]] w fun e w' => e = .returned (.bool r) ∧ Below w.heap.size w w' := by
 have PS := Try.underlying23
 have HB := ae.mk (Below.refl w.heap.size w)
 have H : (if az < 0 then (some false) else (if az > 10000 then (some false) else (if aK < 0 then (some false) else (if aK > 10000 then (some false) else (if aI > 0 then (if aI ≤ 10000 then (if aJ > 0 then (if aJ ≤ 10000 then (if (wrap64 (az + aI)) ≤ 10000 then (some (decide ((wrap64 (aK + aJ)) ≤ 10000))) else (some false)) else (some false)) else (some false)) else (some false)) else (some false)))))) = some r := h
 clear h
 by_cases c2 : az < 0
 ·rw [if_pos c2] at H
  have OM : decide (az < 0) = true := decide_eq_true c2
  clear c2
  obtain rfl := Option.some.inj H
  go_enter Try.func57, Try.ntmps57
  go_wp2_with (((with_reducible refine aG (N := 1) rfl ?_); refine aU ?hg (N := 1) ?hd (cs := #[.int .i64 az, .int .i64 aK, .int .i64 aI, .int .i64 aJ]) (t := 23) ?hr ?_; (case hd => rfl); (case hg => rfl); (case hr => (go_simp; done)); intro gu hg w3 hbox hb; have bY := ae.mk (hbox); replace HB := ae.mk (au (by repeat ((with_reducible exact HB.out))) hb); clear hb hbox hg; have PD : w3.cell? ⟨gu, 0, none⟩ = some (.int .i64 az) := (af bY.out 0).trans rfl; have PE : w3.cell? ⟨gu, 1, none⟩ = some (.int .i64 aK) := (af bY.out 1).trans rfl; have PG : w3.cell? ⟨gu, 2, none⟩ = some (.int .i64 aI) := (af bY.out 2).trans rfl; have PH : w3.cell? ⟨gu, 3, none⟩ = some (.int .i64 aJ) := (af bY.out 3).trans rfl; have PL := ah bY.out 0; have PM := ah bY.out 1; have PN := ah bY.out 2; have PO := ah bY.out 3))
  go_ret
  exact ⟨by rfl, by repeat ((with_reducible exact HB.out))⟩
 ·rw [if_neg c2] at H
  have OM : decide (az < 0) = false := decide_eq_false c2
  clear c2
  by_cases c5 : az > 10000
  ·rw [if_pos c5] at H
   have J6 : decide (10000 < az) = true := decide_eq_true c5
   clear c5
   obtain rfl := Option.some.inj H
   go_enter Try.func57, Try.ntmps57
   go_wp2_with (((with_reducible refine aG (N := 1) rfl ?_); refine aU ?hg (N := 1) ?hd (cs := #[.int .i64 az, .int .i64 aK, .int .i64 aI, .int .i64 aJ]) (t := 23) ?hr ?_; (case hd => rfl); (case hg => rfl); (case hr => (go_simp; done)); intro gu hg w6 hbox hb; have bY := ae.mk (hbox); replace HB := ae.mk (au (by repeat ((with_reducible exact HB.out))) hb); clear hb hbox hg; have ae7 : w6.cell? ⟨gu, 0, none⟩ = some (.int .i64 az) := (af bY.out 0).trans rfl; have ae8 : w6.cell? ⟨gu, 1, none⟩ = some (.int .i64 aK) := (af bY.out 1).trans rfl; have ae9 : w6.cell? ⟨gu, 2, none⟩ = some (.int .i64 aI) := (af bY.out 2).trans rfl; have ae_ : w6.cell? ⟨gu, 3, none⟩ = some (.int .i64 aJ) := (af bY.out 3).trans rfl; have afk := ah bY.out 0; have afl := ah bY.out 1; have afm := ah bY.out 2; have afn := ah bY.out 3))
   go_ret
   exact ⟨by rfl, by repeat ((with_reducible exact HB.out))⟩
  ·rw [if_neg c5] at H
   have J6 : decide (10000 < az) = false := decide_eq_false c5
   clear c5
   by_cases c8 : aK < 0
   ·rw [if_pos c8] at H
    have EX : decide (aK < 0) = true := decide_eq_true c8
    clear c8
    obtain rfl := Option.some.inj H
    go_enter Try.func57, Try.ntmps57
    go_wp2_with (((with_reducible refine aG (N := 1) rfl ?_); refine aU ?hg (N := 1) ?hd (cs := #[.int .i64 az, .int .i64 aK, .int .i64 aI, .int .i64 aJ]) (t := 23) ?hr ?_; (case hd => rfl); (case hg => rfl); (case hr => (go_simp; done)); intro gu hg w9 hbox hb; have bY := ae.mk (hbox); replace HB := ae.mk (au (by repeat ((with_reducible exact HB.out))) hb); clear hb hbox hg; have Q8 : w9.cell? ⟨gu, 0, none⟩ = some (.int .i64 az) := (af bY.out 0).trans rfl; have Q9 : w9.cell? ⟨gu, 1, none⟩ = some (.int .i64 aK) := (af bY.out 1).trans rfl; have Q_ : w9.cell? ⟨gu, 2, none⟩ = some (.int .i64 aI) := (af bY.out 2).trans rfl; have Rf : w9.cell? ⟨gu, 3, none⟩ = some (.int .i64 aJ) := (af bY.out 3).trans rfl; have Rl := ah bY.out 0; have Rn := ah bY.out 1; have Ro := ah bY.out 2; have Rq := ah bY.out 3))
    go_ret
    exact ⟨by rfl, by repeat ((with_reducible exact HB.out))⟩
   ·rw [if_neg c8] at H
    have EX : decide (aK < 0) = false := decide_eq_false c8
    clear c8
    by_cases c11 : aK > 10000
    ·rw [if_pos c11] at H
     have Ji : decide (10000 < aK) = true := decide_eq_true c11
     clear c11
     obtain rfl := Option.some.inj H
     go_enter Try.func57, Try.ntmps57
     go_wp2_with (((with_reducible refine aG (N := 1) rfl ?_); refine aU ?hg (N := 1) ?hd (cs := #[.int .i64 az, .int .i64 aK, .int .i64 aI, .int .i64 aJ]) (t := 23) ?hr ?_; (case hd => rfl); (case hg => rfl); (case hr => (go_simp; done)); intro gu hg w12 hbox hb; have bY := ae.mk (hbox); replace HB := ae.mk (au (by repeat ((with_reducible exact HB.out))) hb); clear hb hbox hg; have aaT : w12.cell? ⟨gu, 0, none⟩ = some (.int .i64 az) := (af bY.out 0).trans rfl; have aaU : w12.cell? ⟨gu, 1, none⟩ = some (.int .i64 aK) := (af bY.out 1).trans rfl; have aaV : w12.cell? ⟨gu, 2, none⟩ = some (.int .i64 aI) := (af bY.out 2).trans rfl; have aaW : w12.cell? ⟨gu, 3, none⟩ = some (.int .i64 aJ) := (af bY.out 3).trans rfl; have abw := ah bY.out 0; have abx := ah bY.out 1; have aby := ah bY.out 2; have abz := ah bY.out 3))
     go_ret
     exact ⟨by rfl, by repeat ((with_reducible exact HB.out))⟩
    ·rw [if_neg c11] at H
     have Ji : decide (10000 < aK) = false := decide_eq_false c11
     clear c11
     by_cases c14 : aI > 0
     ·rw [if_pos c14] at H
      have agW : decide (0 < aI) = true := decide_eq_true c14
      clear c14
      by_cases c15 : aI ≤ 10000
      ·rw [if_pos c15] at H
       have agX : decide (aI ≤ 10000) = true := decide_eq_true c15
       clear c15
       by_cases c16 : aJ > 0
       ·rw [if_pos c16] at H
        have Ti : decide (0 < aJ) = true := decide_eq_true c16
        clear c16
        by_cases c17 : aJ ≤ 10000
        ·rw [if_pos c17] at H
         have agZ : decide (aJ ≤ 10000) = true := decide_eq_true c17
         clear c17
         by_cases c18 : (wrap64 (az + aI)) ≤ 10000
         ·rw [if_pos c18] at H
          have ag0 : decide ((wrap64 (az + aI)) ≤ 10000) = true := decide_eq_true c18
          clear c18
          obtain rfl := Option.some.inj H
          go_enter Try.func57, Try.ntmps57
          go_wp2_with (((with_reducible refine aG (N := 1) rfl ?_); refine aU ?hg (N := 1) ?hd (cs := #[.int .i64 az, .int .i64 aK, .int .i64 aI, .int .i64 aJ]) (t := 23) ?hr ?_; (case hd => rfl); (case hg => rfl); (case hr => (go_simp; done)); intro gu hg Hy hbox hb; have bY := ae.mk (hbox); replace HB := ae.mk (au (by repeat ((with_reducible exact HB.out))) hb); clear hb hbox hg; have aa7 : Hy.cell? ⟨gu, 0, none⟩ = some (.int .i64 az) := (af bY.out 0).trans rfl; have aa8 : Hy.cell? ⟨gu, 1, none⟩ = some (.int .i64 aK) := (af bY.out 1).trans rfl; have aa9 : Hy.cell? ⟨gu, 2, none⟩ = some (.int .i64 aI) := (af bY.out 2).trans rfl; have aa_ : Hy.cell? ⟨gu, 3, none⟩ = some (.int .i64 aJ) := (af bY.out 3).trans rfl; have abL := ah bY.out 0; have abM := ah bY.out 1; have abN := ah bY.out 2; have abO := ah bY.out 3))
          go_ret
          exact ⟨by rfl, by repeat ((with_reducible exact HB.out))⟩
         ·rw [if_neg c18] at H
          have ag0 : decide ((wrap64 (az + aI)) ≤ 10000) = false := decide_eq_false c18
          clear c18
          obtain rfl := Option.some.inj H
          go_enter Try.func57, Try.ntmps57
          go_wp2_with (((with_reducible refine aG (N := 1) rfl ?_); refine aU ?hg (N := 1) ?hd (cs := #[.int .i64 az, .int .i64 aK, .int .i64 aI, .int .i64 aJ]) (t := 23) ?hr ?_; (case hd => rfl); (case hg => rfl); (case hr => (go_simp; done)); intro gu hg JP hbox hb; have bY := ae.mk (hbox); replace HB := ae.mk (au (by repeat ((with_reducible exact HB.out))) hb); clear hb hbox hg; have aa' : JP.cell? ⟨gu, 0, none⟩ = some (.int .i64 az) := (af bY.out 0).trans rfl; have aba : JP.cell? ⟨gu, 1, none⟩ = some (.int .i64 aK) := (af bY.out 1).trans rfl; have abb : JP.cell? ⟨gu, 2, none⟩ = some (.int .i64 aI) := (af bY.out 2).trans rfl; have abd : JP.cell? ⟨gu, 3, none⟩ = some (.int .i64 aJ) := (af bY.out 3).trans rfl; have abP := ah bY.out 0; have abQ := ah bY.out 1; have abR := ah bY.out 2; have abS := ah bY.out 3))
          go_ret
          exact ⟨by rfl, by repeat ((with_reducible exact HB.out))⟩
        ·rw [if_neg c17] at H
         have agZ : decide (aJ ≤ 10000) = false := decide_eq_false c17
         clear c17
         obtain rfl := Option.some.inj H
         go_enter Try.func57, Try.ntmps57
         go_wp2_with (((with_reducible refine aG (N := 1) rfl ?_); refine aU ?hg (N := 1) ?hd (cs := #[.int .i64 az, .int .i64 aK, .int .i64 aI, .int .i64 aJ]) (t := 23) ?hr ?_; (case hd => rfl); (case hg => rfl); (case hr => (go_simp; done)); intro gu hg JQ hbox hb; have bY := ae.mk (hbox); replace HB := ae.mk (au (by repeat ((with_reducible exact HB.out))) hb); clear hb hbox hg; have abe : JQ.cell? ⟨gu, 0, none⟩ = some (.int .i64 az) := (af bY.out 0).trans rfl; have abf : JQ.cell? ⟨gu, 1, none⟩ = some (.int .i64 aK) := (af bY.out 1).trans rfl; have abg : JQ.cell? ⟨gu, 2, none⟩ = some (.int .i64 aI) := (af bY.out 2).trans rfl; have abh : JQ.cell? ⟨gu, 3, none⟩ = some (.int .i64 aJ) := (af bY.out 3).trans rfl; have abT := ah bY.out 0; have abU := ah bY.out 1; have abV := ah bY.out 2; have abW := ah bY.out 3))
         go_ret
         exact ⟨by rfl, by repeat ((with_reducible exact HB.out))⟩
       ·rw [if_neg c16] at H
        have Ti : decide (0 < aJ) = false := decide_eq_false c16
        clear c16
        obtain rfl := Option.some.inj H
        go_enter Try.func57, Try.ntmps57
        go_wp2_with (((with_reducible refine aG (N := 1) rfl ?_); refine aU ?hg (N := 1) ?hd (cs := #[.int .i64 az, .int .i64 aK, .int .i64 aI, .int .i64 aJ]) (t := 23) ?hr ?_; (case hd => rfl); (case hg => rfl); (case hr => (go_simp; done)); intro gu hg w25 hbox hb; have bY := ae.mk (hbox); replace HB := ae.mk (au (by repeat ((with_reducible exact HB.out))) hb); clear hb hbox hg; have ajj : w25.cell? ⟨gu, 0, none⟩ = some (.int .i64 az) := (af bY.out 0).trans rfl; have ajk : w25.cell? ⟨gu, 1, none⟩ = some (.int .i64 aK) := (af bY.out 1).trans rfl; have ajl : w25.cell? ⟨gu, 2, none⟩ = some (.int .i64 aI) := (af bY.out 2).trans rfl; have ajm : w25.cell? ⟨gu, 3, none⟩ = some (.int .i64 aJ) := (af bY.out 3).trans rfl; have ajB := ah bY.out 0; have ajC := ah bY.out 1; have ajD := ah bY.out 2; have ajE := ah bY.out 3))
        go_ret
        exact ⟨by rfl, by repeat ((with_reducible exact HB.out))⟩
      ·rw [if_neg c15] at H
       have agX : decide (aI ≤ 10000) = false := decide_eq_false c15
       clear c15
       obtain rfl := Option.some.inj H
       go_enter Try.func57, Try.ntmps57
       go_wp2_with (((with_reducible refine aG (N := 1) rfl ?_); refine aU ?hg (N := 1) ?hd (cs := #[.int .i64 az, .int .i64 aK, .int .i64 aI, .int .i64 aJ]) (t := 23) ?hr ?_; (case hd => rfl); (case hg => rfl); (case hr => (go_simp; done)); intro gu hg w27 hbox hb; have bY := ae.mk (hbox); replace HB := ae.mk (au (by repeat ((with_reducible exact HB.out))) hb); clear hb hbox hg; have ajn : w27.cell? ⟨gu, 0, none⟩ = some (.int .i64 az) := (af bY.out 0).trans rfl; have ajo : w27.cell? ⟨gu, 1, none⟩ = some (.int .i64 aK) := (af bY.out 1).trans rfl; have ajp : w27.cell? ⟨gu, 2, none⟩ = some (.int .i64 aI) := (af bY.out 2).trans rfl; have ajq : w27.cell? ⟨gu, 3, none⟩ = some (.int .i64 aJ) := (af bY.out 3).trans rfl; have ajF := ah bY.out 0; have ajG := ah bY.out 1; have ajH := ah bY.out 2; have ajI := ah bY.out 3))
       go_ret
       exact ⟨by rfl, by repeat ((with_reducible exact HB.out))⟩
     ·rw [if_neg c14] at H
      have agW : decide (0 < aI) = false := decide_eq_false c14
      clear c14
      obtain rfl := Option.some.inj H
      go_enter Try.func57, Try.ntmps57
      go_wp2_with (((with_reducible refine aG (N := 1) rfl ?_); refine aU ?hg (N := 1) ?hd (cs := #[.int .i64 az, .int .i64 aK, .int .i64 aI, .int .i64 aJ]) (t := 23) ?hr ?_; (case hd => rfl); (case hg => rfl); (case hr => (go_simp; done)); intro gu hg Nh hbox hb; have bY := ae.mk (hbox); replace HB := ae.mk (au (by repeat ((with_reducible exact HB.out))) hb); clear hb hbox hg; have ajr : Nh.cell? ⟨gu, 0, none⟩ = some (.int .i64 az) := (af bY.out 0).trans rfl; have ajs : Nh.cell? ⟨gu, 1, none⟩ = some (.int .i64 aK) := (af bY.out 1).trans rfl; have ajt : Nh.cell? ⟨gu, 2, none⟩ = some (.int .i64 aI) := (af bY.out 2).trans rfl; have aju : Nh.cell? ⟨gu, 3, none⟩ = some (.int .i64 aJ) := (af bY.out 3).trans rfl; have ajJ := ah bY.out 0; have ajK := ah bY.out 1; have ajL := ah bY.out 2; have ajM := ah bY.out 3))
      go_ret
      exact ⟨by rfl, by repeat ((with_reducible exact HB.out))⟩
end Go.Proofs.Ytfdmfgaiblfbhaa.P
namespace Go.Proofs.Ytfdmfgaiblfbhaa.P
open Go.RowKit Go.Proofs.ag.aV Go.Proofs.ag.bP Go.Proofs.ag.cO
theorem wq {x : Int} (h0 : -9223372036854775808 ≤ x) (h1 : x ≤ 9223372036854775807) : wrap64 x = x := by unfold wrap64; omega
theorem aeD {α : Type} {c : Prop} [Decidable c] {g f : Nat → Option α} {r : α} (hc : c) (h : Ev g r) : Ev (fun k => if c then g k else f k) r := by simp only [if_pos hc]; exact h
def qc (X Y W H : Int) : Bool := decide (0 ≤ X ∧ 1 ≤ W ∧ W ≤ 10000 ∧ X + W ≤ 10000 ∧ 0 ≤ Y ∧ 1 ≤ H ∧ H ≤ 10000 ∧ Y + H ≤ 10000)
theorem xM {X Y W H : Int} : qc X Y W H = true ↔ (0 ≤ X ∧ 1 ≤ W ∧ W ≤ 10000 ∧ X + W ≤ 10000 ∧ 0 ≤ Y ∧ 1 ≤ H ∧ H ≤ 10000 ∧ Y + H ≤ 10000) := by unfold qc; rw [decide_eq_true_iff]
theorem PZ (X Y W H : Int) : yR.f X Y W H = some (qc X Y W H) := by
 unfold yR.f qc
 by_cases h1 : X ≥ 0
 ·by_cases h2 : W ≥ 1
  ·by_cases h3 : W ≤ 10000
   ·rw [if_pos h1, if_pos h2, if_pos h3, wq (x := 10000 - W) (by omega) (by omega)]
    by_cases h4 : X ≤ 10000 - W
    ·rw [if_pos h4]
     by_cases h5 : Y ≥ 0
     ·by_cases h6 : H ≥ 1
      ·by_cases h7 : H ≤ 10000
       ·rw [if_pos h5, if_pos h6, if_pos h7, wq (x := 10000 - H) (by omega) (by omega)]
        congr 1
        rw [decide_eq_decide]
        omega
       ·rw [if_pos h5, if_pos h6, if_neg h7, decide_eq_false (by omega)]
      ·rw [if_pos h5, if_neg h6, decide_eq_false (by omega)]
     ·rw [if_neg h5, decide_eq_false (by omega)]
    ·rw [if_neg h4, decide_eq_false (by omega)]
   ·rw [if_pos h1, if_pos h2, if_neg h3, decide_eq_false (by omega)]
  ·rw [if_pos h1, if_neg h2, decide_eq_false (by omega)]
 ·rw [if_neg h1, decide_eq_false (by omega)]
theorem Hr (X Y W H : Int) : qh.f X Y W H = some (qc X Y W H) := by
 unfold qh.f qc
 by_cases h1 : X < 0
 ·rw [if_pos h1, decide_eq_false (by omega)]
 ·rw [if_neg h1]
  by_cases h2 : X > 10000
  ·rw [if_pos h2, decide_eq_false (by omega)]
  ·rw [if_neg h2]
   by_cases h3 : Y < 0
   ·rw [if_pos h3, decide_eq_false (by omega)]
   ·rw [if_neg h3]
    by_cases h4 : Y > 10000
    ·rw [if_pos h4, decide_eq_false (by omega)]
    ·rw [if_neg h4]
     by_cases h5 : W > 0
     ·by_cases h6 : W ≤ 10000
      ·by_cases h7 : H > 0
       ·by_cases h8 : H ≤ 10000
        ·rw [if_pos h5, if_pos h6, if_pos h7, if_pos h8, wq (x := X + W) (by omega) (by omega), wq (x := Y + H) (by omega) (by omega)]
         by_cases h9 : X + W ≤ 10000
         ·rw [if_pos h9]
          congr 1
          rw [decide_eq_decide]
          omega
         ·rw [if_neg h9, decide_eq_false (by omega)]
        ·rw [if_pos h5, if_pos h6, if_pos h7, if_neg h8, decide_eq_false (by omega)]
       ·rw [if_pos h5, if_pos h6, if_neg h7, decide_eq_false (by omega)]
      ·rw [if_pos h5, if_neg h6, decide_eq_false (by omega)]
     ·rw [if_neg h5, decide_eq_false (by omega)]
def lu (r : dO) : Bool := qc r.f0 r.f1 r.f2 r.f3
end Go.Proofs.Ytfdmfgaiblfbhaa.P
namespace Go.Proofs.Ytfdmfgaiblfbhaa.P
open Go.RowKit Go.Proofs.ag.aV Go.Proofs.ag.bP Go.Proofs.ag.cO
attribute [local go_sem] kJ kS lM l7 lI lJ mJ mO
mutual
def dK.l0 : Nat → Int → Int → Int → Int → Int → Int → Int → Int → Int → Int → List (ai) → Option (Int)
 | 0, _, _, _, _, _, _, _, _, _, _, _ => none
 | k + 1, x1, x5, x9, x10, acO, acP, acQ, acR, acS, acT, vN => if x10 < x9 then (if x5 > x1 then (some x5) else (if 0 ≤ x10 then (if x10 < (vN.length : Int) then ((dK.f k ((aA vN x10).f0) ((aA vN x10).f1.f0) ((aA vN x10).f1.f1) ((aA vN x10).f1.f2) ((aA vN x10).f1.f3) ((aA vN x10).f2) ((aA vN x10).f3) x1).bind fun t103 => (dK.l0 k x1 (wrap64 (x5 + t103)) x9 (wrap64 (x10 + 1)) acO acP acQ acR acS acT vN)) else (none)) else (none))) else (some x5)
def dK.f : Nat → Int → Int → Int → Int → Int → Int → List (ai) → Int → Option (Int)
 | 0, _, _, _, _, _, _, _, _ => none
 | k + 1, az, aK, aI, aJ, bH, bI, aT, a1 => dK.l0 k a1 1 (aT.length : Int) 0 az aK aI aJ bH bI aT
end
theorem dK.calls (k : Nat) : ∀ (az : Int) (aK : Int) (aI : Int) (aJ : Int) (bH : Int) (bI : Int) (dW : Option Addr) (dX : Nat) (aT : List (ai)) (a1 : Int) (r : Int) (w : World) (qR : Kd.C k26 w dW aT.length aT) (sO : aT.length ≤ dX) (h : dK.f k az aK aI aJ bH bI aT a1 = some r),
  Calls Try.prog 124 #[.agg #[.int .u8 az, .int .i64 aK, .int .i64 aI, .int .i64 aJ, .int .i64 bH, .int .i64 bI, .slice dW aT.length dX], .int .i64 a1] w fun e w' => e = .returned (.int .i64 r) ∧ Below w.heap.size w w' := by
 induction k using Nat.strongRecOn with
 | _ k ih =>
 intro az aK aI aJ bH bI dW dX aT a1 r w qR sO h
 cases k with
 | zero => exact absurd h (by simp [dK.f])
 | succ k =>
 simp only [dK.f] at h
 have KG := Try.underlying26
 have SQ := ae.mk qR
 clear qR sO
 have HB := ae.mk (Below.refl w.heap.size w)
 have H : (dK.l0 k a1 1 (aT.length : Int) 0 az aK aI aJ bH bI aT) = some r := h
 clear h
 have H' := ae.mk H
 clear H
 go_enter Try.func124, Try.ntmps124
 go_wp2_with (((with_reducible refine aG (N := 2) rfl ?_); refine aU ?hg (N := 2) ?hd (cs := #[.int .u8 az, .int .i64 aK, .int .i64 aI, .int .i64 aJ, .int .i64 bH, .int .i64 bI, .slice dW aT.length dX]) (t := 26) ?hr ?_; (case hd => rfl); (case hg => rfl); (case hr => (go_simp; done)); intro sK hg w3 hbox hb; have jC := ae.mk (hbox); replace HB := ae.mk (au (by repeat ((with_reducible exact HB.out))) hb); clear hb hbox hg; have PD : w3.cell? ⟨sK, 0, none⟩ = some (.int .u8 az) := (af jC.out 0).trans rfl; have PE : w3.cell? ⟨sK, 1, none⟩ = some (.int .i64 aK) := (af jC.out 1).trans rfl; have PG : w3.cell? ⟨sK, 2, none⟩ = some (.int .i64 aI) := (af jC.out 2).trans rfl; have PH : w3.cell? ⟨sK, 3, none⟩ = some (.int .i64 aJ) := (af jC.out 3).trans rfl; have Vr : w3.cell? ⟨sK, 4, none⟩ = some (.int .i64 bH) := (af jC.out 4).trans rfl; have Vs : w3.cell? ⟨sK, 5, none⟩ = some (.int .i64 bI) := (af jC.out 5).trans rfl; have Vt : w3.cell? ⟨sK, 6, none⟩ = some (.slice dW aT.length dX) := (af jC.out 6).trans rfl; have PL := ah jC.out 0; have PM := ah jC.out 1; have PN := ah jC.out 2; have PO := ah jC.out 3; have VK := ah jC.out 4; have VL := ah jC.out 5; have VM := ah jC.out 6))
 go_loopg [5, 10] k (fun kq v5 v10 w' => ∃ (ng : Int) (eX : Int), v5 = .int .i64 ng ∧ v10 = .int .i64 eX ∧ ae (dK.l0 kq a1 ng (aT.length : Int) eX az aK aI aJ bH bI aT = some r) ∧ ae (kq ≤ k) ∧ ae (w'.heap[sK]? = some (.cells #[.int .u8 az, .int .i64 aK, .int .i64 aI, .int .i64 aJ, .int .i64 bH, .int .i64 bI, (.slice dW aT.length dX)] 26 (0, 0))) ∧ ae (Below w.heap.size w w'))
 case atStart => exact ⟨(1), (0), (by rfl), (by rfl), H', ⟨Nat.le_refl _⟩, ⟨by exact jC.out⟩, ⟨by repeat ((with_reducible exact HB.out))⟩⟩
 case round =>
  clear H'
  clear PD PE PG PH Vr Vs Vt PL PM PN PO VK VL VM
  obtain ⟨ng, eX, rfl, rfl, HA, pz, jC, HB⟩ := hrel
  cases gk with
  | zero => exact absurd HA.out (by simp [dK.l0])
  | succ k1 =>
   have H := HA.out
   clear HA
   simp only [dK.l0] at H
   by_cases c5 : eX < (aT.length : Int)
   ·rw [if_pos c5] at H
    have J6 : decide (eX < (aT.length : Int)) = true := decide_eq_true c5
    clear c5
    by_cases c6 : ng > a1
    ·rw [if_pos c6] at H
     have DZ : decide (a1 < ng) = true := decide_eq_true c6
     clear c6
     obtain rfl := Option.some.inj H
     go_wp2
     go_ret
     exact ⟨by rfl, by repeat ((with_reducible exact HB.out))⟩
    ·rw [if_neg c6] at H
     have DZ : decide (a1 < ng) = false := decide_eq_false c6
     clear c6
     by_cases c7 : 0 ≤ eX
     ·rw [if_pos c7] at H
      have yL : decide (0 ≤ eX) = true := decide_eq_true c7
      clear c7
      by_cases c8 : eX < (aT.length : Int)
      ·rw [if_pos c8] at H
       have EX : decide (eX < (aT.length : Int)) = true := decide_eq_true c8
       clear c8
       replace H := Option.bind_eq_some_iff.mp H
       obtain ⟨t103, A90, H⟩ := H
       replace H : (dK.l0 k1 a1 (wrap64 (ng + t103)) (aT.length : Int) (wrap64 (eX + 1)) az aK aI aJ bH bI aT) = some r := H
       have A9 := ae.mk A90
       clear A90
       have H' := ae.mk H
       clear H
       have Q8 : wr.cell? ⟨sK, 0, none⟩ = some (.int .u8 az) := (af jC.out 0).trans rfl
       have Q9 : wr.cell? ⟨sK, 1, none⟩ = some (.int .i64 aK) := (af jC.out 1).trans rfl
       have Q_ : wr.cell? ⟨sK, 2, none⟩ = some (.int .i64 aI) := (af jC.out 2).trans rfl
       have Rf : wr.cell? ⟨sK, 3, none⟩ = some (.int .i64 aJ) := (af jC.out 3).trans rfl
       have ajd : wr.cell? ⟨sK, 4, none⟩ = some (.int .i64 bH) := (af jC.out 4).trans rfl
       have aje : wr.cell? ⟨sK, 5, none⟩ = some (.int .i64 bI) := (af jC.out 5).trans rfl
       have ajf : wr.cell? ⟨sK, 6, none⟩ = some (.slice dW aT.length dX) := (af jC.out 6).trans rfl
       have Rl := ah jC.out 0
       have Rn := ah jC.out 1
       have Ro := ah jC.out 2
       have Rq := ah jC.out 3
       have ajv := ah jC.out 4
       have ajw := ah jC.out 5
       have ajx := ah jC.out 6
       have YK : 0 ≤ (eX : Int) := of_decide_eq_true (by (with_reducible assumption))
       have YP : eX < (aT.length : Int) := of_decide_eq_true (by (with_reducible assumption))
       obtain ⟨alV, ac5, aec, aiB, KH, KI, KJ, KN, KO, KP, KQ, Rz, Ry⟩ := uC SQ.out eX YK YP
       cases aiB
       replace KH := (HB.out.cell (World.block_lt_of_cell? w _ KH)).trans KH
       replace KI := (HB.out.cell (World.block_lt_of_cell? w _ KI)).trans KI
       replace KJ := (HB.out.cell (World.block_lt_of_cell? w _ KJ)).trans KJ
       replace KN := (HB.out.cell (World.block_lt_of_cell? w _ KN)).trans KN
       replace KO := (HB.out.cell (World.block_lt_of_cell? w _ KO)).trans KO
       replace KP := (HB.out.cell (World.block_lt_of_cell? w _ KP)).trans KP
       replace KQ := (HB.out.cell (World.block_lt_of_cell? w _ KQ)).trans KQ
       have aal := ae.mk Ry
       have aak := ae.mk Rz
       clear Ry Rz
       replace YK := eq_true YK
       replace YP := eq_true YP
       go_wp2_with (((with_reducible refine mD (f := 124) rfl ?_); refine oN (some 24) rfl rfl Try.func124 (by kernel_rfl) rfl #[.agg #[.int .u8 ((aA aT eX).f0), .int .i64 ((aA aT eX).f1.f0), .int .i64 ((aA aT eX).f1.f1), .int .i64 ((aA aT eX).f1.f2), .int .i64 ((aA aT eX).f1.f3), .int .i64 ((aA aT eX).f2), .slice ac5 ((aA aT eX).f3).length aec], .int .i64 a1] rfl (by (try simp only [List.map_toArray, List.map_cons, List.map_nil]); rfl) ?_; (with_reducible refine (ih k1 (by have := pz.out; omega) ((aA aT eX).f0) ((aA aT eX).f1.f0) ((aA aT eX).f1.f1) ((aA aT eX).f1.f2) ((aA aT eX).f1.f3) ((aA aT eX).f2) _ _ ((aA aT eX).f3) a1 t103 _ ?vK ?Be A9.out).mono ?_); (case vK => repeat (exact (Kd.iE aal.out HB.out))); (case Be => exact aak.out); rintro e CZ ⟨rfl, hb⟩; refine ⟨_, rfl, ?_⟩; replace jC := ae.mk (aQ jC.out hb); replace HB := ae.mk (au (by repeat ((with_reducible exact HB.out))) hb); (try clear hb)))
       go_roundg k1
       case measure => have := pz.out; omega
       case rel => exact ⟨(wrap64 (ng + t103)), (wrap64 (eX + 1)), (by rfl), (by rfl), H', ⟨by have := pz.out; omega⟩, ⟨by exact jC.out⟩, ⟨by repeat ((with_reducible exact HB.out))⟩⟩
      ·rw [if_neg c8] at H
       exact absurd H (by simp)
     ·rw [if_neg c7] at H
      exact absurd H (by simp)
   ·rw [if_neg c5] at H
    have J6 : decide (eX < (aT.length : Int)) = false := decide_eq_false c5
    clear c5
    obtain rfl := Option.some.inj H
    go_wp2
    go_ret
    exact ⟨by rfl, by repeat ((with_reducible exact HB.out))⟩
def kL.f (k : Nat) (az : Int) (aK : Int) (aI : Int) (aJ : Int) (bH : Int) (bI : Int) (aT : List (ai)) : Option (Bool) := (dK.f k az aK aI aJ bH bI aT 200).bind fun t105 => (some (decide (t105 > 200)))
theorem kL.calls (k : Nat) (az : Int) (aK : Int) (aI : Int) (aJ : Int) (bH : Int) (bI : Int) (dW : Option Addr) (dX : Nat) (aT : List (ai)) (r : Bool) (w : World) (qR : Kd.C k26 w dW aT.length aT) (sO : aT.length ≤ dX) (h : kL.f k az aK aI aJ bH bI aT = some r) :
  Calls Try.prog 34 #[.agg #[.int .u8 az, .int .i64 aK, .int .i64 aI, .int .i64 aJ, .int .i64 bH, .int .i64 bI, .slice dW aT.length dX]] w fun e w' => e = .returned (.bool r) ∧ Below w.heap.size w w' := by
 have KG := Try.underlying26
 have SQ := ae.mk qR
 have agr := ae.mk sO
 clear qR sO
 have HB := ae.mk (Below.refl w.heap.size w)
 have H : ((dK.f k az aK aI aJ bH bI aT 200).bind fun t105 => (some (decide (t105 > 200)))) = some r := h
 clear h
 replace H := Option.bind_eq_some_iff.mp H
 obtain ⟨t105, Ut, H⟩ := H
 replace H : (some (decide (t105 > 200))) = some r := H
 have A2 := ae.mk Ut
 clear Ut
 obtain rfl := Option.some.inj H
 go_enter Try.func34, Try.ntmps34
 go_wp2_with (first | ((with_reducible refine aG (N := 1) rfl ?_); refine aU ?hg (N := 1) ?hd (cs := #[.int .u8 az, .int .i64 aK, .int .i64 aI, .int .i64 aJ, .int .i64 bH, .int .i64 bI, .slice dW aT.length dX]) (t := 26) ?hr ?_; (case hd => rfl); (case hg => rfl); (case hr => (go_simp; done)); intro D8 hg w3 hbox hb; have qP := ae.mk (hbox); replace HB := ae.mk (au (by repeat ((with_reducible exact HB.out))) hb); clear hb hbox hg; have PD : w3.cell? ⟨D8, 0, none⟩ = some (.int .u8 az) := (af qP.out 0).trans rfl; have PE : w3.cell? ⟨D8, 1, none⟩ = some (.int .i64 aK) := (af qP.out 1).trans rfl; have PG : w3.cell? ⟨D8, 2, none⟩ = some (.int .i64 aI) := (af qP.out 2).trans rfl; have PH : w3.cell? ⟨D8, 3, none⟩ = some (.int .i64 aJ) := (af qP.out 3).trans rfl; have Vr : w3.cell? ⟨D8, 4, none⟩ = some (.int .i64 bH) := (af qP.out 4).trans rfl; have Vs : w3.cell? ⟨D8, 5, none⟩ = some (.int .i64 bI) := (af qP.out 5).trans rfl; have Vt : w3.cell? ⟨D8, 6, none⟩ = some (.slice dW aT.length dX) := (af qP.out 6).trans rfl; have PL := ah qP.out 0; have PM := ah qP.out 1; have PN := ah qP.out 2; have PO := ah qP.out 3; have VK := ah qP.out 4; have VL := ah qP.out 5; have VM := ah qP.out 6) | ((with_reducible refine mD (f := 124) rfl ?_); refine oN (some 4) rfl rfl Try.func124 (by kernel_rfl) rfl #[.agg #[.int .u8 az, .int .i64 aK, .int .i64 aI, .int .i64 aJ, .int .i64 bH, .int .i64 bI, .slice dW aT.length dX], .int .i64 200] rfl (by (try simp only [List.map_toArray, List.map_cons, List.map_nil]); rfl) ?_; (with_reducible refine (dK.calls k az aK aI aJ bH bI _ _ aT 200 t105 _ ?vK ?Be A2.out).mono ?_); (case vK => repeat (exact (Kd.iE SQ.out HB.out))); (case Be => exact agr.out); rintro e w5 ⟨rfl, hb⟩; refine ⟨_, rfl, ?_⟩; replace qP := ae.mk (aQ qP.out hb); replace HB := ae.mk (au (by repeat ((with_reducible exact HB.out))) hb); (try clear hb)))
 go_ret
 exact ⟨by rfl, by repeat ((with_reducible exact HB.out))⟩
mutual
def dN.l0 : Nat → List (ai) → Int → Int → Int → Int → Int → Int → Int → Int → List (ai) → Option ((List (ai)))
 | 0, _, _, _, _, _, _, _, _, _, _ => none
 | k + 1, x3, x9, x10, acU, acV, acW, acX, acY, acZ, vO => if x10 < x9 then (if 0 ≤ x10 then (if x10 < (vO.length : Int) then ((dN.f k ((aA vO x10).f0) ((aA vO x10).f1.f0) ((aA vO x10).f1.f1) ((aA vO x10).f1.f2) ((aA vO x10).f1.f3) ((aA vO x10).f2) ((aA vO x10).f3)).bind fun t136 => (if x3.length + t136.length < 1954687338268 then (dN.l0 k (x3 ++ t136) x9 (wrap64 (x10 + 1)) acU acV acW acX acY acZ vO) else (none))) else (none)) else (none)) else (some x3)
def dN.f : Nat → Int → Int → Int → Int → Int → Int → List (ai) → Option ((List (ai)))
 | 0, _, _, _, _, _, _, _ => none
 | k + 1, az, aK, aI, aJ, bH, bI, aT => dN.l0 k (([(⟨az, (⟨aK, aI, aJ, bH⟩ : dO), bI, aT⟩ : ai)] : List (ai))) (aT.length : Int) 0 az aK aI aJ bH bI aT
end
theorem dN.calls (k : Nat) : ∀ (az : Int) (aK : Int) (aI : Int) (aJ : Int) (bH : Int) (bI : Int) (gI : Nat → Prop) (dW : Option Addr) (dX : Nat) (aT : List (ai)) (r : List (ai)) (w : World) (GK : Kd.V k26 26 w w.heap.size (fun k_ => gI k_) (.slice dW aT.length dX) aT) (h : dN.f k az aK aI aJ bH bI aT = some r),
  Calls Try.prog 79 #[.agg #[.int .u8 az, .int .i64 aK, .int .i64 aI, .int .i64 aJ, .int .i64 bH, .int .i64 bI, .slice dW aT.length dX]] w fun e w' => ∃ vk : Value, e = .returned (vk) ∧ Kd.N k26 26 w' w.heap.size (fun k_ => (gI k_ ∨ w.heap.size ≤ k_)) vk r ∧ Below w.heap.size w w' := by
 induction k using Nat.strongRecOn with
 | _ k ih =>
 intro az aK aI aJ bH bI gI dW dX aT r w GK h
 cases k with
 | zero => exact absurd h (by simp [dN.f])
 | succ k =>
 simp only [dN.f] at h
 have KG := Try.underlying26
 have jU := ae.mk (show Kd.V k26 26 w w.heap.size (fun k_ => (gI k_ ∨ w.heap.size ≤ k_)) (.slice dW aT.length dX) aT from Kd.iq GK (fun k_ hk => .inl hk))
 have HB := ae.mk (Below.refl w.heap.size w)
 have H : (dN.l0 k (([(⟨az, (⟨aK, aI, aJ, bH⟩ : dO), bI, aT⟩ : ai)] : List (ai))) (aT.length : Int) 0 az aK aI aJ bH bI aT) = some r := h
 clear h
 obtain ⟨agj, TG⟩ : ∃ y_ : List (ai), y_ = (([(⟨az, (⟨aK, aI, aJ, bH⟩ : dO), bI, aT⟩ : ai)] : List (ai))) := ⟨_, rfl⟩
 replace H : (dN.l0 k agj (aT.length : Int) 0 az aK aI aJ bH bI aT) = some r := by (rw [TG]; with_reducible exact H)
 have agA := ae.mk TG
 clear TG
 have H' := ae.mk H
 clear H
 go_enter Try.func79, Try.ntmps79
 go_wp2_with (first | ((with_reducible refine aG (N := 1) rfl ?_); refine aU ?hg (N := 1) ?hd (cs := #[.int .u8 az, .int .i64 aK, .int .i64 aI, .int .i64 aJ, .int .i64 bH, .int .i64 bI, .slice dW aT.length dX]) (t := 26) ?hr ?_; (case hd => rfl); (case hg => rfl); (case hr => (go_simp; done)); intro jc hg w2 hbox hb; have fF := ae.mk (hbox); replace jU := ae.mk (Kd.jT (Kd.pG jU.out jc (Nat.le_of_eq hg.symm)) hb); replace HB := ae.mk (au (by repeat ((with_reducible exact HB.out))) hb); clear hb hbox hg; have aeW : w2.cell? ⟨jc, 0, none⟩ = some (.int .u8 az) := (af fF.out 0).trans rfl; have aeX : w2.cell? ⟨jc, 1, none⟩ = some (.int .i64 aK) := (af fF.out 1).trans rfl; have aeY : w2.cell? ⟨jc, 2, none⟩ = some (.int .i64 aI) := (af fF.out 2).trans rfl; have aeZ : w2.cell? ⟨jc, 3, none⟩ = some (.int .i64 aJ) := (af fF.out 3).trans rfl; have ae0 : w2.cell? ⟨jc, 4, none⟩ = some (.int .i64 bH) := (af fF.out 4).trans rfl; have ae1 : w2.cell? ⟨jc, 5, none⟩ = some (.int .i64 bI) := (af fF.out 5).trans rfl; have ae2 : w2.cell? ⟨jc, 6, none⟩ = some (.slice dW aT.length dX) := (af fF.out 6).trans rfl; have ae' := ah fF.out 0; have afa := ah fF.out 1; have afb := ah fF.out 2; have afc := ah fF.out 3; have afd := ah fF.out 4; have afe := ah fF.out 5; have aff := ah fF.out 6) | ((with_reducible refine aG (N := 6) rfl ?_); refine Kd.yV k26 _ 26 ?hg (N' := 6) ?hd (xs := ([(⟨az, (⟨aK, aI, aJ, bH⟩ : dO), bI, aT⟩ : ai)] : List (ai))) (inner := [.int .u8 az, .int .i64 aK, .int .i64 aI, .int .i64 aJ, .int .i64 bH, .int .i64 bI, .slice dW aT.length dX]) (ok := (fun k_ => (gI k_ ∨ w.heap.size ≤ k_) ∧ k_ ≠ jc)) (gU := (fun k_ => (gI k_ ∨ w.heap.size ≤ k_) ∧ k_ ≠ jc)) ?hr ?hp (fun _ hk => hk) ((show ∀ k_, w2.heap.size ≤ k_ → (fun k_ => (gI k_ ∨ w.heap.size ≤ k_) ∧ k_ ≠ jc) k_ from fun k_ hk => ⟨(.inr (Nat.le_trans (fB (by repeat ((with_reducible exact HB.out)))) hk)), Kd.BK fF.out k_ hk⟩) _ (Nat.le_refl _)) (Below.refl _ _) (Nat.le_refl _) (by simp) ?_; (case hd => rfl); (case hg => rfl); (case hr => (go_simp; done)); (case hp => exact (dm.c7 (show Kd.FK k26 _ _ (⟨az, (⟨aK, aI, aJ, bH⟩ : dO), bI, aT⟩ : ai) [.int .u8 az, .int .i64 aK, .int .i64 aI, .int .i64 aJ, .int .i64 bH, .int .i64 bI, .slice dW aT.length dX] from (o_ _ _ (⟨az, (⟨aK, aI, aJ, bH⟩ : dO), bI, aT⟩ : ai) (Kd.kQ (Kd.iq (ok' := (fun k_ => (gI k_ ∨ w.heap.size ≤ k_) ∧ k_ ≠ jc)) (jU.out) (fun k_ hk => ⟨hk.1, hk.2⟩))).2.1 (Kd.QQ (Kd.iq (ok' := (fun k_ => (gI k_ ∨ w.heap.size ≤ k_) ∧ k_ ≠ jc)) (jU.out) (fun k_ hk => ⟨hk.1, hk.2⟩))))) (dm.none _ _))); intro amD w4 Jt hb pJ kD; clear pJ kD; (rw [← agA.out] at Jt); have ags := ae.mk (Kd.xE Jt (fB (by repeat ((with_reducible exact HB.out))))); replace jU := ae.mk (Kd.yG jU.out (Kd.wC Jt) hb); replace fF := ae.mk (aQ fF.out hb); replace HB := ae.mk (au (by repeat ((with_reducible exact HB.out))) hb); clear hb Jt; have Fb : w4.cell? ⟨jc, 0, none⟩ = some (.int .u8 az) := (af fF.out 0).trans rfl; have Fe : w4.cell? ⟨jc, 1, none⟩ = some (.int .i64 aK) := (af fF.out 1).trans rfl; have Ff : w4.cell? ⟨jc, 2, none⟩ = some (.int .i64 aI) := (af fF.out 2).trans rfl; have Fg : w4.cell? ⟨jc, 3, none⟩ = some (.int .i64 aJ) := (af fF.out 3).trans rfl; have Fh : w4.cell? ⟨jc, 4, none⟩ = some (.int .i64 bH) := (af fF.out 4).trans rfl; have Fj : w4.cell? ⟨jc, 5, none⟩ = some (.int .i64 bI) := (af fF.out 5).trans rfl; have Fp : w4.cell? ⟨jc, 6, none⟩ = some (.slice dW aT.length dX) := (af fF.out 6).trans rfl; have Fv := ah fF.out 0; have Fz := ah fF.out 1; have FB := ah fF.out 2; have FC := ah fF.out 3; have FD := ah fF.out 4; have FH := ah fF.out 5; have FI := ah fF.out 6))
 go_loopg [3, 10] k (fun kq v3 v10 w' => ∃ (vY : List (ai)) (eX : Int), v10 = .int .i64 eX ∧ ae (dN.l0 kq vY (aT.length : Int) eX az aK aI aJ bH bI aT = some r) ∧ ae (kq ≤ k) ∧ ae (Kd.N k26 26 w' w.heap.size (fun k_ => (gI k_ ∨ w.heap.size ≤ k_) ∧ k_ ≠ jc) v3 vY) ∧ ae (Kd.V k26 26 w' w.heap.size (fun k_ => (gI k_ ∨ w.heap.size ≤ k_) ∧ some k_ ≠ (v3 : Value).ownBlock ∧ k_ ≠ jc) (.slice dW aT.length dX) aT) ∧ ae (w'.heap[jc]? = some (.cells #[.int .u8 az, .int .i64 aK, .int .i64 aI, .int .i64 aJ, .int .i64 bH, .int .i64 bI, (.slice dW aT.length dX)] 26 (0, 0))) ∧ ae (Below w.heap.size w w'))
 case atStart => exact ⟨(agj), (0), (by rfl), H', ⟨Nat.le_refl _⟩, ⟨by exact ags.out⟩, ⟨by exact Kd.iq jU.out (fun _ hk => ⟨hk.1.1, ⟨hk.2, hk.1.2⟩⟩)⟩, ⟨by exact fF.out⟩, ⟨by repeat ((with_reducible exact HB.out))⟩⟩
 case round =>
  clear H'
  clear aeW aeX aeY aeZ ae0 ae1 ae2 Fb Fe Ff Fg Fh Fj Fp ae' afa afb afc afd afe aff Fv Fz FB FC FD FH FI
  obtain ⟨vY, eX, rfl, HA, pz, yF, uA, fF, HB⟩ := hrel
  cases gk with
  | zero => exact absurd HA.out (by simp [dN.l0])
  | succ k1 =>
   have H := HA.out
   clear HA
   simp only [dN.l0] at H
   by_cases c7 : eX < (aT.length : Int)
   ·rw [if_pos c7] at H
    have yL : decide (eX < (aT.length : Int)) = true := decide_eq_true c7
    clear c7
    by_cases c8 : 0 ≤ eX
    ·rw [if_pos c8] at H
     have EX : decide (0 ≤ eX) = true := decide_eq_true c8
     clear c8
     by_cases c9 : eX < (aT.length : Int)
     ·rw [if_pos c9] at H
      have OQ : decide (eX < (aT.length : Int)) = true := decide_eq_true c9
      clear c9
      replace H := Option.bind_eq_some_iff.mp H
      obtain ⟨t136, ac4, H⟩ := H
      replace H : (if vY.length + t136.length < 1954687338268 then (dN.l0 k1 (vY ++ t136) (aT.length : Int) (wrap64 (eX + 1)) az aK aI aJ bH bI aT) else (none)) = some r := H
      have A10 := ae.mk ac4
      clear ac4
      by_cases c11 : vY.length + t136.length < 1954687338268
      ·rw [if_pos c11] at H
       have agy := ae.mk c11
       clear c11
       obtain ⟨agk, TI⟩ : ∃ y_ : List (ai), y_ = (vY ++ t136) := ⟨_, rfl⟩
       replace H : (dN.l0 k1 agk (aT.length : Int) (wrap64 (eX + 1)) az aK aI aJ bH bI aT) = some r := by (rw [TI]; with_reducible exact H)
       have agB := ae.mk TI
       clear TI
       have H' := ae.mk H
       clear H
       have aaP : wr.cell? ⟨jc, 0, none⟩ = some (.int .u8 az) := (af fF.out 0).trans rfl
       have aaQ : wr.cell? ⟨jc, 1, none⟩ = some (.int .i64 aK) := (af fF.out 1).trans rfl
       have aaR : wr.cell? ⟨jc, 2, none⟩ = some (.int .i64 aI) := (af fF.out 2).trans rfl
       have aaS : wr.cell? ⟨jc, 3, none⟩ = some (.int .i64 aJ) := (af fF.out 3).trans rfl
       have ajg : wr.cell? ⟨jc, 4, none⟩ = some (.int .i64 bH) := (af fF.out 4).trans rfl
       have ajh : wr.cell? ⟨jc, 5, none⟩ = some (.int .i64 bI) := (af fF.out 5).trans rfl
       have aji : wr.cell? ⟨jc, 6, none⟩ = some (.slice dW aT.length dX) := (af fF.out 6).trans rfl
       have abr := ah fF.out 0
       have abt := ah fF.out 1
       have abu := ah fF.out 2
       have abv := ah fF.out 3
       have ajy := ah fF.out 4
       have ajz := ah fF.out 5
       have ajA := ah fF.out 6
       have TT : 0 ≤ (eX : Int) := of_decide_eq_true (by (with_reducible assumption))
       have TW : eX < (aT.length : Int) := of_decide_eq_true (by (with_reducible assumption))
       obtain ⟨alW, ac6, aed, aiC, ajN, ajO, ajP, ajQ, ajR, ajS, ab2, abZ, abX⟩ := uC (Kd.kQ uA.out).2.2 eX TT TW
       cases aiC
       obtain ⟨al1, aeU, aeR, Vp⟩ := Kd.agL uA.out z26 eX TT TW
       obtain ⟨aj0, aj2, rfl, Lr, J_⟩ := o5 aeR
       have GL := Vp 6 _ rfl
       rw [lC _ _ 6 (by omega)] at GL
       replace GL := Option.some.inj (GL.symm.trans ab2)
       injection GL with BN IB BO
       rw [BN] at J_
       rw [BO] at Lr
       have Dj := ae.mk (show Kd.V k26 26 _ w.heap.size _ _ ((aA aT eX).f3) from Kd.x_ Lr J_)
       clear BN IB BO J_ Lr
       clear Vp aeU
       clear abX abZ
       replace TT := eq_true TT
       replace TW := eq_true TW
       go_wp2_with (first | ((with_reducible refine mD (f := 79) rfl ?_); refine oN (some 19) rfl rfl Try.func79 (by kernel_rfl) rfl #[.agg #[.int .u8 ((aA aT eX).f0), .int .i64 ((aA aT eX).f1.f0), .int .i64 ((aA aT eX).f1.f1), .int .i64 ((aA aT eX).f1.f2), .int .i64 ((aA aT eX).f1.f3), .int .i64 ((aA aT eX).f2), .slice ac6 ((aA aT eX).f3).length aed]] rfl (by (try simp only [List.map_toArray, List.map_cons, List.map_nil]); rfl) ?_; (with_reducible refine (ih k1 (by have := pz.out; omega) ((aA aT eX).f0) ((aA aT eX).f1.f0) ((aA aT eX).f1.f1) ((aA aT eX).f1.f2) ((aA aT eX).f1.f3) ((aA aT eX).f2) (fun k_ => ((gI k_ ∨ w.heap.size ≤ k_) ∧ (some k_ ≠ (u3 : Value).ownBlock ∧ k_ ≠ jc))) _ _ ((aA aT eX).f3) t136 _ ?vK A10.out).mono ?_); (case vK => exact Dj.out); rintro e vT ⟨amE, rfl, ho0, hb⟩; refine ⟨_, rfl, ?_⟩; have Nw := ae.mk (Kd.xE (Kd.jq (ok' := fun k_ => (gI k_ ∨ w.heap.size ≤ k_) ∧ some k_ ≠ (u3 : Value).ownBlock ∧ k_ ≠ jc) ho0 (fun k_ PR => ⟨Or.elim PR (fun hs_ => hs_.1) (fun FM => (.inr (Nat.le_trans (fB (by repeat ((with_reducible exact HB.out)))) FM))), Or.elim PR (fun hs_ => hs_.2.1) (fun FM => (Kd.fresh' (Kd.EP yF.out) k_ FM)), Or.elim PR (fun hs_ => hs_.2.2) (fun FM => (Kd.BK fF.out k_ FM))⟩)) (fB (by repeat ((with_reducible exact HB.out))))); replace yF := ae.mk (Kd.Oj yF.out (Kd.wC ho0) hb); replace uA := ae.mk (Kd.yG uA.out (Kd.wC ho0) hb); replace Dj := ae.mk (Kd.yG Dj.out (Kd.wC ho0) hb); replace fF := ae.mk (aQ fF.out hb); replace HB := ae.mk (au (by repeat ((with_reducible exact HB.out))) hb); (try clear hb); (try clear ho0); obtain ⟨SC, Tm, X9⟩ := Kd.jG Nw.out; subst X9) | ((with_reducible refine yj (b := .append) (xs := #[.tmp 13, .tmp 19]) rfl ?_); at_builtin; refine Kd.zZ k26 (w0 := w) w.heap.size rfl (.tmp 13) (.tmp 19) 24 26 (.agg #[(.int .u8 0), (.int .i64 0), (.int .i64 0), (.int .i64 0), (.int .i64 0), (.int .i64 0), (.slice none 0 0)]) 72 rfl Try.underlying24 info26 rfl (by decide) (by omega) u3 vY t136 _ _ _ (fun k_ => (gI k_ ∨ w.heap.size ≤ k_) ∧ k_ ≠ jc) (fun k_ => ((fun k_ => (gI k_ ∨ w.heap.size ≤ k_) ∧ k_ ≠ jc)) k_ ∧ some k_ ≠ (u3 : Value).ownBlock) rfl rfl ?aO ?aR (fun _ hk => hk) ?aF ?aB ?aS ?aL ?_; (case aR => exact (by exact Kd.Zk (Kd.jq (ok' := (fun k_ => ((fun k_ => (gI k_ ∨ w.heap.size ≤ k_) ∧ k_ ≠ jc)) k_ ∧ some k_ ≠ (u3 : Value).ownBlock)) (Nw.out) (fun k_ hk => ⟨⟨hk.1, hk.2.2⟩, hk.2.1⟩)))); (case aB => exact (by repeat ((with_reducible exact HB.out)))); (case aF => exact (fun k_ hk => ⟨(.inr (Nat.le_trans (fB (by repeat ((with_reducible exact HB.out)))) hk)), Kd.BK fF.out k_ hk⟩)); (case aO => exact (by exact Kd.jq yF.out (fun _ hk => ⟨hk.1.1, hk.1.2⟩))); (case aS => exact (fB (by repeat ((with_reducible exact HB.out))))); (case aL => have := agy.out; omega); intro amF w14 ho hb hg hat; rw [← agB.out] at ho; have agt := ae.mk (ho); replace uA := ae.mk (Kd.DU (ok := (fun k_ => (gI k_ ∨ w.heap.size ≤ k_) ∧ some k_ ≠ (.slice SC t136.length Tm : Value).ownBlock ∧ k_ ≠ jc)) (by exact Kd.iq uA.out (fun _ hk => ⟨⟨hk.1.1, ⟨hk.2, hk.1.2.2⟩⟩, hk.1.2.1⟩)) hg hat); replace fF := ae.mk (dG fF.out hg (Kd.UM yF.out (fun _ hk => hk.1.2))); replace Dj := ae.mk (Kd.DU (ok := (fun k_ => (gI k_ ∨ w.heap.size ≤ k_) ∧ some k_ ≠ (.slice SC t136.length Tm : Value).ownBlock ∧ k_ ≠ jc)) (by exact Kd.iq Dj.out (fun _ hk => ⟨⟨hk.1.1, ⟨hk.2, hk.1.2.2⟩⟩, hk.1.2.1⟩)) hg hat); replace Nw := ae.mk (Kd.Oh (ok := (fun k_ => (gI k_ ∨ w.heap.size ≤ k_) ∧ k_ ≠ jc)) (by exact Kd.jq Nw.out (fun _ hk => ⟨⟨hk.1, hk.2.2⟩, hk.2.1⟩)) hg hat); replace HB := ae.mk (hb); clear yF; clear ho hb hg hat))
       go_roundg k1
       case measure => have := pz.out; omega
       case rel => exact ⟨(agk), (wrap64 (eX + 1)), (by rfl), H', ⟨by have := pz.out; omega⟩, ⟨by exact agt.out⟩, ⟨by exact Kd.iq uA.out (fun _ hk => ⟨hk.1.1, ⟨hk.2, hk.1.2.2⟩⟩)⟩, ⟨by exact fF.out⟩, ⟨by repeat ((with_reducible exact HB.out))⟩⟩
      ·rw [if_neg c11] at H
       exact absurd H (by simp)
     ·rw [if_neg c9] at H
      exact absurd H (by simp)
    ·rw [if_neg c8] at H
     exact absurd H (by simp)
   ·rw [if_neg c7] at H
    have yL : decide (eX < (aT.length : Int)) = false := decide_eq_false c7
    clear c7
    obtain rfl := Option.some.inj H
    go_wp2
    go_ret
    exact ⟨_, by rfl, by exact Kd.jq yF.out (fun _ hk => hk.1), by repeat ((with_reducible exact HB.out))⟩
def eU.l0 : Nat → List (ai) → List (ai) → Int → Int → Option ((List (ai)))
 | 0, _, _, _, _ => none
 | k + 1, x3, x4, x10, x11 => if x11 < x10 then (if 0 ≤ x11 then (if x11 < (x4.length : Int) then (if ((aA x4 x11).f0) = 1 then (if x3.length < 1954687338268 then (eU.l0 k (x3 ++ [(⟨(aA x4 x11).f0, (⟨(aA x4 x11).f1.f0, (aA x4 x11).f1.f1, (aA x4 x11).f1.f2, (aA x4 x11).f1.f3⟩ : dO), (aA x4 x11).f2, (aA x4 x11).f3⟩ : ai)]) x4 x10 (wrap64 (x11 + 1))) else (none)) else (eU.l0 k x3 x4 x10 (wrap64 (x11 + 1)))) else (none)) else (none)) else (some x3)
def eU.f (k : Nat) (az : Int) (aK : Int) (aI : Int) (aJ : Int) (bH : Int) (bI : Int) (aT : List (ai)) : Option ((List (ai))) := (dN.f k az aK aI aJ bH bI aT).bind fun t146 => (eU.l0 k (([] : List (ai))) t146 (t146.length : Int) 0)
theorem eU.calls (k : Nat) (az : Int) (aK : Int) (aI : Int) (aJ : Int) (bH : Int) (bI : Int) (gI : Nat → Prop) (dW : Option Addr) (dX : Nat) (aT : List (ai)) (r : List (ai)) (w : World) (GK : Kd.V k26 26 w w.heap.size (fun k_ => gI k_) (.slice dW aT.length dX) aT) (h : eU.f k az aK aI aJ bH bI aT = some r) :
  Calls Try.prog 126 #[.agg #[.int .u8 az, .int .i64 aK, .int .i64 aI, .int .i64 aJ, .int .i64 bH, .int .i64 bI, .slice dW aT.length dX]] w fun e w' => ∃ vk : Value, e = .returned (vk) ∧ Kd.N k26 26 w' w.heap.size (fun k_ => (gI k_ ∨ w.heap.size ≤ k_)) vk r ∧ Below w.heap.size w w' := by
 have KG := Try.underlying26
 have jU := ae.mk (show Kd.V k26 26 w w.heap.size (fun k_ => (gI k_ ∨ w.heap.size ≤ k_)) (.slice dW aT.length dX) aT from Kd.iq GK (fun k_ hk => .inl hk))
 have HB := ae.mk (Below.refl w.heap.size w)
 have H : ((dN.f k az aK aI aJ bH bI aT).bind fun t146 => (eU.l0 k (([] : List (ai))) t146 (t146.length : Int) 0)) = some r := h
 clear h
 obtain ⟨Y_, TJ⟩ : ∃ y_ : List (ai), y_ = (([] : List (ai))) := ⟨_, rfl⟩
 replace H : ((dN.f k az aK aI aJ bH bI aT).bind fun t146 => (eU.l0 k Y_ t146 (t146.length : Int) 0)) = some r := by (rw [TJ]; with_reducible exact H)
 have agC := ae.mk TJ
 clear TJ
 replace H := Option.bind_eq_some_iff.mp H
 obtain ⟨t146, Ut, H⟩ := H
 replace H : (eU.l0 k Y_ t146 (t146.length : Int) 0) = some r := H
 have A2 := ae.mk Ut
 clear Ut
 have H' := ae.mk H
 clear H
 go_enter Try.func126, Try.ntmps126
 go_wp2_with (first | ((with_reducible refine aG (N := 1) rfl ?_); refine aU ?hg (N := 1) ?hd (cs := #[.int .u8 az, .int .i64 aK, .int .i64 aI, .int .i64 aJ, .int .i64 bH, .int .i64 bI, .slice dW aT.length dX]) (t := 26) ?hr ?_; (case hd => rfl); (case hg => rfl); (case hr => (go_simp; done)); intro mg hg w3 hbox hb; have kT := ae.mk (hbox); replace jU := ae.mk (Kd.jT (Kd.pG jU.out mg (Nat.le_of_eq hg.symm)) hb); replace HB := ae.mk (au (by repeat ((with_reducible exact HB.out))) hb); clear hb hbox hg) | ((with_reducible refine aG (N := 6) rfl ?_); refine Kd.yV k26 _ 26 ?hg (N' := 6) ?hd (xs := ([] : List (ai))) (inner := []) (ok := (fun k_ => (gI k_ ∨ w.heap.size ≤ k_) ∧ k_ ≠ mg)) (gU := (fun k_ => (gI k_ ∨ w.heap.size ≤ k_) ∧ k_ ≠ mg)) ?hr ?hp (fun _ hk => hk) ((show ∀ k_, w3.heap.size ≤ k_ → (fun k_ => (gI k_ ∨ w.heap.size ≤ k_) ∧ k_ ≠ mg) k_ from fun k_ hk => ⟨(.inr (Nat.le_trans (fB (by repeat ((with_reducible exact HB.out)))) hk)), Kd.BK kT.out k_ hk⟩) _ (Nat.le_refl _)) (Below.refl _ _) (Nat.le_refl _) (by simp) ?_; (case hd => rfl); (case hg => rfl); (case hr => (go_simp; done)); (case hp => exact (dm.none _ _)); intro agc w4 Jt hb pJ kD; clear pJ kD; (rw [← agC.out] at Jt); have Ny := ae.mk (Kd.xE Jt (fB (by repeat ((with_reducible exact HB.out))))); replace jU := ae.mk (Kd.yG jU.out (Kd.wC Jt) hb); replace kT := ae.mk (aQ kT.out hb); replace HB := ae.mk (au (by repeat ((with_reducible exact HB.out))) hb); clear hb Jt; have Fb : w4.cell? ⟨mg, 0, none⟩ = some (.int .u8 az) := (af kT.out 0).trans rfl; have Fe : w4.cell? ⟨mg, 1, none⟩ = some (.int .i64 aK) := (af kT.out 1).trans rfl; have Ff : w4.cell? ⟨mg, 2, none⟩ = some (.int .i64 aI) := (af kT.out 2).trans rfl; have Fg : w4.cell? ⟨mg, 3, none⟩ = some (.int .i64 aJ) := (af kT.out 3).trans rfl; have Fh : w4.cell? ⟨mg, 4, none⟩ = some (.int .i64 bH) := (af kT.out 4).trans rfl; have Fj : w4.cell? ⟨mg, 5, none⟩ = some (.int .i64 bI) := (af kT.out 5).trans rfl; have Fp : w4.cell? ⟨mg, 6, none⟩ = some (.slice dW aT.length dX) := (af kT.out 6).trans rfl; have Fv := ah kT.out 0; have Fz := ah kT.out 1; have FB := ah kT.out 2; have FC := ah kT.out 3; have FD := ah kT.out 4; have FH := ah kT.out 5; have FI := ah kT.out 6) | ((with_reducible refine mD (f := 79) rfl ?_); refine oN (some 8) rfl rfl Try.func79 (by kernel_rfl) rfl #[.agg #[.int .u8 az, .int .i64 aK, .int .i64 aI, .int .i64 aJ, .int .i64 bH, .int .i64 bI, .slice dW aT.length dX]] rfl (by (try simp only [List.map_toArray, List.map_cons, List.map_nil]); rfl) ?_; (with_reducible refine (dN.calls k az aK aI aJ bH bI (fun k_ => (((gI k_ ∨ w.heap.size ≤ k_) ∧ k_ ≠ mg) ∧ some k_ ≠ (agc : Value).ownBlock)) _ _ aT t146 _ ?vK A2.out).mono ?_); (case vK => exact jU.out); rintro e w7 ⟨amG, rfl, ho0, hb⟩; refine ⟨_, rfl, ?_⟩; have Zg := ae.mk (Kd.xE (Kd.jq (ok' := fun k_ => (gI k_ ∨ w.heap.size ≤ k_) ∧ some k_ ≠ (agc : Value).ownBlock ∧ k_ ≠ mg) ho0 (fun k_ PR => ⟨Or.elim PR (fun hs_ => hs_.1.1) (fun FM => (.inr (Nat.le_trans (fB (by repeat ((with_reducible exact HB.out)))) FM))), Or.elim PR (fun hs_ => hs_.2) (fun FM => (Kd.fresh' (Kd.EP Ny.out) k_ FM)), Or.elim PR (fun hs_ => hs_.1.2) (fun FM => (Kd.BK kT.out k_ FM))⟩)) (fB (by repeat ((with_reducible exact HB.out))))); replace jU := ae.mk (Kd.yG jU.out (Kd.wC ho0) hb); replace Ny := ae.mk (Kd.Oj Ny.out (Kd.wC ho0) hb); replace kT := ae.mk (aQ kT.out hb); replace HB := ae.mk (au (by repeat ((with_reducible exact HB.out))) hb); (try clear hb); (try clear ho0); obtain ⟨Ao8, Jo, eo8⟩ := Kd.jG Zg.out; subst eo8))
 go_loopg [3, 11] k (fun kq v3 v11 w' => ∃ (vY : List (ai)) (bW : Int), v11 = .int .i64 bW ∧ ae (eU.l0 kq vY t146 (t146.length : Int) bW = some r) ∧ ae (kq ≤ k) ∧ ae (Kd.N k26 26 w' w.heap.size (fun k_ => (gI k_ ∨ w.heap.size ≤ k_) ∧ some k_ ≠ ((.slice Ao8 t146.length Jo) : Value).ownBlock ∧ k_ ≠ mg) v3 vY) ∧ ae (Kd.N k26 26 w' w.heap.size (fun k_ => (gI k_ ∨ w.heap.size ≤ k_) ∧ some k_ ≠ (v3 : Value).ownBlock ∧ k_ ≠ mg) (.slice Ao8 t146.length Jo) t146) ∧ ae (Kd.V k26 26 w' w.heap.size (fun k_ => (gI k_ ∨ w.heap.size ≤ k_) ∧ some k_ ≠ (v3 : Value).ownBlock ∧ some k_ ≠ ((.slice Ao8 t146.length Jo) : Value).ownBlock ∧ k_ ≠ mg) (.slice dW aT.length dX) aT) ∧ ae (w'.heap[mg]? = some (.cells #[.int .u8 az, .int .i64 aK, .int .i64 aI, .int .i64 aJ, .int .i64 bH, .int .i64 bI, (.slice dW aT.length dX)] 26 (0, 0))) ∧ ae (Below w.heap.size w w'))
 case atStart => exact ⟨(Y_), (0), (by rfl), H', ⟨Nat.le_refl _⟩, ⟨by exact Kd.jq Ny.out (fun _ hk => ⟨hk.1.1, ⟨hk.2, hk.1.2⟩⟩)⟩, ⟨by exact Zg.out⟩, ⟨by exact Kd.iq jU.out (fun _ hk => ⟨hk.1.1.1, ⟨hk.1.2, ⟨hk.2, hk.1.1.2⟩⟩⟩)⟩, ⟨by exact kT.out⟩, ⟨by repeat ((with_reducible exact HB.out))⟩⟩
 case round =>
  clear H'
  clear Fb Fe Ff Fg Fh Fj Fp Fv Fz FB FC FD FH FI
  obtain ⟨vY, bW, rfl, HA, pz, yF, Bo, Cm, kT, HB⟩ := hrel
  cases gk with
  | zero => exact absurd HA.out (by simp [eU.l0])
  | succ k1 =>
   have H := HA.out
   clear HA
   simp only [eU.l0] at H
   by_cases c9 : bW < (t146.length : Int)
   ·rw [if_pos c9] at H
    have OQ : decide (bW < (t146.length : Int)) = true := decide_eq_true c9
    clear c9
    by_cases c10 : 0 ≤ bW
    ·rw [if_pos c10] at H
     have Tf : decide (0 ≤ bW) = true := decide_eq_true c10
     clear c10
     by_cases c11 : bW < (t146.length : Int)
     ·rw [if_pos c11] at H
      have Ji : decide (bW < (t146.length : Int)) = true := decide_eq_true c11
      clear c11
      by_cases c12 : ((aA t146 bW).f0) = 1
      ·rw [if_pos c12] at H
       have DY : (((aA t146 bW).f0) == 1) = true := beq_iff_eq.mpr c12
       have Jj : (((aA t146 bW).f0) != 1) = false := bne_eq_false_iff_eq.mpr c12
       clear c12
       by_cases c13 : vY.length < 1954687338268
       ·rw [if_pos c13] at H
        have agz := ae.mk c13
        clear c13
        obtain ⟨y151, hy151⟩ : ∃ y_ : List (ai), y_ = (vY ++ [(⟨(aA t146 bW).f0, (⟨(aA t146 bW).f1.f0, (aA t146 bW).f1.f1, (aA t146 bW).f1.f2, (aA t146 bW).f1.f3⟩ : dO), (aA t146 bW).f2, (aA t146 bW).f3⟩ : ai)]) := ⟨_, rfl⟩
        replace H : (eU.l0 k1 y151 t146 (t146.length : Int) (wrap64 (bW + 1))) = some r := by (rw [hy151]; with_reducible exact H)
        have agD := ae.mk hy151
        clear hy151
        have H' := ae.mk H
        clear H
        have Eh : 0 ≤ (bW : Int) := of_decide_eq_true (by (with_reducible assumption))
        have Ej : bW < (t146.length : Int) := of_decide_eq_true (by (with_reducible assumption))
        obtain ⟨CB, Us, U2, X4, ab3, ab4, ab5, ab6, ab7, ab8, GN, KF, KD⟩ := uC (Kd.jF Bo.out).2.2 bW Eh Ej
        cases X4
        obtain ⟨ag6, Pz, Pq, Fa⟩ := Kd.SV Bo.out z26 bW Eh Ej
        obtain ⟨acJ, acK, rfl, DL, Dy⟩ := o5 Pq
        have vF := Fa 6 _ rfl
        rw [lC _ _ 6 (by omega)] at vF
        replace vF := Option.some.inj (vF.symm.trans GN)
        injection vF with BN IB BO
        rw [BN] at Dy
        rw [BO] at DL
        clear BN IB BO Dy DL
        clear Fa Pz
        clear KD KF
        replace Eh := eq_true Eh
        replace Ej := eq_true Ej
        have TU : 0 ≤ (bW : Int) := of_decide_eq_true (by (with_reducible assumption))
        have TY : bW < (t146.length : Int) := of_decide_eq_true (by (with_reducible assumption))
        obtain ⟨agM, aj8, akO, aiD, ajT, ajU, ajV, ajW, ajX, ajY, RD, ab1, abY⟩ := uC (Kd.jF Bo.out).2.2 bW TU TY
        obtain rfl : CB = agM := (by injection aiD)
        obtain ⟨al2, aeV, aeS, Vq⟩ := Kd.SV Bo.out z26 bW TU TY
        obtain ⟨aj1, aj3, rfl, Lt, Ko⟩ := o5 aeS
        have GM := Vq 6 _ rfl
        rw [lC _ _ 6 (by omega)] at GM
        replace GM := Option.some.inj (GM.symm.trans RD)
        injection GM with BN IB BO
        rw [BN] at Ko
        rw [BO] at Lt
        have Gs := ae.mk (show Kd.V k26 26 _ w.heap.size _ _ ((aA t146 bW).f3) from Kd.x_ Lt Ko)
        clear BN IB BO Ko Lt
        clear Vq aeV
        clear abY ab1
        replace TU := eq_true TU
        replace TY := eq_true TY
        have ea_ := Option.some.inj (GN.symm.trans RD)
        injection ea_ with ea_ en_ ec_
        subst ea_
        subst ec_
        clear en_
        go_wp2_with (((with_reducible refine yj (b := .append) (xs := #[.tmp 20, .tmp 25]) rfl ?_); at_builtin; refine Kd.Oi k26 (w0 := w) w.heap.size rfl (.tmp 20) (.tmp 25) 24 26 (.agg #[(.int .u8 0), (.int .i64 0), (.int .i64 0), (.int .i64 0), (.int .i64 0), (.int .i64 0), (.slice none 0 0)]) 72 rfl Try.underlying24 info26 rfl (by decide) (by omega) u3 vY (⟨(aA t146 bW).f0, (⟨(aA t146 bW).f1.f0, (aA t146 bW).f1.f1, (aA t146 bW).f1.f2, (aA t146 bW).f1.f3⟩ : dO), (aA t146 bW).f2, (aA t146 bW).f3⟩ : ai) [.int .u8 ((aA t146 bW).f0), .int .i64 ((aA t146 bW).f1.f0), .int .i64 ((aA t146 bW).f1.f1), .int .i64 ((aA t146 bW).f1.f2), .int .i64 ((aA t146 bW).f1.f3), .int .i64 ((aA t146 bW).f2), .slice Us ((aA t146 bW).f3).length U2] (fun k_ => (gI k_ ∨ w.heap.size ≤ k_) ∧ some k_ ≠ (.slice (some CB) t146.length Jo : Value).ownBlock ∧ k_ ≠ mg) (fun k_ => ((fun k_ => (gI k_ ∨ w.heap.size ≤ k_) ∧ some k_ ≠ (.slice (some CB) t146.length Jo : Value).ownBlock ∧ k_ ≠ mg)) k_ ∧ some k_ ≠ (u3 : Value).ownBlock) rfl rfl ?aP (fun _ hk => hk) ?aF ?aO ?aB ?aS ?aL ?_; (case aP => exact (o_ _ _ (⟨(aA t146 bW).f0, (⟨(aA t146 bW).f1.f0, (aA t146 bW).f1.f1, (aA t146 bW).f1.f2, (aA t146 bW).f1.f3⟩ : dO), (aA t146 bW).f2, (aA t146 bW).f3⟩ : ai) (Kd.kQ (Kd.iq (ok' := (fun k_ => ((fun k_ => (gI k_ ∨ w.heap.size ≤ k_) ∧ some k_ ≠ (.slice (some CB) t146.length Jo : Value).ownBlock ∧ k_ ≠ mg)) k_ ∧ some k_ ≠ (u3 : Value).ownBlock)) (Gs.out) (fun k_ hk => ⟨⟨hk.1.1, ⟨hk.2, hk.1.2.2⟩⟩, hk.1.2.1⟩))).2.1 (Kd.QQ (Kd.iq (ok' := (fun k_ => ((fun k_ => (gI k_ ∨ w.heap.size ≤ k_) ∧ some k_ ≠ (.slice (some CB) t146.length Jo : Value).ownBlock ∧ k_ ≠ mg)) k_ ∧ some k_ ≠ (u3 : Value).ownBlock)) (Gs.out) (fun k_ hk => ⟨⟨hk.1.1, ⟨hk.2, hk.1.2.2⟩⟩, hk.1.2.1⟩))))); (case aB => exact (by repeat ((with_reducible exact HB.out)))); (case aF => exact (fun k_ hk => ⟨(.inr (Nat.le_trans (fB (by repeat ((with_reducible exact HB.out)))) hk)), Kd.fresh' (Kd.EP Bo.out) k_ hk, Kd.BK kT.out k_ hk⟩)); (case aO => exact yF.out); (case aS => exact (fB (by repeat ((with_reducible exact HB.out))))); (case aL => have := agz.out; omega); intro v152 w14 ho hb hg hat; rw [← agD.out] at ho; have agu := ae.mk (ho); replace Bo := ae.mk (Kd.Oh (ok := (fun k_ => (gI k_ ∨ w.heap.size ≤ k_) ∧ k_ ≠ mg)) (by exact Kd.jq Bo.out (fun _ hk => ⟨⟨hk.1, hk.2.2⟩, hk.2.1⟩)) hg hat); replace Cm := ae.mk (Kd.DU (ok := (fun k_ => (gI k_ ∨ w.heap.size ≤ k_) ∧ some k_ ≠ (.slice (some CB) t146.length Jo : Value).ownBlock ∧ k_ ≠ mg)) (by exact Kd.iq Cm.out (fun _ hk => ⟨⟨hk.1, ⟨hk.2.2.1, hk.2.2.2⟩⟩, hk.2.1⟩)) hg hat); replace kT := ae.mk (dG kT.out hg (Kd.UM yF.out (fun _ hk => hk.2.2))); replace Gs := ae.mk (Kd.DU (ok := (fun k_ => (gI k_ ∨ w.heap.size ≤ k_) ∧ some k_ ≠ (.slice (some CB) t146.length Jo : Value).ownBlock ∧ k_ ≠ mg)) (by exact Kd.iq Gs.out (fun _ hk => ⟨⟨hk.1.1, ⟨hk.2, hk.1.2.2⟩⟩, hk.1.2.1⟩)) hg hat); replace HB := ae.mk (hb); clear yF; clear ho hb hg hat))
        go_roundg k1
        case measure => have := pz.out; omega
        case rel => exact ⟨(y151), (wrap64 (bW + 1)), (by rfl), H', ⟨by have := pz.out; omega⟩, ⟨by exact agu.out⟩, ⟨by exact Kd.jq Bo.out (fun _ hk => ⟨hk.1.1, ⟨hk.2, hk.1.2⟩⟩)⟩, ⟨by exact Kd.iq Cm.out (fun _ hk => ⟨hk.1.1, ⟨hk.2, ⟨hk.1.2.1, hk.1.2.2⟩⟩⟩)⟩, ⟨by exact kT.out⟩, ⟨by repeat ((with_reducible exact HB.out))⟩⟩
       ·rw [if_neg c13] at H
        exact absurd H (by simp)
      ·rw [if_neg c12] at H
       have DY : (((aA t146 bW).f0) == 1) = false := beq_eq_false_iff_ne.mpr c12
       have Jj : (((aA t146 bW).f0) != 1) = true := bne_iff_ne.mpr c12
       have H' := ae.mk H
       clear H
       have Eh : 0 ≤ (bW : Int) := of_decide_eq_true (by (with_reducible assumption))
       have Ej : bW < (t146.length : Int) := of_decide_eq_true (by (with_reducible assumption))
       obtain ⟨CB, Us, U2, X4, ab3, ab4, ab5, ab6, ab7, ab8, GN, KF, KD⟩ := uC (Kd.jF Bo.out).2.2 bW Eh Ej
       cases X4
       obtain ⟨ag6, Pz, Pq, Fa⟩ := Kd.SV Bo.out z26 bW Eh Ej
       obtain ⟨acJ, acK, rfl, DL, Dy⟩ := o5 Pq
       have vF := Fa 6 _ rfl
       rw [lC _ _ 6 (by omega)] at vF
       replace vF := Option.some.inj (vF.symm.trans GN)
       injection vF with BN IB BO
       rw [BN] at Dy
       rw [BO] at DL
       clear BN IB BO Dy DL
       clear Fa Pz
       clear KD KF
       replace Eh := eq_true Eh
       replace Ej := eq_true Ej
       go_wp2
       go_roundg k1
       case measure => have := pz.out; omega
       case rel => exact ⟨(vY), (wrap64 (bW + 1)), (by rfl), H', ⟨by have := pz.out; omega⟩, ⟨by exact yF.out⟩, ⟨by exact Bo.out⟩, ⟨by exact Cm.out⟩, ⟨by exact kT.out⟩, ⟨by repeat ((with_reducible exact HB.out))⟩⟩
     ·rw [if_neg c11] at H
      exact absurd H (by simp)
    ·rw [if_neg c10] at H
     exact absurd H (by simp)
   ·rw [if_neg c9] at H
    have OQ : decide (bW < (t146.length : Int)) = false := decide_eq_false c9
    clear c9
    obtain rfl := Option.some.inj H
    go_wp2
    go_ret
    exact ⟨_, by rfl, by exact Kd.jq yF.out (fun _ hk => hk.1), by repeat ((with_reducible exact HB.out))⟩
end Go.Proofs.Ytfdmfgaiblfbhaa.P
namespace Go.Proofs.Ytfdmfgaiblfbhaa.P
open Go.RowKit Go.Proofs.ag.aV Go.Proofs.ag.bP Go.Proofs.ag.cO
theorem kE (pre : List ai) (p : ai) (rest : List ai) : aA (pre ++ p :: rest) (pre.length : Int) = p := by
 simp [aA, List.getD_eq_getElem?_getD]
theorem Ul {α : Type} (pre : List α) (p : α) (rest : List α) (h : (pre ++ p :: rest).length ≤ 9223372036854775807) : wrap64 ((pre.length : Int) + 1) = ((pre ++ [p]).length : Int) := by
 simp only [List.length_append, List.length_cons, List.length_nil] at h ⊢
 rw [wq (by omega) (by omega)]
 omega
theorem XY (L : Int) : ∀ (N : Nat) (c : ai), sz c ≤ N → N ≤ 1048576 → ∃ n : Int, Ev (fun k => dK.f k c.f0 c.f1.f0 c.f1.f1 c.f1.f2 c.f1.f3 c.f2 c.f3 L) n ∧ 1 ≤ n ∧ n ≤ (sz c : Int) ∧ (n > L ∨ n = (sz c : Int)) := by
 intro N
 induction N with
 | zero => intro c h _; rw [bV] at h; omega
 | succ N ih =>
  intro c hc hN
  have hs := bV c
  have key : ∀ (rest pre : List ai), pre ++ rest = c.f3 → ∀ acc : Int, 1 ≤ acc → acc + (dU rest : Int) ≤ 1048576 → (acc > L ∨ acc = 1 + (dU pre : Int)) →
    ∃ n : Int, Ev (fun k => dK.l0 k L acc (c.f3.length : Int) (pre.length : Int) c.f0 c.f1.f0 c.f1.f1 c.f1.f2 c.f1.f3 c.f2 c.f3) n ∧ acc ≤ n ∧ n ≤ acc + (dU rest : Int) ∧ (n > L ∨ n = 1 + (dU c.f3 : Int)) := by
   intro rest
   induction rest with
   | nil =>
    intro pre hp acc h1 h2 h3
    rw [List.append_nil] at hp
    refine ⟨acc, Ev.step (f := fun _ => some acc) (fun k => ?_) (Ev.now _), by omega, by omega, by rw [← hp]; exact h3⟩
    simp only [dK.l0]
    rw [if_neg (by rw [hp]; omega)]
   | cons x xs ihr =>
    intro pre hp acc h1 h2 h3
    have hl : (pre.length : Int) < (c.f3.length : Int) := by rw [← hp, List.length_append, List.length_cons]; omega
    have hlen := ig c.f3
    by_cases hL : acc > L
    ·refine ⟨acc, Ev.step (f := fun _ => some acc) (fun k => ?_) (Ev.now _), by omega, by omega, .inl hL⟩
     simp only [dK.l0]
     rw [if_pos hl, if_pos hL]
    ·have h3' : acc = 1 + (dU pre : Int) := by omega
     have hsum : dU c.f3 = dU pre + (sz x + dU xs) := by rw [← hp, pg, df]
     obtain ⟨n1, e1, a1, b1, c1⟩ := ih x (by omega) (by omega)
     rw [df] at h2
     obtain ⟨n, e2, a2, b2, c2⟩ := ihr (pre ++ [x]) (by rw [List.append_assoc]; exact hp) (acc + n1) (by omega) (by omega) (by
      rw [pg, df, yS]
      omega)
     refine ⟨n, ?_, by omega, by rw [df]; omega, c2⟩
     have hw : wrap64 (acc + n1) = acc + n1 := wq (by omega) (by omega)
     have hr : aA c.f3 (pre.length : Int) = x := by rw [← hp]; exact kE pre x xs
     have hu : wrap64 ((pre.length : Int) + 1) = ((pre ++ [x]).length : Int) := Ul pre x xs (by rw [hp]; omega)
     refine Ev.step (f := fun k => (dK.f k x.f0 x.f1.f0 x.f1.f1 x.f1.f2 x.f1.f3 x.f2 x.f3 L).bind fun t => dK.l0 k L (wrap64 (acc + t)) (c.f3.length : Int) (wrap64 ((pre.length : Int) + 1)) c.f0 c.f1.f0 c.f1.f1 c.f1.f2 c.f1.f3 c.f2 c.f3) (fun k => ?_) (Ev.bind e1 ?_)
     ·simp only [dK.l0]
      rw [if_pos hl, if_neg hL, if_pos (by omega), if_pos hl, hr]
     ·rw [hw, hu]
      exact e2
  obtain ⟨n, e, a, b, d⟩ := key c.f3 [] rfl 1 (by omega) (by omega) (.inr (by rw [yS]; rfl))
  refine ⟨n, Ev.step (fun k => ?_) e, a, by omega, by omega⟩
  simp only [dK.f]
  rfl
theorem Yf (c : ai) (h : sz c ≤ 1048576) : ∃ b : Bool, Ev (fun k => kL.f k c.f0 c.f1.f0 c.f1.f1 c.f1.f2 c.f1.f3 c.f2 c.f3) b ∧ (b = false → sz c ≤ 200) := by
 obtain ⟨n, e, h1, h2, h3⟩ := XY 200 1048576 c h (Nat.le_refl _)
 refine ⟨decide (n > 200), ?_, fun hb => ?_⟩
 ·unfold kL.f
  exact Ev.bind e (Ev.now _)
 ·have := of_decide_eq_false hb
  omega
theorem Md : ∀ (N : Nat) (c : ai), sz c ≤ N → N ≤ 1048576 → Ev (fun k => dN.f k c.f0 c.f1.f0 c.f1.f1 c.f1.f2 c.f1.f3 c.f2 c.f3) (iw c) := by
 intro N
 induction N with
 | zero => intro c h _; rw [bV] at h; omega
 | succ N ih =>
  intro c hc hN
  have hs := bV c
  have key : ∀ (rest pre : List ai), pre ++ rest = c.f3 → Ev (fun k => dN.l0 k (c :: allL pre) (c.f3.length : Int) (pre.length : Int) c.f0 c.f1.f0 c.f1.f1 c.f1.f2 c.f1.f3 c.f2 c.f3) (iw c) := by
   intro rest
   induction rest with
   | nil =>
    intro pre hp
    rw [List.append_nil] at hp
    refine Ev.step (f := fun _ => some (iw c)) (fun k => ?_) (Ev.now _)
    simp only [dN.l0]
    rw [if_neg (by rw [hp]; omega), hp, ru]
   | cons x xs ihr =>
    intro pre hp
    have hl : (pre.length : Int) < (c.f3.length : Int) := by rw [← hp, List.length_append, List.length_cons]; omega
    have hlen := ig c.f3
    have hsum : dU c.f3 = dU pre + (sz x + dU xs) := by rw [← hp, pg, df]
    have e2 := ihr (pre ++ [x]) (by rw [List.append_assoc]; exact hp)
    have hr : aA c.f3 (pre.length : Int) = x := by rw [← hp]; exact kE pre x xs
    have hu : wrap64 ((pre.length : Int) + 1) = ((pre ++ [x]).length : Int) := Ul pre x xs (by rw [hp]; omega)
    have ha : c :: allL (pre ++ [x]) = (c :: allL pre) ++ iw x := by rw [DV, ni, qL, List.append_nil, List.cons_append]
    have hb : (c :: allL pre).length + (iw x).length < 1954687338268 := by
     have h1 : (allL pre).length = dU pre := rfl
     have h2 : (iw x).length = sz x := rfl
     rw [List.length_cons, h1, h2]
     omega
    rw [ha] at e2
    refine Ev.step (f := fun k => (dN.f k x.f0 x.f1.f0 x.f1.f1 x.f1.f2 x.f1.f3 x.f2 x.f3).bind fun t => (if (c :: allL pre).length + t.length < 1954687338268 then (dN.l0 k ((c :: allL pre) ++ t) (c.f3.length : Int) (wrap64 ((pre.length : Int) + 1)) c.f0 c.f1.f0 c.f1.f1 c.f1.f2 c.f1.f3 c.f2 c.f3) else none)) (fun k => ?_) (Ev.bind (ih x (by omega) (by omega)) (aeD hb ?_))
    ·simp only [dN.l0]
     rw [if_pos hl, if_pos (by omega), if_pos hl, hr]
    ·rw [hu]
     exact e2
  refine Ev.step (fun k => ?_) (key c.f3 [] rfl)
  simp only [dN.f, qL, Gz]
  rfl
def nN (c : ai) : List ai := (iw c).filter fun x => decide (x.f0 = 1)
theorem Wj (c : ai) (h : sz c ≤ 1048576) : Ev (fun k => eU.f k c.f0 c.f1.f0 c.f1.f1 c.f1.f2 c.f1.f3 c.f2 c.f3) (nN c) := by
 unfold eU.f
 refine Ev.bind (Md _ c h (Nat.le_refl _)) ?_
 have key : ∀ (rest pre : List ai), pre ++ rest = iw c → Ev (fun k => eU.l0 k (pre.filter fun x => decide (x.f0 = 1)) (iw c) ((iw c).length : Int) (pre.length : Int)) (nN c) := by
  intro rest
  induction rest with
  | nil =>
   intro pre hp
   rw [List.append_nil] at hp
   refine Ev.step (f := fun _ => some (nN c)) (fun k => ?_) (Ev.now _)
   simp only [eU.l0]
   rw [if_neg (by rw [hp]; omega), hp]
   rfl
  | cons x xs ihr =>
   intro pre hp
   have hsz : (iw c).length ≤ 1048576 := h
   have hl : (pre.length : Int) < ((iw c).length : Int) := by rw [← hp, List.length_append, List.length_cons]; omega
   have e2 := ihr (pre ++ [x]) (by rw [List.append_assoc]; exact hp)
   have hr : aA (iw c) (pre.length : Int) = x := by rw [← hp]; exact kE pre x xs
   have hu : wrap64 ((pre.length : Int) + 1) = ((pre ++ [x]).length : Int) := Ul pre x xs (by rw [hp]; omega)
   have hb : (pre.filter fun x => decide (x.f0 = 1)).length < 1954687338268 := by
    have := List.length_filter_le (fun x : ai => decide (x.f0 = 1)) pre
    omega
   rw [List.filter_append] at e2
   refine Ev.step (fun k => ?_) e2
   simp only [eU.l0]
   rw [if_pos hl, if_pos (by omega), if_pos hl, hr, hu]
   by_cases h1 : x.f0 = 1
   ·rw [if_pos h1, if_pos hb, List.filter_cons_of_pos (by simpa using h1), Gz]
    rfl
   ·rw [if_neg h1, List.filter_cons_of_neg (by simpa using h1), List.filter_nil, List.append_nil]
 exact key (iw c) [] rfl
def oh (c : ai) : Bool := lu c.f1 && decide (1 ≤ c.f0 ∧ c.f0 ≤ 3) && decide (c.f0 = 1 → c.f3.length = 0 ∧ 0 ≤ c.f2 ∧ c.f2 ≤ 2147483647) && decide (c.f0 > 1 → 2 ≤ c.f3.length ∧ c.f2 = 0)
def gm : List ai → Bool
 | [] => true
 | x :: xs => (xs.all fun y => decide (y.f2 ≠ x.f2)) && gm xs
def qg (pre : List ai) (x : ai) : Bool := pre.all fun y => decide (x.f2 ≠ y.f2)
theorem sW (pre : List ai) (x : ai) : gm (pre ++ [x]) = (gm pre && qg pre x) := by
 induction pre with
 | nil => simp [gm, qg]
 | cons y ys ih =>
  have : (decide (x.f2 ≠ y.f2)) = decide (¬ x.f2 = y.f2) := rfl
  simp only [List.cons_append, gm, ih, qg, List.all_append, List.all_cons, List.all_nil, Bool.and_true]
  cases (ys.all fun z => decide (z.f2 ≠ y.f2)) <;> cases (decide (x.f2 ≠ y.f2)) <;> cases gm ys <;> cases (ys.all fun z => decide (x.f2 ≠ z.f2)) <;> rfl
theorem Ah : ∀ (pre rest : List ai), gm pre = false → gm (pre ++ rest) = false := by
 intro pre rest h
 induction rest generalizing pre with
 | nil => rw [List.append_nil]; exact h
 | cons x xs ih =>
  have := ih (pre ++ [x]) (by rw [sW, h, Bool.false_and])
  rwa [List.append_assoc] at this
def mM (c : ai) : Bool := decide (sz c ≤ 20000) && ((iw c).all oh && gm (nN c))
theorem afD {σ : Type} (Inv : σ → World → Prop) (step : σ → ai → Bool × σ) (g : Nat) (lb : Array Value) (eg : ∀ args w, (callFunc g args).run Try.prog w = .ok (.enter g args) w) (l : List ai) (A : Option Addr) (c : Nat)
  (w0 : World) (hR : Kd.C k26 w0 A l.length l) (hW : ∀ s W, Inv s W → Below w0.heap.size w0 W) (hD : ∀ s W n, Inv s W → Inv s (W.drewN n))
  (hcall : ∀ s W (x : ai) (B : Option Addr) (cb : Nat), x ∈ l → Inv s W → Kd.C k26 w0 B x.f3.length x.f3 → x.f3.length ≤ cb → Calls Try.prog g (#[.agg #[.int .u8 x.f0, .int .i64 x.f1.f0, .int .i64 x.f1.f1, .int .i64 x.f1.f2, .int .i64 x.f1.f3, .int .i64 x.f2, .slice B x.f3.length cb]] ++ lb) W fun e w' => e = .returned (.bool (step s x).1) ∧ Inv (step s x).2 w')
  (s : σ) (w : World) (hI : Inv s w) (hl : l.length ≤ 9223372036854775807) :
  Calls Try.prog 192 #[.slice A l.length c, .func (.func g) #[] lb] w fun e w' => e = .returned (.int .i64 (mr step 0 s l).1) ∧ Inv (mr step 0 s l).2 w' := by
 have HR := ae.mk hR
 have HW := ae.mk hW
 have HI := ae.mk hI
 have AV := ae.mk hcall
 clear hR hW hcall hD hI
 go_enter Try.func192, Try.ntmps192
 go_wp2
 go_loopg [5, 8] l.length (fun gg _ v8 wr => ∃ (kk : Nat) (t : σ), kk ≤ l.length ∧ l.length - kk ≤ gg ∧ v8 = .int .i64 kk ∧ ae (Inv t wr) ∧ ae (mr step 0 s l = mr step kk t (l.drop kk)))
 case atStart => exact ⟨0, s, Nat.zero_le _, by omega, rfl, HI, ⟨by simp⟩⟩
 case round =>
  clear HI
  obtain ⟨kk, t, hkk, hg, rfl, HI, HS⟩ := hrel
  by_cases hlt : kk < l.length
  ·have hltz : (kk : Int) < (l.length : Int) := by omega
   obtain ⟨ad, B, cb, rfl, hc0, hc1, hc2, hc3, hc4, hc5, hc6, hlb, hgb⟩ := uC HR.out (kk : Int) (by omega) (by omega)
   have hbw := HW.out t wr HI.out
   replace hc0 := (hbw.cell (World.block_lt_of_cell? w0 _ hc0)).trans hc0
   replace hc1 := (hbw.cell (World.block_lt_of_cell? w0 _ hc1)).trans hc1
   replace hc2 := (hbw.cell (World.block_lt_of_cell? w0 _ hc2)).trans hc2
   replace hc3 := (hbw.cell (World.block_lt_of_cell? w0 _ hc3)).trans hc3
   replace hc4 := (hbw.cell (World.block_lt_of_cell? w0 _ hc4)).trans hc4
   replace hc5 := (hbw.cell (World.block_lt_of_cell? w0 _ hc5)).trans hc5
   replace hc6 := (hbw.cell (World.block_lt_of_cell? w0 _ hc6)).trans hc6
   clear hbw
   have HX : ae (mr step kk t (l.drop kk) = if (step t (aA l (kk : Int))).1 = true then ((kk : Int), (step t (aA l (kk : Int))).2) else mr step ((kk + 1 : Nat) : Int) (step t (aA l (kk : Int))).2 (l.drop (kk + 1))) := ⟨RX step z26 l kk hlt t⟩
   have hmem : (aA l (kk : Int)) ∈ l := Es z26 l kk hlt
   have hcall := AV.out t wr _ B cb hmem HI.out hgb hlb
   clear hmem hgb hlb
   simp only [Int.toNat_natCast] at hc0 hc1 hc2 hc3 hc4 hc5 hc6
   generalize aA l (kk : Int) = x at hc0 hc1 hc2 hc3 hc4 hc5 hc6 HX hcall
   have HC := ae.mk hcall
   clear hcall
   cases hq : (step t x).1 with
   | true =>
    have h := HC.out
    rw [hq] at h
    have HH := ae.mk h
    have HQ := ae.mk hq
    clear hq HC h
    go_wp2_with fail
    refine HH.out.mono ?_
    rintro e w' ⟨rfl, hb'⟩
    have HB := ae.mk hb'
    clear hb'
    go_wp2
    go_ret
    rw [HS.out, HX.out, if_pos HQ.out]
    exact ⟨rfl, HB.out⟩
   | false =>
    have h := HC.out
    rw [hq] at h
    have HH := ae.mk h
    have HQ := ae.mk hq
    clear hq HC h
    go_wp2_with fail
    refine HH.out.mono ?_
    rintro e w' ⟨rfl, hb'⟩
    have HB := ae.mk hb'
    clear hb'
    go_wp2
    go_roundg (l.length - (kk + 1))
    case measure => omega
    case rel =>
     refine ⟨kk + 1, (step t x).2, by omega, by omega, by go_num, HB, ⟨?_⟩⟩
     rw [HS.out, HX.out, if_neg (by rw [HQ.out]; simp)]
  ·have hltz : ¬ (kk : Int) < (l.length : Int) := by omega
   go_wp2
   go_ret
   rw [HS.out, List.drop_eq_nil_of_le (by omega)]
   exact ⟨rfl, HI.out⟩
theorem U6 {σ : Type} (Inv : σ → World → Prop) (step : σ → ai → Bool × σ) (g : Nat) (lb : Array Value) (eg : ∀ args w, (callFunc g args).run Try.prog w = .ok (.enter g args) w) (l : List ai) (A : Option Addr) (c : Nat)
  (w0 : World) (hR : Kd.C k26 w0 A l.length l) (hW : ∀ s W, Inv s W → Below w0.heap.size w0 W) (hD : ∀ s W n, Inv s W → Inv s (W.drewN n))
  (hcall : ∀ s W (x : ai) (B : Option Addr) (cb : Nat), x ∈ l → Inv s W → Kd.C k26 w0 B x.f3.length x.f3 → x.f3.length ≤ cb → Calls Try.prog g (#[.agg #[.int .u8 x.f0, .int .i64 x.f1.f0, .int .i64 x.f1.f1, .int .i64 x.f1.f2, .int .i64 x.f1.f3, .int .i64 x.f2, .slice B x.f3.length cb]] ++ lb) W fun e w' => e = .returned (.bool (step s x).1) ∧ Inv (step s x).2 w')
  (s : σ) (w : World) (hI : Inv s w) (hl : l.length ≤ 9223372036854775807) :
  Calls Try.prog 174 #[.slice A l.length c, .func (.func g) #[] lb] w fun e w' => e = .returned (.bool (uu step s l).1) ∧ Inv (uu step s l).2 w' := by
 have hi := afD Inv step g lb eg l A c w0 hR hW hD hcall s w hI hl
 rw [Qo]
 clear hR hW hD hcall hI
 generalize mr step 0 s l = r at hi
 have HI := ae.mk hi
 clear hi
 go_enter Try.func174, Try.ntmps174
 go_wp2_with fail
 refine HI.out.mono ?_
 rintro e w' ⟨rfl, hb'⟩
 have HB := ae.mk hb'
 clear hb'
 go_wp2
 go_ret
 exact ⟨rfl, HB.out⟩
theorem RH (l : List ai) (A : Option Addr) (c : Nat) (g : Nat) (lb : Array Value) (Q : World → Prop) (b : Bool) (w : World)
  (h : Calls Try.prog 174 #[.slice A l.length c, .func (.func g) #[] lb] w fun e w' => e = .returned (.bool b) ∧ Q w') (hD : ∀ W n, Q W → Q (W.drewN n)) :
  Calls Try.prog 142 #[.slice A l.length c, .func (.func g) #[] lb] w fun e w' => e = .returned (.bool (!b)) ∧ Q w' := by
 have H := ae.mk h
 clear h hD
 cases b
 all_goals
  go_enter Try.func142, Try.ntmps142
  go_wp2_with fail
  refine H.out.mono ?_
  rintro e w' ⟨rfl, hb⟩
  have HB := ae.mk hb
  clear hb
  go_wp2
  go_ret
  exact ⟨rfl, HB.out⟩
structure Kp (S : Nat → Prop) (W W' : World) : Prop where
 size : W.heap.size ≤ W'.heap.size
 blk : ∀ k, k < W.heap.size → ¬ S k → W'.heap[k]? = W.heap[k]?
theorem Kp.refl (S : Nat → Prop) (W : World) : Kp S W W := ⟨Nat.le_refl _, fun _ _ _ => rfl⟩
theorem Kp.trans {S : Nat → Prop} {W W1 W2 : World} (h : Kp S W W1) (k : Kp S W1 W2) : Kp S W W2 := ⟨Nat.le_trans h.size k.size, fun i hi hs => (k.blk i (Nat.lt_of_lt_of_le hi h.size) hs).trans (h.blk i hi hs)⟩
theorem Kp.below {S : Nat → Prop} {W W1 : World} (h : Below W.heap.size W W1) : Kp S W W1 := ⟨h.size, fun i hi _ => h.block i hi⟩
theorem Kp.at {S : Nat → Prop} {W W1 : World} {g : Nat} {o : Obj} (h : Kp S W W1) (hb : W.heap[g]? = some o) (hs : ¬ S g) : W1.heap[g]? = some o := (h.blk g (gJ hb) hs).trans hb
theorem aer (x : ai) (B : Option Addr) (cb g : Nat) (lb : Array Value) (b3 : Nat) (r : Bool) (R : World → Prop) (W : World) (hk : W.heap[b3]? = some (.cells #[.func (.func g) #[] lb] 27 (0, 0)))
  (h : ∀ W1, Below W.heap.size W W1 → Calls Try.prog 175 #[.agg #[.int .u8 x.f0, .int .i64 x.f1.f0, .int .i64 x.f1.f1, .int .i64 x.f1.f2, .int .i64 x.f1.f3, .int .i64 x.f2, .slice B x.f3.length cb], .func (.func g) #[] lb] W1 fun e w' => e = .returned (.bool r) ∧ R w') :
  Calls Try.prog 193 (#[.agg #[.int .u8 x.f0, .int .i64 x.f1.f0, .int .i64 x.f1.f1, .int .i64 x.f1.f2, .int .i64 x.f1.f3, .int .i64 x.f2, .slice B x.f3.length cb]] ++ #[.pointer (some ⟨b3, 0, none⟩)]) W fun e w' => e = .returned (.bool (!r)) ∧ R w' := by
 have HK := ae.mk hk
 have H := ae.mk h
 clear hk h
 simp only [List.append_toArray, List.cons_append, List.nil_append]
 cases r
 all_goals
  go_enter Try.func193, Try.ntmps193
  go_wp2_with (((with_reducible refine aG (N := 2) rfl ?_); refine aU ?hg (N := 2) ?hd (cs := #[.int .u8 x.f0, .int .i64 x.f1.f0, .int .i64 x.f1.f1, .int .i64 x.f1.f2, .int .i64 x.f1.f3, .int .i64 x.f2, .slice B x.f3.length cb]) (t := 26) ?hr ?_; (case hd => rfl); (case hg => rfl); (case hr => (go_simp; done)); intro b2 hg w2 hbox hb; have HB := ae.mk hb; have K2 := ae.mk hbox; have K3 := ae.mk (aQ HK.out hb); clear hb hbox hg; have c0 := (af K2.out 0).trans rfl; have c1 := (af K2.out 1).trans rfl; have c2 := (af K2.out 2).trans rfl; have c3 := (af K2.out 3).trans rfl; have c4 := (af K2.out 4).trans rfl; have c5 := (af K2.out 5).trans rfl; have c6 := (af K2.out 6).trans rfl; have d0 := (af K3.out 0).trans rfl))
  clear c0 c1 c2 c3 c4 c5 c6 d0
  refine (H.out _ HB.out).mono ?_
  rintro e w' ⟨rfl, hR⟩
  have HR := ae.mk hR
  clear hR
  go_wp2
  go_ret
  exact ⟨rfl, HR.out⟩
theorem ad5 {σ : Type} (S : Nat → Prop) (Inv : σ → World → Prop) (step : σ → ai → Bool × σ) (g : Nat) (lb : Array Value) (eg : ∀ args w, (callFunc g args).run Try.prog w = .ok (.enter g args) w) (w0 : World)
  (hW : ∀ s W, Inv s W → Below w0.heap.size w0 W) (hB : ∀ s W W', Inv s W → Below W.heap.size W W' → Inv s W') (hS : ∀ s W, Inv s W → ∀ k, S k → k < W.heap.size)
  (hcall : ∀ s W (x : ai) (B : Option Addr) (cb : Nat), Inv s W → Kd.C k26 w0 B x.f3.length x.f3 → x.f3.length ≤ cb → Calls Try.prog g (#[.agg #[.int .u8 x.f0, .int .i64 x.f1.f0, .int .i64 x.f1.f1, .int .i64 x.f1.f2, .int .i64 x.f1.f3, .int .i64 x.f2, .slice B x.f3.length cb]] ++ lb) W fun e w' => e = .returned (.bool (step s x).1) ∧ Inv (step s x).2 w' ∧ Kp S W w') :
  ∀ (N : Nat) (c : ai), sz c ≤ N → ∀ (A : Option Addr) (cc : Nat), Kd.C k26 w0 A c.f3.length c.f3 → c.f3.length ≤ cc → ∀ s W, Inv s W →
   Calls Try.prog 175 #[.agg #[.int .u8 c.f0, .int .i64 c.f1.f0, .int .i64 c.f1.f1, .int .i64 c.f1.f2, .int .i64 c.f1.f3, .int .i64 c.f2, .slice A c.f3.length cc], .func (.func g) #[] lb] W fun e w' => e = .returned (.bool (uj step c s).1) ∧ Inv (uj step c s).2 w' ∧ Kp S W w' := by
 intro N
 induction N with
 | zero => intro c h; rw [bV] at h; omega
 | succ N ih =>
  intro c hc A cc hr hlc s W hI
  have hsz := bV c
  have ZJ : ∀ (b3 : Nat) (s1 : σ) (W1 : World), Inv s1 W1 → W1.heap[b3]? = some (.cells #[.func (.func g) #[] lb] 27 (0, 0)) → ¬ S b3 →
    Calls Try.prog 142 #[.slice A c.f3.length cc, .func (.func 193) #[] #[.pointer (some ⟨b3, 0, none⟩)]] W1 fun e w' => e = .returned (.bool (uo step c.f3 s1).1) ∧ Inv (uo step c.f3 s1).2 w' ∧ Kp S W1 w' := by
   intro b3 s1 W1 hI1 hk3 hs3
   have hcon := U6 (fun t w' => Inv t w' ∧ Kp S W1 w') (fun t k => (!(uj step k t).1, (uj step k t).2)) 193 #[.pointer (some ⟨b3, 0, none⟩)] (uP Try.func193 (by decide +kernel) (by kernel_rfl)) c.f3 A cc w0 hr (fun t w' h => hW t w' h.1)
    (fun t w' n h => ⟨hB t w' _ h.1 (eP (Below.refl _ _) n), h.2.trans (Kp.below (eP (Below.refl _ _) n))⟩)
    (fun t w' x B cb hx h hCx hlx => by
     refine aer x B cb g lb b3 _ _ w' (h.2.at hk3 hs3) (fun W2 hb2 => ?_)
     refine (ih x ?_ B cb hCx hlx t W2 (hB t w' W2 h.1 hb2)).mono fun e w'' ⟨he, hi, hk⟩ => ⟨he, hi, (h.2.trans (Kp.below hb2)).trans hk⟩
     have : sz x ≤ dU c.f3 := by
      obtain ⟨p, q, e⟩ := List.append_of_mem hx
      rw [e, pg, df]; omega
     omega) s1 W1 ⟨hI1, Kp.refl S W1⟩ hr.2.1
   rw [W9] at hcon
   have := RH c.f3 A cc 193 _ _ _ W1 hcon (fun w' n h => ⟨hB _ w' _ h.1 (eP (Below.refl _ _) n), h.2.trans (Kp.below (eP (Below.refl _ _) n))⟩)
   rw [Bool.not_not] at this
   exact this
  have aeP : ∀ k, S k → k < W.heap.size := hS s W hI
  have hE := QR step c s
  have hcl := fun W1 (h : Inv s W1) => hcall s W1 c A cc h hr hlc
  rcases hst : step s c with ⟨q, s1⟩
  rw [hst] at hE hcl
  simp only [] at hE hcl
  rw [hE]
  have HN := ae.mk fun b3 W1 => ZJ b3 s1 W1
  have HI := ae.mk hI
  have AV := ae.mk hcl
  have Zb := ae.mk hB
  have HS := ae.mk hS
  have HS0 := ae.mk aeP
  have HK := ae.mk (Kp.refl S W)
  clear ZJ hI hcall hB hS ih hr hlc hsz hc hW hE hcl hst aeP
  obtain ⟨ck, ⟨cx, cy, cw, ch⟩, ay, l⟩ := c
  simp only [] at HN AV ⊢
  generalize uo step l s1 = ns at HN ⊢
  obtain ⟨n1, n2⟩ := ns
  cases q with
  | false =>
   simp only [Bool.false_eq_true, if_false]
   clear HN
   go_enter Try.func175, Try.ntmps175
   go_wp2_with (first | ((with_reducible refine aG (N := 2) rfl ?_); refine aU ?hg (N := 2) ?hd (cs := #[.int .u8 ck, .int .i64 cx, .int .i64 cy, .int .i64 cw, .int .i64 ch, .int .i64 ay, .slice A l.length cc]) (t := 26) ?hr ?_; (case hd => rfl); (case hg => rfl); (case hr => (go_simp; done)); intro b2 hg wb2 hbox hb; have K2 := ae.mk hbox; have HS2 := ae.mk (show ¬ b2 < W.heap.size by rw [hg]; exact Nat.lt_irrefl _); have fC := ae.mk (Zb.out _ _ _ HI.out hb); have fH := ae.mk (HK.out.trans (Kp.below hb)); clear HI HK; have HI := fC; have HK := fH; clear fC fH; clear hb hbox hg) | ((with_reducible refine aG (N := 3) rfl ?_); refine aU ?hg (N := 3) ?hd (cs := #[.func (.func g) #[] lb]) (t := 27) ?hr ?_; (case hd => rfl); (case hg => rfl); (case hr => (go_simp; done)); intro b3 hg Xn hbox hb; have K3 := ae.mk hbox; have ji := ae.mk (aQ K2.out hb); have NS := ae.mk (fun h => Nat.lt_irrefl _ (Nat.lt_of_lt_of_le (hg ▸ HS.out _ _ HI.out b3 h) (Nat.le_refl _)) : ¬ S b3); have NS2 := ae.mk (fun h => HS2.out (HS0.out b2 h) : ¬ S b2); clear K2; have K2 := ji; clear ji; have fC := ae.mk (Zb.out _ _ _ HI.out hb); have fH := ae.mk (HK.out.trans (Kp.below hb)); clear HI HK; have HI := fC; have HK := fH; clear fC fH; clear hb hbox hg; have c0 := (af K2.out 0).trans rfl; have c1 := (af K2.out 1).trans rfl; have c2 := (af K2.out 2).trans rfl; have c3 := (af K2.out 3).trans rfl; have c4 := (af K2.out 4).trans rfl; have c5 := (af K2.out 5).trans rfl; have c6 := (af K2.out 6).trans rfl; have d0 := (af K3.out 0).trans rfl))
   clear c0 c1 c2 c3 c4 c5 c6 d0
   refine (AV.out _ HI.out).mono ?_
   rintro e w' ⟨rfl, hi, hk⟩
   have HI' := ae.mk hi
   have HK' := ae.mk (HK.out.trans hk)
   clear hi hk
   go_wp2
   go_ret
   exact ⟨rfl, HI'.out, HK'.out⟩
  | true =>
   simp only [if_true]
   cases n1
   all_goals
    go_enter Try.func175, Try.ntmps175
    go_wp2_with (first | ((with_reducible refine aG (N := 2) rfl ?_); refine aU ?hg (N := 2) ?hd (cs := #[.int .u8 ck, .int .i64 cx, .int .i64 cy, .int .i64 cw, .int .i64 ch, .int .i64 ay, .slice A l.length cc]) (t := 26) ?hr ?_; (case hd => rfl); (case hg => rfl); (case hr => (go_simp; done)); intro b2 hg wb2 hbox hb; have K2 := ae.mk hbox; have HS2 := ae.mk (show ¬ b2 < W.heap.size by rw [hg]; exact Nat.lt_irrefl _); have fC := ae.mk (Zb.out _ _ _ HI.out hb); have fH := ae.mk (HK.out.trans (Kp.below hb)); clear HI HK; have HI := fC; have HK := fH; clear fC fH; clear hb hbox hg) | ((with_reducible refine aG (N := 3) rfl ?_); refine aU ?hg (N := 3) ?hd (cs := #[.func (.func g) #[] lb]) (t := 27) ?hr ?_; (case hd => rfl); (case hg => rfl); (case hr => (go_simp; done)); intro b3 hg Xn hbox hb; have K3 := ae.mk hbox; have ji := ae.mk (aQ K2.out hb); have NS := ae.mk (fun h => Nat.lt_irrefl _ (Nat.lt_of_lt_of_le (hg ▸ HS.out _ _ HI.out b3 h) (Nat.le_refl _)) : ¬ S b3); have NS2 := ae.mk (fun h => HS2.out (HS0.out b2 h) : ¬ S b2); clear K2; have K2 := ji; clear ji; have fC := ae.mk (Zb.out _ _ _ HI.out hb); have fH := ae.mk (HK.out.trans (Kp.below hb)); clear HI HK; have HI := fC; have HK := fH; clear fC fH; clear hb hbox hg; have c0 := (af K2.out 0).trans rfl; have c1 := (af K2.out 1).trans rfl; have c2 := (af K2.out 2).trans rfl; have c3 := (af K2.out 3).trans rfl; have c4 := (af K2.out 4).trans rfl; have c5 := (af K2.out 5).trans rfl; have c6 := (af K2.out 6).trans rfl; have d0 := (af K3.out 0).trans rfl))
    clear c0 c1 c2 c3 c4 c5 c6 d0
    refine (AV.out _ HI.out).mono ?_
    rintro e w' ⟨rfl, hi, hk⟩
    have HI' := ae.mk hi
    have HK' := ae.mk (HK.out.trans hk)
    have K3' := ae.mk (hk.at K3.out NS.out)
    have K2' := ae.mk (hk.at K2.out NS2.out)
    clear hi hk
    have c6 : w'.cell? ⟨b2, 6, none⟩ = some (.slice A l.length cc) := (af K2'.out 6).trans rfl
    go_wp2_with fail
    clear c6
    refine (HN.out b3 w' HI'.out K3'.out NS.out).mono ?_
    rintro e w'' ⟨rfl, hi, hk⟩
    have HI2 := ae.mk hi
    have Cf := ae.mk (HK'.out.trans hk)
    clear hi hk
    go_wp2
    go_ret
    exact ⟨rfl, HI2.out, Cf.out⟩
def yt (x : ai) : Bool := if x.f0 = 1 then decide (x.f3.length = 0) && (decide (0 ≤ x.f2) && decide (x.f2 ≤ 2147483647)) else if x.f0 = 2 ∨ x.f0 = 3 then decide (2 ≤ x.f3.length) && decide (x.f2 = 0) else false
theorem BQ (x : ai) : oh x = (yt x && lu x.f1) := by
 unfold oh yt
 by_cases h1 : x.f0 = 1
 ·simp [h1, Bool.and_comm, Bool.and_assoc]
 ·by_cases h2 : x.f0 = 2
  ·simp [h2, Bool.and_comm]
  ·by_cases h3 : x.f0 = 3
   ·simp [h3, Bool.and_comm]
   ·have : ¬ (1 ≤ x.f0 ∧ x.f0 ≤ 3) := by omega
    simp [h1, h2, h3, this]
def jK (s : Int × List Int) (x : ai) : Bool × (Int × List Int) :=
 if 20000 < wrap64 (s.1 + 1) then (false, (wrap64 (s.1 + 1), s.2))
 else if oh x = false then (false, (wrap64 (s.1 + 1), s.2))
 else if x.f0 = 1 then (if x.f2 ∈ s.2 then (false, (wrap64 (s.1 + 1), s.2)) else (true, (wrap64 (s.1 + 1), x.f2 :: s.2)))
 else (true, (wrap64 (s.1 + 1), s.2))
def lv (l : List ai) : List ai := l.filter fun x => decide (x.f0 = 1)
theorem Wp : ∀ (rest pre : List ai), (pre ++ rest).length ≤ 1048576 → pre.length ≤ 20000 → gm (lv pre) = true →
  (vX jK rest ((pre.length : Int), ((lv pre).map (·.f2)).reverse)).1 = (decide (pre.length + rest.length ≤ 20000) && (rest.all oh && gm (lv (pre ++ rest)))) := by
 intro rest
 induction rest with
 | nil =>
  intro pre _ h2 h3
  simp [vX, h3]
  exact h2
 | cons x xs ih =>
  intro pre h1 h2 h3
  have hlen : (pre ++ x :: xs).length = pre.length + xs.length + 1 := by simp; omega
  have hw : wrap64 ((pre.length : Int) + 1) = ((pre.length + 1 : Nat) : Int) := (wq (by omega) (by omega)).trans (by omega)
  have hsp : pre ++ x :: xs = (pre ++ [x]) ++ xs := by simp
  simp only [vX]
  unfold jK
  simp only [hw]
  by_cases c1 : (20000 : Int) < ((pre.length + 1 : Nat) : Int)
  ·rw [if_pos c1]
   simp
   intro h
   omega
  ·rw [if_neg c1]
   cases c2 : oh x with
   | false => simp [c2]
   | true =>
    simp only [Bool.true_eq_false, if_false, List.all_cons, c2, Bool.true_and]
    have hl1 : (pre ++ [x]).length = pre.length + 1 := by simp
    have hcnt : decide (pre.length + (x :: xs).length ≤ 20000) = decide ((pre ++ [x]).length + xs.length ≤ 20000) := by
     rw [hl1, List.length_cons, decide_eq_decide]; omega
    rw [hcnt]
    by_cases c3 : x.f0 = 1
    ·rw [if_pos c3]
     have hlv : lv (pre ++ [x]) = lv pre ++ [x] := by simp [lv, c3]
     have hmem : x.f2 ∈ ((lv pre).map (·.f2)).reverse ↔ qg (lv pre) x = false := by
      simp [qg]
      constructor
      ·rintro ⟨y, hy, e⟩; exact ⟨y, hy, e.symm⟩
      ·rintro ⟨y, hy, e⟩; exact ⟨y, hy, e.symm⟩
     by_cases c4 : x.f2 ∈ ((lv pre).map (·.f2)).reverse
     ·rw [if_pos c4]
      have hd : gm (lv (pre ++ x :: xs)) = false := by
       rw [hsp]
       unfold lv
       rw [List.filter_append]
       apply Ah
       have : List.filter (fun x => decide (x.f0 = 1)) (pre ++ [x]) = lv pre ++ [x] := hlv
       rw [this, sW, hmem.1 c4, Bool.and_false]
      simp [hd]
     ·rw [if_neg c4]
      have ha : qg (lv pre) x = true := by
       cases h : qg (lv pre) x with
       | true => rfl
       | false => exact absurd (hmem.2 h) c4
      have e := ih (pre ++ [x]) (by rw [← hsp]; exact h1) (by rw [hl1]; omega) (by rw [hlv, sW, h3, ha]; rfl)
      rw [hlv, List.map_append, List.reverse_append, hl1, ← hsp] at e
      simp only [if_true]
      rw [hl1]
      exact e
    ·rw [if_neg c3]
     have hlv : lv (pre ++ [x]) = lv pre := by simp [lv, c3]
     have e := ih (pre ++ [x]) (by rw [← hsp]; exact h1) (by rw [hl1]; omega) (by rw [hlv]; exact h3)
     rw [hlv, hl1, ← hsp] at e
     simp only [if_true]
     rw [hl1]
     exact e
theorem XD (c : ai) (h : sz c ≤ 1048576) : (uj jK c (0, [])).1 = mM c := by
 rw [(XE jK (sz c)).1 c (Nat.le_refl _)]
 have e := Wp (iw c) [] (by rw [List.nil_append]; exact h) (by simp) rfl
 have e2 : (vX jK (iw c) (0, [])).1 = (decide (0 + (iw c).length ≤ 20000) && ((iw c).all oh && gm (lv ([] ++ iw c)))) := e
 rw [e2, Nat.zero_add, List.nil_append]
 rfl
theorem YF : ∀ (N : Nat) (l : List Int), l.Nodup → (∀ i ∈ l, 0 ≤ i ∧ i < (N : Int)) → l.length ≤ N := by
 intro N
 induction N with
 | zero =>
  intro l _ h
  cases l with
  | nil => simp
  | cons x xs => have := h x (by simp); omega
 | succ N ih =>
  intro l hn h
  have h1 := ih (l.filter fun i => decide (i ≠ (N : Int))) (hn.filter _) (fun i hi => by
   have h2 := List.mem_filter.1 hi
   have h3 := h i h2.1
   have h4 := of_decide_eq_true h2.2
   omega)
  have h5 : ∀ (m : List Int), m.Nodup → m.length ≤ (m.filter fun i => decide (i ≠ (N : Int))).length + 1 := by
   intro m
   induction m with
   | nil => intro _; simp
   | cons y ys ihm =>
    intro hm
    rw [List.nodup_cons] at hm
    by_cases hy : y = (N : Int)
    ·have : ys.filter (fun i => decide (i ≠ (N : Int))) = ys := by
      rw [List.filter_eq_self]
      intro i hi
      exact decide_eq_true (fun e => hm.1 (by rw [hy, ← e]; exact hi))
     rw [List.filter_cons_of_neg (by simp [hy]), this, List.length_cons]
     exact Nat.le_refl _
    ·rw [List.filter_cons_of_pos (by simpa using hy), List.length_cons, List.length_cons]
     have := ihm hm.2
     omega
  have := h5 l hn
  omega
def IV (ids : List Int) : DataW Unit := ids.foldr (fun i D => D.put (.int .i64 i) (.lit (.bool true))) (.map [])
theorem YZ : ∀ ids : List Int, Maps.IsMap (IV ids) := by
 intro ids
 induction ids with
 | nil => exact Maps.isMap_empty
 | cons x xs ih => exact Maps.IsMap.put ih _ _
theorem RZ (i : Int) : ∀ ids : List Int, (IV ids).atKey (.int .i64 i) (.lit (.bool false)) = .lit (.bool (decide (i ∈ ids))) := by
 intro ids
 induction ids with
 | nil => rfl
 | cons x xs ih =>
  show (DataW.put (IV xs) (.int .i64 x) (.lit (.bool true))).atKey (.int .i64 i) (.lit (.bool false)) = _
  by_cases h : i = x
  ·subst h
   rw [Maps.atKey_put_same (YZ xs) (by simp [WideAt.IsKeyLit])]
   simp
  ·rw [Maps.atKey_put_other (by intro e; injection e with _ e; exact h e), ih]
   simp [h]
structure nJ (w0 : World) (bn bm B : Nat) (s : Int × List Int) (W : World) : Prop where
 hn : W.heap[bn]? = some (.cells #[.int .i64 s.1] 3 (0, 0))
 hm : W.heap[bm]? = some (.cells #[.map (some B)] 161 (0, 0))
 map : W.ownsMap (H := Unit) Try.prog 3 (plainElem Try.prog 4) B s.2.length (IV s.2)
 below : Below w0.heap.size w0 W
 gn : w0.heap.size ≤ bn
 gB : w0.heap.size ≤ B
 nd : s.2.Nodup
 rg : ∀ i ∈ s.2, 0 ≤ i ∧ i ≤ 2147483647
theorem below_grown {W W' : World} (h : Below W.heap.size W W') : W.grownBy W' none := ⟨h.os, h.tape, h.output, h.size, fun k hk _ => h.block k hk⟩
theorem nJ.step {w0 W W' : World} {bn bm B : Nat} {s : Int × List Int} (h : nJ w0 bn bm B s W) (hb : Below W.heap.size W W') : nJ w0 bn bm B s W' :=
 ⟨aQ h.hn hb, aQ h.hm hb, h.map.kept (below_grown hb) (by simp), au h.below hb, h.gn, h.gB, h.nd, h.rg⟩
theorem nJ.ZU {w0 W : World} {bn bm B : Nat} {s : Int × List Int} (h : nJ w0 bn bm B s W) : bn ≠ B ∧ bm ≠ B ∧ bm ≠ bn := by
 obtain ⟨es, cl, hB, _⟩ := h.map
 refine ⟨fun e => ?_, fun e => ?_, wH h.hm h.hn (by decide)⟩
 ·have := h.hn; rw [e, hB] at this; cases this
 ·have := h.hm; rw [e, hB] at this; cases this
def xY (bn B : Nat) (k : Nat) : Prop := k = bn ∨ k = B
section
variable {P : Program} {ops : Array Oper} {rest : List Oper} {o : Oper} {a : Act} {Q : Exit → Act → World → Prop}
theorem Hf (w : World) (hg : o.guard = none) (m x : Operand) (t : TypeId) (hop : o.op = Op.lookup t m x false)
  (k e : TypeId) (K : Maps.Keyed P k) (ht : P.underlying t = some (.map k e)) (he : P.underlying e = some .bool) (hz : (zeroValue e).run P w = .ok (.bool false) w) (b n : Nat) (D : DataW Unit)
  (hm : a.eval m = .map (some b)) (hown : w.ownsMap P k (plainElem P e) b n D) (key : Value) (kl : Lit) (hx : a.eval x = key) (hkey : keyOf P k key = some kl) (r : Bool) (hr : D.atKey kl (.lit (.bool false)) = .lit (.bool r))
  (hK : wpList P ops Q rest (a.put o.dst (.bool r)) w) : wpList P ops Q (o :: rest) a w := by
 refine wpList_plain hg fun K' hK' => ?_
 obtain ⟨v, ps, hrun, hv⟩ := hown.lookup K ht hz (plainElem_bool he false) hkey
 have hv2 : v = .bool r := by
  rw [hr] at hv
  unfold plainElem at hv
  rw [he] at hv
  cases v with
  | bool q =>
   simp only [Option.some.injEq, Prod.mk.injEq, DataW.lit.injEq, Lit.bool.injEq] at hv
   rw [hv.1]
  | _ => cases hv
 subst hv2
 unfold Oper.wp
 simp [execOp, hop, hm, hx, hrun, Result.andThen]
 exact hK' _ _ hK
end
theorem DD (x : ai) (B : Option Addr) (cb : Nat) (w : World) : Calls Try.prog 177 #[.agg #[.int .u8 x.f0, .int .i64 x.f1.f0, .int .i64 x.f1.f1, .int .i64 x.f1.f2, .int .i64 x.f1.f3, .int .i64 x.f2, .slice B x.f3.length cb]] w fun e w' => e = .returned (.bool (yt x)) ∧ Below w.heap.size w w' := by
 unfold yt
 by_cases k1 : x.f0 = 1
 ·rw [if_pos k1]
  have k1b : (x.f0 == 1) = true := beq_iff_eq.mpr k1
  clear k1
  by_cases l0 : x.f3.length = 0
  ·rw [decide_eq_true l0, Bool.true_and]
   have l1 : ((x.f3.length : Int) == 0) = true := by simp [l0]
   have l2 : (x.f3.length == 0) = true := by simp [l0]
   clear l0
   by_cases i0 : 0 ≤ x.f2
   ·rw [decide_eq_true i0, Bool.true_and]
    have V7 : decide (0 ≤ x.f2) = true := decide_eq_true i0
    by_cases i1 : x.f2 ≤ 2147483647
    ·rw [decide_eq_true i1]
     have i1b : decide (x.f2 ≤ 2147483647) = true := decide_eq_true i1
     go_enter Try.func177, Try.ntmps177
     go_wp2_with (((with_reducible refine aG (N := 1) rfl ?_); refine aU ?hg (N := 1) ?hd (cs := #[.int .u8 x.f0, .int .i64 x.f1.f0, .int .i64 x.f1.f1, .int .i64 x.f1.f2, .int .i64 x.f1.f3, .int .i64 x.f2, .slice B x.f3.length cb]) (t := 26) ?hr ?_; (case hd => rfl); (case hg => rfl); (case hr => (go_simp; done)); intro b1 hg w1 hbox hb; have HB := ae.mk hb; have K1 := ae.mk hbox; clear hb hbox hg; have c0 := (af K1.out 0).trans rfl; have c1 := (af K1.out 1).trans rfl; have c2 := (af K1.out 2).trans rfl; have c3 := (af K1.out 3).trans rfl; have c4 := (af K1.out 4).trans rfl; have c5 := (af K1.out 5).trans rfl; have c6 := (af K1.out 6).trans rfl))
     go_ret
     exact ⟨rfl, HB.out⟩
    ·rw [decide_eq_false i1]
     have i1b : decide (x.f2 ≤ 2147483647) = false := decide_eq_false i1
     go_enter Try.func177, Try.ntmps177
     go_wp2_with (((with_reducible refine aG (N := 1) rfl ?_); refine aU ?hg (N := 1) ?hd (cs := #[.int .u8 x.f0, .int .i64 x.f1.f0, .int .i64 x.f1.f1, .int .i64 x.f1.f2, .int .i64 x.f1.f3, .int .i64 x.f2, .slice B x.f3.length cb]) (t := 26) ?hr ?_; (case hd => rfl); (case hg => rfl); (case hr => (go_simp; done)); intro b1 hg w1 hbox hb; have HB := ae.mk hb; have K1 := ae.mk hbox; clear hb hbox hg; have c0 := (af K1.out 0).trans rfl; have c1 := (af K1.out 1).trans rfl; have c2 := (af K1.out 2).trans rfl; have c3 := (af K1.out 3).trans rfl; have c4 := (af K1.out 4).trans rfl; have c5 := (af K1.out 5).trans rfl; have c6 := (af K1.out 6).trans rfl))
     go_ret
     exact ⟨rfl, HB.out⟩
   ·rw [decide_eq_false i0, Bool.false_and]
    have V7 : decide (0 ≤ x.f2) = false := decide_eq_false i0
    go_enter Try.func177, Try.ntmps177
    go_wp2_with (((with_reducible refine aG (N := 1) rfl ?_); refine aU ?hg (N := 1) ?hd (cs := #[.int .u8 x.f0, .int .i64 x.f1.f0, .int .i64 x.f1.f1, .int .i64 x.f1.f2, .int .i64 x.f1.f3, .int .i64 x.f2, .slice B x.f3.length cb]) (t := 26) ?hr ?_; (case hd => rfl); (case hg => rfl); (case hr => (go_simp; done)); intro b1 hg w1 hbox hb; have HB := ae.mk hb; have K1 := ae.mk hbox; clear hb hbox hg; have c0 := (af K1.out 0).trans rfl; have c1 := (af K1.out 1).trans rfl; have c2 := (af K1.out 2).trans rfl; have c3 := (af K1.out 3).trans rfl; have c4 := (af K1.out 4).trans rfl; have c5 := (af K1.out 5).trans rfl; have c6 := (af K1.out 6).trans rfl))
    go_ret
    exact ⟨rfl, HB.out⟩
  ·rw [decide_eq_false l0, Bool.false_and]
   have l1 : ((x.f3.length : Int) == 0) = false := by simp; intro h; exact l0 (by simp [h])
   have l2 : (x.f3.length == 0) = false := by simpa using l0
   clear l0
   go_enter Try.func177, Try.ntmps177
   go_wp2_with (((with_reducible refine aG (N := 1) rfl ?_); refine aU ?hg (N := 1) ?hd (cs := #[.int .u8 x.f0, .int .i64 x.f1.f0, .int .i64 x.f1.f1, .int .i64 x.f1.f2, .int .i64 x.f1.f3, .int .i64 x.f2, .slice B x.f3.length cb]) (t := 26) ?hr ?_; (case hd => rfl); (case hg => rfl); (case hr => (go_simp; done)); intro b1 hg w1 hbox hb; have HB := ae.mk hb; have K1 := ae.mk hbox; clear hb hbox hg; have c0 := (af K1.out 0).trans rfl; have c1 := (af K1.out 1).trans rfl; have c2 := (af K1.out 2).trans rfl; have c3 := (af K1.out 3).trans rfl; have c4 := (af K1.out 4).trans rfl; have c5 := (af K1.out 5).trans rfl; have c6 := (af K1.out 6).trans rfl))
   go_ret
   exact ⟨rfl, HB.out⟩
 ·rw [if_neg k1]
  have k1b : (x.f0 == 1) = false := beq_eq_false_iff_ne.mpr k1
  by_cases k2 : x.f0 = 2
  ·rw [if_pos (.inl k2)]
   have k2b : (x.f0 == 2) = true := beq_iff_eq.mpr k2
   clear k2 k1
   by_cases l0 : 2 ≤ x.f3.length
   ·rw [decide_eq_true l0, Bool.true_and]
    have l1 : (2 : Int) ≤ (x.f3.length : Int) := by omega
    by_cases i0 : x.f2 = 0
    ·rw [decide_eq_true i0]
     have V7 : (x.f2 == 0) = true := beq_iff_eq.mpr i0
     clear i0
     go_enter Try.func177, Try.ntmps177
     go_wp2_with (((with_reducible refine aG (N := 1) rfl ?_); refine aU ?hg (N := 1) ?hd (cs := #[.int .u8 x.f0, .int .i64 x.f1.f0, .int .i64 x.f1.f1, .int .i64 x.f1.f2, .int .i64 x.f1.f3, .int .i64 x.f2, .slice B x.f3.length cb]) (t := 26) ?hr ?_; (case hd => rfl); (case hg => rfl); (case hr => (go_simp; done)); intro b1 hg w1 hbox hb; have HB := ae.mk hb; have K1 := ae.mk hbox; clear hb hbox hg; have c0 := (af K1.out 0).trans rfl; have c1 := (af K1.out 1).trans rfl; have c2 := (af K1.out 2).trans rfl; have c3 := (af K1.out 3).trans rfl; have c4 := (af K1.out 4).trans rfl; have c5 := (af K1.out 5).trans rfl; have c6 := (af K1.out 6).trans rfl))
     go_ret
     exact ⟨rfl, HB.out⟩
    ·rw [decide_eq_false i0]
     have V7 : (x.f2 == 0) = false := beq_eq_false_iff_ne.mpr i0
     clear i0
     go_enter Try.func177, Try.ntmps177
     go_wp2_with (((with_reducible refine aG (N := 1) rfl ?_); refine aU ?hg (N := 1) ?hd (cs := #[.int .u8 x.f0, .int .i64 x.f1.f0, .int .i64 x.f1.f1, .int .i64 x.f1.f2, .int .i64 x.f1.f3, .int .i64 x.f2, .slice B x.f3.length cb]) (t := 26) ?hr ?_; (case hd => rfl); (case hg => rfl); (case hr => (go_simp; done)); intro b1 hg w1 hbox hb; have HB := ae.mk hb; have K1 := ae.mk hbox; clear hb hbox hg; have c0 := (af K1.out 0).trans rfl; have c1 := (af K1.out 1).trans rfl; have c2 := (af K1.out 2).trans rfl; have c3 := (af K1.out 3).trans rfl; have c4 := (af K1.out 4).trans rfl; have c5 := (af K1.out 5).trans rfl; have c6 := (af K1.out 6).trans rfl))
     go_ret
     exact ⟨rfl, HB.out⟩
   ·rw [decide_eq_false l0, Bool.false_and]
    have l1 : ¬ (2 : Int) ≤ (x.f3.length : Int) := by omega
    go_enter Try.func177, Try.ntmps177
    go_wp2_with (((with_reducible refine aG (N := 1) rfl ?_); refine aU ?hg (N := 1) ?hd (cs := #[.int .u8 x.f0, .int .i64 x.f1.f0, .int .i64 x.f1.f1, .int .i64 x.f1.f2, .int .i64 x.f1.f3, .int .i64 x.f2, .slice B x.f3.length cb]) (t := 26) ?hr ?_; (case hd => rfl); (case hg => rfl); (case hr => (go_simp; done)); intro b1 hg w1 hbox hb; have HB := ae.mk hb; have K1 := ae.mk hbox; clear hb hbox hg; have c0 := (af K1.out 0).trans rfl; have c1 := (af K1.out 1).trans rfl; have c2 := (af K1.out 2).trans rfl; have c3 := (af K1.out 3).trans rfl; have c4 := (af K1.out 4).trans rfl; have c5 := (af K1.out 5).trans rfl; have c6 := (af K1.out 6).trans rfl))
    go_ret
    exact ⟨rfl, HB.out⟩
  ·by_cases k3 : x.f0 = 3
   ·rw [if_pos (.inr k3)]
    have k2b : (x.f0 == 2) = false := beq_eq_false_iff_ne.mpr k2
    have k3b : (x.f0 == 3) = true := beq_iff_eq.mpr k3
    clear k3 k2 k1
    by_cases l0 : 2 ≤ x.f3.length
    ·rw [decide_eq_true l0, Bool.true_and]
     have l1 : (2 : Int) ≤ (x.f3.length : Int) := by omega
     by_cases i0 : x.f2 = 0
     ·rw [decide_eq_true i0]
      have V7 : (x.f2 == 0) = true := beq_iff_eq.mpr i0
      clear i0
      go_enter Try.func177, Try.ntmps177
      go_wp2_with (((with_reducible refine aG (N := 1) rfl ?_); refine aU ?hg (N := 1) ?hd (cs := #[.int .u8 x.f0, .int .i64 x.f1.f0, .int .i64 x.f1.f1, .int .i64 x.f1.f2, .int .i64 x.f1.f3, .int .i64 x.f2, .slice B x.f3.length cb]) (t := 26) ?hr ?_; (case hd => rfl); (case hg => rfl); (case hr => (go_simp; done)); intro b1 hg w1 hbox hb; have HB := ae.mk hb; have K1 := ae.mk hbox; clear hb hbox hg; have c0 := (af K1.out 0).trans rfl; have c1 := (af K1.out 1).trans rfl; have c2 := (af K1.out 2).trans rfl; have c3 := (af K1.out 3).trans rfl; have c4 := (af K1.out 4).trans rfl; have c5 := (af K1.out 5).trans rfl; have c6 := (af K1.out 6).trans rfl))
      go_ret
      exact ⟨rfl, HB.out⟩
     ·rw [decide_eq_false i0]
      have V7 : (x.f2 == 0) = false := beq_eq_false_iff_ne.mpr i0
      clear i0
      go_enter Try.func177, Try.ntmps177
      go_wp2_with (((with_reducible refine aG (N := 1) rfl ?_); refine aU ?hg (N := 1) ?hd (cs := #[.int .u8 x.f0, .int .i64 x.f1.f0, .int .i64 x.f1.f1, .int .i64 x.f1.f2, .int .i64 x.f1.f3, .int .i64 x.f2, .slice B x.f3.length cb]) (t := 26) ?hr ?_; (case hd => rfl); (case hg => rfl); (case hr => (go_simp; done)); intro b1 hg w1 hbox hb; have HB := ae.mk hb; have K1 := ae.mk hbox; clear hb hbox hg; have c0 := (af K1.out 0).trans rfl; have c1 := (af K1.out 1).trans rfl; have c2 := (af K1.out 2).trans rfl; have c3 := (af K1.out 3).trans rfl; have c4 := (af K1.out 4).trans rfl; have c5 := (af K1.out 5).trans rfl; have c6 := (af K1.out 6).trans rfl))
      go_ret
      exact ⟨rfl, HB.out⟩
    ·rw [decide_eq_false l0, Bool.false_and]
     have l1 : ¬ (2 : Int) ≤ (x.f3.length : Int) := by omega
     go_enter Try.func177, Try.ntmps177
     go_wp2_with (((with_reducible refine aG (N := 1) rfl ?_); refine aU ?hg (N := 1) ?hd (cs := #[.int .u8 x.f0, .int .i64 x.f1.f0, .int .i64 x.f1.f1, .int .i64 x.f1.f2, .int .i64 x.f1.f3, .int .i64 x.f2, .slice B x.f3.length cb]) (t := 26) ?hr ?_; (case hd => rfl); (case hg => rfl); (case hr => (go_simp; done)); intro b1 hg w1 hbox hb; have HB := ae.mk hb; have K1 := ae.mk hbox; clear hb hbox hg; have c0 := (af K1.out 0).trans rfl; have c1 := (af K1.out 1).trans rfl; have c2 := (af K1.out 2).trans rfl; have c3 := (af K1.out 3).trans rfl; have c4 := (af K1.out 4).trans rfl; have c5 := (af K1.out 5).trans rfl; have c6 := (af K1.out 6).trans rfl))
     go_ret
     exact ⟨rfl, HB.out⟩
   ·rw [if_neg (fun h => h.elim k2 k3)]
    have k2b : (x.f0 == 2) = false := beq_eq_false_iff_ne.mpr k2
    have k3b : (x.f0 == 3) = false := beq_eq_false_iff_ne.mpr k3
    go_enter Try.func177, Try.ntmps177
    go_wp2_with (((with_reducible refine aG (N := 1) rfl ?_); refine aU ?hg (N := 1) ?hd (cs := #[.int .u8 x.f0, .int .i64 x.f1.f0, .int .i64 x.f1.f1, .int .i64 x.f1.f2, .int .i64 x.f1.f3, .int .i64 x.f2, .slice B x.f3.length cb]) (t := 26) ?hr ?_; (case hd => rfl); (case hg => rfl); (case hr => (go_simp; done)); intro b1 hg w1 hbox hb; have HB := ae.mk hb; have K1 := ae.mk hbox; clear hb hbox hg; have c0 := (af K1.out 0).trans rfl; have c1 := (af K1.out 1).trans rfl; have c2 := (af K1.out 2).trans rfl; have c3 := (af K1.out 3).trans rfl; have c4 := (af K1.out 4).trans rfl; have c5 := (af K1.out 5).trans rfl; have c6 := (af K1.out 6).trans rfl))
    go_ret
    exact ⟨rfl, HB.out⟩
theorem afC {σ : Type} (Inv : σ → World → Prop) (step : σ → dO → Bool × σ) (g : Nat) (lb : Array Value) (eg : ∀ args w, (callFunc g args).run Try.prog w = .ok (.enter g args) w) (l : List dO) (A : Option Addr) (c : Nat)
  (hR : ∀ s W, Inv s W → Kd.C k23 W A l.length l) (hD : ∀ s W n, Inv s W → Inv s (W.drewN n))
  (hcall : ∀ s W (x : dO), x ∈ l → Inv s W → Calls Try.prog g (#[.agg #[.int .i64 x.f0, .int .i64 x.f1, .int .i64 x.f2, .int .i64 x.f3]] ++ lb) W fun e w' => e = .returned (.bool (step s x).1) ∧ Inv (step s x).2 w')
  (s : σ) (w : World) (hI : Inv s w) (hl : l.length ≤ 9223372036854775807) :
  Calls Try.prog 173 #[.slice A l.length c, .func (.func g) #[] lb] w fun e w' => e = .returned (.int .i64 (mr step 0 s l).1) ∧ Inv (mr step 0 s l).2 w' := by
 have HR := ae.mk hR
 have HI := ae.mk hI
 have AV := ae.mk hcall
 clear hR hcall hD hI
 go_enter Try.func173, Try.ntmps173
 go_wp2
 go_loopg [5, 8] l.length (fun gg _ v8 wr => ∃ (kk : Nat) (t : σ), kk ≤ l.length ∧ l.length - kk ≤ gg ∧ v8 = .int .i64 kk ∧ ae (Inv t wr) ∧ ae (mr step 0 s l = mr step kk t (l.drop kk)))
 case atStart => exact ⟨0, s, Nat.zero_le _, by omega, rfl, HI, ⟨by simp⟩⟩
 case round =>
  clear HI
  obtain ⟨kk, t, hkk, hg, rfl, HI, HS⟩ := hrel
  by_cases hlt : kk < l.length
  ·have hltz : (kk : Int) < (l.length : Int) := by omega
   obtain ⟨ad, rfl, hc0, hc1, hc2, hc3⟩ := OH (HR.out t wr HI.out) (kk : Int) (by omega) (by omega)
   have HX : ae (mr step kk t (l.drop kk) = if (step t (rM l (kk : Int))).1 = true then ((kk : Int), (step t (rM l (kk : Int))).2) else mr step ((kk + 1 : Nat) : Int) (step t (rM l (kk : Int))).2 (l.drop (kk + 1))) := ⟨RX step z23 l kk hlt t⟩
   have hmem : (rM l (kk : Int)) ∈ l := Es z23 l kk hlt
   have hcall := AV.out t wr _ hmem HI.out
   clear hmem
   simp only [Int.toNat_natCast] at hc0 hc1 hc2 hc3
   generalize rM l (kk : Int) = x at hc0 hc1 hc2 hc3 HX hcall
   have HC := ae.mk hcall
   clear hcall
   cases hq : (step t x).1 with
   | true =>
    have h := HC.out
    rw [hq] at h
    have HH := ae.mk h
    have HQ := ae.mk hq
    clear hq HC h
    go_wp2_with fail
    refine HH.out.mono ?_
    rintro e w' ⟨rfl, hb'⟩
    have HB := ae.mk hb'
    clear hb'
    go_wp2
    go_ret
    rw [HS.out, HX.out, if_pos HQ.out]
    exact ⟨rfl, HB.out⟩
   | false =>
    have h := HC.out
    rw [hq] at h
    have HH := ae.mk h
    have HQ := ae.mk hq
    clear hq HC h
    go_wp2_with fail
    refine HH.out.mono ?_
    rintro e w' ⟨rfl, hb'⟩
    have HB := ae.mk hb'
    clear hb'
    go_wp2
    go_roundg (l.length - (kk + 1))
    case measure => omega
    case rel =>
     refine ⟨kk + 1, (step t x).2, by omega, by omega, by go_num, HB, ⟨?_⟩⟩
     rw [HS.out, HX.out, if_neg (by rw [HQ.out]; simp)]
  ·have hltz : ¬ (kk : Int) < (l.length : Int) := by omega
   go_wp2
   go_ret
   rw [HS.out, List.drop_eq_nil_of_le (by omega)]
   exact ⟨rfl, HI.out⟩
theorem aeu {σ : Type} (Inv : σ → World → Prop) (step : σ → dO → Bool × σ) (g : Nat) (lb : Array Value) (eg : ∀ args w, (callFunc g args).run Try.prog w = .ok (.enter g args) w) (l : List dO) (A : Option Addr) (c : Nat)
  (hR : ∀ s W, Inv s W → Kd.C k23 W A l.length l) (hD : ∀ s W n, Inv s W → Inv s (W.drewN n))
  (hcall : ∀ s W (x : dO), x ∈ l → Inv s W → Calls Try.prog g (#[.agg #[.int .i64 x.f0, .int .i64 x.f1, .int .i64 x.f2, .int .i64 x.f3]] ++ lb) W fun e w' => e = .returned (.bool (step s x).1) ∧ Inv (step s x).2 w')
  (s : σ) (w : World) (hI : Inv s w) (hl : l.length ≤ 9223372036854775807) :
  Calls Try.prog 134 #[.slice A l.length c, .func (.func g) #[] lb] w fun e w' => e = .returned (.bool (uu step s l).1) ∧ Inv (uu step s l).2 w' := by
 have hi := afC Inv step g lb eg l A c hR hD hcall s w hI hl
 rw [Qo]
 clear hR hD hcall hI
 generalize mr step 0 s l = r at hi
 have HI := ae.mk hi
 clear hi
 go_enter Try.func134, Try.ntmps134
 go_wp2_with fail
 refine HI.out.mono ?_
 rintro e w' ⟨rfl, hb'⟩
 have HB := ae.mk hb'
 clear hb'
 go_wp2
 go_ret
 exact ⟨rfl, HB.out⟩
theorem may1 (x : dO) (w : World) : Calls Try.prog 138 #[.agg #[.int .i64 x.f0, .int .i64 x.f1, .int .i64 x.f2, .int .i64 x.f3]] w fun e w' => e = .returned (.bool (!lu x)) ∧ Below w.heap.size w w' := by
 have hc := fun W => yR.calls x.f0 x.f1 x.f2 x.f3 (lu x) W (PZ _ _ _ _)
 have HC := ae.mk hc
 clear hc
 cases hm : lu x with
 | true =>
  rw [hm] at HC
  clear hm
  go_enter Try.func138, Try.ntmps138
  go_wp2_with fail
  refine (HC.out _).mono ?_
  rintro e w' ⟨rfl, hb⟩
  have HB := ae.mk hb
  clear hb
  go_wp2
  go_ret
  exact ⟨rfl, yg (gV (Below.refl _ _) _) (by simp) HB.out⟩
 | false =>
  rw [hm] at HC
  clear hm
  go_enter Try.func138, Try.ntmps138
  go_wp2_with fail
  refine (HC.out _).mono ?_
  rintro e w' ⟨rfl, hb⟩
  have HB := ae.mk hb
  clear hb
  go_wp2
  go_ret
  exact ⟨rfl, yg (gV (Below.refl _ _) _) (by simp) HB.out⟩
def mX.f (l0 : List (dO)) : Option Bool := some (l0.all lu)
theorem mX.calls (A0 : Option Addr) (c0 : Nat) (l0 : List (dO)) (r : Bool) (w : World) (hr0 : Kd.C k23 w A0 l0.length l0) (aip : l0.length ≤ c0) (h : mX.f l0 = some r) :
  Calls Try.prog 68 #[.slice A0 l0.length c0] w fun e w' => e = .returned (.bool r) ∧ Below w.heap.size w w' := by
 have hcon := aeu (fun (_ : Unit) W => Below w.heap.size w W) (fun _ x => (!lu x, ())) 138 #[] (uP Try.func138 (by decide +kernel) (by kernel_rfl)) l0 A0 c0 (fun _ W hW => Kd.iE hr0 hW) (fun _ W n hW => eP hW n)
  (fun _ W x _ hW => by
   rw [show (#[Value.agg #[.int .i64 x.f0, .int .i64 x.f1, .int .i64 x.f2, .int .i64 x.f3]] ++ #[] : Array Value) = #[.agg #[.int .i64 x.f0, .int .i64 x.f1, .int .i64 x.f2, .int .i64 x.f3]] by simp]
   exact (may1 x W).mono fun e w' ⟨he, hb⟩ => ⟨he, yg hW hW.size hb⟩) () w (Below.refl _ _) hr0.2.1
 rw [Na] at hcon
 have e1 : r = !(l0.any fun x => !lu x) := by
  injection h with h
  rw [← h]
  clear h hcon hr0 aip
  induction l0 with
  | nil => rfl
  | cons x xs ih => simp only [List.all_cons, List.any_cons, ih, Bool.not_or, Bool.not_not]
 subst e1
 generalize (l0.any fun x => !lu x) = b at hcon
 have HC := ae.mk hcon
 clear hcon h hr0
 go_enter Try.func68, Try.ntmps68
 go_wp2_with fail
 refine HC.out.mono ?_
 rintro e w' ⟨rfl, hb⟩
 have HB := ae.mk hb
 clear hb
 go_wp2
 go_ret
 exact ⟨rfl, HB.out⟩
theorem Kp.grown {S : Nat → Prop} {W W1 : World} {g : Nat} (h : W.grownBy W1 (some g)) (hs : S g) : Kp S W W1 := ⟨h.size, fun k hk hn => h.block k hk (fun e => hn (by injection e with e; rw [e]; exact hs))⟩
theorem nJ.count {w0 W W1 : World} {bn bm B : Nat} {s : Int × List Int} {n : Int} (h : nJ w0 bn bm B s W) (hk : W1.heap[bn]? = some (.cells #[.int .i64 n] 3 (0, 0))) (hb : Below w0.heap.size w0 W1) (hg : W.grownBy W1 (some bn)) : nJ w0 bn bm B (n, s.2) W1 :=
 ⟨hk, dG h.hm hg (fun e => h.ZU.2.2 (Option.some.inj e)), h.map.kept hg (fun e => h.ZU.1 (Option.some.inj e).symm), hb, h.gn, h.gB, h.nd, h.rg⟩
theorem nJ.met {w0 W W1 : World} {bn bm B : Nat} {s : Int × List Int} {i : Int} (h : nJ w0 bn bm B s W) (hm : W1.ownsMap (H := Unit) Try.prog 3 (plainElem Try.prog 4) B (s.2.length + 1) ((IV s.2).put (.int .i64 i) (.lit (.bool true)))) (hg : W.grownBy W1 (some B)) (hi : i ∉ s.2) (h0 : 0 ≤ i) (h1 : i ≤ 2147483647) : nJ w0 bn bm B (s.1, i :: s.2) W1 :=
 ⟨dG h.hn hg (fun e => h.ZU.1 (Option.some.inj e)), dG h.hm hg (fun e => h.ZU.2.1 (Option.some.inj e)), hm, grown_below h.below hg h.gB h.below.size, h.gn, h.gB, List.nodup_cons.2 ⟨hi, h.nd⟩, fun j hj => by
  rcases List.mem_cons.1 hj with rfl | hj
  ·exact ⟨h0, h1⟩
  ·exact h.rg j hj⟩
theorem aag (w : World) : (zeroValue 4).run Try.prog w = .ok (.bool false) w := by kernel_rfl
theorem ahd (w0 : World) (bn bm B : Nat) (s : Int × List Int) (W : World) (x : ai) (A : Option Addr) (cb : Nat) (hI : nJ w0 bn bm B s W) (h1 : 20000 < wrap64 (s.1 + 1)) :
  Calls Try.prog 176 (#[.agg #[.int .u8 x.f0, .int .i64 x.f1.f0, .int .i64 x.f1.f1, .int .i64 x.f1.f2, .int .i64 x.f1.f3, .int .i64 x.f2, .slice A x.f3.length cb]] ++ #[.pointer (some ⟨bn, 0, none⟩), .pointer (some ⟨bm, 0, none⟩)]) W fun e w' => e = .returned (.bool (jK s x).1) ∧ nJ w0 bn bm B (jK s x).2 w' ∧ Kp (xY bn B) W w' := by
 rw [show jK s x = (false, (wrap64 (s.1 + 1), s.2)) from by unfold jK; rw [if_pos h1]]
 have HI := ae.mk hI
 have HK := ae.mk (Kp.refl (xY bn B) W)
 clear hI
 simp only [List.append_toArray, List.cons_append, List.nil_append]
 go_enter Try.func176, Try.ntmps176
 go_wp2_with (first | ((with_reducible refine aG (N := 3) rfl ?_); refine aU ?hg (N := 3) ?hd (cs := #[.int .u8 x.f0, .int .i64 x.f1.f0, .int .i64 x.f1.f1, .int .i64 x.f1.f2, .int .i64 x.f1.f3, .int .i64 x.f2, .slice A x.f3.length cb]) (t := 26) ?hr ?_; (case hd => rfl); (case hg => rfl); (case hr => (go_simp; done)); intro b3 hg w3 hbox hb; have K3 := ae.mk hbox; have fC := ae.mk (HI.out.step hb); have fH := ae.mk (HK.out.trans (Kp.below hb)); clear HI HK; have HI := fC; have HK := fH; clear fC fH; clear hb hbox hg; have cn := (af HI.out.hn 0).trans rfl) | ((with_reducible refine mG (.store 3 (.tmp 1) (.tmp 6)) rfl ?_); go_loud (clear cn; refine iO (w0 := w0) rfl rfl 3 (.tmp 1) (.tmp 6) rfl (g := bn) (j := 0) (base := w0.heap.size) #[.int .i64 (wrap64 (s.1 + 1))] (u := .int .i64 (wrap64 (s.1 + 1))) (bK := [.int .i64 (wrap64 (s.1 + 1))]) ?sA ?sX rfl ?sT ?s1 HI.out.hn ?sJ rfl HI.out.below HI.out.below.size HI.out.gn ?_; (case sA => rfl); (case sX => rfl); (case sT => rfl); (case s1 => (simp [Value.oneCell'])); (case sJ => (simp)); intro ws hbk hbb hgg; have fC := ae.mk (HI.out.count hbk hbb hgg); have fH := ae.mk (HK.out.trans (Kp.grown hgg (Or.inl rfl))); have ji := ae.mk (dG K3.out hgg (fun e_ => wH K3.out HI.out.hn (by decide) (Option.some.inj e_))); clear HI HK K3 hbk hbb hgg; have HI := fC; have HK := fH; have K3 := ji; clear fC fH ji; have cn := (af HI.out.hn 0).trans rfl; have c0 := (af K3.out 0).trans rfl; have c1 := (af K3.out 1).trans rfl; have c2 := (af K3.out 2).trans rfl; have c3 := (af K3.out 3).trans rfl; have c4 := (af K3.out 4).trans rfl; have c5 := (af K3.out 5).trans rfl; have c6 := (af K3.out 6).trans rfl)))
 go_ret
 exact ⟨rfl, HI.out, HK.out⟩
theorem ahe (w0 : World) (bn bm B : Nat) (s : Int × List Int) (W : World) (x : ai) (A : Option Addr) (cb : Nat) (hI : nJ w0 bn bm B s W) (h1 : ¬ 20000 < wrap64 (s.1 + 1)) (h2 : yt x = false) :
  Calls Try.prog 176 (#[.agg #[.int .u8 x.f0, .int .i64 x.f1.f0, .int .i64 x.f1.f1, .int .i64 x.f1.f2, .int .i64 x.f1.f3, .int .i64 x.f2, .slice A x.f3.length cb]] ++ #[.pointer (some ⟨bn, 0, none⟩), .pointer (some ⟨bm, 0, none⟩)]) W fun e w' => e = .returned (.bool (jK s x).1) ∧ nJ w0 bn bm B (jK s x).2 w' ∧ Kp (xY bn B) W w' := by
 rw [show jK s x = (false, (wrap64 (s.1 + 1), s.2)) from by unfold jK; rw [if_neg h1, BQ, h2]; simp]
 have HN := ae.mk fun W => DD x A cb W
 rw [h2] at HN
 clear h2
 have HI := ae.mk hI
 have HK := ae.mk (Kp.refl (xY bn B) W)
 clear hI
 simp only [List.append_toArray, List.cons_append, List.nil_append]
 go_enter Try.func176, Try.ntmps176
 go_wp2_with (first | ((with_reducible refine aG (N := 3) rfl ?_); refine aU ?hg (N := 3) ?hd (cs := #[.int .u8 x.f0, .int .i64 x.f1.f0, .int .i64 x.f1.f1, .int .i64 x.f1.f2, .int .i64 x.f1.f3, .int .i64 x.f2, .slice A x.f3.length cb]) (t := 26) ?hr ?_; (case hd => rfl); (case hg => rfl); (case hr => (go_simp; done)); intro b3 hg w3 hbox hb; have K3 := ae.mk hbox; have fC := ae.mk (HI.out.step hb); have fH := ae.mk (HK.out.trans (Kp.below hb)); clear HI HK; have HI := fC; have HK := fH; clear fC fH; clear hb hbox hg; have cn := (af HI.out.hn 0).trans rfl) | ((with_reducible refine mG (.store 3 (.tmp 1) (.tmp 6)) rfl ?_); go_loud (clear cn; refine iO (w0 := w0) rfl rfl 3 (.tmp 1) (.tmp 6) rfl (g := bn) (j := 0) (base := w0.heap.size) #[.int .i64 (wrap64 (s.1 + 1))] (u := .int .i64 (wrap64 (s.1 + 1))) (bK := [.int .i64 (wrap64 (s.1 + 1))]) ?sA ?sX rfl ?sT ?s1 HI.out.hn ?sJ rfl HI.out.below HI.out.below.size HI.out.gn ?_; (case sA => rfl); (case sX => rfl); (case sT => rfl); (case s1 => (simp [Value.oneCell'])); (case sJ => (simp)); intro ws hbk hbb hgg; have fC := ae.mk (HI.out.count hbk hbb hgg); have fH := ae.mk (HK.out.trans (Kp.grown hgg (Or.inl rfl))); have ji := ae.mk (dG K3.out hgg (fun e_ => wH K3.out HI.out.hn (by decide) (Option.some.inj e_))); clear HI HK K3 hbk hbb hgg; have HI := fC; have HK := fH; have K3 := ji; clear fC fH ji; have cn := (af HI.out.hn 0).trans rfl; have c0 := (af K3.out 0).trans rfl; have c1 := (af K3.out 1).trans rfl; have c2 := (af K3.out 2).trans rfl; have c3 := (af K3.out 3).trans rfl; have c4 := (af K3.out 4).trans rfl; have c5 := (af K3.out 5).trans rfl; have c6 := (af K3.out 6).trans rfl)))
 clear cn
 clear c0 c1 c2 c3 c4 c5 c6
 refine (HN.out _).mono ?_
 rintro e wk ⟨rfl, hb⟩
 have ji := ae.mk (aQ K3.out hb)
 clear K3
 have K3 := ji
 clear ji
 have fC := ae.mk (HI.out.step hb); have fH := ae.mk (HK.out.trans (Kp.below hb)); clear HI HK; have HI := fC; have HK := fH; clear fC fH
 clear hb
 go_wp2
 go_ret
 exact ⟨rfl, HI.out, HK.out⟩
theorem ahf (w0 : World) (bn bm B : Nat) (s : Int × List Int) (W : World) (x : ai) (A : Option Addr) (cb : Nat) (hI : nJ w0 bn bm B s W) (h1 : ¬ 20000 < wrap64 (s.1 + 1)) (h2 : yt x = true) (h3 : lu x.f1 = false) :
  Calls Try.prog 176 (#[.agg #[.int .u8 x.f0, .int .i64 x.f1.f0, .int .i64 x.f1.f1, .int .i64 x.f1.f2, .int .i64 x.f1.f3, .int .i64 x.f2, .slice A x.f3.length cb]] ++ #[.pointer (some ⟨bn, 0, none⟩), .pointer (some ⟨bm, 0, none⟩)]) W fun e w' => e = .returned (.bool (jK s x).1) ∧ nJ w0 bn bm B (jK s x).2 w' ∧ Kp (xY bn B) W w' := by
 rw [show jK s x = (false, (wrap64 (s.1 + 1), s.2)) from by unfold jK; rw [if_neg h1, BQ, h2, h3]; simp]
 have HN := ae.mk fun W => DD x A cb W
 rw [h2] at HN
 clear h2
 have M1 := ae.mk (show mX.f [x.f1] = some false by simp [mX.f, h3])
 clear h3
 have HI := ae.mk hI
 have HK := ae.mk (Kp.refl (xY bn B) W)
 clear hI
 simp only [List.append_toArray, List.cons_append, List.nil_append]
 go_enter Try.func176, Try.ntmps176
 go_wp2_with (first | ((with_reducible refine aG (N := 3) rfl ?_); refine aU ?hg (N := 3) ?hd (cs := #[.int .u8 x.f0, .int .i64 x.f1.f0, .int .i64 x.f1.f1, .int .i64 x.f1.f2, .int .i64 x.f1.f3, .int .i64 x.f2, .slice A x.f3.length cb]) (t := 26) ?hr ?_; (case hd => rfl); (case hg => rfl); (case hr => (go_simp; done)); intro b3 hg w3 hbox hb; have K3 := ae.mk hbox; have fC := ae.mk (HI.out.step hb); have fH := ae.mk (HK.out.trans (Kp.below hb)); clear HI HK; have HI := fC; have HK := fH; clear fC fH; clear hb hbox hg; have cn := (af HI.out.hn 0).trans rfl) | ((with_reducible refine mG (.store 3 (.tmp 1) (.tmp 6)) rfl ?_); go_loud (clear cn; refine iO (w0 := w0) rfl rfl 3 (.tmp 1) (.tmp 6) rfl (g := bn) (j := 0) (base := w0.heap.size) #[.int .i64 (wrap64 (s.1 + 1))] (u := .int .i64 (wrap64 (s.1 + 1))) (bK := [.int .i64 (wrap64 (s.1 + 1))]) ?sA ?sX rfl ?sT ?s1 HI.out.hn ?sJ rfl HI.out.below HI.out.below.size HI.out.gn ?_; (case sA => rfl); (case sX => rfl); (case sT => rfl); (case s1 => (simp [Value.oneCell'])); (case sJ => (simp)); intro ws hbk hbb hgg; have fC := ae.mk (HI.out.count hbk hbb hgg); have fH := ae.mk (HK.out.trans (Kp.grown hgg (Or.inl rfl))); have ji := ae.mk (dG K3.out hgg (fun e_ => wH K3.out HI.out.hn (by decide) (Option.some.inj e_))); clear HI HK K3 hbk hbb hgg; have HI := fC; have HK := fH; have K3 := ji; clear fC fH ji; have cn := (af HI.out.hn 0).trans rfl; have c0 := (af K3.out 0).trans rfl; have c1 := (af K3.out 1).trans rfl; have c2 := (af K3.out 2).trans rfl; have c3 := (af K3.out 3).trans rfl; have c4 := (af K3.out 4).trans rfl; have c5 := (af K3.out 5).trans rfl; have c6 := (af K3.out 6).trans rfl)))
 clear cn
 clear c0 c1 c2 c3 c4 c5 c6
 refine (HN.out _).mono ?_
 rintro e wk ⟨rfl, hb⟩
 have ji := ae.mk (aQ K3.out hb)
 clear K3
 have K3 := ji
 clear ji
 have fC := ae.mk (HI.out.step hb); have fH := ae.mk (HK.out.trans (Kp.below hb)); clear HI HK; have HI := fC; have HK := fH; clear fC fH
 clear hb
 have c0 := (af K3.out 0).trans rfl
 have c1 := (af K3.out 1).trans rfl
 have c2 := (af K3.out 2).trans rfl
 have c3 := (af K3.out 3).trans rfl
 have c4 := (af K3.out 4).trans rfl
 have c5 := (af K3.out 5).trans rfl
 have c6 := (af K3.out 6).trans rfl
 go_wp2_with (((with_reducible refine aG (N := 17) rfl ?_); (try (refine iV (by rfl) ?_; dsimp only)); refine Kd.wW k23 _ 23 ?hg (N := 17) ?hd (xs := ([x.f1] : List dO)) (inner := [.int .i64 x.f1.f0, .int .i64 x.f1.f1, .int .i64 x.f1.f2, .int .i64 x.f1.f3]) (ok := fun _ => True) (gU := fun _ => True) ?hr ?hp (fun _ hk => hk) trivial (Below.refl _ _) (Nat.le_refl _) (by simp) ?_; (case hd => rfl); (case hg => rfl); (case hr => (go_simp; done)); (case hp => exact (dm.c4 (show Kd.M k23 _ _ _ x.f1 [.int .i64 x.f1.f0, .int .i64 x.f1.f1, .int .i64 x.f1.f2, .int .i64 x.f1.f3] from tN _ _ _ x.f1) (dm.none _ _))); intro vr wr ho hb pJ kD; clear pJ kD; obtain ⟨Ar, cr, er⟩ := Kd.iG ho; subst er; have ji := ae.mk (aQ K3.out hb); clear K3; have K3 := ji; clear ji; have fC := ae.mk (HI.out.step hb); have fH := ae.mk (HK.out.trans (Kp.below hb)); clear HI HK; have HI := fC; have HK := fH; clear fC fH; have HR := ae.mk (Kd.eQ ho).2.2; have LR := ae.mk (Kd.eQ ho).2.1; clear ho hb))
 clear c0 c1 c2 c3 c4 c5 c6
 refine (mX.calls Ar cr [x.f1] false _ HR.out LR.out M1.out).mono ?_
 rintro e wk ⟨rfl, hb⟩
 have ji := ae.mk (aQ K3.out hb)
 clear K3
 have K3 := ji
 clear ji
 have fC := ae.mk (HI.out.step hb); have fH := ae.mk (HK.out.trans (Kp.below hb)); clear HI HK; have HI := fC; have HK := fH; clear fC fH
 clear hb
 go_wp2
 go_ret
 exact ⟨rfl, HI.out, HK.out⟩
theorem ahg (w0 : World) (bn bm B : Nat) (s : Int × List Int) (W : World) (x : ai) (A : Option Addr) (cb : Nat) (hI : nJ w0 bn bm B s W) (h1 : ¬ 20000 < wrap64 (s.1 + 1)) (h2 : yt x = true) (h3 : lu x.f1 = true) (h4 : x.f0 ≠ 1) :
  Calls Try.prog 176 (#[.agg #[.int .u8 x.f0, .int .i64 x.f1.f0, .int .i64 x.f1.f1, .int .i64 x.f1.f2, .int .i64 x.f1.f3, .int .i64 x.f2, .slice A x.f3.length cb]] ++ #[.pointer (some ⟨bn, 0, none⟩), .pointer (some ⟨bm, 0, none⟩)]) W fun e w' => e = .returned (.bool (jK s x).1) ∧ nJ w0 bn bm B (jK s x).2 w' ∧ Kp (xY bn B) W w' := by
 rw [show jK s x = (true, (wrap64 (s.1 + 1), s.2)) from by unfold jK; rw [if_neg h1, BQ, h2, h3, if_neg (by simp), if_neg h4]]
 have HN := ae.mk fun W => DD x A cb W
 rw [h2] at HN
 clear h2
 have M1 := ae.mk (show mX.f [x.f1] = some true by simp [mX.f, h3])
 clear h3
 have E8 : (x.f0 == 1) = false := beq_eq_false_iff_ne.mpr h4
 clear h4
 have HI := ae.mk hI
 have HK := ae.mk (Kp.refl (xY bn B) W)
 clear hI
 simp only [List.append_toArray, List.cons_append, List.nil_append]
 go_enter Try.func176, Try.ntmps176
 go_wp2_with (first | ((with_reducible refine aG (N := 3) rfl ?_); refine aU ?hg (N := 3) ?hd (cs := #[.int .u8 x.f0, .int .i64 x.f1.f0, .int .i64 x.f1.f1, .int .i64 x.f1.f2, .int .i64 x.f1.f3, .int .i64 x.f2, .slice A x.f3.length cb]) (t := 26) ?hr ?_; (case hd => rfl); (case hg => rfl); (case hr => (go_simp; done)); intro b3 hg w3 hbox hb; have K3 := ae.mk hbox; have fC := ae.mk (HI.out.step hb); have fH := ae.mk (HK.out.trans (Kp.below hb)); clear HI HK; have HI := fC; have HK := fH; clear fC fH; clear hb hbox hg; have cn := (af HI.out.hn 0).trans rfl) | ((with_reducible refine mG (.store 3 (.tmp 1) (.tmp 6)) rfl ?_); go_loud (clear cn; refine iO (w0 := w0) rfl rfl 3 (.tmp 1) (.tmp 6) rfl (g := bn) (j := 0) (base := w0.heap.size) #[.int .i64 (wrap64 (s.1 + 1))] (u := .int .i64 (wrap64 (s.1 + 1))) (bK := [.int .i64 (wrap64 (s.1 + 1))]) ?sA ?sX rfl ?sT ?s1 HI.out.hn ?sJ rfl HI.out.below HI.out.below.size HI.out.gn ?_; (case sA => rfl); (case sX => rfl); (case sT => rfl); (case s1 => (simp [Value.oneCell'])); (case sJ => (simp)); intro ws hbk hbb hgg; have fC := ae.mk (HI.out.count hbk hbb hgg); have fH := ae.mk (HK.out.trans (Kp.grown hgg (Or.inl rfl))); have ji := ae.mk (dG K3.out hgg (fun e_ => wH K3.out HI.out.hn (by decide) (Option.some.inj e_))); clear HI HK K3 hbk hbb hgg; have HI := fC; have HK := fH; have K3 := ji; clear fC fH ji; have cn := (af HI.out.hn 0).trans rfl; have c0 := (af K3.out 0).trans rfl; have c1 := (af K3.out 1).trans rfl; have c2 := (af K3.out 2).trans rfl; have c3 := (af K3.out 3).trans rfl; have c4 := (af K3.out 4).trans rfl; have c5 := (af K3.out 5).trans rfl; have c6 := (af K3.out 6).trans rfl)))
 clear cn
 clear c0 c1 c2 c3 c4 c5 c6
 refine (HN.out _).mono ?_
 rintro e wk ⟨rfl, hb⟩
 have ji := ae.mk (aQ K3.out hb)
 clear K3
 have K3 := ji
 clear ji
 have fC := ae.mk (HI.out.step hb); have fH := ae.mk (HK.out.trans (Kp.below hb)); clear HI HK; have HI := fC; have HK := fH; clear fC fH
 clear hb
 have c0 := (af K3.out 0).trans rfl
 have c1 := (af K3.out 1).trans rfl
 have c2 := (af K3.out 2).trans rfl
 have c3 := (af K3.out 3).trans rfl
 have c4 := (af K3.out 4).trans rfl
 have c5 := (af K3.out 5).trans rfl
 have c6 := (af K3.out 6).trans rfl
 go_wp2_with (((with_reducible refine aG (N := 17) rfl ?_); (try (refine iV (by rfl) ?_; dsimp only)); refine Kd.wW k23 _ 23 ?hg (N := 17) ?hd (xs := ([x.f1] : List dO)) (inner := [.int .i64 x.f1.f0, .int .i64 x.f1.f1, .int .i64 x.f1.f2, .int .i64 x.f1.f3]) (ok := fun _ => True) (gU := fun _ => True) ?hr ?hp (fun _ hk => hk) trivial (Below.refl _ _) (Nat.le_refl _) (by simp) ?_; (case hd => rfl); (case hg => rfl); (case hr => (go_simp; done)); (case hp => exact (dm.c4 (show Kd.M k23 _ _ _ x.f1 [.int .i64 x.f1.f0, .int .i64 x.f1.f1, .int .i64 x.f1.f2, .int .i64 x.f1.f3] from tN _ _ _ x.f1) (dm.none _ _))); intro vr wr ho hb pJ kD; clear pJ kD; obtain ⟨Ar, cr, er⟩ := Kd.iG ho; subst er; have ji := ae.mk (aQ K3.out hb); clear K3; have K3 := ji; clear ji; have fC := ae.mk (HI.out.step hb); have fH := ae.mk (HK.out.trans (Kp.below hb)); clear HI HK; have HI := fC; have HK := fH; clear fC fH; have HR := ae.mk (Kd.eQ ho).2.2; have LR := ae.mk (Kd.eQ ho).2.1; clear ho hb))
 clear c0 c1 c2 c3 c4 c5 c6
 refine (mX.calls Ar cr [x.f1] true _ HR.out LR.out M1.out).mono ?_
 rintro e wk ⟨rfl, hb⟩
 have ji := ae.mk (aQ K3.out hb)
 clear K3
 have K3 := ji
 clear ji
 have fC := ae.mk (HI.out.step hb); have fH := ae.mk (HK.out.trans (Kp.below hb)); clear HI HK; have HI := fC; have HK := fH; clear fC fH
 clear hb
 have c0 := (af K3.out 0).trans rfl
 have c1 := (af K3.out 1).trans rfl
 have c2 := (af K3.out 2).trans rfl
 have c3 := (af K3.out 3).trans rfl
 have c4 := (af K3.out 4).trans rfl
 have c5 := (af K3.out 5).trans rfl
 have c6 := (af K3.out 6).trans rfl
 go_wp2
 go_ret
 exact ⟨rfl, HI.out, HK.out⟩
theorem ahh (w0 : World) (bn bm B : Nat) (s : Int × List Int) (W : World) (x : ai) (A : Option Addr) (cb : Nat) (hI : nJ w0 bn bm B s W) (h1 : ¬ 20000 < wrap64 (s.1 + 1)) (h2 : yt x = true) (h3 : lu x.f1 = true) (h4 : x.f0 = 1) (h5 : 0 ≤ x.f2) (h6 : x.f2 ≤ 2147483647) (h7 : x.f2 ∈ s.2) :
  Calls Try.prog 176 (#[.agg #[.int .u8 x.f0, .int .i64 x.f1.f0, .int .i64 x.f1.f1, .int .i64 x.f1.f2, .int .i64 x.f1.f3, .int .i64 x.f2, .slice A x.f3.length cb]] ++ #[.pointer (some ⟨bn, 0, none⟩), .pointer (some ⟨bm, 0, none⟩)]) W fun e w' => e = .returned (.bool (jK s x).1) ∧ nJ w0 bn bm B (jK s x).2 w' ∧ Kp (xY bn B) W w' := by
 rw [show jK s x = (false, (wrap64 (s.1 + 1), s.2)) from by unfold jK; rw [if_neg h1, BQ, h2, h3, if_neg (by simp), if_pos h4, if_pos h7]]
 have HN := ae.mk fun W => DD x A cb W
 rw [h2] at HN
 clear h2
 have M1 := ae.mk (show mX.f [x.f1] = some true by simp [mX.f, h3])
 clear h3
 have LK : ae ((IV s.2).atKey (.int .i64 x.f2) (.lit (.bool false)) = .lit (.bool true)) := ⟨by rw [RZ, decide_eq_true h7]⟩
 clear h7
 have WF : ae ((Lit.int .i64 x.f2).wf = true) := ⟨WalkArith.wf_i64 (by omega)⟩
 have E8 : (x.f0 == 1) = true := beq_iff_eq.mpr h4
 clear h4 h5 h6
 have HI := ae.mk hI
 have HK := ae.mk (Kp.refl (xY bn B) W)
 clear hI
 simp only [List.append_toArray, List.cons_append, List.nil_append]
 go_enter Try.func176, Try.ntmps176
 go_wp2_with (first | ((with_reducible refine aG (N := 3) rfl ?_); refine aU ?hg (N := 3) ?hd (cs := #[.int .u8 x.f0, .int .i64 x.f1.f0, .int .i64 x.f1.f1, .int .i64 x.f1.f2, .int .i64 x.f1.f3, .int .i64 x.f2, .slice A x.f3.length cb]) (t := 26) ?hr ?_; (case hd => rfl); (case hg => rfl); (case hr => (go_simp; done)); intro b3 hg w3 hbox hb; have K3 := ae.mk hbox; have fC := ae.mk (HI.out.step hb); have fH := ae.mk (HK.out.trans (Kp.below hb)); clear HI HK; have HI := fC; have HK := fH; clear fC fH; clear hb hbox hg; have cn := (af HI.out.hn 0).trans rfl) | ((with_reducible refine mG (.store 3 (.tmp 1) (.tmp 6)) rfl ?_); go_loud (clear cn; refine iO (w0 := w0) rfl rfl 3 (.tmp 1) (.tmp 6) rfl (g := bn) (j := 0) (base := w0.heap.size) #[.int .i64 (wrap64 (s.1 + 1))] (u := .int .i64 (wrap64 (s.1 + 1))) (bK := [.int .i64 (wrap64 (s.1 + 1))]) ?sA ?sX rfl ?sT ?s1 HI.out.hn ?sJ rfl HI.out.below HI.out.below.size HI.out.gn ?_; (case sA => rfl); (case sX => rfl); (case sT => rfl); (case s1 => (simp [Value.oneCell'])); (case sJ => (simp)); intro ws hbk hbb hgg; have fC := ae.mk (HI.out.count hbk hbb hgg); have fH := ae.mk (HK.out.trans (Kp.grown hgg (Or.inl rfl))); have ji := ae.mk (dG K3.out hgg (fun e_ => wH K3.out HI.out.hn (by decide) (Option.some.inj e_))); clear HI HK K3 hbk hbb hgg; have HI := fC; have HK := fH; have K3 := ji; clear fC fH ji; have cn := (af HI.out.hn 0).trans rfl; have c0 := (af K3.out 0).trans rfl; have c1 := (af K3.out 1).trans rfl; have c2 := (af K3.out 2).trans rfl; have c3 := (af K3.out 3).trans rfl; have c4 := (af K3.out 4).trans rfl; have c5 := (af K3.out 5).trans rfl; have c6 := (af K3.out 6).trans rfl)))
 clear cn
 clear c0 c1 c2 c3 c4 c5 c6
 refine (HN.out _).mono ?_
 rintro e wk ⟨rfl, hb⟩
 have ji := ae.mk (aQ K3.out hb)
 clear K3
 have K3 := ji
 clear ji
 have fC := ae.mk (HI.out.step hb); have fH := ae.mk (HK.out.trans (Kp.below hb)); clear HI HK; have HI := fC; have HK := fH; clear fC fH
 clear hb
 have c0 := (af K3.out 0).trans rfl
 have c1 := (af K3.out 1).trans rfl
 have c2 := (af K3.out 2).trans rfl
 have c3 := (af K3.out 3).trans rfl
 have c4 := (af K3.out 4).trans rfl
 have c5 := (af K3.out 5).trans rfl
 have c6 := (af K3.out 6).trans rfl
 go_wp2_with (((with_reducible refine aG (N := 17) rfl ?_); (try (refine iV (by rfl) ?_; dsimp only)); refine Kd.wW k23 _ 23 ?hg (N := 17) ?hd (xs := ([x.f1] : List dO)) (inner := [.int .i64 x.f1.f0, .int .i64 x.f1.f1, .int .i64 x.f1.f2, .int .i64 x.f1.f3]) (ok := fun _ => True) (gU := fun _ => True) ?hr ?hp (fun _ hk => hk) trivial (Below.refl _ _) (Nat.le_refl _) (by simp) ?_; (case hd => rfl); (case hg => rfl); (case hr => (go_simp; done)); (case hp => exact (dm.c4 (show Kd.M k23 _ _ _ x.f1 [.int .i64 x.f1.f0, .int .i64 x.f1.f1, .int .i64 x.f1.f2, .int .i64 x.f1.f3] from tN _ _ _ x.f1) (dm.none _ _))); intro vr wr ho hb pJ kD; clear pJ kD; obtain ⟨Ar, cr, er⟩ := Kd.iG ho; subst er; have ji := ae.mk (aQ K3.out hb); clear K3; have K3 := ji; clear ji; have fC := ae.mk (HI.out.step hb); have fH := ae.mk (HK.out.trans (Kp.below hb)); clear HI HK; have HI := fC; have HK := fH; clear fC fH; have HR := ae.mk (Kd.eQ ho).2.2; have LR := ae.mk (Kd.eQ ho).2.1; clear ho hb))
 clear c0 c1 c2 c3 c4 c5 c6
 refine (mX.calls Ar cr [x.f1] true _ HR.out LR.out M1.out).mono ?_
 rintro e wk ⟨rfl, hb⟩
 have ji := ae.mk (aQ K3.out hb)
 clear K3
 have K3 := ji
 clear ji
 have fC := ae.mk (HI.out.step hb); have fH := ae.mk (HK.out.trans (Kp.below hb)); clear HI HK; have HI := fC; have HK := fH; clear fC fH
 clear hb
 have c0 := (af K3.out 0).trans rfl
 have c1 := (af K3.out 1).trans rfl
 have c2 := (af K3.out 2).trans rfl
 have c3 := (af K3.out 3).trans rfl
 have c4 := (af K3.out 4).trans rfl
 have c5 := (af K3.out 5).trans rfl
 have c6 := (af K3.out 6).trans rfl
 have cm := (af HI.out.hm 0).trans rfl
 go_wp2_with (((with_reducible refine aG (N := 29) rfl ?_); (try (refine iV (by rfl) ?_; dsimp only)); refine Hf _ rfl _ _ 161 rfl 3 4 (Maps.int_keyed Try.underlying3) Try.underlying161 Try.underlying4 (aag _) B _ _ rfl HI.out.map _ (.int .i64 x.f2) rfl (Maps.keyOf_int_mk Try.underlying3 WF.out) true LK.out ?_))
 go_ret
 exact ⟨rfl, HI.out, HK.out⟩
theorem ahi (w0 : World) (bn bm B : Nat) (s : Int × List Int) (W : World) (x : ai) (A : Option Addr) (cb : Nat) (hI : nJ w0 bn bm B s W) (h1 : ¬ 20000 < wrap64 (s.1 + 1)) (h2 : yt x = true) (h3 : lu x.f1 = true) (h4 : x.f0 = 1) (h5 : 0 ≤ x.f2) (h6 : x.f2 ≤ 2147483647) (h7 : x.f2 ∉ s.2) :
  Calls Try.prog 176 (#[.agg #[.int .u8 x.f0, .int .i64 x.f1.f0, .int .i64 x.f1.f1, .int .i64 x.f1.f2, .int .i64 x.f1.f3, .int .i64 x.f2, .slice A x.f3.length cb]] ++ #[.pointer (some ⟨bn, 0, none⟩), .pointer (some ⟨bm, 0, none⟩)]) W fun e w' => e = .returned (.bool (jK s x).1) ∧ nJ w0 bn bm B (jK s x).2 w' ∧ Kp (xY bn B) W w' := by
 rw [show jK s x = (true, (wrap64 (s.1 + 1), x.f2 :: s.2)) from by unfold jK; rw [if_neg h1, BQ, h2, h3, if_neg (by simp), if_pos h4, if_neg h7]]
 have HN := ae.mk fun W => DD x A cb W
 rw [h2] at HN
 clear h2
 have M1 := ae.mk (show mX.f [x.f1] = some true by simp [mX.f, h3])
 clear h3
 have LK : ae ((IV s.2).atKey (.int .i64 x.f2) (.lit (.bool false)) = .lit (.bool false)) := ⟨by rw [RZ, decide_eq_false h7]⟩
 have NM := ae.mk h7
 clear h7
 have Ci : ae (s.2.length < maxLen) := ⟨by have h8 := YF 2147483648 s.2 hI.nd (fun i hi => by have := hI.rg i hi; omega); unfold maxLen; omega⟩
 have I0 := ae.mk h5
 have I1 := ae.mk h6
 have WF : ae ((Lit.int .i64 x.f2).wf = true) := ⟨WalkArith.wf_i64 (by omega)⟩
 have E8 : (x.f0 == 1) = true := beq_iff_eq.mpr h4
 clear h4 h5 h6
 have HI := ae.mk hI
 have HK := ae.mk (Kp.refl (xY bn B) W)
 clear hI
 simp only [List.append_toArray, List.cons_append, List.nil_append]
 go_enter Try.func176, Try.ntmps176
 go_wp2_with (first | ((with_reducible refine aG (N := 3) rfl ?_); refine aU ?hg (N := 3) ?hd (cs := #[.int .u8 x.f0, .int .i64 x.f1.f0, .int .i64 x.f1.f1, .int .i64 x.f1.f2, .int .i64 x.f1.f3, .int .i64 x.f2, .slice A x.f3.length cb]) (t := 26) ?hr ?_; (case hd => rfl); (case hg => rfl); (case hr => (go_simp; done)); intro b3 hg w3 hbox hb; have K3 := ae.mk hbox; have fC := ae.mk (HI.out.step hb); have fH := ae.mk (HK.out.trans (Kp.below hb)); clear HI HK; have HI := fC; have HK := fH; clear fC fH; clear hb hbox hg; have cn := (af HI.out.hn 0).trans rfl) | ((with_reducible refine mG (.store 3 (.tmp 1) (.tmp 6)) rfl ?_); go_loud (clear cn; refine iO (w0 := w0) rfl rfl 3 (.tmp 1) (.tmp 6) rfl (g := bn) (j := 0) (base := w0.heap.size) #[.int .i64 (wrap64 (s.1 + 1))] (u := .int .i64 (wrap64 (s.1 + 1))) (bK := [.int .i64 (wrap64 (s.1 + 1))]) ?sA ?sX rfl ?sT ?s1 HI.out.hn ?sJ rfl HI.out.below HI.out.below.size HI.out.gn ?_; (case sA => rfl); (case sX => rfl); (case sT => rfl); (case s1 => (simp [Value.oneCell'])); (case sJ => (simp)); intro ws hbk hbb hgg; have fC := ae.mk (HI.out.count hbk hbb hgg); have fH := ae.mk (HK.out.trans (Kp.grown hgg (Or.inl rfl))); have ji := ae.mk (dG K3.out hgg (fun e_ => wH K3.out HI.out.hn (by decide) (Option.some.inj e_))); clear HI HK K3 hbk hbb hgg; have HI := fC; have HK := fH; have K3 := ji; clear fC fH ji; have cn := (af HI.out.hn 0).trans rfl; have c0 := (af K3.out 0).trans rfl; have c1 := (af K3.out 1).trans rfl; have c2 := (af K3.out 2).trans rfl; have c3 := (af K3.out 3).trans rfl; have c4 := (af K3.out 4).trans rfl; have c5 := (af K3.out 5).trans rfl; have c6 := (af K3.out 6).trans rfl)))
 clear cn
 clear c0 c1 c2 c3 c4 c5 c6
 refine (HN.out _).mono ?_
 rintro e wk ⟨rfl, hb⟩
 have ji := ae.mk (aQ K3.out hb)
 clear K3
 have K3 := ji
 clear ji
 have fC := ae.mk (HI.out.step hb); have fH := ae.mk (HK.out.trans (Kp.below hb)); clear HI HK; have HI := fC; have HK := fH; clear fC fH
 clear hb
 have c0 := (af K3.out 0).trans rfl
 have c1 := (af K3.out 1).trans rfl
 have c2 := (af K3.out 2).trans rfl
 have c3 := (af K3.out 3).trans rfl
 have c4 := (af K3.out 4).trans rfl
 have c5 := (af K3.out 5).trans rfl
 have c6 := (af K3.out 6).trans rfl
 go_wp2_with (((with_reducible refine aG (N := 17) rfl ?_); (try (refine iV (by rfl) ?_; dsimp only)); refine Kd.wW k23 _ 23 ?hg (N := 17) ?hd (xs := ([x.f1] : List dO)) (inner := [.int .i64 x.f1.f0, .int .i64 x.f1.f1, .int .i64 x.f1.f2, .int .i64 x.f1.f3]) (ok := fun _ => True) (gU := fun _ => True) ?hr ?hp (fun _ hk => hk) trivial (Below.refl _ _) (Nat.le_refl _) (by simp) ?_; (case hd => rfl); (case hg => rfl); (case hr => (go_simp; done)); (case hp => exact (dm.c4 (show Kd.M k23 _ _ _ x.f1 [.int .i64 x.f1.f0, .int .i64 x.f1.f1, .int .i64 x.f1.f2, .int .i64 x.f1.f3] from tN _ _ _ x.f1) (dm.none _ _))); intro vr wr ho hb pJ kD; clear pJ kD; obtain ⟨Ar, cr, er⟩ := Kd.iG ho; subst er; have ji := ae.mk (aQ K3.out hb); clear K3; have K3 := ji; clear ji; have fC := ae.mk (HI.out.step hb); have fH := ae.mk (HK.out.trans (Kp.below hb)); clear HI HK; have HI := fC; have HK := fH; clear fC fH; have HR := ae.mk (Kd.eQ ho).2.2; have LR := ae.mk (Kd.eQ ho).2.1; clear ho hb))
 clear c0 c1 c2 c3 c4 c5 c6
 refine (mX.calls Ar cr [x.f1] true _ HR.out LR.out M1.out).mono ?_
 rintro e wk ⟨rfl, hb⟩
 have ji := ae.mk (aQ K3.out hb)
 clear K3
 have K3 := ji
 clear ji
 have fC := ae.mk (HI.out.step hb); have fH := ae.mk (HK.out.trans (Kp.below hb)); clear HI HK; have HI := fC; have HK := fH; clear fC fH
 clear hb
 have c0 := (af K3.out 0).trans rfl
 have c1 := (af K3.out 1).trans rfl
 have c2 := (af K3.out 2).trans rfl
 have c3 := (af K3.out 3).trans rfl
 have c4 := (af K3.out 4).trans rfl
 have c5 := (af K3.out 5).trans rfl
 have c6 := (af K3.out 6).trans rfl
 have cm := (af HI.out.hm 0).trans rfl
 go_wp2_with (first | ((with_reducible refine aG (N := 29) rfl ?_); (try (refine iV (by rfl) ?_; dsimp only)); refine Hf _ rfl _ _ 161 rfl 3 4 (Maps.int_keyed Try.underlying3) Try.underlying161 Try.underlying4 (aag _) B _ _ rfl HI.out.map _ (.int .i64 x.f2) rfl (Maps.keyOf_int_mk Try.underlying3 WF.out) false LK.out ?_) | (at_mapUpdate; refine wpList_mapUpdate_own _ rfl _ _ _ 161 rfl 3 4 (Maps.int_keyed Try.underlying3) Try.underlying161 _ B _ _ rfl HI.out.map Ci.out _ _ (.int .i64 x.f2) rfl rfl (Maps.keyOf_int_mk Try.underlying3 WF.out) (.lit (.bool true)) [] (plainElem_bool Try.underlying4 true) ?_; intro wu hown1 hgrow1; have fC := ae.mk (HI.out.met hown1 hgrow1 NM.out I0.out I1.out); have fH := ae.mk (HK.out.trans (Kp.grown hgrow1 (Or.inr rfl))); clear HI HK hown1 hgrow1; have HI := fC; have HK := fH; clear fC fH))
 go_ret
 exact ⟨rfl, HI.out, HK.out⟩
theorem afL (w0 : World) (bn bm B : Nat) (s : Int × List Int) (W : World) (x : ai) (A : Option Addr) (cb : Nat) (hI : nJ w0 bn bm B s W) :
  Calls Try.prog 176 (#[.agg #[.int .u8 x.f0, .int .i64 x.f1.f0, .int .i64 x.f1.f1, .int .i64 x.f1.f2, .int .i64 x.f1.f3, .int .i64 x.f2, .slice A x.f3.length cb]] ++ #[.pointer (some ⟨bn, 0, none⟩), .pointer (some ⟨bm, 0, none⟩)]) W fun e w' => e = .returned (.bool (jK s x).1) ∧ nJ w0 bn bm B (jK s x).2 w' ∧ Kp (xY bn B) W w' := by
 by_cases h1 : 20000 < wrap64 (s.1 + 1)
 ·exact ahd w0 bn bm B s W x A cb hI h1
 ·cases h2 : yt x with
  | false => exact ahe w0 bn bm B s W x A cb hI h1 h2
  | true =>
   cases h3 : lu x.f1 with
   | false => exact ahf w0 bn bm B s W x A cb hI h1 h2 h3
   | true =>
    by_cases h4 : x.f0 = 1
    ·have h8 := h2
     unfold yt at h8
     rw [if_pos h4] at h8
     simp only [Bool.and_eq_true, decide_eq_true_eq] at h8
     by_cases h7 : x.f2 ∈ s.2
     ·exact ahh w0 bn bm B s W x A cb hI h1 h2 h3 h4 h8.2.1 h8.2.2 h7
     ·exact ahi w0 bn bm B s W x A cb hI h1 h2 h3 h4 h8.2.1 h8.2.2 h7
    ·exact ahg w0 bn bm B s W x A cb hI h1 h2 h3 h4
section
variable {P : Program} {ops : Array Oper} {rest : List Oper} {o : Oper} {a : Act} {Q : Exit → Act → World → Prop}
theorem Wq {W : World} (hgd : o.guard = none) {N : Tmp} (_hd : o.dst = some N) (t k e : TypeId) (ho : o.op = .makeMap t none)
  (h : ∀ g, g = W.heap.size → ∀ w1, Below W.heap.size W w1 → w1.ownsMap (H := Unit) P k (plainElem P e) g 0 (.map []) → wpList P ops Q rest (a.put o.dst (.map (some g))) w1) : wpList P ops Q (o :: rest) a W := by
 refine Kd.CO hgd (w1 := W.alloc (.map #[] 0)) (v := .map (some W.heap.size)) ?_ (h _ rfl _ (gV (Below.refl _ _) _) (World.ownsMap_made W P k _))
 unfold execOp
 simp [ho, run_makeMap, Result.andThen]
end
theorem afK (c : ai) (A : Option Addr) (cc : Nat) (W : World) (hz : sz c ≤ 1048576) (hr : Kd.C k26 W A c.f3.length c.f3) (hc : c.f3.length ≤ cc) : Calls Try.prog 144 #[.agg #[.int .u8 c.f0, .int .i64 c.f1.f0, .int .i64 c.f1.f1, .int .i64 c.f1.f2, .int .i64 c.f1.f3, .int .i64 c.f2, .slice A c.f3.length cc]] W fun e w' => e = .returned (.bool (mM c)) ∧ Below W.heap.size W w' := by
 have Xt := ae.mk fun (bn bm B : Nat) (W1 : World) (hI : nJ W bn bm B (0, []) W1) => ad5 (xY bn B) (nJ W bn bm B) jK 176 #[.pointer (some ⟨bn, 0, none⟩), .pointer (some ⟨bm, 0, none⟩)] (uP Try.func176 (by decide +kernel) (by kernel_rfl)) W (fun s w h => h.below) (fun s w w' h hb => h.step hb)
  (fun s w h k hk => hk.elim (fun e => e ▸ gJ h.hn) (fun e => e ▸ h.map.lt)) (fun s w x B' cb h _ _ => afL W bn bm B s w x B' cb h) (sz c) c (Nat.le_refl _) A cc hr hc (0, []) W1 hI
 rw [XD c hz] at Xt
 have HB := ae.mk (Below.refl W.heap.size W)
 clear hr hc hz
 generalize mM c = r at Xt ⊢
 go_enter Try.func144, Try.ntmps144
 go_wp2_with (first | ((with_reducible refine aG (N := 1) rfl ?_); refine aU ?hg (N := 1) ?hd (cs := #[.int .u8 c.f0, .int .i64 c.f1.f0, .int .i64 c.f1.f1, .int .i64 c.f1.f2, .int .i64 c.f1.f3, .int .i64 c.f2, .slice A c.f3.length cc]) (t := 26) ?hr ?_; (case hd => rfl); (case hg => rfl); (case hr => (go_simp; done)); intro b1 hg wb1 hbox hb; have fA := ae.mk hbox; have dH := ae.mk (au HB.out hb); clear HB; have HB := dH; clear dH; clear hb hbox hg) | ((with_reducible refine aG (N := 5) rfl ?_); refine Wq rfl (N := 5) rfl 161 3 4 rfl ?_; intro B hg wB hb hM; have GB := ae.mk (show W.heap.size ≤ B by rw [hg]; exact HB.out.size); have HM := ae.mk hM; have dH := ae.mk (au HB.out hb); have iJ := ae.mk (aQ fA.out hb); clear HB fA; have HB := dH; have fA := iJ; clear dH iJ; clear hb hM hg) | ((with_reducible refine aG (N := 3) rfl ?_); refine aU ?hg (N := 3) ?hd (cs := #[.map none]) (t := 161) ?hr ?_; (case hd => rfl); (case hg => rfl); (case hr => (go_simp; done)); intro bm hg wbm hbox hb; have Dn := ae.mk hbox; have Gbm := ae.mk (show W.heap.size ≤ bm by rw [hg]; exact HB.out.size); have dH := ae.mk (au HB.out hb); have iJ := ae.mk (aQ fA.out hb); have Cb := ae.mk (HM.out.kept (below_grown hb) (by simp)); clear HB fA HM; have HB := dH; have fA := iJ; have HM := Cb; clear dH iJ Cb; clear hb hbox hg) | ((with_reducible refine mG (.store 161 (.tmp 3) (.tmp 5)) rfl ?_); go_loud (refine iO (w0 := W) rfl rfl 161 (.tmp 3) (.tmp 5) rfl (g := bm) (j := 0) (base := W.heap.size) #[.map (some B)] (u := .map (some B)) (bK := [.map (some B)]) ?sA ?sX rfl ?sT ?s1 Dn.out ?sJ rfl HB.out HB.out.size Gbm.out ?_; (case sA => rfl); (case sX => rfl); (case sT => rfl); (case s1 => (simp [Value.oneCell'])); (case sJ => (simp)); intro amO hbk hbb hgg; have NB : ae (B ≠ bm) := ⟨fun e => by have hq := Dn.out; obtain ⟨es, cl, hB, _⟩ := HM.out; rw [← e, hB] at hq; cases hq⟩; have iJ := ae.mk (dG fA.out hgg (fun e_ => wH fA.out Dn.out (by decide) (Option.some.inj e_))); have Cb := ae.mk (HM.out.kept hgg (fun e_ => NB.out (Option.some.inj e_))); clear fA HM; have fA := iJ; have HM := Cb; clear iJ Cb; clear Dn HB; have Dn := ae.mk hbk; have HB := ae.mk hbb; clear hbk hbb hgg)) | ((with_reducible refine aG (N := 4) rfl ?_); refine aU ?hg (N := 4) ?hd (cs := #[.int .i64 0]) (t := 3) ?hr ?_; (case hd => rfl); (case hg => rfl); (case hr => (go_simp; done)); intro bn hg wbn hbox hb; have Og := ae.mk hbox; have Gbn := ae.mk (show W.heap.size ≤ bn by rw [hg]; exact HB.out.size); have dH := ae.mk (au HB.out hb); have iJ := ae.mk (aQ fA.out hb); have JG := ae.mk (aQ Dn.out hb); have Cb := ae.mk (HM.out.kept (below_grown hb) (by simp)); clear HB fA Dn HM; have HB := dH; have fA := iJ; have Dn := JG; have HM := Cb; clear dH iJ JG Cb; clear hb hbox hg) | ((with_reducible refine mG (.store 3 (.tmp 4) (.const (.int .i64 0))) rfl ?_); go_loud (refine iO (w0 := W) rfl rfl 3 (.tmp 4) (.const (.int .i64 0)) rfl (g := bn) (j := 0) (base := W.heap.size) #[.int .i64 0] (u := .int .i64 0) (bK := [.int .i64 0]) ?sA ?sX rfl ?sT ?s1 Og.out ?sJ rfl HB.out HB.out.size Gbn.out ?_; (case sA => rfl); (case sX => rfl); (case sT => rfl); (case s1 => (simp [Value.oneCell'])); (case sJ => (decide)); intro amP hbk hbb hgg; have NN : ae (B ≠ bn) := ⟨fun e => by have hq := Og.out; obtain ⟨es, cl, hB, _⟩ := HM.out; rw [← e, hB] at hq; cases hq⟩; have iJ := ae.mk (dG fA.out hgg (fun e_ => wH fA.out Og.out (by decide) (Option.some.inj e_))); have JG := ae.mk (dG Dn.out hgg (fun e_ => wH Dn.out Og.out (by decide) (Option.some.inj e_))); have Cb := ae.mk (HM.out.kept hgg (fun e_ => NN.out (Option.some.inj e_))); clear fA Dn HM; have fA := iJ; have Dn := JG; have HM := Cb; clear iJ JG Cb; clear Og HB; have Og := ae.mk hbk; have HB := ae.mk hbb; clear hbk hbb hgg; have c0 := (af fA.out 0).trans rfl; have c1 := (af fA.out 1).trans rfl; have c2 := (af fA.out 2).trans rfl; have c3 := (af fA.out 3).trans rfl; have c4 := (af fA.out 4).trans rfl; have c5 := (af fA.out 5).trans rfl; have c6 := (af fA.out 6).trans rfl)))
 clear c0 c1 c2 c3 c4 c5 c6
 refine (Xt.out bn bm B _ ⟨Og.out, Dn.out, HM.out, HB.out, Gbn.out, GB.out, List.nodup_nil, fun i hi => absurd hi (by simp)⟩).mono ?_
 rintro e w' ⟨rfl, hi, _⟩
 have HI := ae.mk hi.below
 clear hi
 go_wp2
 go_ret
 exact ⟨rfl, HI.out⟩
theorem afJ (c : ai) (A : Option Addr) (cc : Nat) (W : World) (hz : sz c ≤ 1048576) (hr : Kd.C k26 W A c.f3.length c.f3) (hc : c.f3.length ≤ cc) : Calls Try.prog 143 #[.agg #[.int .u8 c.f0, .int .i64 c.f1.f0, .int .i64 c.f1.f1, .int .i64 c.f1.f2, .int .i64 c.f1.f3, .int .i64 c.f2, .slice A c.f3.length cc]] W fun e w' => e = .returned (.bool (!mM c)) ∧ Below W.heap.size W w' := by
 have H := ae.mk fun (W1 : World) (hb : Below W.heap.size W W1) => afK c A cc W1 hz (Kd.iE hr hb) hc
 clear hr hc hz
 cases hm : mM c
 all_goals
  rw [hm] at H
  clear hm
  go_enter Try.func143, Try.ntmps143
  go_wp2_with (((with_reducible refine aG (N := 1) rfl ?_); refine aU ?hg (N := 1) ?hd (cs := #[.int .u8 c.f0, .int .i64 c.f1.f0, .int .i64 c.f1.f1, .int .i64 c.f1.f2, .int .i64 c.f1.f3, .int .i64 c.f2, .slice A c.f3.length cc]) (t := 26) ?hr ?_; (case hd => rfl); (case hg => rfl); (case hr => (go_simp; done)); intro b1 hg w1 hbox hb; have HB := ae.mk hb; have K1 := ae.mk hbox; clear hb hbox hg; have c0 := (af K1.out 0).trans rfl; have c1 := (af K1.out 1).trans rfl; have c2 := (af K1.out 2).trans rfl; have c3 := (af K1.out 3).trans rfl; have c4 := (af K1.out 4).trans rfl; have c5 := (af K1.out 5).trans rfl; have c6 := (af K1.out 6).trans rfl))
  clear c0 c1 c2 c3 c4 c5 c6
  refine (H.out _ HB.out).mono ?_
  rintro e w' ⟨rfl, hb⟩
  have HB2 := ae.mk (au HB.out hb)
  clear hb
  go_wp2
  go_ret
  exact ⟨rfl, HB2.out⟩
def uO.f (l0 : List ai) : Option Bool := if l0.all (fun c => decide (sz c ≤ 1048576)) = true then some (l0.all mM) else none
theorem uO.calls (A0 : Option Addr) (c0 : Nat) (l0 : List ai) (r : Bool) (w : World) (hr0 : Kd.C k26 w A0 l0.length l0) (hc0 : l0.length ≤ c0) (h : uO.f l0 = some r) :
  Calls Try.prog 76 #[.slice A0 l0.length c0] w fun e w' => e = .returned (.bool r) ∧ Below w.heap.size w w' := by
 unfold uO.f at h
 split at h
 ·rename_i hz
  injection h with h
  have hcon := U6 (fun (_ : Unit) W => Below w.heap.size w W) (fun _ x => (!mM x, ())) 143 #[] (uP Try.func143 (by decide +kernel) (by kernel_rfl)) l0 A0 c0 w hr0 (fun _ W hW => hW) (fun _ W n hW => eP hW n)
   (fun _ W x B cb hx hW hC hl => by
    rw [show (#[Value.agg #[.int .u8 x.f0, .int .i64 x.f1.f0, .int .i64 x.f1.f1, .int .i64 x.f1.f2, .int .i64 x.f1.f3, .int .i64 x.f2, .slice B x.f3.length cb]] ++ #[] : Array Value) = #[.agg #[.int .u8 x.f0, .int .i64 x.f1.f0, .int .i64 x.f1.f1, .int .i64 x.f1.f2, .int .i64 x.f1.f3, .int .i64 x.f2, .slice B x.f3.length cb]] by simp]
    exact (afJ x B cb W (of_decide_eq_true (List.all_eq_true.1 hz x hx)) (Kd.iE hC hW) hl).mono fun e w' ⟨he, hb⟩ => ⟨he, yg hW hW.size hb⟩) () w (Below.refl _ _) hr0.2.1
  rw [Na] at hcon
  have hnone := RH l0 A0 c0 143 #[] _ _ w hcon (fun W n hW => eP hW n)
  have e1 : r = !(l0.any fun x => !mM x) := by
   rw [← h]
   clear h hcon hr0 hc0 hz hnone
   induction l0 with
   | nil => rfl
   | cons x xs ih => simp only [List.all_cons, List.any_cons, ih, Bool.not_or, Bool.not_not]
  subst e1
  generalize (l0.any fun x => !mM x) = b at hnone
  have HC := ae.mk hnone
  clear hcon h hr0 hnone hz
  go_enter Try.func76, Try.ntmps76
  go_wp2_with fail
  refine HC.out.mono ?_
  rintro e w' ⟨rfl, hb⟩
  have HB := ae.mk hb
  clear hb
  go_wp2
  go_ret
  exact ⟨rfl, HB.out⟩
 ·exact absurd h (by simp)
end Go.Proofs.Ytfdmfgaiblfbhaa.P
namespace Go.Proofs.Ytfdmfgaiblfbhaa.P
open Go.RowKit Go.Proofs.ag.aV Go.Proofs.ag.bP Go.Proofs.ag.cO
attribute [local go_sem] kJ kS lM l7 lI lJ mJ mO
def nR.l0 : Nat → List Int → List Int → Int → Int → Option (Bool)
 | 0, _, _, _, _ => none
 | k + 1, x0, x1, x12, JS => if JS < x12 then (if 0 ≤ JS then (if JS < (x0.length : Int) then (if JS < (x1.length : Int) then (if (rd x0 JS) = (rd x1 JS) then (nR.l0 k x0 x1 x12 (wrap64 (JS + 1))) else (some false)) else (none)) else (none)) else (none)) else (some true)
def nR.f (k : Nat) (l0 : List Int) (l1 : List Int) : Option (Bool) := if (l0.length : Int) = (l1.length : Int) then (nR.l0 k l0 l1 (l0.length : Int) 0) else (some false)
def ahW.f (az : Int) (aK : Int) (aI : Int) (aJ : Int) (a1 : Int) : Option (Int × Int × Int × Int × Int × Int × (List (ai))) := some (1, az, aK, aI, aJ, a1, ([] : List (ai)))
mutual
def CJ.l0 : Nat → Int → List (ai) → Int → Int → Option (Int)
 | 0, _, _, _, _ => none
 | k + 1, x3, x8, x9, x10 => if x10 < x9 then (if 0 ≤ x10 then (if x10 < (x8.length : Int) then ((CJ.f k ((aA x8 x10).f3)).bind fun ai4 => (CJ.l0 k (wrap64 (x3 + ai4)) x8 x9 (wrap64 (x10 + 1)))) else (none)) else (none)) else (some x3)
def CJ.f : Nat → List (ai) → Option (Int)
 | 0, _ => none
 | k + 1, l0 => CJ.l0 k (l0.length : Int) l0 (l0.length : Int) 0
end
end Go.Proofs.Ytfdmfgaiblfbhaa.P
namespace Go.Proofs.Ytfdmfgaiblfbhaa.P
open Go.RowKit Go.Proofs.ag.aV Go.Proofs.ag.bP Go.Proofs.ag.cO
def ZY.f : Option Bool := some true
end Go.Proofs.Ytfdmfgaiblfbhaa.P
namespace Go.Proofs.Ytfdmfgaiblfbhaa.P
open Go.RowKit Go.Proofs.ag.aV Go.Proofs.ag.bP Go.Proofs.ag.cO
attribute [local go_sem] kJ kS lM l7 lI lJ mJ mO
mutual
def bF.l0 : Nat → Int → List Int → List Int → Option (List Int)
 | 0, _, _, _ => none
 | k + 1, x0, x1, x5 => if x0 > 0 then (bF.l1 k x0 x1 x5 0 x0 x1 (x1.length : Int) 0) else (some x5)
def bF.l1 : Nat → Int → List Int → List Int → Int → Int → List Int → Int → Int → Option (List Int)
 | 0, _, _, _, _, _, _, _, _ => none
 | k + 1, x0, x1, x5, x6, x7, x20, x21, Hz => if Hz < x21 then (if 0 ≤ Hz then (if Hz < (x20.length : Int) then (if Hz < (x5.length : Int) then (if (wrap64 ((rd x20 Hz) + (rd x5 Hz))) > 0 then (bF.l1 k x0 x1 x5 (wrap64 (x6 + 1)) (mn x7 (wrap64 ((rd x20 Hz) + (rd x5 Hz)))) x20 x21 (wrap64 (Hz + 1))) else (bF.l1 k x0 x1 x5 x6 x7 x20 x21 (wrap64 (Hz + 1)))) else (none)) else (none)) else (none)) else (if x6 = 0 then (none) else (bF.l2 k x0 x1 x5 (mx 1 (mn x7 (wrap64 (Int.tdiv x0 x6)))) x1 (x1.length : Int) 0))
def bF.l2 : Nat → Int → List Int → List Int → Int → List Int → Int → Int → Option (List Int)
 | 0, _, _, _, _, _, _, _ => none
 | k + 1, x0, x1, x5, x10, Xp, x52, Gp => if Gp < x52 then (if 0 ≤ Gp then (if Gp < (Xp.length : Int) then (if Gp < (x5.length : Int) then (if (wrap64 ((rd Xp Gp) + (rd x5 Gp))) > 0 then (if x0 > 0 then (bF.l2 k (wrap64 (x0 - (mn x10 x0))) x1 (x5.set (Gp : Int).toNat (wrap64 ((rd x5 Gp) - (mn x10 x0)))) x10 Xp x52 (wrap64 (Gp + 1))) else (bF.l2 k x0 x1 x5 x10 Xp x52 (wrap64 (Gp + 1)))) else (bF.l2 k x0 x1 x5 x10 Xp x52 (wrap64 (Gp + 1)))) else (none)) else (none)) else (none)) else (bF.l0 k x0 x1 x5)
end
def bF.f (k : Nat) (a0 : Int) (l1 : List Int) : Option (List Int) := if 0 ≤ (l1.length : Int) then (if ((l1.length : Int) : Int).toNat ≤ 35184372088832 then (bF.l0 k a0 l1 (List.replicate ((l1.length : Int) : Int).toNat 0)) else (none)) else (none)
theorem bF.calls (k : Nat) (a0 : Int) (A1 : Option Addr) (c1 : Nat) (l1 : List Int) (r : List Int) (w : World) (hr1 : Kd.C (Kd.int .i64) w A1 l1.length l1) (hc1 : l1.length ≤ c1) (h : bF.f k a0 l1 = some r) :
  Calls Try.prog 130 #[.int .i64 a0, .slice A1 l1.length c1] w fun e w' => ∃ vk : Value, e = .returned (vk) ∧ Kd.R (Kd.int .i64) 3 w' w.heap.size (fun _ => True) vk r ∧ Below w.heap.size w w' := by
 have HR1 := ae.mk hr1
 clear hr1 hc1
 have HB := ae.mk (Below.refl w.heap.size w)
 have H : (if 0 ≤ (l1.length : Int) then (if ((l1.length : Int) : Int).toNat ≤ 35184372088832 then (bF.l0 k a0 l1 (List.replicate ((l1.length : Int) : Int).toNat 0)) else (none)) else (none)) = some r := h
 clear h
 by_cases c3 : 0 ≤ (l1.length : Int)
 ·rw [if_pos c3] at H
  have vW := eq_true c3
  have BA : decide (0 ≤ (l1.length : Int)) = true := decide_eq_true c3
  clear c3
  by_cases c4 : ((l1.length : Int) : Int).toNat ≤ 35184372088832
  ·rw [if_pos c4] at H
   have EW := eq_true c4
   have OO : decide (((l1.length : Int) : Int).toNat ≤ 35184372088832) = true := decide_eq_true c4
   clear c4
   obtain ⟨agl, TK⟩ : ∃ y_ : List Int, y_ = (List.replicate ((l1.length : Int) : Int).toNat 0) := ⟨_, rfl⟩
   replace H : (bF.l0 k a0 l1 agl) = some r := by (rw [TK]; with_reducible exact H)
   have agE := ae.mk TK
   clear TK
   have H' := ae.mk H
   clear H
   go_enter Try.func130, Try.ntmps130
   go_wp2_with (((with_reducible refine aG (N := 16) rfl ?_); refine Kd.adX (Kd.int .i64) _ 3 rfl (N := 16) rfl 41 _ _ rfl (l1.length : Int) rfl rfl Try.underlying41 (.int .i64 0) 8 info3 rfl (by decide) (by omega) 0 (ok := fun _ => True) (gU := fun _ => True) rfl (fun _ hk => hk) trivial (of_decide_eq_true (by (with_reducible assumption))) (Nat.le_trans (Nat.mul_le_mul_right _ (of_decide_eq_true (by (with_reducible assumption)) : (l1.length : Int).toNat ≤ 35184372088832)) (by omega)) (Below.refl _ _) (Nat.le_refl _) ?_; intro Y7 w5 ho6 hb pJ kD; clear pJ kD; (rw [← agE.out] at ho6); have agv := ae.mk (Kd.rf ho6 (fB (by repeat ((with_reducible exact HB.out))))); replace HB := ae.mk (au (by repeat ((with_reducible exact HB.out))) hb); clear hb ho6))
   go_loopg [0] k (fun kq v0 w' => ∃ (xy : Int) (ng : List Int), v0 = .int .i64 xy ∧ ae (bF.l0 kq xy l1 ng = some r) ∧ ae (kq ≤ k) ∧ ae (Kd.R (Kd.int .i64) 3 w' w.heap.size (fun _ => True) Y7 ng) ∧ ae (Below w.heap.size w w'))
   case atStart => exact ⟨(a0), (agl), (by rfl), H', ⟨Nat.le_refl _⟩, ⟨by exact agv.out⟩, ⟨by repeat ((with_reducible exact HB.out))⟩⟩
   case round =>
    clear H'
    clear vW BA EW OO
    obtain ⟨xy, ng, rfl, HA, pz, nI, HB⟩ := hrel
    cases gk with
    | zero => exact absurd HA.out (by simp [bF.l0])
    | succ k1 =>
     have H := HA.out
     clear HA
     simp only [bF.l0] at H
     by_cases c7 : xy > 0
     ·rw [if_pos c7] at H
      have yL : decide (0 < xy) = true := decide_eq_true c7
      clear c7
      have H' := ae.mk H
      clear H
      go_wp2
      go_loopg [6, 7, 22] k1 (fun kq v6 v7 v22 w' => ∃ (Aw : Int) (Dh : Int) (iy : Int), v6 = .int .i64 Aw ∧ v7 = .int .i64 Dh ∧ v22 = .int .i64 iy ∧ ae (bF.l1 kq xy l1 ng Aw Dh l1 (l1.length : Int) iy = some r) ∧ ae (kq ≤ k1) ∧ ae (Kd.R (Kd.int .i64) 3 w' w.heap.size (fun _ => True) Y7 ng) ∧ ae (Below w.heap.size w w'))
      case atStart => exact ⟨(0), (xy), (0), (by rfl), (by rfl), (by rfl), H', ⟨Nat.le_refl _⟩, ⟨by exact nI.out⟩, ⟨by repeat ((with_reducible exact HB.out))⟩⟩
      case round =>
       clear H'
       clear yL
       obtain ⟨Aw, Dh, iy, rfl, rfl, rfl, HA, Cf, nI, HB⟩ := hrel
       cases gk with
       | zero => exact absurd HA.out (by simp [bF.l1])
       | succ k2 =>
        have H := HA.out
        clear HA
        simp only [bF.l1] at H
        by_cases c8 : iy < (l1.length : Int)
        ·rw [if_pos c8] at H
         have EX : decide (iy < (l1.length : Int)) = true := decide_eq_true c8
         clear c8
         by_cases c9 : 0 ≤ iy
         ·rw [if_pos c9] at H
          have OQ : decide (0 ≤ iy) = true := decide_eq_true c9
          clear c9
          by_cases c10 : iy < (l1.length : Int)
          ·rw [if_pos c10] at H
           have Tf : decide (iy < (l1.length : Int)) = true := decide_eq_true c10
           clear c10
           by_cases c11 : iy < (ng.length : Int)
           ·rw [if_pos c11] at H
            have Ji : decide (iy < (ng.length : Int)) = true := decide_eq_true c11
            clear c11
            by_cases c12 : (wrap64 ((rd l1 iy) + (rd ng iy))) > 0
            ·rw [if_pos c12] at H
             have DY : decide (0 < (wrap64 ((rd l1 iy) + (rd ng iy)))) = true := decide_eq_true c12
             clear c12
             obtain ⟨Yq, ZL⟩ : ∃ j_ : Int, (mn Dh (wrap64 ((rd l1 iy) + (rd ng iy)))) = j_ := ⟨_, rfl⟩
             replace H : (bF.l1 k2 xy l1 ng (wrap64 (Aw + 1)) Yq l1 (l1.length : Int) (wrap64 (iy + 1))) = some r := by (rw [ZL] at H; exact H)
             have alq : (if (wrap64 ((rd l1 iy) + (rd ng iy))) < Dh then (wrap64 ((rd l1 iy) + (rd ng iy))) else Dh) = Yq := ZL
             have H' := ae.mk H
             clear H
             have II : 0 ≤ (iy : Int) := of_decide_eq_true (by (with_reducible assumption))
             have IP : iy < (l1.length : Int) := of_decide_eq_true (by (with_reducible assumption))
             obtain ⟨agN, X5, yP⟩ := Kd.jl HR1.out iy II IP
             cases X5
             replace yP := (HB.out.cell (World.block_lt_of_cell? w _ yP)).trans yP
             replace II := eq_true II
             replace IP := eq_true IP
             obtain ⟨amd, amo, aiH⟩ := Kd.iG nI.out
             subst aiH
             have IJ : 0 ≤ (iy : Int) := of_decide_eq_true (by (with_reducible assumption))
             have IQ : iy < (ng.length : Int) := of_decide_eq_true (by (with_reducible assumption))
             obtain ⟨Zn, X6, ab9⟩ := Kd.jl (Kd.eQ nI.out).2.2 iy IJ IQ
             cases X6
             replace IJ := eq_true IJ
             replace IQ := eq_true IQ
             have YL : 0 ≤ (iy : Int) := of_decide_eq_true (by (with_reducible assumption))
             have YQ : iy < (ng.length : Int) := of_decide_eq_true (by (with_reducible assumption))
             obtain ⟨agO, aiE, ajZ⟩ := Kd.jl (Kd.eQ nI.out).2.2 iy YL YQ
             obtain rfl : Zn = agO := (by injection aiE)
             replace YL := eq_true YL
             replace YQ := eq_true YQ
             go_wp2
             go_roundg k2
             case measure => have := pz.out; have := Cf.out; omega
             case rel => exact ⟨(wrap64 (Aw + 1)), (Yq), (wrap64 (iy + 1)), (by rfl), (by rfl), (by rfl), H', ⟨by have := pz.out; have := Cf.out; omega⟩, ⟨by exact nI.out⟩, ⟨by repeat ((with_reducible exact HB.out))⟩⟩
            ·rw [if_neg c12] at H
             have DY : decide (0 < (wrap64 ((rd l1 iy) + (rd ng iy)))) = false := decide_eq_false c12
             clear c12
             have H' := ae.mk H
             clear H
             have II : 0 ≤ (iy : Int) := of_decide_eq_true (by (with_reducible assumption))
             have IP : iy < (l1.length : Int) := of_decide_eq_true (by (with_reducible assumption))
             obtain ⟨agN, X5, yP⟩ := Kd.jl HR1.out iy II IP
             cases X5
             replace yP := (HB.out.cell (World.block_lt_of_cell? w _ yP)).trans yP
             replace II := eq_true II
             replace IP := eq_true IP
             obtain ⟨SC, Tm, X9⟩ := Kd.iG nI.out
             subst X9
             have IJ : 0 ≤ (iy : Int) := of_decide_eq_true (by (with_reducible assumption))
             have IQ : iy < (ng.length : Int) := of_decide_eq_true (by (with_reducible assumption))
             obtain ⟨Zn, X6, ab9⟩ := Kd.jl (Kd.eQ nI.out).2.2 iy IJ IQ
             cases X6
             replace IJ := eq_true IJ
             replace IQ := eq_true IQ
             go_wp2
             go_roundg k2
             case measure => have := pz.out; have := Cf.out; omega
             case rel => exact ⟨(Aw), (Dh), (wrap64 (iy + 1)), (by rfl), (by rfl), (by rfl), H', ⟨by have := pz.out; have := Cf.out; omega⟩, ⟨by exact nI.out⟩, ⟨by repeat ((with_reducible exact HB.out))⟩⟩
           ·rw [if_neg c11] at H
            exact absurd H (by simp)
          ·rw [if_neg c10] at H
           exact absurd H (by simp)
         ·rw [if_neg c9] at H
          exact absurd H (by simp)
        ·rw [if_neg c8] at H
         have EX : decide (iy < (l1.length : Int)) = false := decide_eq_false c8
         clear c8
         by_cases c16 : Aw = 0
         ·rw [if_pos c16] at H
          exact absurd H (by simp)
         ·rw [if_neg c16] at H
          have Ti : (Aw == 0) = false := beq_eq_false_iff_ne.mpr c16
          have agY : (Aw != 0) = true := bne_iff_ne.mpr c16
          obtain ⟨PU, ZM⟩ : ∃ j_ : Int, (mn Dh (wrap64 (Int.tdiv xy Aw))) = j_ := ⟨_, rfl⟩
          replace H : (bF.l2 k2 xy l1 ng (mx 1 (PU)) l1 (l1.length : Int) 0) = some r := by (rw [ZM] at H; exact H)
          have alr : (if (wrap64 (Int.tdiv xy Aw)) < Dh then (wrap64 (Int.tdiv xy Aw)) else Dh) = PU := ZM
          obtain ⟨FP, ZN⟩ : ∃ j_ : Int, (mx 1 (PU)) = j_ := ⟨_, rfl⟩
          replace H : (bF.l2 k2 xy l1 ng FP l1 (l1.length : Int) 0) = some r := by (rw [ZN] at H; exact H)
          have als : (if 1 < (PU) then (PU) else 1) = FP := ZN
          have H' := ae.mk H
          clear H
          go_wp2
          go_loopg [0, 53] k2 (fun kq v0 v53 w' => ∃ (xA : Int) (pV : List Int) (fE : Int), v0 = .int .i64 xA ∧ v53 = .int .i64 fE ∧ ae (bF.l2 kq xA l1 pV FP l1 (l1.length : Int) fE = some r) ∧ ae (kq ≤ k2) ∧ ae (Kd.R (Kd.int .i64) 3 w' w.heap.size (fun _ => True) Y7 pV) ∧ ae (Below w.heap.size w w'))
          case atStart => exact ⟨(xy), (ng), (0), (by rfl), (by rfl), H', ⟨Nat.le_refl _⟩, ⟨by exact nI.out⟩, ⟨by repeat ((with_reducible exact HB.out))⟩⟩
          case round =>
           clear H'
           clear EX c16 Ti agY
           obtain ⟨xA, pV, fE, rfl, rfl, HA, L9, nI, HB⟩ := hrel
           cases gk with
           | zero => exact absurd HA.out (by simp [bF.l2])
           | succ k3 =>
            have H := HA.out
            clear HA
            simp only [bF.l2] at H
            by_cases c19 : fE < (l1.length : Int)
            ·rw [if_pos c19] at H
             have ag1 : decide (fE < (l1.length : Int)) = true := decide_eq_true c19
             clear c19
             by_cases c20 : 0 ≤ fE
             ·rw [if_pos c20] at H
              have alY : decide (0 ≤ fE) = true := decide_eq_true c20
              clear c20
              by_cases c21 : fE < (l1.length : Int)
              ·rw [if_pos c21] at H
               have alZ : decide (fE < (l1.length : Int)) = true := decide_eq_true c21
               clear c21
               by_cases Zw : fE < (pV.length : Int)
               ·rw [if_pos Zw] at H
                have al0 : decide (fE < (pV.length : Int)) = true := decide_eq_true Zw
                clear Zw
                by_cases c23 : (wrap64 ((rd l1 fE) + (rd pV fE))) > 0
                ·rw [if_pos c23] at H
                 have ag2 : decide (0 < (wrap64 ((rd l1 fE) + (rd pV fE)))) = true := decide_eq_true c23
                 clear c23
                 by_cases c24 : xA > 0
                 ·rw [if_pos c24] at H
                  have ag3 : decide (0 < xA) = true := decide_eq_true c24
                  clear c24
                  obtain ⟨FQ, ZO⟩ : ∃ j_ : Int, (mn FP xA) = j_ := ⟨_, rfl⟩
                  replace H : (bF.l2 k3 (wrap64 (xA - (FQ))) l1 (pV.set (fE : Int).toNat (wrap64 ((rd pV fE) - (FQ)))) FP l1 (l1.length : Int) (wrap64 (fE + 1))) = some r := by (rw [ZO] at H; exact H)
                  have alu : (if xA < FP then xA else FP) = FQ := ZO
                  obtain ⟨Za, TL⟩ : ∃ y_ : List Int, y_ = (pV.set (fE : Int).toNat (wrap64 ((rd pV fE) - (FQ)))) := ⟨_, rfl⟩
                  replace H : (bF.l2 k3 (wrap64 (xA - (FQ))) l1 Za FP l1 (l1.length : Int) (wrap64 (fE + 1))) = some r := by (rw [TL]; with_reducible exact H)
                  have agF := ae.mk TL
                  clear TL
                  have H' := ae.mk H
                  clear H
                  have BR : 0 ≤ (fE : Int) := of_decide_eq_true (by (with_reducible assumption))
                  have BX : fE < (l1.length : Int) := of_decide_eq_true (by (with_reducible assumption))
                  obtain ⟨Zo, O_, rE⟩ := Kd.jl HR1.out fE BR BX
                  cases O_
                  replace rE := (HB.out.cell (World.block_lt_of_cell? w _ rE)).trans rE
                  replace BR := eq_true BR
                  replace BX := eq_true BX
                  obtain ⟨ame, aiA, aiJ⟩ := Kd.iG nI.out
                  subst aiJ
                  have BU : 0 ≤ (fE : Int) := of_decide_eq_true (by (with_reducible assumption))
                  have BZ : fE < (pV.length : Int) := of_decide_eq_true (by (with_reducible assumption))
                  obtain ⟨S_, Pg, KT⟩ := Kd.jl (Kd.eQ nI.out).2.2 fE BU BZ
                  cases Pg
                  replace BU := eq_true BU
                  replace BZ := eq_true BZ
                  have YM : 0 ≤ (fE : Int) := of_decide_eq_true (by (with_reducible assumption))
                  have YR : fE < (pV.length : Int) := of_decide_eq_true (by (with_reducible assumption))
                  obtain ⟨agP, aiF, ab_⟩ := Kd.jl (Kd.eQ nI.out).2.2 fE YM YR
                  obtain rfl : S_ = agP := (by injection aiF)
                  replace YM := eq_true YM
                  replace YR := eq_true YR
                  have p26 : 0 ≤ (fE : Int) := of_decide_eq_true (by (with_reducible assumption))
                  have q26 : (fE : Int) < ((pV.length : Int) : Int) := of_decide_eq_true (by (with_reducible assumption))
                  obtain ⟨Ye, amq, aiI, aeI, aiN, amk, ail⟩ := Kd.UU nI.out (by omega)
                  (cases aiI)
                  have aik := ae.mk aeI
                  clear aeI aiN ail
                  (simp only [add_plain] at KT)
                  (simp only [add_plain] at ab_)
                  obtain ⟨alx, alp⟩ := Kd.aar 0 nI.out (fE : Int) p26 q26
                  replace p26 := eq_true p26
                  replace q26 := eq_true q26
                  have Xw := Kd.adY nI.out (fE : Int) (wrap64 ((rd pV fE) - (FQ)))
                  go_wp2_with (((with_reducible refine Tv (t := 3) (p := 78) rfl ?_); refine QF (t := 3) (p := 78) (v := ?alH) (w1 := (wr.setCell ⟨Ye, (fE : Int).toNat, none⟩ (.int .i64 (wrap64 ((rd pV fE) - (FQ)))))) ?hg ?ho ?hn ?hr ?_; (case ho => rfl); (case hg => rfl); (case hn => rfl); (case hr => (go_simp; done)); intro Nh hw; have hg : wr.grownBy Nh (some Ye) := (by rw [hw]; exact Xw.2); have hp_ : Kd.R (Kd.int .i64) 3 Nh w.heap.size (fun _ => True) (.slice (some ⟨Ye, 0, none⟩) pV.length aiA) Za := (by rw [hw, agF.out]; exact Xw.1); clear Xw; replace nI := ae.mk (hp_); replace HB := ae.mk ((by rw [hw]; exact nZ (HB.out) aik.out : Below w.heap.size w Nh)); clear hg hw hp_))
                  go_roundg k3
                  case measure => have := pz.out; have := Cf.out; have := L9.out; omega
                  case rel => exact ⟨(wrap64 (xA - (FQ))), (Za), (wrap64 (fE + 1)), (by rfl), (by rfl), H', ⟨by have := pz.out; have := Cf.out; have := L9.out; omega⟩, ⟨by exact nI.out⟩, ⟨by repeat ((with_reducible exact HB.out))⟩⟩
                 ·rw [if_neg c24] at H
                  have ag3 : decide (0 < xA) = false := decide_eq_false c24
                  clear c24
                  have H' := ae.mk H
                  clear H
                  have BR : 0 ≤ (fE : Int) := of_decide_eq_true (by (with_reducible assumption))
                  have BX : fE < (l1.length : Int) := of_decide_eq_true (by (with_reducible assumption))
                  obtain ⟨Zo, O_, rE⟩ := Kd.jl HR1.out fE BR BX
                  cases O_
                  replace rE := (HB.out.cell (World.block_lt_of_cell? w _ rE)).trans rE
                  replace BR := eq_true BR
                  replace BX := eq_true BX
                  obtain ⟨amf, amr, aiK⟩ := Kd.iG nI.out
                  subst aiK
                  have BU : 0 ≤ (fE : Int) := of_decide_eq_true (by (with_reducible assumption))
                  have BZ : fE < (pV.length : Int) := of_decide_eq_true (by (with_reducible assumption))
                  obtain ⟨S_, Pg, KT⟩ := Kd.jl (Kd.eQ nI.out).2.2 fE BU BZ
                  cases Pg
                  replace BU := eq_true BU
                  replace BZ := eq_true BZ
                  go_wp2
                  go_roundg k3
                  case measure => have := pz.out; have := Cf.out; have := L9.out; omega
                  case rel => exact ⟨(xA), (pV), (wrap64 (fE + 1)), (by rfl), (by rfl), H', ⟨by have := pz.out; have := Cf.out; have := L9.out; omega⟩, ⟨by exact nI.out⟩, ⟨by repeat ((with_reducible exact HB.out))⟩⟩
                ·rw [if_neg c23] at H
                 have ag2 : decide (0 < (wrap64 ((rd l1 fE) + (rd pV fE)))) = false := decide_eq_false c23
                 clear c23
                 have H' := ae.mk H
                 clear H
                 have BR : 0 ≤ (fE : Int) := of_decide_eq_true (by (with_reducible assumption))
                 have BX : fE < (l1.length : Int) := of_decide_eq_true (by (with_reducible assumption))
                 obtain ⟨Zo, O_, rE⟩ := Kd.jl HR1.out fE BR BX
                 cases O_
                 replace rE := (HB.out.cell (World.block_lt_of_cell? w _ rE)).trans rE
                 replace BR := eq_true BR
                 replace BX := eq_true BX
                 obtain ⟨amg, ams, aiL⟩ := Kd.iG nI.out
                 subst aiL
                 have BU : 0 ≤ (fE : Int) := of_decide_eq_true (by (with_reducible assumption))
                 have BZ : fE < (pV.length : Int) := of_decide_eq_true (by (with_reducible assumption))
                 obtain ⟨S_, Pg, KT⟩ := Kd.jl (Kd.eQ nI.out).2.2 fE BU BZ
                 cases Pg
                 replace BU := eq_true BU
                 replace BZ := eq_true BZ
                 go_wp2
                 go_roundg k3
                 case measure => have := pz.out; have := Cf.out; have := L9.out; omega
                 case rel => exact ⟨(xA), (pV), (wrap64 (fE + 1)), (by rfl), (by rfl), H', ⟨by have := pz.out; have := Cf.out; have := L9.out; omega⟩, ⟨by exact nI.out⟩, ⟨by repeat ((with_reducible exact HB.out))⟩⟩
               ·rw [if_neg Zw] at H
                exact absurd H (by simp)
              ·rw [if_neg c21] at H
               exact absurd H (by simp)
             ·rw [if_neg c20] at H
              exact absurd H (by simp)
            ·rw [if_neg c19] at H
             have ag1 : decide (fE < (l1.length : Int)) = false := decide_eq_false c19
             clear c19
             have H' := ae.mk H
             clear H
             go_wp2
             go_roundg k3
             case measure => have := pz.out; have := Cf.out; have := L9.out; omega
             case rel => exact ⟨(xA), (pV), (by rfl), H', ⟨by have := pz.out; have := Cf.out; have := L9.out; omega⟩, ⟨by exact nI.out⟩, ⟨by repeat ((with_reducible exact HB.out))⟩⟩
     ·rw [if_neg c7] at H
      have yL : decide (0 < xy) = false := decide_eq_false c7
      clear c7
      obtain rfl := Option.some.inj H
      go_wp2
      go_ret
      exact ⟨_, by rfl, by exact nI.out, by repeat ((with_reducible exact HB.out))⟩
  ·rw [if_neg c4] at H
   exact absurd H (by simp)
 ·rw [if_neg c3] at H
  exact absurd H (by simp)
end Go.Proofs.Ytfdmfgaiblfbhaa.P
namespace Go.Proofs.Ytfdmfgaiblfbhaa.P
open Go.RowKit Go.Proofs.ag.aV Go.Proofs.ag.bP Go.Proofs.ag.cO
def lq (a n : Int) (i : Int) : Int := a / n + if i < a % n then 1 else 0
def moreL (a : Int) (n : Nat) : List Int := (List.range n).map fun i => lq a n (i : Nat)
theorem uU (a : Int) (n : Nat) : (moreL a n).length = n := by simp [moreL]
theorem Ws (a : Int) (n k : Nat) (h : k < n) : (moreL a n)[k]? = some (lq a n k) := by simp [moreL, h]
theorem Y1 {α : Type} (L : List α) (x z : α) (k : Nat) (hx : L[k]? = some x) : (L.take k ++ List.replicate (L.length - k) z).set k x = L.take (k + 1) ++ List.replicate (L.length - (k + 1)) z := by
 obtain ⟨h, rfl⟩ := List.getElem?_eq_some_iff.1 hx
 obtain ⟨m, hm⟩ : ∃ m, L.length - k = m + 1 := ⟨L.length - k - 1, by omega⟩
 rw [List.set_append_right _ _ (by simp; omega), List.length_take, show k - min k L.length = 0 by omega, hm, List.replicate_succ, List.set_cons_zero, List.take_succ_eq_append_getElem h, List.append_assoc, show L.length - (k + 1) = m by omega]
 rfl
theorem JA (a : Int) (n k : Nat) (h : k < n) : ((moreL a n).take k ++ List.replicate (n - k) 0).set k (lq a n k) = (moreL a n).take (k + 1) ++ List.replicate (n - (k + 1)) 0 := by
 have := Y1 (moreL a n) (lq a n k) 0 k (Ws a n k h)
 rwa [uU] at this
theorem YC (a : Int) (n : Nat) (w : World) (h0 : 0 ≤ a) (h1 : a ≤ 9000000000000000000) (h2 : 1 ≤ n) (h3 : n ≤ 100000) :
  Calls Try.prog 129 #[.int .i64 a, .int .i64 n] w fun e w' => ∃ vk : Value, e = .returned vk ∧ Kd.R (Kd.int .i64) 3 w' w.heap.size (fun _ => True) vk (moreL a n) ∧ Below w.heap.size w w' := by
 have hmk := JD (P := Try.prog) 41 3 .i64 8 Try.underlying41 info3 (by decide) n (by omega)
 have hs := P_ w w.heap.size 3 .i64 n (Nat.le_refl _) (by omega)
 have hq0 : 0 ≤ a / (n : Int) := Int.ediv_nonneg h0 (by omega)
 have hq1 : a / (n : Int) ≤ a := Int.ediv_le_self _ h0
 have HS := ae.mk hs
 clear hs
 go_enter Try.func129, Try.ntmps129
 go_wp2
 go_loopw [11] (fun v11 wr => ∃ k : Nat, k ≤ n ∧ v11 = .int .i64 k ∧ ae (wr.ownsRow w.heap.size 3 1 (.slice (some ⟨w.heap.size, 0, none⟩) n n) n (nums .i64 ((moreL a n).take k ++ List.replicate (n - k) 0))) ∧ ae (Below w.heap.size w wr)) (fun v11 _ => n - (intOf v11).toNat)
 case atStart => exact ⟨0, by omega, rfl, ⟨by simpa using HS.out⟩, ⟨gV (Below.refl _ _) _⟩⟩
 case round =>
  obtain ⟨k, hk, rfl, HO, HB⟩ := hrel
  clear hmk HS
  by_cases hlt : k < n
  ·have hlt' : (k : Int) < (n : Int) := by omega
   obtain ⟨hc, hf⟩ := WG HO.out (k : Int) (by omega) (by omega)
   simp only [Int.toNat_natCast] at hc hf
   by_cases hr : (k : Int) < a % (n : Int)
   ·have HK := ae.mk (JA a n k hlt)
    have HR := ae.mk hr
    go_wp2
    go_roundw
    case rel =>
     obtain ⟨s1, _⟩ := CS HO.out (k : Int) (a / n)
     obtain ⟨s2, _⟩ := CS s1 (k : Int) (a / n + 1)
     simp only [Int.toNat_natCast, List.set_set] at s1 s2
     have e : lq a n k = a / n + 1 := by unfold lq; rw [if_pos HR.out]
     rw [← e, HK.out] at s2
     exact ⟨k + 1, by omega, by go_num, ⟨by rw [← e]; exact s2⟩, ⟨nZ (nZ HB.out (Nat.le_refl _)) (Nat.le_refl _)⟩⟩
    case measure => simp [intOf]; omega
   ·have HK := ae.mk (JA a n k hlt)
    have HR := ae.mk hr
    go_wp2
    go_roundw
    case rel =>
     obtain ⟨s1, _⟩ := CS HO.out (k : Int) (a / n)
     simp only [Int.toNat_natCast] at s1
     have e : lq a n k = a / n := by unfold lq; rw [if_neg HR.out]; omega
     rw [← e, HK.out] at s1
     exact ⟨k + 1, by omega, by go_num, ⟨by rw [← e]; exact s1⟩, ⟨nZ HB.out (Nat.le_refl _)⟩⟩
    case measure => simp [intOf]; omega
  ·obtain rfl : k = n := by omega
   go_wp2
   go_ret
   refine ⟨_, rfl, ?_, HB.out⟩
   have h := HO.out
   rw [List.take_of_length_le (by rw [uU]; omega), Nat.sub_self] at h
   simp only [List.replicate_zero, List.append_nil] at h
   exact Kd.uB (enc := Value.int .i64) (h1 := fun _ => rfl) (by rw [uU]; exact h) (fun _ _ => trivial)
def qK.f (a0 a1 : Int) : Option (List Int) := if 0 ≤ a0 ∧ a0 ≤ 9000000000000000000 ∧ 1 ≤ a1 ∧ a1 ≤ 100000 then some (moreL a0 a1.toNat) else none
theorem qK.calls (a0 a1 : Int) (r : List Int) (w : World) (h : qK.f a0 a1 = some r) : Calls Try.prog 129 #[.int .i64 a0, .int .i64 a1] w fun e w' => ∃ vk : Value, e = .returned (vk) ∧ Kd.R (Kd.int .i64) 3 w' w.heap.size (fun _ => True) vk r ∧ Below w.heap.size w w' := by
 unfold qK.f at h
 split at h
 ·rename_i hc
  obtain ⟨n, rfl⟩ := Int.eq_ofNat_of_zero_le (show 0 ≤ a1 by omega)
  obtain rfl := Option.some.inj h
  exact YC a0 n w hc.1 hc.2.1 (by omega) (by omega)
 ·exact absurd h (by simp)
end Go.Proofs.Ytfdmfgaiblfbhaa.P
namespace Go.Proofs.Ytfdmfgaiblfbhaa.P
open Go.RowKit Go.Proofs.ag.aV Go.Proofs.ag.bP Go.Proofs.ag.cO
attribute [local go_sem] kJ kS lM l7 lI lJ mJ mO
mutual
def bJ.l0 : Nat → Int → List Int → Int → List Int → Int → Int → Option (List Int × Bool)
 | 0, _, _, _, _, _, _ => none
 | k + 1, x0, x1, x6, x9, x10, x11 => if x11 < x10 then (if 0 ≤ x11 then (if x11 < (x9.length : Int) then (if (rd x9 x11) < 0 then (some (([] : List Int), false)) else (if (rd x9 x11) > 2147483647 then (some (([] : List Int), false)) else (bJ.l0 k x0 x1 (mn 2147483647 (wrap64 (x6 + (rd x9 x11)))) x9 x10 (wrap64 (x11 + 1))))) else (none)) else (none)) else (if (x1.length : Int) = 0 then (bJ.j1 k x0 x1 true) else (if x0 < (wrap64 (-x6)) then (bJ.j1 k x0 x1 true) else (bJ.j1 k x0 x1 (decide (x0 > 2147483647)))))
def bJ.j1 : Nat → Int → List Int → Bool → Option (List Int × Bool)
 | 0, _, _, _ => none
 | k + 1, x0, x1, x26 => if x26 = true then (some (([] : List Int), false)) else (if x0 ≥ 0 then ((qK.f x0 (x1.length : Int)).bind fun Lh => (some (Lh, true))) else ((bF.f k (wrap64 (-x0)) x1).bind fun Lj => (some (Lj, true))))
end
def bJ.f (k : Nat) (a0 : Int) (l1 : List Int) : Option (List Int × Bool) := bJ.l0 k a0 l1 0 l1 (l1.length : Int) 0
theorem bJ.calls (k : Nat) (a0 : Int) (A1 : Option Addr) (c1 : Nat) (l1 : List Int) (r1 : List Int) (r2 : Bool) (w : World) (hr1 : Kd.C (Kd.int .i64) w A1 l1.length l1) (hc1 : l1.length ≤ c1) (h : bJ.f k a0 l1 = some (r1, r2)) :
  Calls Try.prog 49 #[.int .i64 a0, .slice A1 l1.length c1] w fun e w' => ∃ vk : Value, e = .returned (.tuple #[vk, .bool r2]) ∧ Kd.R (Kd.int .i64) 3 w' w.heap.size (fun _ => True) vk r1 ∧ Below w.heap.size w w' := by
 have HR1 := ae.mk hr1
 have xR := ae.mk hc1
 clear hr1 hc1
 have HB := ae.mk (Below.refl w.heap.size w)
 have H : (bJ.l0 k a0 l1 0 l1 (l1.length : Int) 0) = some (r1, r2) := h
 clear h
 have H' := ae.mk H
 clear H
 go_enter Try.func49, Try.ntmps49
 go_wp2
 go_loopg [6, 11] k (fun kq v6 v11 w' => ∃ (Ew : Int) (bW : Int), v6 = .int .i64 Ew ∧ v11 = .int .i64 bW ∧ ae (bJ.l0 kq a0 l1 Ew l1 (l1.length : Int) bW = some (r1, r2)) ∧ ae (kq ≤ k) ∧ ae (Below w.heap.size w w'))
 case atStart => exact ⟨(0), (0), (by rfl), (by rfl), H', ⟨Nat.le_refl _⟩, ⟨by repeat ((with_reducible exact HB.out))⟩⟩
 case round =>
  clear H'
  obtain ⟨Ew, bW, rfl, rfl, HA, pz, HB⟩ := hrel
  cases gk with
  | zero => exact absurd HA.out (by simp [bJ.l0])
  | succ k1 =>
   have H := HA.out
   clear HA
   simp only [bJ.l0] at H
   by_cases c3 : bW < (l1.length : Int)
   ·rw [if_pos c3] at H
    have vW : decide (bW < (l1.length : Int)) = true := decide_eq_true c3
    clear c3
    by_cases c4 : 0 ≤ bW
    ·rw [if_pos c4] at H
     have EW : decide (0 ≤ bW) = true := decide_eq_true c4
     clear c4
     by_cases c5 : bW < (l1.length : Int)
     ·rw [if_pos c5] at H
      have J6 : decide (bW < (l1.length : Int)) = true := decide_eq_true c5
      clear c5
      by_cases c6 : (rd l1 bW) < 0
      ·rw [if_pos c6] at H
       have DZ : decide ((rd l1 bW) < 0) = true := decide_eq_true c6
       clear c6
       simp only [Option.some.injEq, Prod.mk.injEq] at H
       obtain ⟨rfl, rfl⟩ := H
       have BV : 0 ≤ (bW : Int) := of_decide_eq_true (by (with_reducible assumption))
       have B_ : bW < (l1.length : Int) := of_decide_eq_true (by (with_reducible assumption))
       obtain ⟨Zp, Ph, rF⟩ := Kd.jl HR1.out bW BV B_
       cases Ph
       replace rF := (HB.out.cell (World.block_lt_of_cell? w _ rF)).trans rF
       replace BV := eq_true BV
       replace B_ := eq_true B_
       go_wp2
       go_ret2
       exact ⟨_, by rfl, by exact Kd.wX _ _ _ _ _, by repeat ((with_reducible exact HB.out))⟩
      ·rw [if_neg c6] at H
       have DZ : decide ((rd l1 bW) < 0) = false := decide_eq_false c6
       clear c6
       by_cases c7 : (rd l1 bW) > 2147483647
       ·rw [if_pos c7] at H
        have yL : decide (2147483647 < (rd l1 bW)) = true := decide_eq_true c7
        clear c7
        simp only [Option.some.injEq, Prod.mk.injEq] at H
        obtain ⟨rfl, rfl⟩ := H
        have BV : 0 ≤ (bW : Int) := of_decide_eq_true (by (with_reducible assumption))
        have B_ : bW < (l1.length : Int) := of_decide_eq_true (by (with_reducible assumption))
        obtain ⟨Zp, Ph, rF⟩ := Kd.jl HR1.out bW BV B_
        cases Ph
        replace rF := (HB.out.cell (World.block_lt_of_cell? w _ rF)).trans rF
        replace BV := eq_true BV
        replace B_ := eq_true B_
        go_wp2
        go_ret2
        exact ⟨_, by rfl, by exact Kd.wX _ _ _ _ _, by repeat ((with_reducible exact HB.out))⟩
       ·rw [if_neg c7] at H
        have yL : decide (2147483647 < (rd l1 bW)) = false := decide_eq_false c7
        clear c7
        obtain ⟨ji8, afq⟩ : ∃ j_ : Int, (mn 2147483647 (wrap64 (Ew + (rd l1 bW)))) = j_ := ⟨_, rfl⟩
        replace H : (bJ.l0 k1 a0 l1 ji8 l1 (l1.length : Int) (wrap64 (bW + 1))) = some (r1, r2) := by (rw [afq] at H; exact H)
        have al4 : (if (wrap64 (Ew + (rd l1 bW))) < 2147483647 then (wrap64 (Ew + (rd l1 bW))) else 2147483647) = ji8 := afq
        have H' := ae.mk H
        clear H
        have BV : 0 ≤ (bW : Int) := of_decide_eq_true (by (with_reducible assumption))
        have B_ : bW < (l1.length : Int) := of_decide_eq_true (by (with_reducible assumption))
        obtain ⟨Zp, Ph, rF⟩ := Kd.jl HR1.out bW BV B_
        cases Ph
        replace rF := (HB.out.cell (World.block_lt_of_cell? w _ rF)).trans rF
        replace BV := eq_true BV
        replace B_ := eq_true B_
        go_wp2
        go_roundg k1
        case measure => have := pz.out; omega
        case rel => exact ⟨(ji8), (wrap64 (bW + 1)), (by rfl), (by rfl), H', ⟨by have := pz.out; omega⟩, ⟨by repeat ((with_reducible exact HB.out))⟩⟩
     ·rw [if_neg c5] at H
      exact absurd H (by simp)
    ·rw [if_neg c4] at H
     exact absurd H (by simp)
   ·rw [if_neg c3] at H
    have vW : decide (bW < (l1.length : Int)) = false := decide_eq_false c3
    clear c3
    have HC9 := ae.mk H
    clear H
    go_upto_region 9 with (fail)
    go_cut [26] (fun v26 wc => ∃ (kq : Nat) (NI : Bool), v26 = .bool NI ∧ ae (bJ.j1 kq a0 l1 NI = some (r1, r2)) ∧ ae (kq ≤ k1) ∧ ae (Below w.heap.size w wc))
    case first =>
     have H := HC9.out
     clear HC9
     by_cases c10 : (l1.length : Int) = 0
     ·rw [if_pos c10] at H
      have Tf : ((l1.length : Int) == 0) = true := beq_iff_eq.mpr c10
      have agU : ((l1.length : Int) != 0) = false := bne_eq_false_iff_eq.mpr c10
      clear c10
      (skip)
      have H' := ae.mk H
      clear H
      go_wp2
      go_meet
      case rel => exact ⟨_, (true), (by rfl), H', ⟨by have := pz.out; omega⟩, ⟨by repeat ((with_reducible exact HB.out))⟩⟩
     ·rw [if_neg c10] at H
      have Tf : ((l1.length : Int) == 0) = false := beq_eq_false_iff_ne.mpr c10
      have agU : ((l1.length : Int) != 0) = true := bne_iff_ne.mpr c10
      have alX : ¬ (l1 = []) := fun h_ => c10 (by rw [h_]; rfl)
      (skip)
      by_cases c11 : a0 < (wrap64 (-Ew))
      ·rw [if_pos c11] at H
       have Ji : decide (a0 < (wrap64 (-Ew))) = true := decide_eq_true c11
       clear c11
       have H' := ae.mk H
       clear H
       go_wp2
       go_meet
       case rel => exact ⟨_, (true), (by rfl), H', ⟨by have := pz.out; omega⟩, ⟨by repeat ((with_reducible exact HB.out))⟩⟩
      ·rw [if_neg c11] at H
       have Ji : decide (a0 < (wrap64 (-Ew))) = false := decide_eq_false c11
       clear c11
       have H' := ae.mk H
       clear H
       go_wp2
       go_meet
       case rel => exact ⟨_, (decide (a0 > 2147483647)), (by rfl), H', ⟨by have := pz.out; omega⟩, ⟨by repeat ((with_reducible exact HB.out))⟩⟩
    case rest =>
     clear HC9
     clear vW
     obtain ⟨kq, NI, rfl, HA, HJ8, HB⟩ := hcut
     cases kq with
     | zero => exact absurd HA.out (by simp [bJ.j1])
     | succ kj8 =>
      have H := HA.out
      clear HA
      simp only [bJ.j1] at H
      by_cases c12 : NI = true
      ·subst c12
       have H1 : (some (([] : List Int), false)) = some (r1, r2) := by rw [if_pos rfl] at H; exact H
       clear H
       have H := H1
       clear H1
       simp only [Option.some.injEq, Prod.mk.injEq] at H
       obtain ⟨rfl, rfl⟩ := H
       go_wp2
       go_ret2
       exact ⟨_, by rfl, by exact Kd.wX _ _ _ _ _, by repeat ((with_reducible exact HB.out))⟩
      ·replace c12 := Bool.eq_false_iff.mpr c12
       subst c12
       have H1 : (if a0 ≥ 0 then ((qK.f a0 (l1.length : Int)).bind fun Lh => (some (Lh, true))) else ((bF.f kj8 (wrap64 (-a0)) l1).bind fun Lj => (some (Lj, true)))) = some (r1, r2) := by rw [if_neg (show ¬ (false = true) by decide)] at H; exact H
       clear H
       have H := H1
       clear H1
       by_cases c13 : a0 ≥ 0
       ·rw [if_pos c13] at H
        have agV : decide (0 ≤ a0) = true := decide_eq_true c13
        clear c13
        replace H := Option.bind_eq_some_iff.mp H
        obtain ⟨Lh, ac7, H⟩ := H
        replace H : (some (Lh, true)) = some (r1, r2) := H
        have A14 := ae.mk ac7
        clear ac7
        simp only [Option.some.injEq, Prod.mk.injEq] at H
        obtain ⟨rfl, rfl⟩ := H
        go_wp2_with (((with_reducible refine mD (f := 129) rfl ?_); refine oN (some 46) rfl rfl Try.func129 (by kernel_rfl) rfl #[.int .i64 a0, .int .i64 (l1.length : Int)] rfl (by (try simp only [List.map_toArray, List.map_cons, List.map_nil]); rfl) ?_; (with_reducible refine (qK.calls a0 (l1.length : Int) Lh _ A14.out).mono ?_); rintro e vU ⟨amH, rfl, ho0, hb⟩; refine ⟨_, rfl, ?_⟩; have agw := ae.mk (Kd.rf ho0 (fB (by repeat ((with_reducible exact HB.out))))); replace HB := ae.mk (au (by repeat ((with_reducible exact HB.out))) hb); (try clear hb); (try clear ho0)))
        go_ret2
        exact ⟨_, by rfl, by exact agw.out, by repeat ((with_reducible exact HB.out))⟩
       ·rw [if_neg c13] at H
        have agV : decide (0 ≤ a0) = false := decide_eq_false c13
        clear c13
        replace H := Option.bind_eq_some_iff.mp H
        obtain ⟨Lj, NJ, H⟩ := H
        replace H : (some (Lj, true)) = some (r1, r2) := H
        have A16 := ae.mk NJ
        clear NJ
        simp only [Option.some.injEq, Prod.mk.injEq] at H
        obtain ⟨rfl, rfl⟩ := H
        go_wp2_with (((with_reducible refine mD (f := 130) rfl ?_); refine oN (some 50) rfl rfl Try.func130 (by kernel_rfl) rfl #[.int .i64 (wrap64 (-a0)), .slice A1 l1.length c1] rfl (by (try simp only [List.map_toArray, List.map_cons, List.map_nil]); rfl) ?_; (with_reducible refine (bF.calls kj8 (wrap64 (-a0)) _ _ l1 Lj _ ?vK ?Be A16.out).mono ?_); (case vK => repeat (exact (Kd.iE HR1.out HB.out))); (case Be => exact xR.out); rintro e Xm ⟨amI, rfl, ho0, hb⟩; refine ⟨_, rfl, ?_⟩; have agx := ae.mk (Kd.rf ho0 (fB (by repeat ((with_reducible exact HB.out))))); replace HB := ae.mk (au (by repeat ((with_reducible exact HB.out))) hb); (try clear hb); (try clear ho0)))
        go_ret2
        exact ⟨_, by rfl, by exact agx.out, by repeat ((with_reducible exact HB.out))⟩
def ZZ.f (k : Nat)  : Option (Bool) := (bJ.f k 5 (([0, 0, 0] : List Int))).bind fun Zr => ((bJ.f k (-5) (([1, 9, 2] : List Int))).bind fun Zt => (if Zr.2 = true then ((nR.f k Zr.1 (([2, 2, 1] : List Int))).bind fun aiZ => (if aiZ = true then (if Zt.2 = true then ((nR.f k Zt.1 (([(-1), (-2), (-2)] : List Int))).bind fun ai0 => (some ai0)) else (some false)) else (some false))) else (some false)))
end Go.Proofs.Ytfdmfgaiblfbhaa.P
