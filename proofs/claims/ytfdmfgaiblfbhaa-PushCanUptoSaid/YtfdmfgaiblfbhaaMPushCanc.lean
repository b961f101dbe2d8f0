/- PushCan: part 3 of 6 of this claim's texts, one behind the other, made small by a program: the words of the kit's printer cut down to those that are used, the claim's own names made short. -/
import Derived.Test.YtfdmfgaiblfbhaaProg
import Derived.Below
import Derived.Deep.Draws
import Derived.Deep.AppendLies
import Derived.Maps.AppendAt
import Derived.OwnWalk
import Derived.Laws.BytesArg
import Derived.Laws.MakeOwn
import Derived.Laws.OwnMore
import Derived.Deep.OwnRows
import Derived.Tactics
import Derived.Lib.ConvBytes
import Derived.Laws.Slices
import Derived.WalkKit
import Derived.KernelRfl
import Derived.RowKit3
import Derived.Deep.LoopGhost
import Derived.Deep.QuietTactic
import Derived.BigQuiet
import Derived.WideLaws
import Derived.Deep.DeepCutAuto
import Derived.Deep.CutBlock
import Derived.Deep.RegionHeld3
import Derived.Laws.Rows
import Derived.Lib.AppendStr
import Derived.ArgAppend
import Derived.Laws.IdiomCopy
import Derived.OrdersHeld
import Derived.Laws.BitsLemmas
import Derived.RowKit
import Derived.Test.YtfdmfgaiblfbhaaMPushCana
import Derived.Test.YtfdmfgaiblfbhaaMPushCanb
import Derived.Shelf.Spec.SlicesInsert
import Derived.Shelf.Spec.SlicesInsertGrow
import Derived.Lib.Hide
import Derived.Maps.OwnOps
import Derived.Maps.Views
set_option maxHeartbeats 8000000
set_option maxRecDepth 100000
set_option linter.unusedVariables false
set_option linter.unusedSimpArgs false
namespace Go.Proofs.Ytfdmfgaiblfbhaa.P
open Go.RowKit Go.Proofs.ag.aK Go.Proofs.ag.bG Go.Proofs.ag.bV
attribute [local go_sem] jm jB jR kF jO jP kT kV
theorem info3 : (Try.prog.info? 3).map (fun i => (i.zero, i.size, i.bytes)) = some (some (.int .i64 0), 1, 8) := by kernel_rfl
theorem info23 : (Try.prog.info? 23).map (fun i => (i.zero, i.size, i.bytes)) = some (some (.agg #[(.int .i64 0), (.int .i64 0), (.int .i64 0), (.int .i64 0)]), 4, 32) := by kernel_rfl
theorem info26 : (Try.prog.info? 26).map (fun i => (i.zero, i.size, i.bytes)) = some (some (.agg #[(.int .u8 0), (.int .i64 0), (.int .i64 0), (.int .i64 0), (.int .i64 0), (.int .i64 0), (.slice none 0 0)]), 7, 72) := by kernel_rfl
structure dD where
 f0 : Int
 f1 : Int
 f2 : Int
 f3 : Int
def z23 : dD := ⟨(0 : Int), (0 : Int), (0 : Int), (0 : Int)⟩
def k23 : Kd dD := Kd.Ul (Kd.pair (Kd.int .i64) (Kd.pair (Kd.int .i64) (Kd.pair (Kd.int .i64) (Kd.int .i64)))) (fun x : dD => (x.f0, x.f1, x.f2, x.f3))
theorem Wx : Kd.Heap k23 := Kd.Nv _ (Kd.vw (Kd.wY .i64) (Kd.vw (Kd.wY .i64) (Kd.vw (Kd.wY .i64) (Kd.wY .i64))))
theorem FW {w : World} {x : dD} {cs : List Value} (h : k23.K w x cs) : cs = [.int .i64 x.f0, .int .i64 x.f1, .int .i64 x.f2, .int .i64 x.f3] := by
 obtain ⟨_, _, rfl, rfl, ⟨_, _, rfl, rfl, ⟨_, _, rfl, rfl, rfl⟩⟩⟩ := h
 exact rfl
theorem NK (w : World) (x : dD)  : k23.K w x [.int .i64 x.f0, .int .i64 x.f1, .int .i64 x.f2, .int .i64 x.f3] := ⟨[.int .i64 x.f0], [.int .i64 x.f1, .int .i64 x.f2, .int .i64 x.f3], rfl, rfl, ⟨[.int .i64 x.f1], [.int .i64 x.f2, .int .i64 x.f3], rfl, rfl, ⟨[.int .i64 x.f2], [.int .i64 x.f3], rfl, rfl, rfl⟩⟩⟩
theorem qR (w : World) (base : Nat) (ok : Nat → Prop) (x : dD)  : k23.M w base ok x [.int .i64 x.f0, .int .i64 x.f1, .int .i64 x.f2, .int .i64 x.f3] := ⟨[.int .i64 x.f0], [.int .i64 x.f1, .int .i64 x.f2, .int .i64 x.f3], rfl, rfl, ⟨[.int .i64 x.f1], [.int .i64 x.f2, .int .i64 x.f3], rfl, rfl, ⟨[.int .i64 x.f2], [.int .i64 x.f3], rfl, rfl, rfl⟩⟩⟩
def qf (xs : List dD) (i : Int) : dD := xs.getD i.toNat z23
theorem LX {w : World} {A : Option Addr} {n : Nat} {xs : List dD} (h : Kd.C k23 w A n xs) (i : Int) (h0 : 0 ≤ i) (h1 : i < n) : ∃ ad , A = some ad ∧ w.cell? (ad.add (i.toNat * 4)) = some (.int .i64 (qf xs i).f0) ∧ w.cell? ⟨(ad.add (i.toNat * 4)).block, (ad.add (i.toNat * 4)).off + 1, none⟩ = some (.int .i64 (qf xs i).f1) ∧ w.cell? ⟨(ad.add (i.toNat * 4)).block, (ad.add (i.toNat * 4)).off + 2, none⟩ = some (.int .i64 (qf xs i).f2) ∧ w.cell? ⟨(ad.add (i.toNat * 4)).block, (ad.add (i.toNat * 4)).off + 3, none⟩ = some (.int .i64 (qf xs i).f3) := by
 obtain ⟨ad, c, e, _, hK, hc0⟩ := Kd.Gl h z23 i h0 h1
 have hc : ∀ j u, c[j]? = some u → w.cell? (ad.add (i.toNat * 4 + j)) = some u := hc0
 obtain rfl := FW hK
 exact ⟨ad, e, hc 0 _ rfl, by rw [← jI _ _ 1 (by omega)]; exact hc 1 _ rfl, by rw [← jI _ _ 2 (by omega)]; exact hc 2 _ rfl, by rw [← jI _ _ 3 (by omega)]; exact hc 3 _ rfl⟩
structure ai where
 f0 : Int
 f1 : dD
 f2 : Int
 f3 : (List ai)
def z26 : ai := ⟨(0 : Int), z23, (0 : Int), ([] : List ai)⟩
def OH (d : Kd ai) : Kd ai := Kd.Ul (Kd.pair (Kd.int .u8) (Kd.pair k23 (Kd.pair (Kd.int .i64) (Kd.slice 26 d)))) (fun x : ai => (x.f0, x.f1, x.f2, x.f3))
theorem NT : Kd.vM OH := Kd.WJ _ (Kd.DX (Kd.BX _) (Kd.DX (Kd.BX _) (Kd.DX (Kd.BX _) (Kd.QU 26 Kd.aaz))))
theorem afL : Kd.Sub OH [26] := Kd.aaP _ (Kd.Gf (Kd.sub_const _ (by decide)) (Kd.Gf (Kd.sub_const _ (by decide)) (Kd.Gf (Kd.sub_const _ (by decide)) (Kd.U3 26 (by decide) Kd.aeo))))
theorem Rj : ∀ n, (Kd.upto OH 7 [26] n).sz = 7 := Kd.aaY (fun _ => rfl)
def k26 : Kd ai := Kd.fix OH 7 [26] Rj (Kd.U9 afL)
theorem qE : Kd.Heap k26 := Kd.Wp (fun _ h_ => Kd.Nv _ (Kd.vw (Kd.wY .u8) (Kd.vw Wx (Kd.vw (Kd.wY .i64) (Kd.QJ 26 h_)))))
theorem BR {w : World} {x : ai} {cs : List Value} (h : k26.K w x cs) : ∃ A6 c6, cs = [.int .u8 x.f0, .int .i64 x.f1.f0, .int .i64 x.f1.f1, .int .i64 x.f1.f2, .int .i64 x.f1.f3, .int .i64 x.f2, .slice A6 x.f3.length c6] ∧ x.f3.length ≤ c6 ∧ k26.C w A6 x.f3.length x.f3 := by
 obtain ⟨n, h⟩ := h
 cases n with
 | zero => exact h.elim
 | succ n =>
  obtain ⟨_, _, rfl, rfl, ⟨_, _, rfl, s1, ⟨_, _, rfl, rfl, ⟨A6, c6, rfl, l6, g6⟩⟩⟩⟩ := h
  obtain rfl := FW s1
  exact ⟨A6, c6, rfl, l6, Kd.afr g6⟩
theorem adZ (w : World) (x : ai) {A6 : Option Addr} {c6 : Nat} (l6 : x.f3.length ≤ c6) (g6 : k26.C w A6 x.f3.length x.f3) : k26.K w x [.int .u8 x.f0, .int .i64 x.f1.f0, .int .i64 x.f1.f1, .int .i64 x.f1.f2, .int .i64 x.f1.f3, .int .i64 x.f2, .slice A6 x.f3.length c6] := by
 obtain ⟨n6, q6⟩ := Kd.Qx NT g6
 have r6 := Kd.U7 NT Rj (show n6 ≤ n6 by omega) q6
 exact ⟨n6 + 1, ⟨[.int .u8 x.f0], [.int .i64 x.f1.f0, .int .i64 x.f1.f1, .int .i64 x.f1.f2, .int .i64 x.f1.f3, .int .i64 x.f2, .slice A6 x.f3.length c6], rfl, rfl, ⟨[.int .i64 x.f1.f0, .int .i64 x.f1.f1, .int .i64 x.f1.f2, .int .i64 x.f1.f3], [.int .i64 x.f2, .slice A6 x.f3.length c6], rfl, (NK w x.f1 ), ⟨[.int .i64 x.f2], [.slice A6 x.f3.length c6], rfl, rfl, ⟨A6, c6, rfl, l6, r6⟩⟩⟩⟩⟩
theorem ni {W : World} {ok : Nat → Prop} {x : ai} {cs : List Value} (h : Kd.FK k26 W ok x cs) : ∃ A6 c6, cs = [.int .u8 x.f0, .int .i64 x.f1.f0, .int .i64 x.f1.f1, .int .i64 x.f1.f2, .int .i64 x.f1.f3, .int .i64 x.f2, .slice A6 x.f3.length c6] ∧ x.f3.length ≤ c6 ∧ Kd.F k26 W ok A6 x.f3.length x.f3 := by
 obtain ⟨A6, c6, rfl, l6, _⟩ := BR (Kd.uk h)
 exact ⟨A6, c6, rfl, l6, (fun W' hW => by obtain ⟨A6_, c6_, he, l6_, g6_⟩ := BR (h W' hW); injection (Option.some.inj (show some (Value.slice A6 x.f3.length c6) = some (Value.slice A6_ x.f3.length c6_) from congrArg (fun l => l[6]?) he)) with ha_ _ _; rw [ha_]; exact g6_)⟩
theorem oC (W : World) (ok : Nat → Prop) (x : ai) {A6 : Option Addr} {c6 : Nat} (l6 : x.f3.length ≤ c6) (g6 : Kd.F k26 W ok A6 x.f3.length x.f3) : Kd.FK k26 W ok x [.int .u8 x.f0, .int .i64 x.f1.f0, .int .i64 x.f1.f1, .int .i64 x.f1.f2, .int .i64 x.f1.f3, .int .i64 x.f2, .slice A6 x.f3.length c6] := fun W2 hW => adZ W2 x l6 (g6 W2 hW)
def aA (xs : List ai) (i : Int) : ai := xs.getD i.toNat z26
theorem rW {w : World} {A : Option Addr} {n : Nat} {xs : List ai} (h : Kd.C k26 w A n xs) (i : Int) (h0 : 0 ≤ i) (h1 : i < n) : ∃ ad A6 c6, A = some ad ∧ w.cell? (ad.add (i.toNat * 7)) = some (.int .u8 (aA xs i).f0) ∧ w.cell? ⟨(ad.add (i.toNat * 7)).block, (ad.add (i.toNat * 7)).off + 1, none⟩ = some (.int .i64 (aA xs i).f1.f0) ∧ w.cell? ⟨(ad.add (i.toNat * 7)).block, (ad.add (i.toNat * 7)).off + 2, none⟩ = some (.int .i64 (aA xs i).f1.f1) ∧ w.cell? ⟨(ad.add (i.toNat * 7)).block, (ad.add (i.toNat * 7)).off + 3, none⟩ = some (.int .i64 (aA xs i).f1.f2) ∧ w.cell? ⟨(ad.add (i.toNat * 7)).block, (ad.add (i.toNat * 7)).off + 4, none⟩ = some (.int .i64 (aA xs i).f1.f3) ∧ w.cell? ⟨(ad.add (i.toNat * 7)).block, (ad.add (i.toNat * 7)).off + 5, none⟩ = some (.int .i64 (aA xs i).f2) ∧ w.cell? ⟨(ad.add (i.toNat * 7)).block, (ad.add (i.toNat * 7)).off + 6, none⟩ = some (.slice A6 (aA xs i).f3.length c6) ∧ (aA xs i).f3.length ≤ c6 ∧ k26.C w A6 (aA xs i).f3.length (aA xs i).f3 := by
 obtain ⟨ad, c, e, _, hK, hc0⟩ := Kd.Gl h z26 i h0 h1
 have hc : ∀ j u, c[j]? = some u → w.cell? (ad.add (i.toNat * 7 + j)) = some u := hc0
 obtain ⟨A6, c6, rfl, l6, g6⟩ := BR hK
 exact ⟨ad, A6, c6, e, hc 0 _ rfl, by rw [← jI _ _ 1 (by omega)]; exact hc 1 _ rfl, by rw [← jI _ _ 2 (by omega)]; exact hc 2 _ rfl, by rw [← jI _ _ 3 (by omega)]; exact hc 3 _ rfl, by rw [← jI _ _ 4 (by omega)]; exact hc 4 _ rfl, by rw [← jI _ _ 5 (by omega)]; exact hc 5 _ rfl, by rw [← jI _ _ 6 (by omega)]; exact hc 6 _ rfl, l6, g6⟩
structure S35 where
 f0 : Int
 f1 : dD
end Go.Proofs.Ytfdmfgaiblfbhaa.P
namespace Go.Proofs.Ytfdmfgaiblfbhaa.P
open Go.RowKit Go.Proofs.ag.aK Go.Proofs.ag.bG Go.Proofs.ag.bV
section
variable {P : Program} {ops : Array Oper} {rest : List Oper} {o : Oper} {a : Act} {Q : Exit → Act → World → Prop}
theorem grown_below {w0 W w1 : World} {g base : Nat} (HB : Below base w0 W) (hg : W.grownBy w1 (some g)) (hbg : base ≤ g) (hs : base ≤ W.heap.size) : Below base w0 w1 := HB.trans ⟨hg.os, hg.tape, hg.output, hg.size, fun k hk => hg.block k (by omega) (fun he => by injection he with he; omega)⟩
theorem qi {W : World} {g j : Nat} {cs cs' : Array Value} {t0 : TypeId} {bK : List Value} (hb : W.heap[g]? = some (.cells cs t0 (0, 0))) (hj : j + bK.length ≤ cs.size) (he : cs.toList.take j ++ bK ++ cs.toList.drop (j + bK.length) = cs'.toList) :
  (W.setCells g j bK).heap[g]? = some (.cells cs' t0 (0, 0)) ∧ W.grownBy (W.setCells g j bK) (some g) := by
 obtain ⟨cur', h3, h4, h5⟩ := lg bK j W cs hb hj
 obtain ⟨s1, s2, s3, s4⟩ := uN g bK j W
 have hc : cur' = cs' := Array.toList_inj.1 (h5.trans he)
 subst hc
 exact ⟨h3, ⟨s1, s2, s3, by rw [s4]; exact Nat.le_refl _, fun k _ hk => wI bK _ k (fun e => hk (by rw [e]))⟩⟩
theorem fQ {W w0 : World} (hN : o.dst = none) (hgd : o.guard = none) (t : TypeId) (p x : Operand) (ho : o.op = .store t p x) {g j base : Nat} {cs : Array Value} (cs' : Array Value) {t0 : TypeId} {u : Value} {bK : List Value}
  (ku : a.eval p = .pointer (some ⟨g, j, none⟩)) (hx : a.eval x = u) (hu : u.cells.toList = bK) (ht : (P.info? t).map (·.size) = some bK.length) (h1 : ∀ q ∈ bK, q.oneCell' = true)
  (hb : W.heap[g]? = some (.cells cs t0 (0, 0))) (hj : j + bK.length ≤ cs.size) (he : cs.toList.take j ++ bK ++ cs.toList.drop (j + bK.length) = cs'.toList) (HB : Below base w0 W) (hbs : base ≤ W.heap.size) (hbg : base ≤ g)
  (h : ∀ w1, w1.heap[g]? = some (.cells cs' t0 (0, 0)) → Below base w0 w1 → W.grownBy w1 (some g) → wpList P ops Q rest a w1) : wpList P ops Q (o :: rest) a W := by
 obtain ⟨h2, h3⟩ := qi hb hj he
 refine wpList_plain hgd fun K hK => ?_
 have hrun := CQ (P := P) t u bK hb hu ht hj h1
 unfold Oper.wp execOp
 simp only [ho, ku, hx, Sem.run_bind, Sem.run_pure, Result.andThen_ok, hrun]
 show K (a.put o.dst undef) _
 rw [hN]
 exact hK a _ (h _ h2 (grown_below HB h3 hbg hbs) h3)
theorem Cm {W : World} (t : TypeId) (p x : Operand) (ho : o.op = .store t p x) {g j : Nat} {cs : Array Value} {t0 : TypeId} {u : Value} {bK : List Value}
  (ku : a.eval p = .pointer (some ⟨g, j, none⟩)) (hx : a.eval x = u) (hu : u.cells.toList = bK) (ht : (P.info? t).map (·.size) = some bK.length) (h1 : ∀ q ∈ bK, q.oneCell' = true)
  (hb : W.heap[g]? = some (.cells cs t0 (0, 0))) (hj : j + bK.length ≤ cs.size) : (execOp a.eval o).run P W = .ok .skip (W.setCells g j bK) := by
 have hrun := CQ (P := P) t u bK hb hu ht hj h1
 unfold execOp
 simp only [ho, ku, hx, Sem.run_bind, Sem.run_pure, Result.andThen_ok, hrun]
end
theorem Le {α : Type} {d : Kd α} {e base b c : Nat} {P : Nat → Prop} {W w1 : World} {v : Value} {xs : List α} (h : Kd.N d e w1 W.heap.size (fun k => ((P k ∧ k ≠ b) ∧ k ≠ c) ∨ W.heap.size ≤ k) v xs) (hb : b < W.heap.size) (hc : c < W.heap.size) (hs : base ≤ W.heap.size) :
  Kd.N d e w1 base (fun k => ((P k ∨ base ≤ k) ∧ k ≠ b) ∧ k ≠ c) v xs :=
 Kd.uY (Kd.iH h (fun k hk => hk.elim (fun q => ⟨⟨.inl q.1.1, q.1.2⟩, q.2⟩) (fun q => ⟨⟨.inr (by omega), by omega⟩, by omega⟩))) hs
def keys (bs : List (Option Nat × Obj)) (ow : List (Value × List ai)) : List Nat := bs.filterMap (·.1) ++ ow.flatMap (fun r => r.1.ownBlock.toList)
def Ok (w : World) (P : Nat → Prop) (ks : List Nat) (k : Nat) : Prop := (P k ∨ w.heap.size ≤ k) ∧ k ∉ ks
structure St (w : World) (P : Nat → Prop) (bs : List (Option Nat × Obj)) (ow : List (Value × List ai)) (ts : List (Value × List ai)) (ro : List (Addr × Value)) (W : World) : Prop where
 below : Below w.heap.size w W
 blk : ∀ p, p ∈ bs → ∀ g, p.1 = some g → W.heap[g]? = some p.2
 new : ∀ k, k ∈ keys bs ow → w.heap.size ≤ k ∧ k < W.heap.size
 nd : (keys bs ow).Nodup
 tree : ∀ t, t ∈ ts → Kd.V k26 26 W 0 (Ok w P (keys bs ow)) t.1 t.2
 own : ∀ r, r ∈ ow → Kd.N k26 26 W w.heap.size (fun k => Ok w P (keys bs ow) k ∨ r.1.ownBlock = some k) r.1 r.2
 cell : ∀ c, c ∈ ro → W.cell? c.1 = some c.2 ∧ c.1.block ∉ keys bs ow
section
variable {w : World} {P : Nat → Prop} {bs : List (Option Nat × Obj)} {ow : List (Value × List ai)} {ts : List (Value × List ai)} {ro : List (Addr × Value)} {W W1 : World} {g b0 cap : Nat} {o o' : Obj} {v : Value} {l : List ai}
theorem fK {α : Type} {d : Kd α} {e base base' : Nat} {ok : Nat → Prop} {W : World} {v : Value} {xs : List α} (h : Kd.V d e W base ok v xs) : Kd.V d e W base' ok v xs := Kd.yM h (fun _ hf => hf)
theorem St.start (h : ∀ t, t ∈ ts → Kd.V k26 26 w b0 P t.1 t.2) : St w P [] [] ts [] w where
 below := Below.refl _ _
 blk := fun _ h => by cases h
 new := fun _ h => by cases h
 nd := List.nodup_nil
 tree := fun t ht => fK (Kd.gu (h t ht) (fun k hk => ⟨.inl hk, by simp [keys]⟩))
 own := fun _ h => by cases h
 cell := fun _ h => by cases h
theorem St.yU (S : St w P [] [] ts ro W) {a : Addr} {u : Value} (h : W.cell? a = some u) : St w P [] [] ts ((a, u) :: ro) W :=
 ⟨S.below, S.blk, S.new, S.nd, S.tree, S.own, fun c hc => by
  rcases List.mem_cons.1 hc with rfl | hc
  ·exact ⟨h, by simp [keys]⟩
  ·exact S.cell c hc⟩
theorem St.lt (S : St w P bs ow ts ro W) {k : Nat} (h : k ∈ keys bs ow) : k < W.heap.size := (S.new k h).2
theorem St.box (S : St w P bs ow ts ro W) (hg : g = W.heap.size) (hbox : W1.heap[g]? = some o) (hb : Below W.heap.size W W1) : St w P ((some g, o) :: bs) ow ts ro W1 where
 below := ak S.below hb
 blk := fun p hp q hq => by
  rcases List.mem_cons.1 hp with rfl | hp
  ·rw [← Option.some.inj hq]; exact hbox
  ·exact aJ (S.blk p hp q hq) hb
 new := fun k hk => by
  rcases List.mem_cons.1 (show k ∈ g :: keys bs ow from hk) with rfl | hk
  ·exact ⟨by rw [hg]; exact S.below.size, fA hbox⟩
  ·exact ⟨(S.new k hk).1, Nat.lt_of_lt_of_le (S.new k hk).2 hb.size⟩
 nd := show (g :: keys bs ow).Nodup from List.nodup_cons.2 ⟨fun h => by have := (S.new g h).2; omega, S.nd⟩
 tree := fun t ht => Kd.gu (Kd.ja (Kd.nK (S.tree t ht) g (Nat.le_of_eq hg.symm)) hb) (fun k hk => ⟨hk.1.1, fun h => (List.mem_cons.1 (show k ∈ g :: keys bs ow from h)).elim hk.2 hk.1.2⟩)
 own := fun r hr => Kd.iH (Kd.pO (Kd.BC (S.own r hr) g (Nat.le_of_eq hg.symm)) hb) (fun k hk => hk.1.elim (fun h1 => .inl ⟨h1.1, fun h => (List.mem_cons.1 (show k ∈ g :: keys bs ow from h)).elim hk.2 h1.2⟩) .inr)
 cell := fun c hc => ⟨(hb.cell (World.block_lt_of_cell? W _ (S.cell c hc).1)).trans (S.cell c hc).1, fun h => (List.mem_cons.1 (show c.1.block ∈ g :: keys bs ow from h)).elim (fun he => by have := World.block_lt_of_cell? W _ (S.cell c hc).1; omega) (S.cell c hc).2⟩
theorem St.call (S : St w P bs ow ts ro W) (hb : Below W.heap.size W W1) : St w P bs ow ts ro W1 where
 below := ak S.below hb
 blk := fun p hp q hq => aJ (S.blk p hp q hq) hb
 new := fun k hk => ⟨(S.new k hk).1, Nat.lt_of_lt_of_le (S.new k hk).2 hb.size⟩
 nd := S.nd
 tree := fun t ht => Kd.ja (S.tree t ht) hb
 own := fun r hr => Kd.pO (S.own r hr) hb
 cell := fun c hc => ⟨(hb.cell (World.block_lt_of_cell? W _ (S.cell c hc).1)).trans (S.cell c hc).1, (S.cell c hc).2⟩
theorem St.add (S : St w P bs ow ts ro W) (h : Kd.V k26 26 W b0 (Ok w P (keys bs ow)) v l) : St w P bs ow ((v, l) :: ts) ro W :=
 ⟨S.below, S.blk, S.new, S.nd, fun t ht => by
  rcases List.mem_cons.1 ht with rfl | ht
  ·exact fK h
  ·exact S.tree t ht, S.own, S.cell⟩
theorem St.res (S : St w P bs ow ts ro W) (h : Kd.V k26 26 W1 b0 (fun k => Ok w P (keys bs ow) k ∨ W.heap.size ≤ k) v l) (hb : Below W.heap.size W W1) : St w P bs ow ((v, l) :: ts) ro W1 :=
 (S.call hb).add (Kd.gu h (fun k hk => hk.elim id (fun h1 => ⟨.inr (Nat.le_trans S.below.size h1), fun h2 => by have := S.lt h2; omega⟩)))
theorem qF {k : Nat} : k ∈ keys bs [(v, l)] ↔ k ∈ keys bs [] ∨ v.ownBlock = some k := by
 simp only [keys, List.flatMap_cons, List.flatMap_nil, List.append_nil, List.mem_append, Option.mem_toList]
theorem St.yC (S : St w P bs [] ts ro W) (h : Kd.N k26 26 W1 W.heap.size (fun k => Ok w P (keys bs []) k ∨ W.heap.size ≤ k) v l) (hb : Below W.heap.size W W1) : St w P bs [(v, l)] ts ro W1 := by
 have hgb : ∀ g, v.ownBlock = some g → W.heap.size ≤ g := Kd.vN h
 have hgl : ∀ g, v.ownBlock = some g → g < W1.heap.size := Kd.Fv h
 have hlt : ∀ k, k < W.heap.size → v.ownBlock ≠ some k := fun k hk e => by have := hgb k e; omega
 refine ⟨ak S.below hb, fun p hp q hq => aJ (S.blk p hp q hq) hb, fun k hk => ?_, ?_, fun t ht => ?_, fun r hr => ?_, fun c hc => ?_⟩
 ·rcases qF.1 hk with h1 | h1
  ·exact ⟨(S.new k h1).1, Nat.lt_of_lt_of_le (S.new k h1).2 hb.size⟩
  ·exact ⟨Nat.le_trans S.below.size (hgb k h1), hgl k h1⟩
 ·have h1 := S.nd
  simp only [keys, List.flatMap_nil, List.append_nil] at h1
  simp only [keys, List.flatMap_cons, List.flatMap_nil, List.append_nil]
  refine List.nodup_append.2 ⟨h1, by cases v.ownBlock <;> simp, fun a ha b hb2 => ?_⟩
  rintro rfl
  exact hlt a (S.lt (by simpa [keys] using ha)) (by simpa using hb2)
 ·exact Kd.gu (Kd.ja (Kd.Ep (S.tree t ht)) hb) (fun k hk => ⟨hk.1.1, fun h2 => (qF.1 h2).elim hk.1.2 (hlt k hk.2)⟩)
 ·rw [List.mem_singleton] at hr
  subst hr
  refine Kd.uY (Kd.iH h (fun k hk => ?_)) S.below.size
  by_cases hkg : v.ownBlock = some k
  ·exact .inr hkg
  ·refine .inl ?_
   rcases hk with h1 | h1
   ·exact ⟨h1.1, fun h2 => (qF.1 h2).elim h1.2 hkg⟩
   ·exact ⟨.inr (Nat.le_trans S.below.size h1), fun h2 => (qF.1 h2).elim (fun h3 => by have := S.lt h3; omega) hkg⟩
 ·exact ⟨(hb.cell (World.block_lt_of_cell? W _ (S.cell c hc).1)).trans (S.cell c hc).1, fun h2 => (qF.1 h2).elim (S.cell c hc).2 (hlt _ (World.block_lt_of_cell? W _ (S.cell c hc).1))⟩
theorem MH {W W1 : World} {g : Nat} (hg : W.grownBy W1 (some g)) {a : Addr} {u : Value} (h : W.cell? a = some u) (hn : a.block ≠ g) : W1.cell? a = some u := cell_grown hg h (fun e => hn (Option.some.inj e))
theorem Wy {i : Nat} : ∀ {bs : List (Option Nat × Obj)} (ow : List (Value × List ai)) (_ : bs[i]? = some (some g, o)), keys (bs.set i (some g, o')) ow = keys bs ow := by
 induction i with
 | zero => intro bs ow h; cases bs with
  | nil => simp at h
  | cons b bs => simp at h; subst h; rfl
 | succ i ih => intro bs ow h; cases bs with
  | nil => simp at h
  | cons b bs =>
   have := ih (bs := bs) ow (by simpa using h)
   unfold keys at this ⊢
   have h2 := List.append_cancel_right this
   rw [List.set_cons_succ, List.filterMap_cons, List.filterMap_cons, h2]
theorem mem_keys {bs : List (Option Nat × Obj)} {ow : List (Value × List ai)} {p : Option Nat × Obj} {g : Nat} (hp : p ∈ bs) (hg : p.1 = some g) : g ∈ keys bs ow := List.mem_append.2 (.inl (List.mem_filterMap.2 ⟨p, hp, hg⟩))
theorem afE {p q : Option Nat × Obj} {g : Nat} : ∀ {bs : List (Option Nat × Obj)} {i j : Nat}, (bs.filterMap (·.1)).Nodup → bs[i]? = some p → bs[j]? = some q → i ≠ j → p.1 = some g → q.1 = some g → False := by
 intro bs
 induction bs with
 | nil => intro i j _ hi; simp at hi
 | cons b bs ih =>
  intro i j hn hi hj hij hp hq
  have hn' : (bs.filterMap (·.1)).Nodup := by
   rw [List.filterMap_cons] at hn
   split at hn
   ·exact hn
   ·exact (List.nodup_cons.1 hn).2
  cases i with
  | zero =>
   cases j with
   | zero => exact hij rfl
   | succ j =>
    simp at hi hj
    subst hi
    rw [List.filterMap_cons, hp] at hn
    exact (List.nodup_cons.1 hn).1 (List.mem_filterMap.2 ⟨q, List.mem_of_getElem? hj, hq⟩)
  | succ i =>
   cases j with
   | zero =>
    simp at hi hj
    subst hj
    rw [List.filterMap_cons, hq] at hn
    exact (List.nodup_cons.1 hn).1 (List.mem_filterMap.2 ⟨p, List.mem_of_getElem? hi, hp⟩)
   | succ j => exact ih hn' (by simpa using hi) (by simpa using hj) (by omega) hp hq
theorem St.put (S : St w P bs ow ts ro W) (i : Nat) (hi : bs[i]? = some (some g, o)) (hbk : W1.heap[g]? = some o') (hb : Below w.heap.size w W1) (hg : W.grownBy W1 (some g)) : St w P (bs.set i (some g, o')) ow ts ro W1 := by
 have hk := Wy (o' := o') ow hi
 have hm : g ∈ keys bs ow := mem_keys (List.mem_of_getElem? hi) rfl
 refine ⟨hb, fun p hp q hq => ?_, by rw [hk]; exact fun k h => ⟨(S.new k h).1, Nat.lt_of_lt_of_le (S.new k h).2 hg.size⟩, by rw [hk]; exact S.nd, fun t ht => ?_, fun r hr => ?_, fun c hc => ?_⟩
 ·obtain ⟨j, hj⟩ := List.mem_iff_getElem?.1 hp
  rw [List.getElem?_set] at hj
  by_cases hij : i = j
  ·subst hij
   rw [if_pos rfl] at hj
   split at hj
   ·injection hj with e; subst e; rw [← Option.some.inj hq]; exact hbk
   ·cases hj
  ·rw [if_neg hij] at hj
   exact df (S.blk p (List.mem_of_getElem? hj) q hq) hg (fun e => afE (List.nodup_append.1 S.nd).1 hi hj hij rfl (by rw [hq]; exact e))
 ·rw [hk]; exact Kd.wS (S.tree t ht) hg (fun k h e => h.2 (by rw [Option.some.inj e]; exact hm))
 ·rw [hk]
  have hrg : r.1.ownBlock ≠ some g := fun e => (List.nodup_append.1 S.nd).2.2 g (List.mem_filterMap.2 ⟨_, List.mem_of_getElem? hi, rfl⟩) g (List.mem_flatMap.2 ⟨r, hr, by simp [e]⟩) rfl
  exact Kd.uX (S.own r hr) hg (fun k h e => h.elim (fun h1 => h1.2 (by rw [Option.some.inj e]; exact hm)) (fun h1 => hrg (by rw [h1]; exact e)))
 ·rw [hk]; exact ⟨MH hg (S.cell c hc).1 (fun e => (S.cell c hc).2 (by rw [e]; exact hm)), (S.cell c hc).2⟩
def kR (x : ai) (A : Option Addr) (c : Nat) : List Value := [.int .u8 x.f0, .int .i64 x.f1.f0, .int .i64 x.f1.f1, .int .i64 x.f1.f2, .int .i64 x.f1.f3, .int .i64 x.f2, .slice A x.f3.length c]
theorem St.bK {n : Nat} (S : St w P bs [(.slice (some ⟨g, 0, none⟩) n cap, l)] ts ro W) (i : Int) (h0 : 0 ≤ i) (h1 : i < l.length) (x : ai) {A : Option Addr} {c : Nat} (hm : (.slice A x.f3.length c, x.f3) ∈ ts) (hW : W1 = W.setCells g (i.toNat * 7 + 0) (kR x A c)) :
  St w P bs [(.slice (some ⟨g, 0, none⟩) n cap, l.set i.toNat x)] ts ro W1 ∧ W.grownBy W1 (some g) := by
 have hN := S.own _ (List.mem_singleton.2 rfl)
 have hob : (Value.slice (some ⟨g, 0, none⟩) n cap).ownBlock = some g := by simp [Value.ownBlock]
 have hmem : g ∈ keys bs [(.slice (some ⟨g, 0, none⟩) n cap, l)] := qF.2 (.inr hob)
 have hn : n = l.length := (Kd.iI hN).1
 obtain ⟨c0, hcl, hM, hcc, hfr⟩ := Kd.xI hN z26 i h0 (by rw [hn]; exact h1)
 obtain ⟨hl1, hl2, hF⟩ := Kd.BG (S.tree _ hm)
 have JB := oC W _ x hl2 hF
 have hseg := Kd.Qi hN i h0 (by rw [hn]; exact h1) (bK := kR x A c) (j := 0) hcl hcc (show 0 + 7 ≤ 7 from by decide) (x' := x) (fD := Ok w P (keys bs [(.slice (some ⟨g, 0, none⟩) n cap, l)])) (by
  have e : c0.take 0 ++ kR x A c ++ c0.drop (0 + (kR x A c).length) = kR x A c := by
   rw [show (0 + (kR x A c).length) = c0.length by rw [hcl]; rfl, List.drop_length, List.take_zero, List.nil_append, List.append_nil]
  rw [e]; exact JB) (fun k hk => ⟨.inl hk, fun e => hk.2 (by rw [e]; exact hmem)⟩)
 have BQ : Kd.N k26 26 W1 w.heap.size (fun k => Ok w P (keys bs [(.slice (some ⟨g, 0, none⟩) n cap, l)]) k ∨ (Value.slice (some ⟨g, 0, none⟩) n cap).ownBlock = some k) (.slice (some ⟨g, 0, none⟩) n cap) (l.set i.toNat x) ∧ W.grownBy W1 (some g) := by rw [hW]; exact hseg
 have hne : ∀ p, p ∈ bs → p.1 ≠ some g := fun p hp e => (List.nodup_append.1 S.nd).2.2 g (List.mem_filterMap.2 ⟨p, hp, e⟩) g (by simp [hob]) rfl
 refine ⟨⟨grown_below S.below BQ.2 (S.new g hmem).1 S.below.size, fun p hp q hq => df (S.blk p hp q hq) BQ.2 (fun e => hne p hp (by rw [hq]; exact e)), fun k h => ⟨(S.new k h).1, Nat.lt_of_lt_of_le (S.new k h).2 BQ.2.size⟩, S.nd, fun t ht => ?_, fun r hr => ?_, fun c hc => ?_⟩, BQ.2⟩
 ·exact Kd.wS (S.tree t ht) BQ.2 (fun k h e => h.2 (by rw [Option.some.inj e]; exact hmem))
 ·rw [List.mem_singleton] at hr
  subst hr
  exact BQ.1
 ·exact ⟨MH BQ.2 (S.cell c hc).1 (fun e => (S.cell c hc).2 (by rw [e]; exact hmem)), (S.cell c hc).2⟩
theorem St.free (S : St w P bs [(v, l)] ts ro W) : St w P bs [] ((v, l) :: ts) ro W := by
 have hk : ∀ k, k ∈ keys bs [] → k ∈ keys bs [(v, l)] := fun k h => qF.2 (.inl h)
 have hne : ∀ k, k ∈ keys bs [] → v.ownBlock ≠ some k := fun k h e => (List.nodup_append.1 S.nd).2.2 k (by simpa [keys] using h) k (by simp [e]) rfl
 refine ⟨S.below, S.blk, fun k h => S.new k (hk k h), ?_, fun t ht => ?_, fun _ h => (by cases h), fun c hc => ⟨(S.cell c hc).1, fun h => (S.cell c hc).2 (hk _ h)⟩⟩
 ·simp only [keys, List.flatMap_nil, List.append_nil]; exact (List.nodup_append.1 S.nd).1
 ·rcases List.mem_cons.1 ht with rfl | ht
  ·exact Kd.gu (Kd.qL (S.own _ (List.mem_singleton.2 rfl))) (fun k h => h.elim (fun h1 => ⟨h1.1, fun h2 => h1.2 (hk k h2)⟩) (fun h1 => ⟨.inr (S.new k (qF.2 (.inr h1))).1, fun h2 => hne k h2 h1⟩))
  ·exact Kd.gu (S.tree t ht) (fun k h => ⟨h.1, fun h2 => h.2 (hk k h2)⟩)
theorem St.yA (S : St w P bs [(v, l)] ts ro W) : Kd.N k26 26 W w.heap.size (fun k => P k ∨ w.heap.size ≤ k) v l :=
 Kd.iH (S.own _ (List.mem_singleton.2 rfl)) (fun k h => h.elim (fun h1 => h1.1) (fun h1 => .inr (S.new k (qF.2 (.inr h1))).1))
theorem St.WS (S : St w P bs ow ts ro W) (hm : (v, l) ∈ ts) : Kd.V k26 26 W b0 (fun k => P k ∨ w.heap.size ≤ k) v l := fK (Kd.gu (S.tree _ hm) (fun _ h => h.1))
theorem St.at (S : St w P bs ow ts ro W) {cs : Array Value} {t : TypeId} (hm : (some g, .cells cs t (0, 0)) ∈ bs) (j : Nat) : W.cell? ⟨g, j, none⟩ = cs[j]? := af (S.blk _ hm g rfl) j
theorem St.elem (S : St w P bs ow ts ro W) {A : Option Addr} {n c : Nat} (hm : (.slice A n c, l) ∈ ts) (i : Int) (h0 : 0 ≤ i) (h1 : i < l.length) :
  ∃ ad ua uc, A = some ad ∧ St w P bs ow ((.slice ua (aA l i).f3.length uc, (aA l i).f3) :: ts) ((ad.add (i.toNat * 7), .int .u8 (aA l i).f0) :: (⟨(ad.add (i.toNat * 7)).block, (ad.add (i.toNat * 7)).off + 1, none⟩, .int .i64 (aA l i).f1.f0) :: (⟨(ad.add (i.toNat * 7)).block, (ad.add (i.toNat * 7)).off + 2, none⟩, .int .i64 (aA l i).f1.f1) :: (⟨(ad.add (i.toNat * 7)).block, (ad.add (i.toNat * 7)).off + 3, none⟩, .int .i64 (aA l i).f1.f2) :: (⟨(ad.add (i.toNat * 7)).block, (ad.add (i.toNat * 7)).off + 4, none⟩, .int .i64 (aA l i).f1.f3) :: (⟨(ad.add (i.toNat * 7)).block, (ad.add (i.toNat * 7)).off + 5, none⟩, .int .i64 (aA l i).f2) :: (⟨(ad.add (i.toNat * 7)).block, (ad.add (i.toNat * 7)).off + 6, none⟩, .slice ua (aA l i).f3.length uc) :: ro) W := by
 have hV := S.tree _ hm
 obtain ⟨hn, hl, hF⟩ := Kd.BG hV
 obtain ⟨ad, ua, uc, ek, y0, y1, y2, y3, y4, y5, y6, JF, hgu⟩ := rW (Kd.Gm hF) i h0 h1
 subst ek
 obtain ⟨ad2, ce, e2, hcl, hFK, hcc, hok⟩ := Kd.P_ hF z26 i h0 h1
 injection e2 with e2
 subst e2
 obtain ⟨ub, ud, rfl, lub, fub⟩ := ni hFK
 have e6 := hcc 6 _ rfl
 rw [show k26.sz = 7 from rfl, jI _ _ 6 (by omega)] at e6
 have e7 := Option.some.inj (e6.symm.trans y6)
 injection e7 with ea en ec
 subst ea
 subst ec
 have hO := (hok (by decide)).2
 have Nb : (ad.add (i.toNat * 7)).block ∉ keys bs ow := by rw [add_block]; exact hO
 refine ⟨ad, ub, ud, rfl, (S.add (Kd.wU (base := 0) lub fub)).below, S.blk, S.new, S.nd, (S.add (Kd.wU (base := 0) lub fub)).tree, S.own, ?_⟩
 intro c hc
 rcases List.mem_cons.1 hc with rfl | hc
 ·exact ⟨y0, Nb⟩
 rcases List.mem_cons.1 hc with rfl | hc
 ·exact ⟨y1, Nb⟩
 rcases List.mem_cons.1 hc with rfl | hc
 ·exact ⟨y2, Nb⟩
 rcases List.mem_cons.1 hc with rfl | hc
 ·exact ⟨y3, Nb⟩
 rcases List.mem_cons.1 hc with rfl | hc
 ·exact ⟨y4, Nb⟩
 rcases List.mem_cons.1 hc with rfl | hc
 ·exact ⟨y5, Nb⟩
 rcases List.mem_cons.1 hc with rfl | hc
 ·exact ⟨y6, Nb⟩
 exact S.cell c hc
end
section
variable {Pr : Program} {ops : Array Oper} {rest : List Oper} {op : Oper} {a : Act} {Q : Exit → Act → World → Prop} {w W : World} {P : Nat → Prop} {bs : List (Option Nat × Obj)} {ow : List (Value × List ai)} {ts : List (Value × List ai)} {ro : List (Addr × Value)}
theorem acj {N : Tmp} (hd : op.dst = some N) (hgd : op.guard = none) (cs : Array Value) (t : TypeId) (S : St w P bs ow ts ro W)
  (hr : (execOp a.eval op).run Pr W = .ok (.value (.pointer (some ⟨W.heap.size, 0, none⟩))) (W.alloc (.cells cs t (0, 0))))
  (h : ∀ g w1, St w P ((some g, .cells cs t (0, 0)) :: bs) ow ts ro w1 → wpList Pr ops Q rest (a.put op.dst (.pointer (some ⟨g, 0, none⟩))) w1) : wpList Pr ops Q (op :: rest) a W :=
 aT hgd hd hr (fun g hg w1 hbox hb => h g w1 (S.box hg hbox hb))
theorem aee (i : Nat) {g : Nat} {cs : Array Value} {t0 : TypeId} (hi : bs[i]? = some (some g, .cells cs t0 (0, 0))) (t : TypeId) (p x : Operand) (ho : op.op = .store t p x) {j : Nat} (cs' : Array Value) {u : Value} {bK : List Value} (S : St w P bs ow ts ro W)
  (ku : a.eval p = .pointer (some ⟨g, j, none⟩)) (hx : a.eval x = u) (hu : u.cells.toList = bK) (ht : (Pr.info? t).map (·.size) = some bK.length) (h1 : ∀ q ∈ bK, q.oneCell' = true) (hj : j + bK.length ≤ cs.size)
  (he : cs.toList.take j ++ bK ++ cs.toList.drop (j + bK.length) = cs'.toList) (hN : op.dst = none) (hgd : op.guard = none)
  (h : ∀ w1, St w P (bs.set i (some g, .cells cs' t0 (0, 0))) ow ts ro w1 → wpList Pr ops Q rest a w1) : wpList Pr ops Q (op :: rest) a W := by
 have hm : g ∈ keys bs ow := mem_keys (List.mem_of_getElem? hi) rfl
 exact fQ hN hgd t p x ho cs' ku hx hu ht h1 (S.blk _ (List.mem_of_getElem? hi) g rfl) hj he S.below S.below.size (S.new g hm).1 (fun w1 h2 h3 h4 => h w1 (S.put i hi h2 h3 h4))
theorem aaE (i : Nat) {g : Nat} {cs : Array Value} {t0 : TypeId} (hi : bs[i]? = some (some g, .cells cs t0 (0, 0))) (t : TypeId) (p x : Operand) (ho : op.op = .store t p x) {j : Nat} (cs' : Array Value) {u : Value} {bK : List Value} (S : St w P bs ow ts ro W)
  (ku : a.eval p = .pointer (some ⟨g, j, none⟩)) (hx : a.eval x = u) (hu : u.cells.toList = bK) (ht : (Pr.info? t).map (·.size) = some bK.length) (h1 : ∀ q ∈ bK, q.oneCell' = true) (hj : j + bK.length ≤ cs.size)
  (he : cs.toList.take j ++ bK ++ cs.toList.drop (j + bK.length) = cs'.toList) :
  (execOp a.eval op).run Pr W = .ok .skip (W.setCells g j bK) ∧ St w P (bs.set i (some g, .cells cs' t0 (0, 0))) ow ts ro (W.setCells g j bK) := by
 have hm : g ∈ keys bs ow := mem_keys (List.mem_of_getElem? hi) rfl
 have hb := S.blk _ (List.mem_of_getElem? hi) g rfl
 have hc := qi hb hj he
 exact ⟨Cm t p x ho ku hx hu ht h1 hb hj, S.put i hi hc.1 (grown_below S.below hc.2 (S.new g hm).1 S.below.size) hc.2⟩
theorem PR {g n cap : Nat} {l : List ai} (i : Int) (x : ai) {A : Option Addr} {c : Nat} (p y : Operand) (ho : op.op = .store 26 p y) (S : St w P bs [(.slice (some ⟨g, 0, none⟩) n cap, l)] ts ro W) (h0 : 0 ≤ i) (h1 : i < l.length)
  (ku : a.eval p = .pointer (some ⟨g, i.toNat * 7, none⟩)) (hx : a.eval y = .agg (kR x A c).toArray) (hsz : (Pr.info? 26).map (·.size) = some 7) (hm : (.slice A x.f3.length c, x.f3) ∈ ts) :
  ∃ w1, (execOp a.eval op).run Pr W = .ok .skip w1 ∧ St w P bs [(.slice (some ⟨g, 0, none⟩) n cap, l.set i.toNat x)] ts ro w1 := by
 obtain ⟨h2, h3⟩ := S.bK i h0 h1 x hm rfl
 obtain ⟨cells, hcells⟩ := Kd.Yz (S.own _ (List.mem_singleton.2 rfl)) g (by simp [Value.ownBlock])
 have hN := S.own _ (List.mem_singleton.2 rfl)
 obtain ⟨c0, hcl, hM, hcc, hfr⟩ := Kd.xI hN z26 i h0 (by rw [(Kd.iI hN).1]; exact h1)
 have hcl : c0.length = 7 := hcl
 have hlt : i.toNat * 7 + 7 ≤ cells.size := by
  have h4 := hcc 6 _ (List.getElem?_eq_getElem (by omega))
  have h5 := af hcells (i.toNat * 7 + 6)
  have h6 : W.cell? ⟨g, i.toNat * k26.sz + 6, none⟩ = W.cell? ⟨g, i.toNat * 7 + 6, none⟩ := rfl
  rw [h6, h5] at h4
  by_cases h7 : i.toNat * 7 + 6 < cells.size
  ·omega
  ·rw [Array.getElem?_eq_none (by omega)] at h4; cases h4
 refine ⟨_, ?_, h2⟩
 rw [show i.toNat * 7 + 0 = i.toNat * 7 from rfl]
 exact Cm 26 p y ho ku hx (by rfl) hsz (by simp [kR, Value.oneCell']) hcells (by simpa [kR] using hlt)
theorem oD {K : Act → World → Prop} (i : Nat) {g : Nat} {cs : Array Value} {t0 : TypeId} (hi : bs[i]? = some (some g, .cells cs t0 (0, 0))) (t : TypeId) (p x : Operand) (ho : op.op = .store t p x) {j : Nat} (cs' : Array Value) {u : Value} {bK : List Value} (S : St w P bs ow ts ro W)
  (hw : Region.wanted op (yielded ops a.tmps) = true) (hN : op.dst = none)
  (ku : a.eval p = .pointer (some ⟨g, j, none⟩)) (hx : a.eval x = u) (hu : u.cells.toList = bK) (ht : (Pr.info? t).map (·.size) = some bK.length) (h1 : ∀ q ∈ bK, q.oneCell' = true) (hj : j + bK.length ≤ cs.size)
  (he : cs.toList.take j ++ bK ++ cs.toList.drop (j + bK.length) = cs'.toList) (h : ∀ w1, St w P (bs.set i (some g, .cells cs' t0 (0, 0))) ow ts ro w1 → K a w1) :
  if Region.wanted op (yielded ops a.tmps) = true then Oper.wp Pr op a W K Q else K (a.put none undef) W := by
 obtain ⟨h2, h3⟩ := aaE (a := a) (Pr := Pr) i hi t p x ho cs' S ku hx hu ht h1 hj he
 exact Hy hw hN h2 (h _ h3)
theorem PQ {K : Act → World → Prop} {g n cap : Nat} {l : List ai} (i : Int) (x : ai) {A : Option Addr} {c : Nat} (p y : Operand) (ho : op.op = .store 26 p y) (S : St w P bs [(.slice (some ⟨g, 0, none⟩) n cap, l)] ts ro W)
  (hw : Region.wanted op (yielded ops a.tmps) = true) (hN : op.dst = none) (h0 : 0 ≤ i) (h1 : i < l.length)
  (ku : a.eval p = .pointer (some ⟨g, i.toNat * 7, none⟩)) (hx : a.eval y = .agg (kR x A c).toArray) (hsz : (Pr.info? 26).map (·.size) = some 7) (hm : (.slice A x.f3.length c, x.f3) ∈ ts) (h : ∀ w1, St w P bs [(.slice (some ⟨g, 0, none⟩) n cap, l.set i.toNat x)] ts ro w1 → K a w1) :
  if Region.wanted op (yielded ops a.tmps) = true then Oper.wp Pr op a W K Q else K (a.put none undef) W := by
 obtain ⟨w1, hr, S1⟩ := PR (a := a) (Pr := Pr) i x p y ho S h0 h1 ku hx hsz hm
 exact Hy hw hN hr (h _ S1)
theorem St.dP {k : Option Nat} {o : Obj} (S : St w P ((k, o) :: bs) ow ts ro W) : St w P bs ow ts ro W := by
 have hin : ∀ x, x ∈ keys bs ow → x ∈ keys ((k, o) :: bs) ow := fun x h => by
  unfold keys at h ⊢
  rw [List.filterMap_cons]
  cases k with
  | none => exact h
  | some g => exact List.mem_cons_of_mem _ h
 refine ⟨S.below, fun p hp => S.blk p (List.mem_cons_of_mem _ hp), fun x hx => S.new x (hin x hx), ?_, fun t ht => Kd.gu (S.tree t ht) (fun x h => ⟨h.1, fun h2 => h.2 (hin x h2)⟩), fun r hr => Kd.iH (S.own r hr) (fun x h => h.elim (fun h1 => .inl ⟨h1.1, fun h2 => h1.2 (hin x h2)⟩) .inr), fun c hc => ⟨(S.cell c hc).1, fun h2 => (S.cell c hc).2 (hin _ h2)⟩⟩
 have h := S.nd
 unfold keys at h ⊢
 rw [List.filterMap_cons] at h
 cases k with
 | none => exact h
 | some g => exact (List.nodup_cons.1 h).2
theorem St.dE {t : Value × List ai} (S : St w P bs ow (t :: ts) ro W) : St w P bs ow ts ro W :=
 ⟨S.below, S.blk, S.new, S.nd, fun t ht => S.tree t (List.mem_cons_of_mem _ ht), S.own, S.cell⟩
theorem St.afG {t : Value × List ai} (S : St w P bs ow ts ro W) (hm : t ∈ ts) : St w P bs ow [t] ro W :=
 ⟨S.below, S.blk, S.new, S.nd, fun x hx => by rw [List.mem_singleton.1 hx]; exact S.tree t hm, S.own, S.cell⟩
theorem St.bg {c : Addr × Value} (S : St w P bs ow ts (c :: ro) W) : St w P bs ow ts ro W :=
 ⟨S.below, S.blk, S.new, S.nd, S.tree, S.own, fun c hc => S.cell c (List.mem_cons_of_mem _ hc)⟩
theorem aej {g n cap : Nat} {l : List ai} (i : Int) (x : ai) {A : Option Addr} {c : Nat} (p y : Operand) (ho : op.op = .store 26 p y) (S : St w P bs [(.slice (some ⟨g, 0, none⟩) n cap, l)] ts ro W) (h0 : 0 ≤ i) (h1 : i < l.length)
  (ku : a.eval p = .pointer (some ⟨g, i.toNat * 7, none⟩)) (hx : a.eval y = .agg (kR x A c).toArray) (hsz : (Pr.info? 26).map (·.size) = some 7) (hm : (.slice A x.f3.length c, x.f3) ∈ ts) (hN : op.dst = none) (hgd : op.guard = none)
  (h : ∀ w1, St w P bs [(.slice (some ⟨g, 0, none⟩) n cap, l.set i.toNat x)] ts ro w1 → wpList Pr ops Q rest a w1) : wpList Pr ops Q (op :: rest) a W := by
 obtain ⟨w1, hr, S1⟩ := PR (a := a) (Pr := Pr) i x p y ho S h0 h1 ku hx hsz hm
 refine wpList_plain hgd fun K hK => ?_
 unfold Oper.wp
 rw [hr]
 show K (a.put op.dst undef) _
 rw [hN]
 exact hK a _ (h _ S1)
end
section
variable {Pr : Program} {ops : Array Oper} {rest : List Oper} {op : Oper} {a : Act} {Q : Exit → Act → World → Prop} {w W W1 : World} {P : Nat → Prop} {bs : List (Option Nat × Obj)} {ts : List (Value × List ai)} {ro : List (Addr × Value)} {v v1 : Value} {xs ys : List ai}
theorem wC {W W1 : World} (hg : W.grownBy W1 none) : Below W.heap.size W W1 := ⟨hg.os, hg.tape, hg.output, hg.size, fun k hk => hg.block k hk (by simp)⟩
end
section
variable {w : World} {P : Nat → Prop} {bs bs' : List (Option Nat × Obj)} {ow : List (Value × List ai)} {ts : List (Value × List ai)} {ro : List (Addr × Value)} {W W1 : World} {b0 : Nat} {o o1 : Obj} {v v1 : Value} {xs : List Int} {ok : Nat → Prop}
def IR (base : Nat) (v : Value) (xs : List Int) (o : Obj) : Prop := ∀ W : World, (∀ g, v.ownBlock = some g → W.heap[g]? = some o) → (Kd.int .i64).R 3 W base (fun k => some k = v.ownBlock) v xs
theorem XG {b' : Nat} (h : (Kd.int .i64).R 3 W1 b0 ok v xs) (hb : b' ≤ b0) : ∃ o, (∀ g, v.ownBlock = some g → W1.heap[g]? = some o) ∧ IR b' v xs o := by
 have ht := Kd.pU (Kd.Eo rfl h) hb
 cases hv : v.ownBlock with
 | none => exact ⟨.cells #[] 0 (0, 0), fun g hg => (by cases hg), fun W hW => Kd.y7 ht (fun k hk => (by rw [hv] at hk; cases hk))⟩
 | some g =>
  obtain ⟨cells, hc⟩ := Kd.Ia h g hv
  refine ⟨_, fun g' hg => (by injection hg with hg; rw [← hg]; exact hc), fun W hW => Kd.y7 ht (fun k hk _ => ?_)⟩
  rw [hv] at hk
  injection hk with hk
  rw [hk, hc]
  exact hW g hv
theorem Yw {base n c : Nat} {ad : Addr} (h : IR base (.slice (some ad) n c) xs o) (hW : ∀ g, (Value.slice (some ad) n c).ownBlock = some g → W.heap[g]? = some o) (i : Int) (h0 : 0 ≤ i) (h1 : i < xs.length) : W.cell? (ad.add i.toNat) = some (.int .i64 (rd xs i)) := by
 have hC := (Kd.dO (h W hW)).2.2
 obtain ⟨ad', he, hc⟩ := Kd.iR hC i h0 h1
 injection he with he
 rw [he]
 exact hc
theorem BA {base n c : Nat} {ad : Addr} (h : IR base (.slice (some ad) n c) xs o) (hW : ∀ g, (Value.slice (some ad) n c).ownBlock = some g → W.heap[g]? = some o) (i : Nat) (h1 : (i : Int) < xs.length) : W.cell? (ad.add i) = some (.int .i64 (rd xs (i : Int))) := Yw h hW (i : Int) (Int.natCast_nonneg _) h1
theorem St.Qo (S : St w P bs ow ts ro W) (k : Option Nat) (hk : ∀ g, k = some g → W.heap.size ≤ g ∧ W1.heap[g]? = some o) (hb : Below W.heap.size W W1) : St w P ((k, o) :: bs) ow ts ro W1 := by
 cases k with
 | none =>
  have S1 := S.call hb
  exact ⟨S1.below, fun p hp q hq => by
   rcases List.mem_cons.1 hp with rfl | hp
   ·cases hq
   ·exact S1.blk p hp q hq, S1.new, S1.nd, S1.tree, S1.own, S1.cell⟩
 | some g =>
  obtain ⟨hg, hbox⟩ := hk g rfl
  refine ⟨ak S.below hb, fun p hp q hq => ?_, fun k hk => ?_, List.nodup_cons.2 ⟨fun h => by have := (S.new g h).2; omega, S.nd⟩, fun t ht => ?_, fun r hr => ?_, fun c hc => ?_⟩
  ·rcases List.mem_cons.1 hp with rfl | hp
   ·rw [← Option.some.inj hq]; exact hbox
   ·exact aJ (S.blk p hp q hq) hb
  ·rcases List.mem_cons.1 (show k ∈ g :: keys bs ow from hk) with rfl | hk
   ·exact ⟨Nat.le_trans S.below.size hg, fA hbox⟩
   ·exact ⟨(S.new k hk).1, Nat.lt_of_lt_of_le (S.new k hk).2 hb.size⟩
  ·exact Kd.gu (Kd.ja (Kd.nK (S.tree t ht) g hg) hb) (fun k hk => ⟨hk.1.1, fun h => (List.mem_cons.1 (show k ∈ g :: keys bs ow from h)).elim hk.2 hk.1.2⟩)
  ·exact Kd.iH (Kd.pO (Kd.BC (S.own r hr) g hg) hb) (fun k hk => hk.1.elim (fun h1 => .inl ⟨h1.1, fun h => (List.mem_cons.1 (show k ∈ g :: keys bs ow from h)).elim hk.2 h1.2⟩) .inr)
  ·exact ⟨(hb.cell (World.block_lt_of_cell? W _ (S.cell c hc).1)).trans (S.cell c hc).1, fun h => (List.mem_cons.1 (show c.1.block ∈ g :: keys bs ow from h)).elim (fun he => by have := World.block_lt_of_cell? W _ (S.cell c hc).1; omega) (S.cell c hc).2⟩
theorem St.Xg (S : St w P bs ow ts ro W) (h : (Kd.int .i64).R 3 W1 W.heap.size ok v xs) (hb : Below W.heap.size W W1) : ∃ o, St w P ((v.ownBlock, o) :: bs) ow ts ro W1 ∧ IR w.heap.size v xs o := by
 obtain ⟨o, h1, h2⟩ := XG h S.below.size
 exact ⟨o, S.Qo v.ownBlock (fun g hg => ⟨Kd.Lj h g hg, h1 g hg⟩) hb, h2⟩
theorem St.noI (S : St w P bs ow ts ro W) : ∃ o, St w P (((Value.slice none 0 0).ownBlock, o) :: bs) ow ts ro W ∧ IR w.heap.size (.slice none 0 0) [] o :=
 S.Xg (ok := fun _ => True) (Kd.uM _ _ _ _ _) (Below.refl _ _)
theorem St.Yh {p q : Option Nat × Obj} (S : St w P (p :: q :: bs) ow ts ro W) : St w P (q :: p :: bs) ow ts ro W := by
 have hp : (keys (q :: p :: bs) ow).Perm (keys (p :: q :: bs) ow) := by
  unfold keys
  refine List.Perm.append_right _ ?_
  rw [List.filterMap_cons, List.filterMap_cons, List.filterMap_cons, List.filterMap_cons]
  cases p.1 <;> cases q.1 <;> simp
  exact List.Perm.swap _ _ _
 have hm : ∀ k, k ∈ keys (q :: p :: bs) ow ↔ k ∈ keys (p :: q :: bs) ow := fun k => hp.mem_iff
 have hO : ∀ k, Ok w P (keys (p :: q :: bs) ow) k → Ok w P (keys (q :: p :: bs) ow) k := fun k h => ⟨h.1, fun h2 => h.2 ((hm k).1 h2)⟩
 exact ⟨S.below, fun x hx => S.blk x (by simp only [List.mem_cons] at hx ⊢; rcases hx with h | h | h <;> simp [h]), fun k hk => S.new k ((hm k).1 hk), hp.nodup_iff.2 S.nd, fun t ht => Kd.gu (S.tree t ht) hO, fun r hr => Kd.iH (S.own r hr) (fun k h => h.imp (hO k) id), fun c hc => ⟨(S.cell c hc).1, fun h => (S.cell c hc).2 ((hm _).1 h)⟩⟩
theorem St.EG (S : St w P ((v.ownBlock, o) :: bs) ow ts ro W) (hb : Below w.heap.size w W1) (hg : W.grownBy W1 v.ownBlock) (hat : v1.ownBlock = v.ownBlock ∨ ∃ b, v1.ownBlock = some b ∧ W.heap.size ≤ b) (ho : ∀ g, v1.ownBlock = some g → W1.heap[g]? = some o1) :
  St w P ((v1.ownBlock, o1) :: bs) ow ts ro W1 := by
 have kc : ∀ (x : Value) (o : Obj) k, k ∈ keys ((x.ownBlock, o) :: bs) ow ↔ x.ownBlock = some k ∨ k ∈ keys bs ow := fun x o k => by
  unfold keys
  rw [List.filterMap_cons]
  cases x.ownBlock with
  | none => simp
  | some g => simp [eq_comm]
 have hnv : ∀ k, k ∈ keys bs ow → v.ownBlock ≠ some k := fun k hk e => by
  have h := S.nd
  unfold keys at h hk
  rw [List.filterMap_cons, e] at h
  exact (List.nodup_cons.1 h).1 hk
 have hnb : (keys bs ow).Nodup := by
  have h := S.nd
  unfold keys at h ⊢
  rw [List.filterMap_cons] at h
  split at h
  ·exact h
  ·exact (List.nodup_cons.1 h).2
 have hin : ∀ k, k ∈ keys bs ow → k ∈ keys ((v.ownBlock, o) :: bs) ow := fun k h => (kc v o k).2 (.inr h)
 have hnew : ∀ k, k ∈ keys bs ow → v1.ownBlock ≠ some k := fun k hk e => by
  rcases hat with h | ⟨b, h, hle⟩
  ·exact hnv k hk (by rw [← h]; exact e)
  ·rw [h] at e; injection e with e; have := S.lt (hin k hk); omega
 have hkeep : ∀ k, k ∉ keys ((v.ownBlock, o) :: bs) ow → k < W.heap.size → k ∉ keys ((v1.ownBlock, o1) :: bs) ow := fun k h1 h2 h3 => by
  rcases (kc v1 o1 k).1 h3 with h4 | h4
  ·rcases hat with h | ⟨b, h, hle⟩
   ·exact h1 ((kc v o k).2 (.inl (by rw [← h]; exact h4)))
   ·rw [h] at h4; injection h4 with h4; omega
  ·exact h1 (hin k h4)
 refine ⟨hb, fun p hp q hq => ?_, fun k hk => ?_, ?_, fun t ht => ?_, fun r hr => ?_, fun c hc => ?_⟩
 ·rcases List.mem_cons.1 hp with rfl | hp
  ·exact ho q hq
  ·exact df (S.blk p (List.mem_cons_of_mem _ hp) q hq) hg (fun e => hnv q (mem_keys hp hq) e.symm)
 ·rcases (kc v1 o1 k).1 hk with h1 | h1
  ·rcases hat with h | ⟨b, h, hle⟩
   ·have := S.new k ((kc v o k).2 (.inl (by rw [← h]; exact h1)))
    exact ⟨this.1, Nat.lt_of_lt_of_le this.2 hg.size⟩
   ·rw [h] at h1
    injection h1 with h1
    subst h1
    exact ⟨Nat.le_trans S.below.size hle, fA (ho b h)⟩
  ·exact ⟨(S.new k (hin k h1)).1, Nat.lt_of_lt_of_le (S.new k (hin k h1)).2 hg.size⟩
 ·unfold keys
  rw [List.filterMap_cons]
  cases hv1 : v1.ownBlock with
  | none => exact hnb
  | some g => exact List.nodup_cons.2 ⟨fun h => hnew g h hv1, hnb⟩
 ·exact Kd.gu (Kd.wS (Kd.Ep (S.tree t ht)) hg (fun k h e => h.1.2 ((kc v o k).2 (.inl e.symm)))) (fun k h => ⟨h.1.1, hkeep k h.1.2 h.2⟩)
 ·have hrv : ∀ k, r.1.ownBlock = some k → some k ≠ v.ownBlock := fun k h1 e => hnv k (List.mem_append.2 (.inr (List.mem_flatMap.2 ⟨r, hr, by simp [h1]⟩))) e.symm
  exact Kd.iH (Kd.uX (Kd.AV (S.own r hr)) hg (fun k h e => h.1.elim (fun h1 => h1.2 ((kc v o k).2 (.inl e.symm))) (fun h1 => hrv k h1 e))) (fun k h => h.1.imp (fun h1 => ⟨h1.1, hkeep k h1.2 h.2⟩) id)
 ·exact ⟨cell_grown hg (S.cell c hc).1 (fun e => (S.cell c hc).2 ((kc v o _).2 (.inl e.symm))), hkeep _ (S.cell c hc).2 (World.block_lt_of_cell? W _ (S.cell c hc).1)⟩
end
section
variable {Pr : Program} {ops : Array Oper} {rest : List Oper} {op : Oper} {a : Act} {Q : Exit → Act → World → Prop} {w W : World} {P : Nat → Prop} {bs : List (Option Nat × Obj)} {ow : List (Value × List ai)} {ts : List (Value × List ai)} {ro : List (Addr × Value)} {v : Value} {xs : List Int} {o : Obj}
theorem YH (s x : Operand) (hgd : op.guard = none) (ho : op.op = .call { callee := .builtin .append, args := #[s, x], argTypes := #[41, 41] }) (ht : Pr.underlying 41 = some (.slice 3)) (hinfo : (Pr.info? 3).map (fun i => (i.zero, i.size, i.bytes)) = some (some (.int .i64 0), 1, 8))
  (S : St w P ((v.ownBlock, o) :: bs) ow ts ro W) (hI : IR w.heap.size v xs o) (y : Int) (hs : a.eval s = v) (hx : a.eval x = .slice (some ⟨W.heap.size, 0, none⟩) 1 1) (hl : xs.length ≤ 1000000000)
  (h : ∀ A1 c1 o1 w1, St w P (((Value.slice A1 (xs ++ [y]).length c1).ownBlock, o1) :: bs) ow ts ro w1 → IR w.heap.size (.slice A1 (xs ++ [y]).length c1) (xs ++ [y]) o1 → wpList Pr ops Q rest (a.put op.dst (.slice A1 (xs ++ [y]).length c1)) w1) :
  wpList Pr ops Q (op :: rest) a (W.alloc (.cells #[.int .i64 y] 3)) := by
 have hR := hI W (S.blk _ List.mem_cons_self)
 refine Kd.FB (Kd.int .i64) (w0 := w) w.heap.size hgd s x 41 3 (.int .i64 0) 8 ho ht hinfo rfl (by decide) (by omega) v xs y [.int .i64 y] (fun _ => True) (fun _ => False) hs hx rfl (fun _ hk => hk.elim) (fun _ _ => trivial) (Kd.vP hR (fun _ _ => trivial)) S.below S.below.size (by omega) ?_
 intro v1 w1 hr hb hg hat
 obtain ⟨A1, c1, rfl⟩ := Kd.gJ hr
 obtain ⟨o1, h1, h2⟩ := XG hr (Nat.le_refl _)
 exact h A1 c1 o1 w1 (S.EG hb hg hat h1) h2
end
section
variable {w : World} {P : Nat → Prop} {bs : List (Option Nat × Obj)} {ts : List (Value × List ai)} {ro : List (Addr × Value)} {W : World} {l : List ai} {g n cap : Nat}
theorem St.Ik (S : St w P bs [(.slice (some ⟨g, 0, none⟩) n cap, l)] ts ro W) (i : Int) (h0 : 0 ≤ i) (h1 : i < l.length) :
  ∃ ua uc, St w P bs [(.slice (some ⟨g, 0, none⟩) n cap, l)] ((.slice ua (aA l i).f3.length uc, (aA l i).f3) :: ts) ro W ∧ ∀ (j : Nat) (u : Value), (kR (aA l i) ua uc)[j]? = some u → W.cell? ⟨g, i.toNat * 7 + j, none⟩ = some u := by
 have hN := S.own _ (List.mem_singleton.2 rfl)
 have hob : (Value.slice (some ⟨g, 0, none⟩) n cap).ownBlock = some g := by simp [Value.ownBlock]
 obtain ⟨c0, hcl, hM, hcc, hfr⟩ := Kd.xI hN z26 i h0 (by rw [(Kd.iI hN).1]; exact h1)
 obtain ⟨A6, c6, rfl, l6, g6⟩ := ni hM
 have l6 : (aA l i).f3.length ≤ c6 := l6
 have g6 : Kd.F k26 W _ A6 (aA l i).f3.length (aA l i).f3 := g6
 exact ⟨A6, c6, S.add (b0 := 0) (Kd.wU l6 (Kd.rM g6 (fun k hk => hk.1.elim id (fun e => absurd (by rw [hob] at e; exact (Option.some.inj e).symm) hk.2)))), fun j u h => hcc j u h⟩
end
section
variable {Pr : Program} {ops : Array Oper} {rest : List Oper} {op : Oper} {a : Act} {Q : Exit → Act → World → Prop} {Kc : Act → World → Prop} {w W : World} {P : Nat → Prop} {bs : List (Option Nat × Obj)} {ts : List (Value × List ai)} {ro : List (Addr × Value)}
end
section
variable {Pr : Program} {ops : Array Oper} {md : Region.Mode} {Q : Exit → Act → World → Prop} {S : World → Prop} {ds : List Nat} {T : Bool × List (List Nat × List Nat)} {B : List Nat} {fuel : Nat} {l : Array Bool} {a a' : Act} {w : World} {v : Value} {oi : Oper}
def bA (n m : Nat) : Array Bool := ((List.range n).map fun i => m.testBit i).toArray
theorem ay (i : Nat) (N : Tmp) (l' : Array Bool) (HT : ae (g_ md ops = T)) (h : bQ Pr md ops Q S ds fuel l' a' w) (hi : ops[i]? = some oi := by rfl) (hN : oi.dst = some N := by rfl) (hc : Vy T l.toList l'.toList i = true := by kernel_rfl)
  (hQ : ∀ c a w, Q (.panic c) (a.put oi.dst v) w → Q (.panic c) a w := by exact fun _ _ _ h => h) (hw : Region.wanted oi (yielded ops a.tmps) = true := by rfl) (hv : ∀ w, (execOp a.eval oi).run Pr w = .ok (.value v) w := by intro w'; go_simp; with_reducible rfl)
  (ha : a.put (some N) v = a' := by simp only [Act.put, List.setIfInBounds_toArray, List.set_cons_zero, List.set_cons_succ, jM, jL]; rfl) : bQ Pr md ops Q S ds (fuel + 1) l a w :=
 rF l' hi hN (oL HT.out hc) hQ (.inl ⟨hw, hv⟩) ha h
theorem dN (i : Nat) (N : Tmp) (l' : Array Bool) (HT : ae (g_ md ops = T)) (HW : ae (iO T.2 B = true)) (hS : S w) (h : bQ Pr md ops Q S ds fuel l' a' w) (hi : ops[i]? = some oi := by rfl) (hN : oi.dst = some N := by rfl)
  (hc : Ro T B ds l.toList l'.toList i = true := by kernel_rfl) (hQ : ∀ c a w, Q (.panic c) (a.put oi.dst v) w → Q (.panic c) a w := by exact fun _ _ _ h => h) (hw : Region.wanted oi (yielded ops a.tmps) = true := by rfl) (hv : ∀ w, S w → (execOp a.eval oi).run Pr w = .ok (.value v) w)
  (ha : a.put (some N) v = a' := by simp only [Act.put, List.setIfInBounds_toArray, List.set_cons_zero, List.set_cons_succ, jM, jL]; rfl) : bQ Pr md ops Q S ds (fuel + 1) l a w :=
 yS l' hi hN (uS HT.out HW.out hc) hQ (.inl ⟨hw, hv⟩) hS ha h
end
theorem bI {α : Type} {a0 x : α} {l : List α} : x ∈ a0 :: x :: l := (.tail _ (.head _))
theorem dQ {α : Type} {a0 a1 x : α} {l : List α} : x ∈ a0 :: a1 :: x :: l := (.tail _ (.tail _ (.head _)))
theorem kW {α : Type} {a0 a1 a2 x : α} {l : List α} : x ∈ a0 :: a1 :: a2 :: x :: l := (.tail _ (.tail _ (.tail _ (.head _))))
theorem qj {α : Type} {a0 a1 a2 a3 x : α} {l : List α} : x ∈ a0 :: a1 :: a2 :: a3 :: x :: l := (.tail _ (.tail _ (.tail _ (.tail _ (.head _)))))
theorem Bh {α : Type} {a0 a1 a2 a3 a4 x : α} {l : List α} : x ∈ a0 :: a1 :: a2 :: a3 :: a4 :: x :: l := (.tail _ (.tail _ (.tail _ (.tail _ (.tail _ (.head _))))))
theorem Bi {α : Type} {a0 a1 a2 a3 a4 a5 x : α} {l : List α} : x ∈ a0 :: a1 :: a2 :: a3 :: a4 :: a5 :: x :: l := (.tail _ (.tail _ (.tail _ (.tail _ (.tail _ (.tail _ (.head _)))))))
theorem PG {α : Type} {a0 a1 a2 a3 a4 a5 a6 x : α} {l : List α} : x ∈ a0 :: a1 :: a2 :: a3 :: a4 :: a5 :: a6 :: x :: l := (.tail _ (.tail _ (.tail _ (.tail _ (.tail _ (.tail _ (.tail _ (.head _))))))))
theorem mm8 {α : Type} {a0 a1 a2 a3 a4 a5 a6 a7 x : α} {l : List α} : x ∈ a0 :: a1 :: a2 :: a3 :: a4 :: a5 :: a6 :: a7 :: x :: l := (.tail _ (.tail _ (.tail _ (.tail _ (.tail _ (.tail _ (.tail _ (.tail _ (.head _)))))))))
theorem mm9 {α : Type} {a0 a1 a2 a3 a4 a5 a6 a7 a8 x : α} {l : List α} : x ∈ a0 :: a1 :: a2 :: a3 :: a4 :: a5 :: a6 :: a7 :: a8 :: x :: l := (.tail _ (.tail _ (.tail _ (.tail _ (.tail _ (.tail _ (.tail _ (.tail _ (.tail _ (.head _))))))))))
theorem wM {a b : Int} (h : a = b) : (a == b) = true ∧ (a != b) = false ∧ decide (a = b) = true := ⟨beq_iff_eq.mpr h, bne_eq_false_iff_eq.mpr h, decide_eq_true h⟩
theorem eqF {a b : Int} (h : a ≠ b) : (a == b) = false ∧ (a != b) = true ∧ decide (a = b) = false := ⟨beq_eq_false_iff_ne.mpr h, bne_iff_ne.mpr h, decide_eq_false h⟩
theorem mr {a b : Int} (h : a < b) : decide (a < b) = true ∧ decide (b > a) = true := ⟨decide_eq_true h, decide_eq_true h⟩
theorem lG {a b : Int} (h : ¬ a < b) : decide (a < b) = false ∧ decide (b > a) = false := ⟨decide_eq_false h, decide_eq_false h⟩
end Go.Proofs.Ytfdmfgaiblfbhaa.P
namespace Go.Proofs.Ytfdmfgaiblfbhaa.P
open Go.Shelf
def EH : Ren := ⟨fun f => match f with | 21 => 150 | 27 => 181 | 28 => 182 | 35 => 198 | 39 => 208 | n => n, fun t => match t with | 22 => 41 | n => n, fun g => g⟩
theorem G5 : Lays2.n21 Try.prog EH where
 mixed := by kernel_rfl
 f21 := Try.func150
 f27 := Try.func181
 f28 := Try.func182
 f35 := Try.func198
 f39 := Try.func208
 t0 := Try.underlying0
 a0 := fun w => by kernel_rfl
 z0 := fun w => by kernel_rfl
 v0 := fun w => by kernel_rfl
 t3 := Try.underlying3
 a3 := fun w => by kernel_rfl
 z3 := fun w => by kernel_rfl
 v3 := fun w => by kernel_rfl
 t4 := Try.underlying4
 a4 := fun w => by kernel_rfl
 z4 := fun w => by kernel_rfl
 v4 := fun w => by kernel_rfl
 t22 := Try.underlying41
 a22 := fun w => by kernel_rfl
 z22 := fun w => by kernel_rfl
 v22 := fun w => by kernel_rfl
 i3 := by kernel_rfl
end Go.Proofs.Ytfdmfgaiblfbhaa.P
namespace Go.Proofs.Ytfdmfgaiblfbhaa.P
open Go.RowKit Go.Shelf Go.Proofs.ag.aK Go.Proofs.ag.bG Go.Proofs.ag.bV
theorem EJ (n : Nat) : (Builtin.zeroCells (Value.int .i64 0).cells n).size = n := by simp [Builtin.zeroCells, Value.cells]
theorem BL {w w1 : World} {B : Nat} (h : Below B w.drew w1) : Below B w w1 := ⟨h.os, h.tape.trans rfl, h.output, h.size, h.block⟩
theorem Uk (w : World) (base : Nat) (hbase : base ≤ w.heap.size) (v : Value) (xs : List Int) (x : Int) (vb vc : Nat) (hs : w.ownsRow base 3 1 v xs.length (encs (Value.int .i64) xs)) (hv : w.heap[vb]? = some (.cells #[.int .i64 x] 3 (0, 0))) (hne : v.ownBlock ≠ some vb) (hlen : xs.length ≤ 1000000) :
  Calls Try.prog 150 #[v, .int .i64 0, .slice (some ⟨vb, 0, none⟩) 1 vc] w fun e w' => ∃ v', e = .returned v' ∧ w'.ownsRow base 3 1 v' (x :: xs).length (encs (Value.int .i64) (x :: xs)) ∧ Below base w w' := by
 have hvs : ∀ j u, [Value.int .i64 x][j]? = some u → w.cell? ⟨vb, 0 + j, none⟩ = some u := by
  intro j u hj
  cases j with
  | zero => rw [af hv 0]; exact hj
  | succ j => simp at hj
 have h1v : ∀ u ∈ [Value.int .i64 x], u.oneCell' = true := by simp [Value.oneCell']
 have h1c : ∀ u ∈ encs (Value.int .i64) xs, u.oneCell' = true := by
  intro u hu
  obtain ⟨i, _, rfl⟩ := List.mem_map.1 hu
  rfl
 obtain ⟨hl, hcase⟩ := hs
 rcases hcase with ⟨rfl, h0⟩ | ⟨g, cap, cur, rfl, hbg, hh, hnc, hcm, hcs, htk⟩
 ·obtain rfl : xs = [] := List.eq_nil_of_length_eq_zero h0
  refine (Any2.slices_Insert_int_end_grow G5 none 0 0 vb 0 1 vc [] [.int .i64 x] w (by omega) (by omega) (by omega) (by omega) rfl rfl (fun _ => rfl) (fun a h => by cases h) hvs h1v).mono ?_
  rintro e w' ⟨rfl, rfl⟩
  have hg := grownCap_ge w (0 + 1) 0 3
  have hg2 := grownCap_le_maxLen w (0 + 1) 0 3 (by unfold maxLen; omega)
  refine ⟨_, rfl, ⟨rfl, .inr ⟨w.heap.size, _, _, rfl, hbase, heap_alloc_new w.drew _, hg, hg2, ?_, ?_⟩⟩, BL ((Below.refl base w.drew).alloc hbase _)⟩
  ·rw [Array.size_append, EJ]
   show 1 + (grownCap w (0 + 1) 0 3 - (0 + 1)) = grownCap w (0 + 1) 0 3 * 1
   omega
  ·simp [encs]
 ·have hcl : (encs (Value.int .i64) xs).length = xs.length := uC xs
  have hlt := fA hh
  have hgv : vb ≠ g := fun e => hne (by rw [e]; rfl)
  have hcells : ∀ j u, (encs (Value.int .i64) xs)[j]? = some u → w.cell? ⟨g, 0 + j, none⟩ = some u := by
   intro j u hj
   rw [af hh, Nat.zero_add, ← Array.getElem?_toList]
   rw [← htk, Nat.mul_one, List.getElem?_take] at hj
   split at hj
   ·exact hj
   ·cases hj
  have hsp : ∀ j, j < cap → (w.cell? ⟨g, 0 + j, none⟩).isSome = true := by
   intro j hj
   rw [af hh, Nat.zero_add, Array.getElem?_eq_getElem (by omega)]
   rfl
  have hfz : ∀ j, w.frozen? ⟨g, 0 + j, none⟩ = false := fun j => ah hh _
  by_cases h0 : xs.length = 0
  ·obtain rfl : xs = [] := List.eq_nil_of_length_eq_zero h0
   by_cases hr : 0 + 1 ≤ cap
   ·refine (Any2.slices_Insert_int_end_room G5 g 0 0 cap vb 0 1 vc [.int .i64 x] w (by omega) hr (by unfold maxLen at hcm; omega) rfl (fun j hj => by rw [Nat.add_assoc]; exact hsp (0 + j) (by omega)) (fun j _ => by rw [Nat.add_assoc]; exact hfz (0 + j)) hvs h1v).mono ?_
    rintro e w' ⟨rfl, rfl⟩
    obtain ⟨cur', h3, h4, h5⟩ := lg [Value.int .i64 x] (0 + 0) w cur hh (by simp; omega)
    obtain ⟨_, hgr⟩ := qi hh (show (0 + 0) + [Value.int .i64 x].length ≤ cur.size by simp; omega) (cs' := cur') h5.symm
    refine ⟨_, rfl, ⟨rfl, .inr ⟨g, cap, cur', rfl, hbg, h3, hr, hcm, by rw [h4, hcs], ?_⟩⟩, grown_below (Below.refl base w) hgr hbg hbase⟩
    rw [h5]
    simp [encs]
   ·refine (Any2.slices_Insert_int_end_grow G5 (some ⟨g, 0, none⟩) 0 cap vb 0 1 vc [] [.int .i64 x] w (by omega) (by omega) (by omega) (by omega) rfl rfl (fun h => by cases h) (fun a h j u hj => by simp at hj) hvs h1v).mono ?_
    rintro e w' ⟨rfl, rfl⟩
    have hg := grownCap_ge w (0 + 1) cap 3
    have hg2 := grownCap_le_maxLen w (0 + 1) cap 3 (by unfold maxLen; omega)
    refine ⟨_, rfl, ⟨rfl, .inr ⟨w.heap.size, _, _, rfl, hbase, heap_alloc_new w.drew _, hg, hg2, ?_, ?_⟩⟩, BL ((Below.refl base w.drew).alloc hbase _)⟩
    ·rw [Array.size_append, EJ]
     show 1 + (grownCap w (0 + 1) cap 3 - (0 + 1)) = grownCap w (0 + 1) cap 3 * 1
     omega
    ·simp [encs]
  ·by_cases hr : xs.length + 1 ≤ cap
   ·refine (Any2.slices_Insert_int_shift G5 g 0 xs.length cap 0 vb 0 1 vc (encs (Value.int .i64) xs) [.int .i64 x] w (by omega) (by omega) hr (by unfold maxLen at hcm; omega) hgv hcl rfl hcells (fun j hj => hsp j (by omega)) (fun j _ => hfz j) hvs h1c h1v
     3 3 1 cap (by simp [World.shape?, hv]) (by simp [World.shape?, hh, hcs]) (by omega) (ah hv 0) (ah hv 1)).mono ?_
    rintro e w' ⟨rfl, rfl⟩
    have hh' : w.drew.heap[g]? = some (.cells cur 3 (0, 0)) := hh
    have e1 : 0 + (0 + 1) + ((encs (Value.int .i64) xs).drop 0).length ≤ cur.size := by rw [List.drop_zero, hcl]; omega
    obtain ⟨c1, h3, h4, h5⟩ := lg ((encs (Value.int .i64) xs).drop 0) (0 + (0 + 1)) w.drew cur hh' e1
    obtain ⟨_, ND⟩ := qi hh' e1 (cs' := c1) h5.symm
    have e2 : (0 + 0) + [Value.int .i64 x].length ≤ c1.size := by simp; omega
    obtain ⟨c2, h6, h7, h8⟩ := lg [Value.int .i64 x] (0 + 0) _ c1 h3 e2
    obtain ⟨_, Ws⟩ := qi h3 e2 (cs' := c2) h8.symm
    refine ⟨_, rfl, ⟨by rw [uC, Nat.mul_one], .inr ⟨g, cap, c2, rfl, hbg, h6, hr, hcm, by rw [h7, h4, hcs], ?_⟩⟩, BL (grown_below (grown_below (Below.refl base w.drew) ND hbg hbase) Ws hbg (Nat.le_trans hbase ND.size))⟩
    rw [h8, h5]
    have hc1 : cur.toList.length = cap := by rw [Array.length_toList]; omega
    simp only [List.drop_zero, Nat.zero_add, List.take_zero, List.nil_append, List.length_singleton, List.length_cons, List.length_nil]
    have ht : (cur.toList.take 1).length = 1 := by rw [List.length_take]; omega
    rw [List.append_assoc, List.drop_left' ht, Nat.mul_one]
    show (Value.int .i64 x :: (encs (Value.int .i64) xs ++ cur.toList.drop (1 + (encs (Value.int .i64) xs).length))).take (xs.length + 1) = encs (Value.int .i64) (x :: xs)
    rw [List.take_succ_cons, List.take_append_of_le_length (by omega), List.take_of_length_le (by omega)]
    rfl
   ·refine (Any2.slices_Insert_int_grow G5 g 0 xs.length cap 0 vb 0 1 vc (encs (Value.int .i64) xs) [.int .i64 x] w (by omega) (by omega) hnc (by omega) (by omega) hcl rfl hcells hvs h1c h1v).mono ?_
    rintro e w' ⟨rfl, rfl⟩
    have hg := grownCap_ge w (xs.length + 1) cap 3
    have hg2 := grownCap_le_maxLen w (xs.length + 1) cap 3 (by unfold maxLen; omega)
    have hh0 := heap_alloc_new w (.cells (((encs (Value.int .i64) xs).take 0).toArray ++ Builtin.zeroCells (Value.int .i64 0).cells (xs.length + 1 - 0) ++ Builtin.zeroCells (Value.int .i64 0).cells (grownCap w (xs.length + 1) cap (EH.t 3) - (xs.length + 1))) (EH.t 3))
    generalize Wl : ((((encs (Value.int .i64) xs).take 0).toArray ++ Builtin.zeroCells (Value.int .i64 0).cells (xs.length + 1 - 0) ++ Builtin.zeroCells (Value.int .i64 0).cells (grownCap w (xs.length + 1) cap (EH.t 3) - (xs.length + 1)))) = Ij at hh0 ⊢
    have hsz0 : Ij.size = grownCap w (xs.length + 1) cap 3 := by
     rw [← Wl, Array.size_append, Array.size_append, EJ, EJ]
     show 0 + (xs.length + 1 - 0) + (grownCap w (xs.length + 1) cap 3 - (xs.length + 1)) = _
     omega
    have hal : Below base w (w.alloc (.cells Ij (EH.t 3))) := (Below.refl base w).alloc hbase _
    generalize w.alloc (.cells Ij (EH.t 3)) = wa at hh0 hal ⊢
    have hh1 : wa.drew.heap[w.heap.size]? = some (.cells Ij 3 (0, 0)) := hh0
    have e1 : 0 + [Value.int .i64 x].length ≤ Ij.size := by rw [hsz0]; simp; omega
    obtain ⟨c1, h3, h4, h5⟩ := lg [Value.int .i64 x] 0 wa.drew Ij hh1 e1
    obtain ⟨_, ND⟩ := qi hh1 e1 (cs' := c1) h5.symm
    generalize wa.drew.setCells w.heap.size 0 [Value.int .i64 x] = wb at h3 ND ⊢
    have hh2 : wb.drew.heap[w.heap.size]? = some (.cells c1 3 (0, 0)) := h3
    have e2 : (0 + 1) + ((encs (Value.int .i64) xs).drop 0).length ≤ c1.size := by rw [List.drop_zero, hcl, h4, hsz0]; omega
    obtain ⟨c2, h6, h7, h8⟩ := lg ((encs (Value.int .i64) xs).drop 0) (0 + 1) wb.drew c1 hh2 e2
    obtain ⟨_, Ws⟩ := qi hh2 e2 (cs' := c2) h8.symm
    have hB1 : Below base w wa.drew := um hal
    have hB2 : Below base w wb := grown_below hB1 ND hbase (Nat.le_trans hbase hB1.size)
    refine ⟨_, rfl, ⟨by rw [uC, Nat.mul_one], .inr ⟨w.heap.size, _, c2, rfl, hbase, h6, hg, hg2, by rw [h7, h4, hsz0]; exact (Nat.mul_one _).symm, ?_⟩⟩, grown_below (um hB2) Ws hbase (Nat.le_trans hbase hB2.size)⟩
    rw [h8, h5]
    simp only [List.drop_zero, Nat.zero_add, List.take_zero, List.nil_append, List.length_singleton, List.length_cons]
    rw [List.singleton_append, List.take_succ_cons, List.take_zero, Nat.mul_one, List.append_assoc]
    show (Value.int .i64 x :: (encs (Value.int .i64) xs ++ _)).take (xs.length + 1) = encs (Value.int .i64) (x :: xs)
    rw [List.take_succ_cons, List.take_append_of_le_length (by omega), List.take_of_length_le (by omega)]
    rfl
end Go.Proofs.Ytfdmfgaiblfbhaa.P
namespace Go.Proofs.Ytfdmfgaiblfbhaa.P
open Go.RowKit Go.Proofs.ag.aK Go.Proofs.ag.bG Go.Proofs.ag.bV
mutual
def fG : ai → List ai
 | ⟨a, b, d, l⟩ => ⟨a, b, d, l⟩ :: allL l
def allL : List ai → List ai
 | [] => []
 | c :: cs => fG c ++ allL cs
end
theorem pV (c : ai) : fG c = c :: allL c.f3 := by cases c; simp [fG]
theorem pg : allL [] = [] := by simp [allL]
theorem lF (c : ai) (cs : List ai) : allL (c :: cs) = fG c ++ allL cs := by simp [allL]
theorem BH (a b : List ai) : allL (a ++ b) = allL a ++ allL b := by
 induction a with
 | nil => simp [pg]
 | cons x xs ih => rw [List.cons_append, lF, lF, ih, List.append_assoc]
def sz (c : ai) : Nat := (fG c).length
def dI (l : List ai) : Nat := (allL l).length
theorem cO (c : ai) : sz c = 1 + dI c.f3 := by unfold sz dI; rw [pV, List.length_cons]; omega
theorem xk : dI [] = 0 := by unfold dI; rw [pg]; rfl
theorem bY (c : ai) (cs : List ai) : dI (c :: cs) = sz c + dI cs := by unfold dI sz; rw [lF, List.length_append]
theorem nG (a b : List ai) : dI (a ++ b) = dI a + dI b := by unfold dI; rw [BH, List.length_append]
theorem ik (l : List ai) : l.length ≤ dI l := by
 induction l with
 | nil => simp
 | cons x xs ih => rw [bY, List.length_cons, cO]; omega
theorem GR (c : ai) : (⟨c.f0, ⟨c.f1.f0, c.f1.f1, c.f1.f2, c.f1.f3⟩, c.f2, c.f3⟩ : ai) = c := by cases c; rfl
theorem aaS (l : List ai) : dI l = (l.map sz).sum := by
 induction l with
 | nil => rw [xk]; rfl
 | cons x xs ih => rw [bY, List.map_cons, List.sum_cons, ih]
section
variable {P : Program} {ops : Array Oper} {rest : List Oper} {o : Oper} {a : Act} {Q : Exit → Act → World → Prop}
theorem JQ {W : World} (hgd : o.guard = none) {N : Tmp} (_hd : o.dst = some N) {cs : Array Value} {t : TypeId} {n c : Nat}
  (hrun : (execOp a.eval o).run P W = .ok (.value (.slice (some ⟨W.heap.size, 0, none⟩) n c)) (W.alloc (.cells cs t (0, 0))))
  (h : ∀ g, g = W.heap.size → ∀ w1, w1.heap[g]? = some (.cells cs t (0, 0)) → Below W.heap.size W w1 → wpList P ops Q rest (a.put o.dst (.slice (some ⟨g, 0, none⟩) n c)) w1) : wpList P ops Q (o :: rest) a W :=
 Kd.zU hgd hrun (h _ rfl _ (Ig W _) (jk (Below.refl _ _) _))
end
mutual
def fO (id : Int) : ai → Option (List Int)
 | ⟨a, _, d, l⟩ => if a = 1 ∧ d = id then some [] else oN id 0 l
def oN (id : Int) : Nat → List ai → Option (List Int)
 | _, [] => none
 | i, k :: ks => match fO id k with
  | some p => some ((i : Int) :: p)
  | none => oN id (i + 1) ks
end
theorem BM (id : Int) (c : ai) : fO id c = if c.f0 = 1 ∧ c.f2 = id then some [] else oN id 0 c.f3 := by cases c; simp [fO]
theorem sD (id : Int) (i : Nat) : oN id i [] = none := by simp [oN]
theorem oO (id : Int) (i : Nat) (k : ai) (ks : List ai) : oN id i (k :: ks) = match fO id k with | some p => some ((i : Int) :: p) | none => oN id (i + 1) ks := by simp [oN]
theorem BN (id : Int) : ∀ (N : Nat), (∀ c : ai, sz c ≤ N → ∀ p, fO id c = some p → p.length ≤ sz c) ∧ (∀ l : List ai, dI l ≤ N → ∀ i p, oN id i l = some p → p.length ≤ 1 + dI l) := by
 intro N
 induction N with
 | zero =>
  refine ⟨fun c h => ?_, fun l h => ?_⟩
  ·rw [cO] at h; omega
  ·cases l with
   | nil => intro i p hp; rw [sD] at hp; cases hp
   | cons z zs => rw [bY, cO] at h; omega
 | succ N ih =>
  have hC : ∀ c : ai, sz c ≤ N + 1 → ∀ p, fO id c = some p → p.length ≤ sz c := by
   intro c h p hp
   have hs := cO c
   rw [BM] at hp
   split at hp
   ·injection hp with hp; subst hp; simp
   ·have := ih.2 c.f3 (by omega) 0 p hp
    omega
  refine ⟨hC, fun l => ?_⟩
  induction l with
  | nil => intro _ i p hp; rw [sD] at hp; cases hp
  | cons z zs ihl =>
   intro h i p hp
   rw [bY] at h ⊢
   rw [oO] at hp
   cases hz : fO id z with
   | some q =>
    rw [hz] at hp
    injection hp with hp
    have := hC z (by omega) q hz
    rw [← hp, List.length_cons]
    omega
   | none =>
    rw [hz] at hp
    have := ihl (by omega) (i + 1) p hp
    omega
def aeH (w : World) (r : Option (List Int)) (e : Ending) (w' : World) : Prop := ∃ v : Value, e = .returned (.tuple #[v, .bool r.isSome]) ∧ (Kd.int .i64).R 3 w' w.heap.size (fun _ => True) v (r.getD []) ∧ Below w.heap.size w w'
theorem acU (id : Int) : ∀ (N : Nat) (c : ai), sz c ≤ N → N ≤ 1000000 → ∀ (A : Option Addr) (cc : Nat) (w : World), Kd.C k26 w A c.f3.length c.f3 → c.f3.length ≤ cc →
  Calls Try.prog 89 #[.agg #[.int .u8 c.f0, .int .i64 c.f1.f0, .int .i64 c.f1.f1, .int .i64 c.f1.f2, .int .i64 c.f1.f3, .int .i64 c.f2, .slice A c.f3.length cc], .int .i64 id] w (aeH w (fO id c)) := by
 intro N
 induction N with
 | zero => intro c h; rw [cO] at h; omega
 | succ N ih =>
  intro c hc hN A cc w hr hlc
  have hsz := cO c
  have hlen := ik c.f3
  have hkz : ∀ k : ai, k ∈ c.f3 → sz k ≤ N := by
   intro k hk
   have : sz k ≤ dI c.f3 := by
    obtain ⟨p, q, e⟩ := List.append_of_mem hk
    rw [e, nG, bY]; omega
   omega
  have IH := ae.mk fun (k : ai) (hk : k ∈ c.f3) => ih k (hkz k hk) (by omega)
  have EN := ae.mk fun (k : ai) (hk : k ∈ c.f3) (p : List Int) (hp : fO id k = some p) => Nat.le_trans ((BN id (sz k)).1 k (Nat.le_refl _) p hp) (Nat.le_trans (hkz k hk) (by omega : N ≤ 1000000))
  have HR := ae.mk hr
  have HLC := ae.mk hlc
  have HL := ae.mk (show c.f3.length ≤ 1000000 by omega)
  have HB := ae.mk (Below.refl w.heap.size w)
  rw [BM]
  clear ih hkz hr hlc hc hN hsz hlen
  obtain ⟨ck, ⟨cx, cy, cw, ch⟩, aU, l⟩ := c
  simp only [] at HR HLC HL IH EN ⊢
  by_cases h1 : ck = 1
  ·have h1b : (ck == 1) = true := beq_iff_eq.mpr h1
   by_cases h2 : aU = id
   ·have h2b : (aU == id) = true := beq_iff_eq.mpr h2
    rw [if_pos ⟨h1, h2⟩]
    clear h1 h2
    go_enter Try.func89, Try.ntmps89
    go_wp2_with (((with_reducible refine aG (N := 2) rfl ?_); refine aT ?hg (N := 2) ?hd (cs := #[.int .u8 ck, .int .i64 cx, .int .i64 cy, .int .i64 cw, .int .i64 ch, .int .i64 aU, .slice A l.length cc]) (t := 26) ?hr ?_; (case hd => rfl); (case hg => rfl); (case hr => (go_simp; done)); intro b2 hg w2 hbox hb; have K2 := ae.mk hbox; have q_ := ae.mk (ak HB.out hb); clear HB; have HB := q_; clear q_; clear hb hbox hg; have c0 := (af K2.out 0).trans rfl; have c1 := (af K2.out 1).trans rfl; have c2 := (af K2.out 2).trans rfl; have c3 := (af K2.out 3).trans rfl; have c4 := (af K2.out 4).trans rfl; have c5 := (af K2.out 5).trans rfl; have c6 := (af K2.out 6).trans rfl))
    go_ret2
    exact ⟨_, rfl, Kd.uM _ _ _ _ _, HB.out⟩
   ·have h2b : (aU == id) = false := beq_eq_false_iff_ne.mpr h2
    rw [if_neg (fun h => h2 h.2)]
    clear h1 h2
    go_enter Try.func89, Try.ntmps89
    go_wp2_with (((with_reducible refine aG (N := 2) rfl ?_); refine aT ?hg (N := 2) ?hd (cs := #[.int .u8 ck, .int .i64 cx, .int .i64 cy, .int .i64 cw, .int .i64 ch, .int .i64 aU, .slice A l.length cc]) (t := 26) ?hr ?_; (case hd => rfl); (case hg => rfl); (case hr => (go_simp; done)); intro b2 hg w2 hbox hb; have K2 := ae.mk hbox; have q_ := ae.mk (ak HB.out hb); clear HB; have HB := q_; clear q_; clear hb hbox hg; have c0 := (af K2.out 0).trans rfl; have c1 := (af K2.out 1).trans rfl; have c2 := (af K2.out 2).trans rfl; have c3 := (af K2.out 3).trans rfl; have c4 := (af K2.out 4).trans rfl; have c5 := (af K2.out 5).trans rfl; have c6 := (af K2.out 6).trans rfl))
    clear c0 c1 c2 c3 c4 c5 c6
    go_loopg [22] l.length (fun gg v22 wr => ∃ (pre rest : List ai), v22 = .int .i64 (pre.length : Int) ∧ ae (pre ++ rest = l) ∧ rest.length ≤ gg ∧ ae (oN id 0 l = oN id pre.length rest) ∧ ae (Below w.heap.size w wr))
    case atStart => exact ⟨[], l, rfl, ⟨rfl⟩, Nat.le_refl _, ⟨rfl⟩, HB⟩
    case round =>
     clear HB K2
     obtain ⟨pre, rest, rfl, HE, hgg, HF, HB⟩ := hrel
     cases rest with
     | nil =>
      have hlt : ¬ ((pre.length : Int) < (l.length : Int)) := by have := HE.out; rw [List.append_nil] at this; rw [this]; omega
      clear hgg
      go_wp2
      go_ret2
      rw [HF.out, sD]
      exact ⟨_, rfl, Kd.uM _ _ _ _ _, HB.out⟩
     | cons k rest =>
      have hk : k ∈ l := by rw [← HE.out]; simp
      have hlt : (pre.length : Int) < (l.length : Int) := by rw [← HE.out, List.length_append, List.length_cons]; omega
      have hw : wrap64 ((pre.length : Int) + 1) = ((pre ++ [k]).length : Int) := by rw [List.length_append, List.length_singleton]; unfold wrap64; have := HL.out; omega
      have hrd : aA l (pre.length : Int) = k := by rw [← HE.out]; simp [aA, List.getD_eq_getElem?_getD]
      obtain ⟨ad, ua, uc, rfl, h0, h1, h2, h3, h4, h5, h6, JF, hgu⟩ := rW HR.out (pre.length : Int) (Int.natCast_nonneg _) hlt
      rw [hrd] at h0 h1 h2 h3 h4 h5 h6 JF hgu
      simp only [Int.toNat_natCast] at h0 h1 h2 h3 h4 h5 h6
      replace h0 := (HB.out.cell (World.block_lt_of_cell? w _ h0)).trans h0
      replace h1 := (HB.out.cell (World.block_lt_of_cell? w _ h1)).trans h1
      replace h2 := (HB.out.cell (World.block_lt_of_cell? w _ h2)).trans h2
      replace h3 := (HB.out.cell (World.block_lt_of_cell? w _ h3)).trans h3
      replace h4 := (HB.out.cell (World.block_lt_of_cell? w _ h4)).trans h4
      replace h5 := (HB.out.cell (World.block_lt_of_cell? w _ h5)).trans h5
      replace h6 := (HB.out.cell (World.block_lt_of_cell? w _ h6)).trans h6
      have HU := ae.mk hgu
      have LU := ae.mk JF
      have HW := ae.mk hw
      have HK := ae.mk hk
      have HG := ae.mk hgg
      clear hgu JF hw hk hgg hrd
      go_wp2_with (first | ((with_reducible refine aG (N := 7) rfl ?_); refine aT ?hg (N := 7) ?hd (cs := #[.int .u8 0, .int .i64 0, .int .i64 0, .int .i64 0, .int .i64 0, .int .i64 0, .slice none 0 0]) (t := 26) ?hr ?_; (case hd => rfl); (case hg => rfl); (case hr => (go_simp; done)); intro b7 hg w7 hbox hb; have K7 := ae.mk hbox; have G7 := ae.mk (show w.heap.size ≤ b7 by rw [hg]; exact HB.out.size); have q_ := ae.mk (ak HB.out hb); clear HB; have HB := q_; clear q_; clear hb hbox hg) | ((with_reducible refine lH (.store 26 (.tmp 7) (.tmp 26)) rfl ?_); go_loud (refine fQ (w0 := w) rfl rfl 26 (.tmp 7) (.tmp 26) rfl (g := b7) (j := 0) (base := w.heap.size) #[.int .u8 k.f0, .int .i64 k.f1.f0, .int .i64 k.f1.f1, .int .i64 k.f1.f2, .int .i64 k.f1.f3, .int .i64 k.f2, .slice ua k.f3.length uc] (u := .agg #[.int .u8 k.f0, .int .i64 k.f1.f0, .int .i64 k.f1.f1, .int .i64 k.f1.f2, .int .i64 k.f1.f3, .int .i64 k.f2, .slice ua k.f3.length uc]) (bK := [.int .u8 k.f0, .int .i64 k.f1.f0, .int .i64 k.f1.f1, .int .i64 k.f1.f2, .int .i64 k.f1.f3, .int .i64 k.f2, .slice ua k.f3.length uc]) ?sA ?sX rfl ?sT ?s1 K7.out ?sJ rfl HB.out HB.out.size G7.out ?_; (case sA => rfl); (case sX => rfl); (case sT => rfl); (case s1 => (simp [Value.oneCell'])); (case sJ => (simp)); intro ws hbk hbb hgg; clear K7 HB; have K7 := ae.mk hbk; have HB := ae.mk hbb; clear hbk hbb hgg h0 h1 h2 h3 h4 h5 h6; have d0 := (af K7.out 0).trans rfl; have d1 := (af K7.out 1).trans rfl; have d2 := (af K7.out 2).trans rfl; have d3 := (af K7.out 3).trans rfl; have d4 := (af K7.out 4).trans rfl; have d5 := (af K7.out 5).trans rfl; have d6 := (af K7.out 6).trans rfl)))
      clear d0 d1 d2 d3 d4 d5 d6 K7
      refine (IH.out k HK.out ua uc _ (Kd.gV HU.out HB.out) LU.out).mono ?_
      rintro e wk ⟨v, rfl, ho, hb⟩
      have HO := ae.mk (Kd.pU ho HB.out.size)
      have q_ := ae.mk (ak HB.out hb); clear HB; have HB := q_; clear q_
      clear ho hb
      cases hf : fO id k with
      | none =>
       rw [hf] at HO
       have HF2 := ae.mk hf
       simp only [hf, Option.isSome_none]
       clear hf
       go_wp2
       go_roundg rest.length
       case measure => exact Nat.lt_of_lt_of_le (Nat.lt_succ_self _) HG.out
       case rel => exact ⟨pre ++ [k], rest, (by rw [HW.out]), ⟨by rw [List.append_assoc]; exact HE.out⟩, Nat.le_refl _, ⟨by rw [HF.out, oO, HF2.out, List.length_append]; rfl⟩, HB⟩
      | some p =>
       rw [hf] at HO
       have HF2 := ae.mk hf
       have HP := ae.mk (EN.out k HK.out p hf)
       simp only [hf, Option.isSome_some]
       clear hf
       obtain ⟨Ap, cp, ep⟩ := Kd.gJ HO.out
       subst ep
       go_wp2_with (((with_reducible refine aG (N := 36) rfl ?_); refine JQ ?hg (N := 36) ?hd (cs := #[.int .i64 (pre.length : Int)]) (t := 3) (n := 1) (c := 1) ?hr ?_; (case hd => rfl); (case hg => rfl); (case hr => (go_simp; done)); intro b9 hg w9 hbox hb; have K9 := ae.mk hbox; have NE := ae.mk (fun e_ => Nat.lt_irrefl _ (hg ▸ Kd.Vr HO.out b9 e_) : ¬ (Value.slice Ap ((some p).getD []).length cp).ownBlock = some b9); have dS := ae.mk (Kd.pR HO.out hb); clear HO; have HO := dS; clear dS; have q_ := ae.mk (ak HB.out hb); clear HB; have HB := q_; clear q_; clear hb hbox hg))
       refine (Uk _ w.heap.size HB.out.size _ p (pre.length : Int) b9 1 (Kd.Cb HO.out) K9.out NE.out HP.out).mono ?_
       rintro e wi ⟨v', rfl, ho, hb⟩
       have qZ := ae.mk ho
       have HB2 := ae.mk (HB.out.trans hb)
       clear ho hb
       go_wp2
       go_ret2
       rw [HF.out, oO, HF2.out]
       exact ⟨_, rfl, Kd.BD qZ.out (fun _ _ => trivial), HB2.out⟩
  ·have h1b : (ck == 1) = false := beq_eq_false_iff_ne.mpr h1
   rw [if_neg (fun h => h1 h.1)]
   clear h1
   go_enter Try.func89, Try.ntmps89
   go_wp2_with (((with_reducible refine aG (N := 2) rfl ?_); refine aT ?hg (N := 2) ?hd (cs := #[.int .u8 ck, .int .i64 cx, .int .i64 cy, .int .i64 cw, .int .i64 ch, .int .i64 aU, .slice A l.length cc]) (t := 26) ?hr ?_; (case hd => rfl); (case hg => rfl); (case hr => (go_simp; done)); intro b2 hg w2 hbox hb; have K2 := ae.mk hbox; have q_ := ae.mk (ak HB.out hb); clear HB; have HB := q_; clear q_; clear hb hbox hg; have c0 := (af K2.out 0).trans rfl; have c1 := (af K2.out 1).trans rfl; have c2 := (af K2.out 2).trans rfl; have c3 := (af K2.out 3).trans rfl; have c4 := (af K2.out 4).trans rfl; have c5 := (af K2.out 5).trans rfl; have c6 := (af K2.out 6).trans rfl))
   clear c0 c1 c2 c3 c4 c5 c6
   go_loopg [22] l.length (fun gg v22 wr => ∃ (pre rest : List ai), v22 = .int .i64 (pre.length : Int) ∧ ae (pre ++ rest = l) ∧ rest.length ≤ gg ∧ ae (oN id 0 l = oN id pre.length rest) ∧ ae (Below w.heap.size w wr))
   case atStart => exact ⟨[], l, rfl, ⟨rfl⟩, Nat.le_refl _, ⟨rfl⟩, HB⟩
   case round =>
    clear HB K2
    obtain ⟨pre, rest, rfl, HE, hgg, HF, HB⟩ := hrel
    cases rest with
    | nil =>
     have hlt : ¬ ((pre.length : Int) < (l.length : Int)) := by have := HE.out; rw [List.append_nil] at this; rw [this]; omega
     clear hgg
     go_wp2
     go_ret2
     rw [HF.out, sD]
     exact ⟨_, rfl, Kd.uM _ _ _ _ _, HB.out⟩
    | cons k rest =>
     have hk : k ∈ l := by rw [← HE.out]; simp
     have hlt : (pre.length : Int) < (l.length : Int) := by rw [← HE.out, List.length_append, List.length_cons]; omega
     have hw : wrap64 ((pre.length : Int) + 1) = ((pre ++ [k]).length : Int) := by rw [List.length_append, List.length_singleton]; unfold wrap64; have := HL.out; omega
     have hrd : aA l (pre.length : Int) = k := by rw [← HE.out]; simp [aA, List.getD_eq_getElem?_getD]
     obtain ⟨ad, ua, uc, rfl, h0, h1, h2, h3, h4, h5, h6, JF, hgu⟩ := rW HR.out (pre.length : Int) (Int.natCast_nonneg _) hlt
     rw [hrd] at h0 h1 h2 h3 h4 h5 h6 JF hgu
     simp only [Int.toNat_natCast] at h0 h1 h2 h3 h4 h5 h6
     replace h0 := (HB.out.cell (World.block_lt_of_cell? w _ h0)).trans h0
     replace h1 := (HB.out.cell (World.block_lt_of_cell? w _ h1)).trans h1
     replace h2 := (HB.out.cell (World.block_lt_of_cell? w _ h2)).trans h2
     replace h3 := (HB.out.cell (World.block_lt_of_cell? w _ h3)).trans h3
     replace h4 := (HB.out.cell (World.block_lt_of_cell? w _ h4)).trans h4
     replace h5 := (HB.out.cell (World.block_lt_of_cell? w _ h5)).trans h5
     replace h6 := (HB.out.cell (World.block_lt_of_cell? w _ h6)).trans h6
     have HU := ae.mk hgu
     have LU := ae.mk JF
     have HW := ae.mk hw
     have HK := ae.mk hk
     have HG := ae.mk hgg
     clear hgu JF hw hk hgg hrd
     go_wp2_with (first | ((with_reducible refine aG (N := 7) rfl ?_); refine aT ?hg (N := 7) ?hd (cs := #[.int .u8 0, .int .i64 0, .int .i64 0, .int .i64 0, .int .i64 0, .int .i64 0, .slice none 0 0]) (t := 26) ?hr ?_; (case hd => rfl); (case hg => rfl); (case hr => (go_simp; done)); intro b7 hg w7 hbox hb; have K7 := ae.mk hbox; have G7 := ae.mk (show w.heap.size ≤ b7 by rw [hg]; exact HB.out.size); have q_ := ae.mk (ak HB.out hb); clear HB; have HB := q_; clear q_; clear hb hbox hg) | ((with_reducible refine lH (.store 26 (.tmp 7) (.tmp 26)) rfl ?_); go_loud (refine fQ (w0 := w) rfl rfl 26 (.tmp 7) (.tmp 26) rfl (g := b7) (j := 0) (base := w.heap.size) #[.int .u8 k.f0, .int .i64 k.f1.f0, .int .i64 k.f1.f1, .int .i64 k.f1.f2, .int .i64 k.f1.f3, .int .i64 k.f2, .slice ua k.f3.length uc] (u := .agg #[.int .u8 k.f0, .int .i64 k.f1.f0, .int .i64 k.f1.f1, .int .i64 k.f1.f2, .int .i64 k.f1.f3, .int .i64 k.f2, .slice ua k.f3.length uc]) (bK := [.int .u8 k.f0, .int .i64 k.f1.f0, .int .i64 k.f1.f1, .int .i64 k.f1.f2, .int .i64 k.f1.f3, .int .i64 k.f2, .slice ua k.f3.length uc]) ?sA ?sX rfl ?sT ?s1 K7.out ?sJ rfl HB.out HB.out.size G7.out ?_; (case sA => rfl); (case sX => rfl); (case sT => rfl); (case s1 => (simp [Value.oneCell'])); (case sJ => (simp)); intro ws hbk hbb hgg; clear K7 HB; have K7 := ae.mk hbk; have HB := ae.mk hbb; clear hbk hbb hgg h0 h1 h2 h3 h4 h5 h6; have d0 := (af K7.out 0).trans rfl; have d1 := (af K7.out 1).trans rfl; have d2 := (af K7.out 2).trans rfl; have d3 := (af K7.out 3).trans rfl; have d4 := (af K7.out 4).trans rfl; have d5 := (af K7.out 5).trans rfl; have d6 := (af K7.out 6).trans rfl)))
     clear d0 d1 d2 d3 d4 d5 d6 K7
     refine (IH.out k HK.out ua uc _ (Kd.gV HU.out HB.out) LU.out).mono ?_
     rintro e wk ⟨v, rfl, ho, hb⟩
     have HO := ae.mk (Kd.pU ho HB.out.size)
     have q_ := ae.mk (ak HB.out hb); clear HB; have HB := q_; clear q_
     clear ho hb
     cases hf : fO id k with
     | none =>
      rw [hf] at HO
      have HF2 := ae.mk hf
      simp only [hf, Option.isSome_none]
      clear hf
      go_wp2
      go_roundg rest.length
      case measure => exact Nat.lt_of_lt_of_le (Nat.lt_succ_self _) HG.out
      case rel => exact ⟨pre ++ [k], rest, (by rw [HW.out]), ⟨by rw [List.append_assoc]; exact HE.out⟩, Nat.le_refl _, ⟨by rw [HF.out, oO, HF2.out, List.length_append]; rfl⟩, HB⟩
     | some p =>
      rw [hf] at HO
      have HF2 := ae.mk hf
      have HP := ae.mk (EN.out k HK.out p hf)
      simp only [hf, Option.isSome_some]
      clear hf
      obtain ⟨Ap, cp, ep⟩ := Kd.gJ HO.out
      subst ep
      go_wp2_with (((with_reducible refine aG (N := 36) rfl ?_); refine JQ ?hg (N := 36) ?hd (cs := #[.int .i64 (pre.length : Int)]) (t := 3) (n := 1) (c := 1) ?hr ?_; (case hd => rfl); (case hg => rfl); (case hr => (go_simp; done)); intro b9 hg w9 hbox hb; have K9 := ae.mk hbox; have NE := ae.mk (fun e_ => Nat.lt_irrefl _ (hg ▸ Kd.Vr HO.out b9 e_) : ¬ (Value.slice Ap ((some p).getD []).length cp).ownBlock = some b9); have dS := ae.mk (Kd.pR HO.out hb); clear HO; have HO := dS; clear dS; have q_ := ae.mk (ak HB.out hb); clear HB; have HB := q_; clear q_; clear hb hbox hg))
      refine (Uk _ w.heap.size HB.out.size _ p (pre.length : Int) b9 1 (Kd.Cb HO.out) K9.out NE.out HP.out).mono ?_
      rintro e wi ⟨v', rfl, ho, hb⟩
      have qZ := ae.mk ho
      have HB2 := ae.mk (HB.out.trans hb)
      clear ho hb
      go_wp2
      go_ret2
      rw [HF.out, oO, HF2.out]
      exact ⟨_, rfl, Kd.BD qZ.out (fun _ _ => trivial), HB2.out⟩
def agk.f (a0 a1 a2 a3 a4 a5 : Int) (l : List ai) (id : Int) : Option (List Int × Bool) := if sz ⟨a0, ⟨a1, a2, a3, a4⟩, a5, l⟩ ≤ 1000000 then some ((fO id ⟨a0, ⟨a1, a2, a3, a4⟩, a5, l⟩).getD [], (fO id ⟨a0, ⟨a1, a2, a3, a4⟩, a5, l⟩).isSome) else none
theorem r_ {P : Program} {f : FuncId} {fn : Func} (hf : P.funcs[f]? = some fn) (hname : (fn.name == "runtime.NumGoroutine") = false) (hb : fn.body.isSome = true) : ∀ args w, (callFunc f args).run P w = .ok (.enter f args) w := by
 intro args w
 obtain ⟨c, hc⟩ := Option.isSome_iff_exists.1 hb
 have h1 : fn.name ≠ "runtime.NumGoroutine" := by simpa using hname
 simp [callFunc, hf, h1, hc, mark]
section
variable {σ α : Type}
def kK (step : σ → α → Bool × σ) : Int → σ → List α → Int × σ
 | _, s, [] => (-1, s)
 | i, s, x :: xs => if (step s x).1 = true then (i, (step s x).2) else kK step (i + 1) (step s x).2 xs
def rH (step : σ → α → Bool × σ) : σ → List α → Bool × σ
 | s, [] => (false, s)
 | s, x :: xs => if (step s x).1 = true then (true, (step s x).2) else rH step (step s x).2 xs
theorem aaM (step : σ → α → Bool × σ) : ∀ (l : List α) (i : Int) (s : σ), 0 ≤ i → (rH step s l).1 = decide (0 ≤ (kK step i s l).1) ∧ (rH step s l).2 = (kK step i s l).2 := by
 intro l
 induction l with
 | nil => intro i s h; exact ⟨by simp [rH, kK], rfl⟩
 | cons x xs ih =>
  intro i s h
  simp only [rH, kK]
  split
  ·exact ⟨by simp [h], rfl⟩
  ·exact ih (i + 1) _ (by omega)
theorem Oh (step : σ → α → Bool × σ) (s : σ) (l : List α) : rH step s l = (decide (0 ≤ (kK step 0 s l).1), (kK step 0 s l).2) := by
 have h := aaM step l 0 s (by omega)
 exact Prod.ext h.1 h.2
theorem PO (step : σ → α → Bool × σ) (z : α) (l : List α) (k : Nat) (h : k < l.length) (t : σ) :
  kK step k t (l.drop k) = if (step t (l.getD (k : Int).toNat z)).1 = true then ((k : Int), (step t (l.getD (k : Int).toNat z)).2) else kK step ((k + 1 : Nat) : Int) (step t (l.getD (k : Int).toNat z)).2 (l.drop (k + 1)) := by
 rw [List.drop_eq_getElem_cons h]
 simp only [kK, Int.toNat_natCast, List.getD_eq_getElem?_getD, List.getElem?_eq_getElem h, Option.getD_some]
 rfl
theorem Cf (z : α) (l : List α) (k : Nat) (h : k < l.length) : l.getD (k : Int).toNat z ∈ l := by
 simp only [Int.toNat_natCast, List.getD_eq_getElem?_getD, List.getElem?_eq_getElem h, Option.getD_some]
 exact List.getElem_mem h
theorem JR (p : α → Bool) : ∀ (l : List α) (s : Unit), rH (fun _ x => (p x, ())) s l = (l.any p, ()) := by
 intro l
 induction l with
 | nil => intro s; rfl
 | cons x xs ih =>
  intro s
  simp only [rH, List.any_cons]
  cases h : p x with
  | true => simp
  | false => simp [ih]
end
section
variable {σ : Type} (step : σ → ai → Bool × σ)
mutual
def qX : ai → σ → Bool × σ
 | ⟨a, b, d, l⟩, s => if (step s ⟨a, b, d, l⟩).1 = true then rE l (step s ⟨a, b, d, l⟩).2 else (false, (step s ⟨a, b, d, l⟩).2)
def rE : List ai → σ → Bool × σ
 | [], s => (true, s)
 | k :: ks, s => if (qX k s).1 = true then rE ks (qX k s).2 else (false, (qX k s).2)
end
theorem OU (c : ai) (s : σ) : qX step c s = if (step s c).1 = true then rE step c.f3 (step s c).2 else (false, (step s c).2) := by cases c; simp [qX]
theorem DY (s : σ) : rE step [] s = (true, s) := by simp [rE]
theorem He (k : ai) (ks : List ai) (s : σ) : rE step (k :: ks) s = if (qX step k s).1 = true then rE step ks (qX step k s).2 else (false, (qX step k s).2) := by simp [rE]
theorem UW : ∀ (l : List ai) (s : σ), rH (fun s k => (!(qX step k s).1, (qX step k s).2)) s l = (!(rE step l s).1, (rE step l s).2) := by
 intro l
 induction l with
 | nil => intro s; rw [DY]; rfl
 | cons k ks ih =>
  intro s
  rw [He]
  simp only [rH]
  cases h : (qX step k s).1 with
  | true => simp [ih]
  | false => simp
def ui : List ai → σ → Bool × σ
 | [], s => (true, s)
 | k :: ks, s => if (step s k).1 = true then ui ks (step s k).2 else (false, (step s k).2)
theorem Xk : ∀ (a b : List ai) (s : σ), ui step (a ++ b) s = if (ui step a s).1 = true then ui step b (ui step a s).2 else (false, (ui step a s).2) := by
 intro a
 induction a with
 | nil => intro b s; simp [ui]
 | cons k ks ih =>
  intro b s
  simp only [List.cons_append, ui]
  by_cases h : (step s k).1 = true
  ·simp [h, ih]
  ·simp [h]
theorem Vw : ∀ (N : Nat), (∀ c : ai, sz c ≤ N → ∀ s, qX step c s = ui step (fG c) s) ∧ (∀ l : List ai, dI l ≤ N → ∀ s, rE step l s = ui step (allL l) s) := by
 intro N
 induction N with
 | zero =>
  refine ⟨fun c h => ?_, fun l h => ?_⟩
  ·rw [cO] at h; omega
  ·cases l with
   | nil => intro s; rw [DY, pg]; rfl
   | cons x xs => rw [bY, cO] at h; omega
 | succ N ih =>
  have hC : ∀ c : ai, sz c ≤ N + 1 → ∀ s, qX step c s = ui step (fG c) s := by
   intro c h s
   rw [cO] at h
   rw [OU, pV]
   simp only [ui]
   rw [ih.2 c.f3 (by omega)]
  refine ⟨hC, fun l => ?_⟩
  induction l with
  | nil => intro _ s; rw [DY, pg]; rfl
  | cons x xs ihl =>
   intro h s
   rw [bY] at h
   rw [He, lF, Xk, hC x (by omega), ihl (by omega)]
end
end Go.Proofs.Ytfdmfgaiblfbhaa.P
namespace Go.Proofs.Ytfdmfgaiblfbhaa.P
open Go.RowKit Go.Proofs.ag.aK Go.Proofs.ag.bG Go.Proofs.ag.bV
attribute [local go_sem] jm jB jR kF jO jP kT kV
def xg.f (au : Int) (aI : Int) (aC : Int) (aH : Int) : Option (Bool) := if au ≥ 0 then (if aC ≥ 1 then (if aC ≤ 10000 then (if au ≤ (wrap64 (10000 - aC)) then (if aI ≥ 0 then (if aH ≥ 1 then (if aH ≤ 10000 then (some (decide (aI ≤ (wrap64 (10000 - aH))))) else (some false)) else (some false)) else (some false)) else (some false)) else (some false)) else (some false)) else (some false)
theorem xg.calls (au : Int) (aI : Int) (aC : Int) (aH : Int) (r : Bool) (w : World) (h : xg.f au aI aC aH = some r) :
  Calls Try.prog 128 #[.agg #[.int .i64 au, .int .i64 aI, .int .i64 aC, .int .i64 aH]] w fun e w' => e = .returned (.bool r) ∧ Below w.heap.size w w' := by
 have NH := Try.underlying23
 have HB := ae.mk (Below.refl w.heap.size w)
 have H : (if au ≥ 0 then (if aC ≥ 1 then (if aC ≤ 10000 then (if au ≤ (wrap64 (10000 - aC)) then (if aI ≥ 0 then (if aH ≥ 1 then (if aH ≤ 10000 then (some (decide (aI ≤ (wrap64 (10000 - aH))))) else (some false)) else (some false)) else (some false)) else (some false)) else (some false)) else (some false)) else (some false)) = some r := h
 clear h
 by_cases c2 : au ≥ 0
 ·rw [if_pos c2] at H
  have L6 : decide (0 ≤ au) = true := decide_eq_true c2
  clear c2
  by_cases c3 : aC ≥ 1
  ·rw [if_pos c3] at H
   have uh : decide (1 ≤ aC) = true := decide_eq_true c3
   clear c3
   by_cases c4 : aC ≤ 10000
   ·rw [if_pos c4] at H
    have Di : decide (aC ≤ 10000) = true := decide_eq_true c4
    clear c4
    by_cases c5 : au ≤ (wrap64 (10000 - aC))
    ·rw [if_pos c5] at H
     have Ih : decide (au ≤ (wrap64 (10000 - aC))) = true := decide_eq_true c5
     clear c5
     by_cases c6 : aI ≥ 0
     ·rw [if_pos c6] at H
      have BK : decide (0 ≤ aI) = true := decide_eq_true c6
      clear c6
      by_cases c7 : aH ≥ 1
      ·rw [if_pos c7] at H
       have wV : decide (1 ≤ aH) = true := decide_eq_true c7
       clear c7
       by_cases c8 : aH ≤ 10000
       ·rw [if_pos c8] at H
        have Dj : decide (aH ≤ 10000) = true := decide_eq_true c8
        clear c8
        obtain rfl := Option.some.inj H
        go_enter Try.func128, Try.ntmps128
        go_wp2_with (((with_reducible refine aG (N := 1) rfl ?_); refine aT ?hg (N := 1) ?hd (cs := #[.int .i64 au, .int .i64 aI, .int .i64 aC, .int .i64 aH]) (t := 23) ?hr ?_; (case hd => rfl); (case hg => rfl); (case hr => (go_simp; done)); intro f_ hg w9 hbox hb; have dC := ae.mk (hbox); replace HB := ae.mk (ak (by repeat ((with_reducible exact HB.out))) hb); clear hb hbox hg; have O5 : w9.cell? ⟨f_, 0, none⟩ = some (.int .i64 au) := (af dC.out 0).trans rfl; have O6 : w9.cell? ⟨f_, 1, none⟩ = some (.int .i64 aI) := (af dC.out 1).trans rfl; have O7 : w9.cell? ⟨f_, 2, none⟩ = some (.int .i64 aC) := (af dC.out 2).trans rfl; have O8 : w9.cell? ⟨f_, 3, none⟩ = some (.int .i64 aH) := (af dC.out 3).trans rfl; have Pj := ah dC.out 0; have Pm := ah dC.out 1; have Pn := ah dC.out 2; have Po := ah dC.out 3))
        go_ret
        exact ⟨by rfl, by repeat ((with_reducible exact HB.out))⟩
       ·rw [if_neg c8] at H
        have Dj : decide (aH ≤ 10000) = false := decide_eq_false c8
        clear c8
        obtain rfl := Option.some.inj H
        go_enter Try.func128, Try.ntmps128
        go_wp2_with (((with_reducible refine aG (N := 1) rfl ?_); refine aT ?hg (N := 1) ?hd (cs := #[.int .i64 au, .int .i64 aI, .int .i64 aC, .int .i64 aH]) (t := 23) ?hr ?_; (case hd => rfl); (case hg => rfl); (case hr => (go_simp; done)); intro f_ hg Ah hbox hb; have dC := ae.mk (hbox); replace HB := ae.mk (ak (by repeat ((with_reducible exact HB.out))) hb); clear hb hbox hg; have Y0 : Ah.cell? ⟨f_, 0, none⟩ = some (.int .i64 au) := (af dC.out 0).trans rfl; have Y1 : Ah.cell? ⟨f_, 1, none⟩ = some (.int .i64 aI) := (af dC.out 1).trans rfl; have Y2 : Ah.cell? ⟨f_, 2, none⟩ = some (.int .i64 aC) := (af dC.out 2).trans rfl; have Y3 : Ah.cell? ⟨f_, 3, none⟩ = some (.int .i64 aH) := (af dC.out 3).trans rfl; have ZC := ah dC.out 0; have ZE := ah dC.out 1; have ZF := ah dC.out 2; have ZG := ah dC.out 3))
        go_ret
        exact ⟨by rfl, by repeat ((with_reducible exact HB.out))⟩
      ·rw [if_neg c7] at H
       have wV : decide (1 ≤ aH) = false := decide_eq_false c7
       clear c7
       obtain rfl := Option.some.inj H
       go_enter Try.func128, Try.ntmps128
       go_wp2_with (((with_reducible refine aG (N := 1) rfl ?_); refine aT ?hg (N := 1) ?hd (cs := #[.int .i64 au, .int .i64 aI, .int .i64 aC, .int .i64 aH]) (t := 23) ?hr ?_; (case hd => rfl); (case hg => rfl); (case hr => (go_simp; done)); intro f_ hg uf hbox hb; have dC := ae.mk (hbox); replace HB := ae.mk (ak (by repeat ((with_reducible exact HB.out))) hb); clear hb hbox hg; have Iw : uf.cell? ⟨f_, 0, none⟩ = some (.int .i64 au) := (af dC.out 0).trans rfl; have Iy : uf.cell? ⟨f_, 1, none⟩ = some (.int .i64 aI) := (af dC.out 1).trans rfl; have Iz : uf.cell? ⟨f_, 2, none⟩ = some (.int .i64 aC) := (af dC.out 2).trans rfl; have IA : uf.cell? ⟨f_, 3, none⟩ = some (.int .i64 aH) := (af dC.out 3).trans rfl; have IB := ah dC.out 0; have IC := ah dC.out 1; have IE := ah dC.out 2; have IG := ah dC.out 3))
       go_ret
       exact ⟨by rfl, by repeat ((with_reducible exact HB.out))⟩
     ·rw [if_neg c6] at H
      have BK : decide (0 ≤ aI) = false := decide_eq_false c6
      clear c6
      obtain rfl := Option.some.inj H
      go_enter Try.func128, Try.ntmps128
      go_wp2_with (((with_reducible refine aG (N := 1) rfl ?_); refine aT ?hg (N := 1) ?hd (cs := #[.int .i64 au, .int .i64 aI, .int .i64 aC, .int .i64 aH]) (t := 23) ?hr ?_; (case hd => rfl); (case hg => rfl); (case hr => (go_simp; done)); intro f_ hg ug hbox hb; have dC := ae.mk (hbox); replace HB := ae.mk (ak (by repeat ((with_reducible exact HB.out))) hb); clear hb hbox hg; have O9 : ug.cell? ⟨f_, 0, none⟩ = some (.int .i64 au) := (af dC.out 0).trans rfl; have O_ : ug.cell? ⟨f_, 1, none⟩ = some (.int .i64 aI) := (af dC.out 1).trans rfl; have Pg : ug.cell? ⟨f_, 2, none⟩ = some (.int .i64 aC) := (af dC.out 2).trans rfl; have Ph : ug.cell? ⟨f_, 3, none⟩ = some (.int .i64 aH) := (af dC.out 3).trans rfl; have Pq := ah dC.out 0; have Pv := ah dC.out 1; have Px := ah dC.out 2; have Py := ah dC.out 3))
      go_ret
      exact ⟨by rfl, by repeat ((with_reducible exact HB.out))⟩
    ·rw [if_neg c5] at H
     have Ih : decide (au ≤ (wrap64 (10000 - aC))) = false := decide_eq_false c5
     clear c5
     obtain rfl := Option.some.inj H
     go_enter Try.func128, Try.ntmps128
     go_wp2_with (((with_reducible refine aG (N := 1) rfl ?_); refine aT ?hg (N := 1) ?hd (cs := #[.int .i64 au, .int .i64 aI, .int .i64 aC, .int .i64 aH]) (t := 23) ?hr ?_; (case hd => rfl); (case hg => rfl); (case hr => (go_simp; done)); intro f_ hg Vb hbox hb; have dC := ae.mk (hbox); replace HB := ae.mk (ak (by repeat ((with_reducible exact HB.out))) hb); clear hb hbox hg; have Zd : Vb.cell? ⟨f_, 0, none⟩ = some (.int .i64 au) := (af dC.out 0).trans rfl; have Ze : Vb.cell? ⟨f_, 1, none⟩ = some (.int .i64 aI) := (af dC.out 1).trans rfl; have Zf : Vb.cell? ⟨f_, 2, none⟩ = some (.int .i64 aC) := (af dC.out 2).trans rfl; have Zg : Vb.cell? ⟨f_, 3, none⟩ = some (.int .i64 aH) := (af dC.out 3).trans rfl; have ZR := ah dC.out 0; have ZT := ah dC.out 1; have ZU := ah dC.out 2; have ZV := ah dC.out 3))
     go_ret
     exact ⟨by rfl, by repeat ((with_reducible exact HB.out))⟩
   ·rw [if_neg c4] at H
    have Di : decide (aC ≤ 10000) = false := decide_eq_false c4
    clear c4
    obtain rfl := Option.some.inj H
    go_enter Try.func128, Try.ntmps128
    go_wp2_with (((with_reducible refine aG (N := 1) rfl ?_); refine aT ?hg (N := 1) ?hd (cs := #[.int .i64 au, .int .i64 aI, .int .i64 aC, .int .i64 aH]) (t := 23) ?hr ?_; (case hd => rfl); (case hg => rfl); (case hr => (go_simp; done)); intro f_ hg EZ hbox hb; have dC := ae.mk (hbox); replace HB := ae.mk (ak (by repeat ((with_reducible exact HB.out))) hb); clear hb hbox hg; have Zh : EZ.cell? ⟨f_, 0, none⟩ = some (.int .i64 au) := (af dC.out 0).trans rfl; have Zi : EZ.cell? ⟨f_, 1, none⟩ = some (.int .i64 aI) := (af dC.out 1).trans rfl; have Zj : EZ.cell? ⟨f_, 2, none⟩ = some (.int .i64 aC) := (af dC.out 2).trans rfl; have Zk : EZ.cell? ⟨f_, 3, none⟩ = some (.int .i64 aH) := (af dC.out 3).trans rfl; have ZW := ah dC.out 0; have ZX := ah dC.out 1; have ZY := ah dC.out 2; have ZZ := ah dC.out 3))
    go_ret
    exact ⟨by rfl, by repeat ((with_reducible exact HB.out))⟩
  ·rw [if_neg c3] at H
   have uh : decide (1 ≤ aC) = false := decide_eq_false c3
   clear c3
   obtain rfl := Option.some.inj H
   go_enter Try.func128, Try.ntmps128
   go_wp2_with (((with_reducible refine aG (N := 1) rfl ?_); refine aT ?hg (N := 1) ?hd (cs := #[.int .i64 au, .int .i64 aI, .int .i64 aC, .int .i64 aH]) (t := 23) ?hr ?_; (case hd => rfl); (case hg => rfl); (case hr => (go_simp; done)); intro f_ hg H5 hbox hb; have dC := ae.mk (hbox); replace HB := ae.mk (ak (by repeat ((with_reducible exact HB.out))) hb); clear hb hbox hg; have Zl : H5.cell? ⟨f_, 0, none⟩ = some (.int .i64 au) := (af dC.out 0).trans rfl; have Zm : H5.cell? ⟨f_, 1, none⟩ = some (.int .i64 aI) := (af dC.out 1).trans rfl; have Zn : H5.cell? ⟨f_, 2, none⟩ = some (.int .i64 aC) := (af dC.out 2).trans rfl; have Zo : H5.cell? ⟨f_, 3, none⟩ = some (.int .i64 aH) := (af dC.out 3).trans rfl; have Z4 := ah dC.out 0; have Z5 := ah dC.out 1; have Z7 := ah dC.out 2; have Z8 := ah dC.out 3))
   go_ret
   exact ⟨by rfl, by repeat ((with_reducible exact HB.out))⟩
 ·rw [if_neg c2] at H
  have L6 : decide (0 ≤ au) = false := decide_eq_false c2
  clear c2
  obtain rfl := Option.some.inj H
  go_enter Try.func128, Try.ntmps128
  go_wp2_with (((with_reducible refine aG (N := 1) rfl ?_); refine aT ?hg (N := 1) ?hd (cs := #[.int .i64 au, .int .i64 aI, .int .i64 aC, .int .i64 aH]) (t := 23) ?hr ?_; (case hd => rfl); (case hg => rfl); (case hr => (go_simp; done)); intro f_ hg H6 hbox hb; have dC := ae.mk (hbox); replace HB := ae.mk (ak (by repeat ((with_reducible exact HB.out))) hb); clear hb hbox hg; have Zp : H6.cell? ⟨f_, 0, none⟩ = some (.int .i64 au) := (af dC.out 0).trans rfl; have Zq : H6.cell? ⟨f_, 1, none⟩ = some (.int .i64 aI) := (af dC.out 1).trans rfl; have Zr : H6.cell? ⟨f_, 2, none⟩ = some (.int .i64 aC) := (af dC.out 2).trans rfl; have Zt : H6.cell? ⟨f_, 3, none⟩ = some (.int .i64 aH) := (af dC.out 3).trans rfl; have Z9 := ah dC.out 0; have Z_ := ah dC.out 1; have aab := ah dC.out 2; have aac := ah dC.out 3))
  go_ret
  exact ⟨by rfl, by repeat ((with_reducible exact HB.out))⟩
def oG.f (au : Int) (aI : Int) (aC : Int) (aH : Int) : Option (Bool) := if au < 0 then (some false) else (if au > 10000 then (some false) else (if aI < 0 then (some false) else (if aI > 10000 then (some false) else (if aC > 0 then (if aC ≤ 10000 then (if aH > 0 then (if aH ≤ 10000 then (if (wrap64 (au + aC)) ≤ 10000 then (some (decide ((wrap64 (aI + aH)) ≤ 10000))) else (some false)) else (some false)) else (some false)) else (some false)) else (some false)))))
theorem oG.calls (au : Int) (aI : Int) (aC : Int) (aH : Int) (r : Bool) (w : World) (h : oG.f au aI aC aH = some r) :
  Calls Try.prog 57 #[.agg #[.int .i64 au, .int .i64 aI, .int .i64 aC, .int .i64 aH]] w fun e w' => e = .returned (.bool r) ∧ Below w.heap.size w w' := by
 have NH := Try.underlying23
 have HB := ae.mk (Below.refl w.heap.size w)
 have H : (if au < 0 then (some false) else (if au > 10000 then (some false) else (if aI < 0 then (some false) else (if aI > 10000 then (some false) else (if aC > 0 then (if aC ≤ 10000 then (if aH > 0 then (if aH ≤ 10000 then (if (wrap64 (au + aC)) ≤ 10000 then (some (decide ((wrap64 (aI + aH)) ≤ 10000))) else (some false)) else (some false)) else (some false)) else (some false)) else (some false)))))) = some r := h
 clear h
 by_cases c2 : au < 0
 ·rw [if_pos c2] at H
  have L6 : decide (au < 0) = true := decide_eq_true c2
  clear c2
  obtain rfl := Option.some.inj H
  go_enter Try.func57, Try.ntmps57
  go_wp2_with (((with_reducible refine aG (N := 1) rfl ?_); refine aT ?hg (N := 1) ?hd (cs := #[.int .i64 au, .int .i64 aI, .int .i64 aC, .int .i64 aH]) (t := 23) ?hr ?_; (case hd => rfl); (case hg => rfl); (case hr => (go_simp; done)); intro eP hg w3 hbox hb; have bU := ae.mk (hbox); replace HB := ae.mk (ak (by repeat ((with_reducible exact HB.out))) hb); clear hb hbox hg; have Np : w3.cell? ⟨eP, 0, none⟩ = some (.int .i64 au) := (af bU.out 0).trans rfl; have Nq : w3.cell? ⟨eP, 1, none⟩ = some (.int .i64 aI) := (af bU.out 1).trans rfl; have Nr : w3.cell? ⟨eP, 2, none⟩ = some (.int .i64 aC) := (af bU.out 2).trans rfl; have Ns : w3.cell? ⟨eP, 3, none⟩ = some (.int .i64 aH) := (af bU.out 3).trans rfl; have Nw := ah bU.out 0; have Ny := ah bU.out 1; have Nz := ah bU.out 2; have NC := ah bU.out 3))
  go_ret
  exact ⟨by rfl, by repeat ((with_reducible exact HB.out))⟩
 ·rw [if_neg c2] at H
  have L6 : decide (au < 0) = false := decide_eq_false c2
  clear c2
  by_cases c5 : au > 10000
  ·rw [if_pos c5] at H
   have Ih : decide (10000 < au) = true := decide_eq_true c5
   clear c5
   obtain rfl := Option.some.inj H
   go_enter Try.func57, Try.ntmps57
   go_wp2_with (((with_reducible refine aG (N := 1) rfl ?_); refine aT ?hg (N := 1) ?hd (cs := #[.int .i64 au, .int .i64 aI, .int .i64 aC, .int .i64 aH]) (t := 23) ?hr ?_; (case hd => rfl); (case hg => rfl); (case hr => (go_simp; done)); intro eP hg w6 hbox hb; have bU := ae.mk (hbox); replace HB := ae.mk (ak (by repeat ((with_reducible exact HB.out))) hb); clear hb hbox hg; have adn : w6.cell? ⟨eP, 0, none⟩ = some (.int .i64 au) := (af bU.out 0).trans rfl; have ado : w6.cell? ⟨eP, 1, none⟩ = some (.int .i64 aI) := (af bU.out 1).trans rfl; have adr : w6.cell? ⟨eP, 2, none⟩ = some (.int .i64 aC) := (af bU.out 2).trans rfl; have adt : w6.cell? ⟨eP, 3, none⟩ = some (.int .i64 aH) := (af bU.out 3).trans rfl; have adI := ah bU.out 0; have adJ := ah bU.out 1; have adK := ah bU.out 2; have adL := ah bU.out 3))
   go_ret
   exact ⟨by rfl, by repeat ((with_reducible exact HB.out))⟩
  ·rw [if_neg c5] at H
   have Ih : decide (10000 < au) = false := decide_eq_false c5
   clear c5
   by_cases c8 : aI < 0
   ·rw [if_pos c8] at H
    have Dj : decide (aI < 0) = true := decide_eq_true c8
    clear c8
    obtain rfl := Option.some.inj H
    go_enter Try.func57, Try.ntmps57
    go_wp2_with (((with_reducible refine aG (N := 1) rfl ?_); refine aT ?hg (N := 1) ?hd (cs := #[.int .i64 au, .int .i64 aI, .int .i64 aC, .int .i64 aH]) (t := 23) ?hr ?_; (case hd => rfl); (case hg => rfl); (case hr => (go_simp; done)); intro eP hg w9 hbox hb; have bU := ae.mk (hbox); replace HB := ae.mk (ak (by repeat ((with_reducible exact HB.out))) hb); clear hb hbox hg; have O5 : w9.cell? ⟨eP, 0, none⟩ = some (.int .i64 au) := (af bU.out 0).trans rfl; have O6 : w9.cell? ⟨eP, 1, none⟩ = some (.int .i64 aI) := (af bU.out 1).trans rfl; have O7 : w9.cell? ⟨eP, 2, none⟩ = some (.int .i64 aC) := (af bU.out 2).trans rfl; have O8 : w9.cell? ⟨eP, 3, none⟩ = some (.int .i64 aH) := (af bU.out 3).trans rfl; have Pj := ah bU.out 0; have Pm := ah bU.out 1; have Pn := ah bU.out 2; have Po := ah bU.out 3))
    go_ret
    exact ⟨by rfl, by repeat ((with_reducible exact HB.out))⟩
   ·rw [if_neg c8] at H
    have Dj : decide (aI < 0) = false := decide_eq_false c8
    clear c8
    by_cases c11 : aI > 10000
    ·rw [if_pos c11] at H
     have GH : decide (10000 < aI) = true := decide_eq_true c11
     clear c11
     obtain rfl := Option.some.inj H
     go_enter Try.func57, Try.ntmps57
     go_wp2_with (((with_reducible refine aG (N := 1) rfl ?_); refine aT ?hg (N := 1) ?hd (cs := #[.int .i64 au, .int .i64 aI, .int .i64 aC, .int .i64 aH]) (t := 23) ?hr ?_; (case hd => rfl); (case hg => rfl); (case hr => (go_simp; done)); intro eP hg w12 hbox hb; have bU := ae.mk (hbox); replace HB := ae.mk (ak (by repeat ((with_reducible exact HB.out))) hb); clear hb hbox hg; have Y4 : w12.cell? ⟨eP, 0, none⟩ = some (.int .i64 au) := (af bU.out 0).trans rfl; have Y5 : w12.cell? ⟨eP, 1, none⟩ = some (.int .i64 aI) := (af bU.out 1).trans rfl; have Y6 : w12.cell? ⟨eP, 2, none⟩ = some (.int .i64 aC) := (af bU.out 2).trans rfl; have Y7 : w12.cell? ⟨eP, 3, none⟩ = some (.int .i64 aH) := (af bU.out 3).trans rfl; have ZH := ah bU.out 0; have ZI := ah bU.out 1; have ZJ := ah bU.out 2; have ZK := ah bU.out 3))
     go_ret
     exact ⟨by rfl, by repeat ((with_reducible exact HB.out))⟩
    ·rw [if_neg c11] at H
     have GH : decide (10000 < aI) = false := decide_eq_false c11
     clear c11
     by_cases c14 : aC > 0
     ·rw [if_pos c14] at H
      have afb : decide (0 < aC) = true := decide_eq_true c14
      clear c14
      by_cases c15 : aC ≤ 10000
      ·rw [if_pos c15] at H
       have afc : decide (aC ≤ 10000) = true := decide_eq_true c15
       clear c15
       by_cases c16 : aH > 0
       ·rw [if_pos c16] at H
        have Qq : decide (0 < aH) = true := decide_eq_true c16
        clear c16
        by_cases c17 : aH ≤ 10000
        ·rw [if_pos c17] at H
         have afe : decide (aH ≤ 10000) = true := decide_eq_true c17
         clear c17
         by_cases c18 : (wrap64 (au + aC)) ≤ 10000
         ·rw [if_pos c18] at H
          have aff : decide ((wrap64 (au + aC)) ≤ 10000) = true := decide_eq_true c18
          clear c18
          obtain rfl := Option.some.inj H
          go_enter Try.func57, Try.ntmps57
          go_wp2_with (((with_reducible refine aG (N := 1) rfl ?_); refine aT ?hg (N := 1) ?hd (cs := #[.int .i64 au, .int .i64 aI, .int .i64 aC, .int .i64 aH]) (t := 23) ?hr ?_; (case hd => rfl); (case hg => rfl); (case hr => (go_simp; done)); intro eP hg EZ hbox hb; have bU := ae.mk (hbox); replace HB := ae.mk (ak (by repeat ((with_reducible exact HB.out))) hb); clear hb hbox hg; have Zh : EZ.cell? ⟨eP, 0, none⟩ = some (.int .i64 au) := (af bU.out 0).trans rfl; have Zi : EZ.cell? ⟨eP, 1, none⟩ = some (.int .i64 aI) := (af bU.out 1).trans rfl; have Zj : EZ.cell? ⟨eP, 2, none⟩ = some (.int .i64 aC) := (af bU.out 2).trans rfl; have Zk : EZ.cell? ⟨eP, 3, none⟩ = some (.int .i64 aH) := (af bU.out 3).trans rfl; have ZW := ah bU.out 0; have ZX := ah bU.out 1; have ZY := ah bU.out 2; have ZZ := ah bU.out 3))
          go_ret
          exact ⟨by rfl, by repeat ((with_reducible exact HB.out))⟩
         ·rw [if_neg c18] at H
          have aff : decide ((wrap64 (au + aC)) ≤ 10000) = false := decide_eq_false c18
          clear c18
          obtain rfl := Option.some.inj H
          go_enter Try.func57, Try.ntmps57
          go_wp2_with (((with_reducible refine aG (N := 1) rfl ?_); refine aT ?hg (N := 1) ?hd (cs := #[.int .i64 au, .int .i64 aI, .int .i64 aC, .int .i64 aH]) (t := 23) ?hr ?_; (case hd => rfl); (case hg => rfl); (case hr => (go_simp; done)); intro eP hg H5 hbox hb; have bU := ae.mk (hbox); replace HB := ae.mk (ak (by repeat ((with_reducible exact HB.out))) hb); clear hb hbox hg; have Zl : H5.cell? ⟨eP, 0, none⟩ = some (.int .i64 au) := (af bU.out 0).trans rfl; have Zm : H5.cell? ⟨eP, 1, none⟩ = some (.int .i64 aI) := (af bU.out 1).trans rfl; have Zn : H5.cell? ⟨eP, 2, none⟩ = some (.int .i64 aC) := (af bU.out 2).trans rfl; have Zo : H5.cell? ⟨eP, 3, none⟩ = some (.int .i64 aH) := (af bU.out 3).trans rfl; have Z4 := ah bU.out 0; have Z5 := ah bU.out 1; have Z7 := ah bU.out 2; have Z8 := ah bU.out 3))
          go_ret
          exact ⟨by rfl, by repeat ((with_reducible exact HB.out))⟩
        ·rw [if_neg c17] at H
         have afe : decide (aH ≤ 10000) = false := decide_eq_false c17
         clear c17
         obtain rfl := Option.some.inj H
         go_enter Try.func57, Try.ntmps57
         go_wp2_with (((with_reducible refine aG (N := 1) rfl ?_); refine aT ?hg (N := 1) ?hd (cs := #[.int .i64 au, .int .i64 aI, .int .i64 aC, .int .i64 aH]) (t := 23) ?hr ?_; (case hd => rfl); (case hg => rfl); (case hr => (go_simp; done)); intro eP hg H6 hbox hb; have bU := ae.mk (hbox); replace HB := ae.mk (ak (by repeat ((with_reducible exact HB.out))) hb); clear hb hbox hg; have Zp : H6.cell? ⟨eP, 0, none⟩ = some (.int .i64 au) := (af bU.out 0).trans rfl; have Zq : H6.cell? ⟨eP, 1, none⟩ = some (.int .i64 aI) := (af bU.out 1).trans rfl; have Zr : H6.cell? ⟨eP, 2, none⟩ = some (.int .i64 aC) := (af bU.out 2).trans rfl; have Zt : H6.cell? ⟨eP, 3, none⟩ = some (.int .i64 aH) := (af bU.out 3).trans rfl; have Z9 := ah bU.out 0; have Z_ := ah bU.out 1; have aab := ah bU.out 2; have aac := ah bU.out 3))
         go_ret
         exact ⟨by rfl, by repeat ((with_reducible exact HB.out))⟩
       ·rw [if_neg c16] at H
        have Qq : decide (0 < aH) = false := decide_eq_false c16
        clear c16
        obtain rfl := Option.some.inj H
        go_enter Try.func57, Try.ntmps57
        go_wp2_with (((with_reducible refine aG (N := 1) rfl ?_); refine aT ?hg (N := 1) ?hd (cs := #[.int .i64 au, .int .i64 aI, .int .i64 aC, .int .i64 aH]) (t := 23) ?hr ?_; (case hd => rfl); (case hg => rfl); (case hr => (go_simp; done)); intro eP hg Yk hbox hb; have bU := ae.mk (hbox); replace HB := ae.mk (ak (by repeat ((with_reducible exact HB.out))) hb); clear hb hbox hg; have ahv : Yk.cell? ⟨eP, 0, none⟩ = some (.int .i64 au) := (af bU.out 0).trans rfl; have ahw : Yk.cell? ⟨eP, 1, none⟩ = some (.int .i64 aI) := (af bU.out 1).trans rfl; have ahx : Yk.cell? ⟨eP, 2, none⟩ = some (.int .i64 aC) := (af bU.out 2).trans rfl; have ahy : Yk.cell? ⟨eP, 3, none⟩ = some (.int .i64 aH) := (af bU.out 3).trans rfl; have ahN := ah bU.out 0; have ahO := ah bU.out 1; have ahP := ah bU.out 2; have ahQ := ah bU.out 3))
        go_ret
        exact ⟨by rfl, by repeat ((with_reducible exact HB.out))⟩
      ·rw [if_neg c15] at H
       have afc : decide (aC ≤ 10000) = false := decide_eq_false c15
       clear c15
       obtain rfl := Option.some.inj H
       go_enter Try.func57, Try.ntmps57
       go_wp2_with (((with_reducible refine aG (N := 1) rfl ?_); refine aT ?hg (N := 1) ?hd (cs := #[.int .i64 au, .int .i64 aI, .int .i64 aC, .int .i64 aH]) (t := 23) ?hr ?_; (case hd => rfl); (case hg => rfl); (case hr => (go_simp; done)); intro eP hg Yl hbox hb; have bU := ae.mk (hbox); replace HB := ae.mk (ak (by repeat ((with_reducible exact HB.out))) hb); clear hb hbox hg; have ahz : Yl.cell? ⟨eP, 0, none⟩ = some (.int .i64 au) := (af bU.out 0).trans rfl; have ahA : Yl.cell? ⟨eP, 1, none⟩ = some (.int .i64 aI) := (af bU.out 1).trans rfl; have ahB : Yl.cell? ⟨eP, 2, none⟩ = some (.int .i64 aC) := (af bU.out 2).trans rfl; have ahC : Yl.cell? ⟨eP, 3, none⟩ = some (.int .i64 aH) := (af bU.out 3).trans rfl; have ahR := ah bU.out 0; have ahS := ah bU.out 1; have ahT := ah bU.out 2; have ahU := ah bU.out 3))
       go_ret
       exact ⟨by rfl, by repeat ((with_reducible exact HB.out))⟩
     ·rw [if_neg c14] at H
      have afb : decide (0 < aC) = false := decide_eq_false c14
      clear c14
      obtain rfl := Option.some.inj H
      go_enter Try.func57, Try.ntmps57
      go_wp2_with (((with_reducible refine aG (N := 1) rfl ?_); refine aT ?hg (N := 1) ?hd (cs := #[.int .i64 au, .int .i64 aI, .int .i64 aC, .int .i64 aH]) (t := 23) ?hr ?_; (case hd => rfl); (case hg => rfl); (case hr => (go_simp; done)); intro eP hg JV hbox hb; have bU := ae.mk (hbox); replace HB := ae.mk (ak (by repeat ((with_reducible exact HB.out))) hb); clear hb hbox hg; have ahD : JV.cell? ⟨eP, 0, none⟩ = some (.int .i64 au) := (af bU.out 0).trans rfl; have ahE : JV.cell? ⟨eP, 1, none⟩ = some (.int .i64 aI) := (af bU.out 1).trans rfl; have ahF : JV.cell? ⟨eP, 2, none⟩ = some (.int .i64 aC) := (af bU.out 2).trans rfl; have ahG : JV.cell? ⟨eP, 3, none⟩ = some (.int .i64 aH) := (af bU.out 3).trans rfl; have ahV := ah bU.out 0; have ahW := ah bU.out 1; have ahX := ah bU.out 2; have ahY := ah bU.out 3))
      go_ret
      exact ⟨by rfl, by repeat ((with_reducible exact HB.out))⟩
end Go.Proofs.Ytfdmfgaiblfbhaa.P
namespace Go.Proofs.Ytfdmfgaiblfbhaa.P
open Go.RowKit Go.Proofs.ag.aK Go.Proofs.ag.bG Go.Proofs.ag.bV
theorem wq {x : Int} (h0 : -9223372036854775808 ≤ x) (h1 : x ≤ 9223372036854775807) : wrap64 x = x := by unfold wrap64; omega
theorem acQ {α : Type} {c : Prop} [Decidable c] {g f : Nat → Option α} {r : α} (hc : c) (h : Ev g r) : Ev (fun k => if c then g k else f k) r := by simp only [if_pos hc]; exact h
def pz (X Y W H : Int) : Bool := decide (0 ≤ X ∧ 1 ≤ W ∧ W ≤ 10000 ∧ X + W ≤ 10000 ∧ 0 ≤ Y ∧ 1 ≤ H ∧ H ≤ 10000 ∧ Y + H ≤ 10000)
theorem vz {X Y W H : Int} : pz X Y W H = true ↔ (0 ≤ X ∧ 1 ≤ W ∧ W ≤ 10000 ∧ X + W ≤ 10000 ∧ 0 ≤ Y ∧ 1 ≤ H ∧ H ≤ 10000 ∧ Y + H ≤ 10000) := by unfold pz; rw [decide_eq_true_iff]
theorem NR (X Y W H : Int) : xg.f X Y W H = some (pz X Y W H) := by
 unfold xg.f pz
 by_cases h1 : X ≥ 0
 ·by_cases h2 : W ≥ 1
  ·by_cases h3 : W ≤ 10000
   ·rw [if_pos h1, if_pos h2, if_pos h3, wq (x := 10000 - W) (by omega) (by omega)]
    by_cases h4 : X ≤ 10000 - W
    ·rw [if_pos h4]
     by_cases h5 : Y ≥ 0
     ·by_cases h6 : H ≥ 1
      ·by_cases h7 : H ≤ 10000
       ·rw [if_pos h5, if_pos h6, if_pos h7, wq (x := 10000 - H) (by omega) (by omega)]
        congr 1
        rw [decide_eq_decide]
        omega
       ·rw [if_pos h5, if_pos h6, if_neg h7, decide_eq_false (by omega)]
      ·rw [if_pos h5, if_neg h6, decide_eq_false (by omega)]
     ·rw [if_neg h5, decide_eq_false (by omega)]
    ·rw [if_neg h4, decide_eq_false (by omega)]
   ·rw [if_pos h1, if_pos h2, if_neg h3, decide_eq_false (by omega)]
  ·rw [if_pos h1, if_neg h2, decide_eq_false (by omega)]
 ·rw [if_neg h1, decide_eq_false (by omega)]
theorem EW (X Y W H : Int) : oG.f X Y W H = some (pz X Y W H) := by
 unfold oG.f pz
 by_cases h1 : X < 0
 ·rw [if_pos h1, decide_eq_false (by omega)]
 ·rw [if_neg h1]
  by_cases h2 : X > 10000
  ·rw [if_pos h2, decide_eq_false (by omega)]
  ·rw [if_neg h2]
   by_cases h3 : Y < 0
   ·rw [if_pos h3, decide_eq_false (by omega)]
   ·rw [if_neg h3]
    by_cases h4 : Y > 10000
    ·rw [if_pos h4, decide_eq_false (by omega)]
    ·rw [if_neg h4]
     by_cases h5 : W > 0
     ·by_cases h6 : W ≤ 10000
      ·by_cases h7 : H > 0
       ·by_cases h8 : H ≤ 10000
        ·rw [if_pos h5, if_pos h6, if_pos h7, if_pos h8, wq (x := X + W) (by omega) (by omega), wq (x := Y + H) (by omega) (by omega)]
         by_cases h9 : X + W ≤ 10000
         ·rw [if_pos h9]
          congr 1
          rw [decide_eq_decide]
          omega
         ·rw [if_neg h9, decide_eq_false (by omega)]
        ·rw [if_pos h5, if_pos h6, if_pos h7, if_neg h8, decide_eq_false (by omega)]
       ·rw [if_pos h5, if_pos h6, if_neg h7, decide_eq_false (by omega)]
      ·rw [if_pos h5, if_neg h6, decide_eq_false (by omega)]
     ·rw [if_neg h5, decide_eq_false (by omega)]
def jU (r : dD) : Bool := pz r.f0 r.f1 r.f2 r.f3
end Go.Proofs.Ytfdmfgaiblfbhaa.P
namespace Go.Proofs.Ytfdmfgaiblfbhaa.P
open Go.RowKit Go.Proofs.ag.aK Go.Proofs.ag.bG Go.Proofs.ag.bV
attribute [local go_sem] jm jB jR kF jO jP kT kV
mutual
def dw.l0 : Nat → Int → Int → Int → Int → Int → Int → Int → Int → Int → Int → List (ai) → Option (Int)
 | 0, _, _, _, _, _, _, _, _, _, _, _ => none
 | k + 1, x1, x5, x9, x10, aa0, aa1, aa2, aa3, aa4, aa5, tV => if x10 < x9 then (if x5 > x1 then (some x5) else (if 0 ≤ x10 then (if x10 < (tV.length : Int) then ((dw.f k ((aA tV x10).f0) ((aA tV x10).f1.f0) ((aA tV x10).f1.f1) ((aA tV x10).f1.f2) ((aA tV x10).f1.f3) ((aA tV x10).f2) ((aA tV x10).f3) x1).bind fun t103 => (dw.l0 k x1 (wrap64 (x5 + t103)) x9 (wrap64 (x10 + 1)) aa0 aa1 aa2 aa3 aa4 aa5 tV)) else (none)) else (none))) else (some x5)
def dw.f : Nat → Int → Int → Int → Int → Int → Int → List (ai) → Int → Option (Int)
 | 0, _, _, _, _, _, _, _, _ => none
 | k + 1, au, aI, aC, aH, bz, bD, aQ, a1 => dw.l0 k a1 1 (aQ.length : Int) 0 au aI aC aH bz bD aQ
end
theorem dw.calls (k : Nat) : ∀ (au : Int) (aI : Int) (aC : Int) (aH : Int) (bz : Int) (bD : Int) (dG : Option Addr) (dH : Nat) (aQ : List (ai)) (a1 : Int) (r : Int) (w : World) (rD : Kd.C k26 w dG aQ.length aQ) (tq : aQ.length ≤ dH) (h : dw.f k au aI aC aH bz bD aQ a1 = some r),
  Calls Try.prog 124 #[.agg #[.int .u8 au, .int .i64 aI, .int .i64 aC, .int .i64 aH, .int .i64 bz, .int .i64 bD, .slice dG aQ.length dH], .int .i64 a1] w fun e w' => e = .returned (.int .i64 r) ∧ Below w.heap.size w w' := by
 induction k using Nat.strongRecOn with
 | _ k ih =>
 intro au aI aC aH bz bD dG dH aQ a1 r w rD tq h
 cases k with
 | zero => exact absurd h (by simp [dw.f])
 | succ k =>
 simp only [dw.f] at h
 have IL := Try.underlying26
 have Qg := ae.mk rD
 clear rD tq
 have HB := ae.mk (Below.refl w.heap.size w)
 have H : (dw.l0 k a1 1 (aQ.length : Int) 0 au aI aC aH bz bD aQ) = some r := h
 clear h
 have H' := ae.mk H
 clear H
 go_enter Try.func124, Try.ntmps124
 go_wp2_with (((with_reducible refine aG (N := 2) rfl ?_); refine aT ?hg (N := 2) ?hd (cs := #[.int .u8 au, .int .i64 aI, .int .i64 aC, .int .i64 aH, .int .i64 bz, .int .i64 bD, .slice dG aQ.length dH]) (t := 26) ?hr ?_; (case hd => rfl); (case hg => rfl); (case hr => (go_simp; done)); intro qB hg w3 hbox hb; have iC := ae.mk (hbox); replace HB := ae.mk (ak (by repeat ((with_reducible exact HB.out))) hb); clear hb hbox hg; have Np : w3.cell? ⟨qB, 0, none⟩ = some (.int .u8 au) := (af iC.out 0).trans rfl; have Nq : w3.cell? ⟨qB, 1, none⟩ = some (.int .i64 aI) := (af iC.out 1).trans rfl; have Nr : w3.cell? ⟨qB, 2, none⟩ = some (.int .i64 aC) := (af iC.out 2).trans rfl; have Ns : w3.cell? ⟨qB, 3, none⟩ = some (.int .i64 aH) := (af iC.out 3).trans rfl; have Tv : w3.cell? ⟨qB, 4, none⟩ = some (.int .i64 bz) := (af iC.out 4).trans rfl; have Tz : w3.cell? ⟨qB, 5, none⟩ = some (.int .i64 bD) := (af iC.out 5).trans rfl; have TA : w3.cell? ⟨qB, 6, none⟩ = some (.slice dG aQ.length dH) := (af iC.out 6).trans rfl; have Nw := ah iC.out 0; have Ny := ah iC.out 1; have Nz := ah iC.out 2; have NC := ah iC.out 3; have TS := ah iC.out 4; have TT := ah iC.out 5; have TU := ah iC.out 6))
 go_loopg [5, 10] k (fun kq v5 v10 w' => ∃ (lq : Int) (dL : Int), v5 = .int .i64 lq ∧ v10 = .int .i64 dL ∧ ae (dw.l0 kq a1 lq (aQ.length : Int) dL au aI aC aH bz bD aQ = some r) ∧ ae (kq ≤ k) ∧ ae (w'.heap[qB]? = some (.cells #[.int .u8 au, .int .i64 aI, .int .i64 aC, .int .i64 aH, .int .i64 bz, .int .i64 bD, (.slice dG aQ.length dH)] 26 (0, 0))) ∧ ae (Below w.heap.size w w'))
 case atStart => exact ⟨(1), (0), (by rfl), (by rfl), H', ⟨Nat.le_refl _⟩, ⟨by exact iC.out⟩, ⟨by repeat ((with_reducible exact HB.out))⟩⟩
 case round =>
  clear H'
  clear Np Nq Nr Ns Tv Tz TA Nw Ny Nz NC TS TT TU
  obtain ⟨lq, dL, rfl, rfl, HA, nI, iC, HB⟩ := hrel
  cases gk with
  | zero => exact absurd HA.out (by simp [dw.l0])
  | succ k1 =>
   have H := HA.out
   clear HA
   simp only [dw.l0] at H
   by_cases c5 : dL < (aQ.length : Int)
   ·rw [if_pos c5] at H
    have Ih : decide (dL < (aQ.length : Int)) = true := decide_eq_true c5
    clear c5
    by_cases c6 : lq > a1
    ·rw [if_pos c6] at H
     have BK : decide (a1 < lq) = true := decide_eq_true c6
     clear c6
     obtain rfl := Option.some.inj H
     go_wp2
     go_ret
     exact ⟨by rfl, by repeat ((with_reducible exact HB.out))⟩
    ·rw [if_neg c6] at H
     have BK : decide (a1 < lq) = false := decide_eq_false c6
     clear c6
     by_cases c7 : 0 ≤ dL
     ·rw [if_pos c7] at H
      have wV : decide (0 ≤ dL) = true := decide_eq_true c7
      clear c7
      by_cases c8 : dL < (aQ.length : Int)
      ·rw [if_pos c8] at H
       have Dj : decide (dL < (aQ.length : Int)) = true := decide_eq_true c8
       clear c8
       replace H := Option.bind_eq_some_iff.mp H
       obtain ⟨t103, A90, H⟩ := H
       replace H : (dw.l0 k1 a1 (wrap64 (lq + t103)) (aQ.length : Int) (wrap64 (dL + 1)) au aI aC aH bz bD aQ) = some r := H
       have A9 := ae.mk A90
       clear A90
       have H' := ae.mk H
       clear H
       have O5 : wr.cell? ⟨qB, 0, none⟩ = some (.int .u8 au) := (af iC.out 0).trans rfl
       have O6 : wr.cell? ⟨qB, 1, none⟩ = some (.int .i64 aI) := (af iC.out 1).trans rfl
       have O7 : wr.cell? ⟨qB, 2, none⟩ = some (.int .i64 aC) := (af iC.out 2).trans rfl
       have O8 : wr.cell? ⟨qB, 3, none⟩ = some (.int .i64 aH) := (af iC.out 3).trans rfl
       have ahp : wr.cell? ⟨qB, 4, none⟩ = some (.int .i64 bz) := (af iC.out 4).trans rfl
       have ahq : wr.cell? ⟨qB, 5, none⟩ = some (.int .i64 bD) := (af iC.out 5).trans rfl
       have ahr : wr.cell? ⟨qB, 6, none⟩ = some (.slice dG aQ.length dH) := (af iC.out 6).trans rfl
       have Pj := ah iC.out 0
       have Pm := ah iC.out 1
       have Pn := ah iC.out 2
       have Po := ah iC.out 3
       have ahH := ah iC.out 4
       have ahI := ah iC.out 5
       have ahJ := ah iC.out 6
       have WW : 0 ≤ (dL : Int) := of_decide_eq_true (by (with_reducible assumption))
       have Xc : dL < (aQ.length : Int) := of_decide_eq_true (by (with_reducible assumption))
       obtain ⟨aj1, abg, ack, agV, IM, IP, IQ, IU, IV, IW, IX, PD, Pz⟩ := rW Qg.out dL WW Xc
       cases agV
       replace IM := (HB.out.cell (World.block_lt_of_cell? w _ IM)).trans IM
       replace IP := (HB.out.cell (World.block_lt_of_cell? w _ IP)).trans IP
       replace IQ := (HB.out.cell (World.block_lt_of_cell? w _ IQ)).trans IQ
       replace IU := (HB.out.cell (World.block_lt_of_cell? w _ IU)).trans IU
       replace IV := (HB.out.cell (World.block_lt_of_cell? w _ IV)).trans IV
       replace IW := (HB.out.cell (World.block_lt_of_cell? w _ IW)).trans IW
       replace IX := (HB.out.cell (World.block_lt_of_cell? w _ IX)).trans IX
       have Yv := ae.mk Pz
       have Yu := ae.mk PD
       clear Pz PD
       replace WW := eq_true WW
       replace Xc := eq_true Xc
       go_wp2_with (((with_reducible refine kM (f := 124) rfl ?_); refine mM (some 24) rfl rfl Try.func124 (by kernel_rfl) rfl #[.agg #[.int .u8 ((aA aQ dL).f0), .int .i64 ((aA aQ dL).f1.f0), .int .i64 ((aA aQ dL).f1.f1), .int .i64 ((aA aQ dL).f1.f2), .int .i64 ((aA aQ dL).f1.f3), .int .i64 ((aA aQ dL).f2), .slice abg ((aA aQ dL).f3).length ack], .int .i64 a1] rfl (by (try simp only [List.map_toArray, List.map_cons, List.map_nil]); rfl) ?_; (with_reducible refine (ih k1 (by have := nI.out; omega) ((aA aQ dL).f0) ((aA aQ dL).f1.f0) ((aA aQ dL).f1.f1) ((aA aQ dL).f1.f2) ((aA aQ dL).f1.f3) ((aA aQ dL).f2) _ _ ((aA aQ dL).f3) a1 t103 _ ?tK ?yR A9.out).mono ?_); (case tK => repeat (exact (Kd.gV Yv.out HB.out))); (case yR => exact Yu.out); rintro e Ah ⟨rfl, hb⟩; refine ⟨_, rfl, ?_⟩; replace iC := ae.mk (aJ iC.out hb); replace HB := ae.mk (ak (by repeat ((with_reducible exact HB.out))) hb); (try clear hb)))
       go_roundg k1
       case measure => have := nI.out; omega
       case rel => exact ⟨(wrap64 (lq + t103)), (wrap64 (dL + 1)), (by rfl), (by rfl), H', ⟨by have := nI.out; omega⟩, ⟨by exact iC.out⟩, ⟨by repeat ((with_reducible exact HB.out))⟩⟩
      ·rw [if_neg c8] at H
       exact absurd H (by simp)
     ·rw [if_neg c7] at H
      exact absurd H (by simp)
   ·rw [if_neg c5] at H
    have Ih : decide (dL < (aQ.length : Int)) = false := decide_eq_false c5
    clear c5
    obtain rfl := Option.some.inj H
    go_wp2
    go_ret
    exact ⟨by rfl, by repeat ((with_reducible exact HB.out))⟩
def jr.f (k : Nat) (au : Int) (aI : Int) (aC : Int) (aH : Int) (bz : Int) (bD : Int) (aQ : List (ai)) : Option (Bool) := (dw.f k au aI aC aH bz bD aQ 200).bind fun t105 => (some (decide (t105 > 200)))
theorem jr.calls (k : Nat) (au : Int) (aI : Int) (aC : Int) (aH : Int) (bz : Int) (bD : Int) (dG : Option Addr) (dH : Nat) (aQ : List (ai)) (r : Bool) (w : World) (rD : Kd.C k26 w dG aQ.length aQ) (tq : aQ.length ≤ dH) (h : jr.f k au aI aC aH bz bD aQ = some r) :
  Calls Try.prog 34 #[.agg #[.int .u8 au, .int .i64 aI, .int .i64 aC, .int .i64 aH, .int .i64 bz, .int .i64 bD, .slice dG aQ.length dH]] w fun e w' => e = .returned (.bool r) ∧ Below w.heap.size w w' := by
 have IL := Try.underlying26
 have Qg := ae.mk rD
 have aeI := ae.mk tq
 clear rD tq
 have HB := ae.mk (Below.refl w.heap.size w)
 have H : ((dw.f k au aI aC aH bz bD aQ 200).bind fun t105 => (some (decide (t105 > 200)))) = some r := h
 clear h
 replace H := Option.bind_eq_some_iff.mp H
 obtain ⟨t105, RD, H⟩ := H
 replace H : (some (decide (t105 > 200))) = some r := H
 have A2 := ae.mk RD
 clear RD
 obtain rfl := Option.some.inj H
 go_enter Try.func34, Try.ntmps34
 go_wp2_with (first | ((with_reducible refine aG (N := 1) rfl ?_); refine aT ?hg (N := 1) ?hd (cs := #[.int .u8 au, .int .i64 aI, .int .i64 aC, .int .i64 aH, .int .i64 bz, .int .i64 bD, .slice dG aQ.length dH]) (t := 26) ?hr ?_; (case hd => rfl); (case hg => rfl); (case hr => (go_simp; done)); intro BP hg w3 hbox hb; have pI := ae.mk (hbox); replace HB := ae.mk (ak (by repeat ((with_reducible exact HB.out))) hb); clear hb hbox hg; have Np : w3.cell? ⟨BP, 0, none⟩ = some (.int .u8 au) := (af pI.out 0).trans rfl; have Nq : w3.cell? ⟨BP, 1, none⟩ = some (.int .i64 aI) := (af pI.out 1).trans rfl; have Nr : w3.cell? ⟨BP, 2, none⟩ = some (.int .i64 aC) := (af pI.out 2).trans rfl; have Ns : w3.cell? ⟨BP, 3, none⟩ = some (.int .i64 aH) := (af pI.out 3).trans rfl; have Tv : w3.cell? ⟨BP, 4, none⟩ = some (.int .i64 bz) := (af pI.out 4).trans rfl; have Tz : w3.cell? ⟨BP, 5, none⟩ = some (.int .i64 bD) := (af pI.out 5).trans rfl; have TA : w3.cell? ⟨BP, 6, none⟩ = some (.slice dG aQ.length dH) := (af pI.out 6).trans rfl; have Nw := ah pI.out 0; have Ny := ah pI.out 1; have Nz := ah pI.out 2; have NC := ah pI.out 3; have TS := ah pI.out 4; have TT := ah pI.out 5; have TU := ah pI.out 6) | ((with_reducible refine kM (f := 124) rfl ?_); refine mM (some 4) rfl rfl Try.func124 (by kernel_rfl) rfl #[.agg #[.int .u8 au, .int .i64 aI, .int .i64 aC, .int .i64 aH, .int .i64 bz, .int .i64 bD, .slice dG aQ.length dH], .int .i64 200] rfl (by (try simp only [List.map_toArray, List.map_cons, List.map_nil]); rfl) ?_; (with_reducible refine (dw.calls k au aI aC aH bz bD _ _ aQ 200 t105 _ ?tK ?yR A2.out).mono ?_); (case tK => repeat (exact (Kd.gV Qg.out HB.out))); (case yR => exact aeI.out); rintro e w5 ⟨rfl, hb⟩; refine ⟨_, rfl, ?_⟩; replace pI := ae.mk (aJ pI.out hb); replace HB := ae.mk (ak (by repeat ((with_reducible exact HB.out))) hb); (try clear hb)))
 go_ret
 exact ⟨by rfl, by repeat ((with_reducible exact HB.out))⟩
mutual
def dB.l0 : Nat → List (ai) → Int → Int → Int → Int → Int → Int → Int → Int → List (ai) → Option ((List (ai)))
 | 0, _, _, _, _, _, _, _, _, _, _ => none
 | k + 1, x3, x9, x10, aa6, aa7, aa8, aa9, aa_, aa', tY => if x10 < x9 then (if 0 ≤ x10 then (if x10 < (tY.length : Int) then ((dB.f k ((aA tY x10).f0) ((aA tY x10).f1.f0) ((aA tY x10).f1.f1) ((aA tY x10).f1.f2) ((aA tY x10).f1.f3) ((aA tY x10).f2) ((aA tY x10).f3)).bind fun t136 => (if x3.length + t136.length < 1954687338268 then (dB.l0 k (x3 ++ t136) x9 (wrap64 (x10 + 1)) aa6 aa7 aa8 aa9 aa_ aa' tY) else (none))) else (none)) else (none)) else (some x3)
def dB.f : Nat → Int → Int → Int → Int → Int → Int → List (ai) → Option ((List (ai)))
 | 0, _, _, _, _, _, _, _ => none
 | k + 1, au, aI, aC, aH, bz, bD, aQ => dB.l0 k (([(⟨au, (⟨aI, aC, aH, bz⟩ : dD), bD, aQ⟩ : ai)] : List (ai))) (aQ.length : Int) 0 au aI aC aH bz bD aQ
end
theorem dB.calls (k : Nat) : ∀ (au : Int) (aI : Int) (aC : Int) (aH : Int) (bz : Int) (bD : Int) (eY : Nat → Prop) (dG : Option Addr) (dH : Nat) (aQ : List (ai)) (r : List (ai)) (w : World) (EC : Kd.V k26 26 w w.heap.size (fun k_ => eY k_) (.slice dG aQ.length dH) aQ) (h : dB.f k au aI aC aH bz bD aQ = some r),
  Calls Try.prog 79 #[.agg #[.int .u8 au, .int .i64 aI, .int .i64 aC, .int .i64 aH, .int .i64 bz, .int .i64 bD, .slice dG aQ.length dH]] w fun e w' => ∃ vH : Value, e = .returned (vH) ∧ Kd.N k26 26 w' w.heap.size (fun k_ => (eY k_ ∨ w.heap.size ≤ k_)) vH r ∧ Below w.heap.size w w' := by
 induction k using Nat.strongRecOn with
 | _ k ih =>
 intro au aI aC aH bz bD eY dG dH aQ r w EC h
 cases k with
 | zero => exact absurd h (by simp [dB.f])
 | succ k =>
 simp only [dB.f] at h
 have IL := Try.underlying26
 have jb := ae.mk (show Kd.V k26 26 w w.heap.size (fun k_ => (eY k_ ∨ w.heap.size ≤ k_)) (.slice dG aQ.length dH) aQ from Kd.gu EC (fun k_ hk => .inl hk))
 have HB := ae.mk (Below.refl w.heap.size w)
 have H : (dB.l0 k (([(⟨au, (⟨aI, aC, aH, bz⟩ : dD), bD, aQ⟩ : ai)] : List (ai))) (aQ.length : Int) 0 au aI aC aH bz bD aQ) = some r := h
 clear h
 obtain ⟨aeB, QL⟩ : ∃ y_ : List (ai), y_ = (([(⟨au, (⟨aI, aC, aH, bz⟩ : dD), bD, aQ⟩ : ai)] : List (ai))) := ⟨_, rfl⟩
 replace H : (dB.l0 k aeB (aQ.length : Int) 0 au aI aC aH bz bD aQ) = some r := by (rw [QL]; with_reducible exact H)
 have aeR := ae.mk QL
 clear QL
 have H' := ae.mk H
 clear H
 go_enter Try.func79, Try.ntmps79
 go_wp2_with (first | ((with_reducible refine aG (N := 1) rfl ?_); refine aT ?hg (N := 1) ?hd (cs := #[.int .u8 au, .int .i64 aI, .int .i64 aC, .int .i64 aH, .int .i64 bz, .int .i64 bD, .slice dG aQ.length dH]) (t := 26) ?hr ?_; (case hd => rfl); (case hg => rfl); (case hr => (go_simp; done)); intro gz hg w2 hbox hb; have dW := ae.mk (hbox); replace jb := ae.mk (Kd.ja (Kd.nK jb.out gz (Nat.le_of_eq hg.symm)) hb); replace HB := ae.mk (ak (by repeat ((with_reducible exact HB.out))) hb); clear hb hbox hg; have ac9 : w2.cell? ⟨gz, 0, none⟩ = some (.int .u8 au) := (af dW.out 0).trans rfl; have ac_ : w2.cell? ⟨gz, 1, none⟩ = some (.int .i64 aI) := (af dW.out 1).trans rfl; have ac' : w2.cell? ⟨gz, 2, none⟩ = some (.int .i64 aC) := (af dW.out 2).trans rfl; have ada : w2.cell? ⟨gz, 3, none⟩ = some (.int .i64 aH) := (af dW.out 3).trans rfl; have adb : w2.cell? ⟨gz, 4, none⟩ = some (.int .i64 bz) := (af dW.out 4).trans rfl; have ade : w2.cell? ⟨gz, 5, none⟩ = some (.int .i64 bD) := (af dW.out 5).trans rfl; have adf : w2.cell? ⟨gz, 6, none⟩ = some (.slice dG aQ.length dH) := (af dW.out 6).trans rfl; have adw := ah dW.out 0; have adx := ah dW.out 1; have ady := ah dW.out 2; have adz := ah dW.out 3; have adA := ah dW.out 4; have adC := ah dW.out 5; have adD := ah dW.out 6) | ((with_reducible refine aG (N := 6) rfl ?_); refine Kd.yJ k26 _ 26 ?hg (N' := 6) ?hd (xs := ([(⟨au, (⟨aI, aC, aH, bz⟩ : dD), bD, aQ⟩ : ai)] : List (ai))) (inner := [.int .u8 au, .int .i64 aI, .int .i64 aC, .int .i64 aH, .int .i64 bz, .int .i64 bD, .slice dG aQ.length dH]) (ok := (fun k_ => (eY k_ ∨ w.heap.size ≤ k_) ∧ k_ ≠ gz)) (fD := (fun k_ => (eY k_ ∨ w.heap.size ≤ k_) ∧ k_ ≠ gz)) ?hr ?hp (fun _ hk => hk) ((show ∀ k_, w2.heap.size ≤ k_ → (fun k_ => (eY k_ ∨ w.heap.size ≤ k_) ∧ k_ ≠ gz) k_ from fun k_ hk => ⟨(.inr (Nat.le_trans (dR (by repeat ((with_reducible exact HB.out)))) hk)), Kd.zo dW.out k_ hk⟩) _ (Nat.le_refl _)) (Below.refl _ _) (Nat.le_refl _) (by simp) ?_; (case hd => rfl); (case hg => rfl); (case hr => (go_simp; done)); (case hp => exact (bW.c7 (show Kd.FK k26 _ _ (⟨au, (⟨aI, aC, aH, bz⟩ : dD), bD, aQ⟩ : ai) [.int .u8 au, .int .i64 aI, .int .i64 aC, .int .i64 aH, .int .i64 bz, .int .i64 bD, .slice dG aQ.length dH] from (oC _ _ (⟨au, (⟨aI, aC, aH, bz⟩ : dD), bD, aQ⟩ : ai) (Kd.kP (Kd.gu (ok' := (fun k_ => (eY k_ ∨ w.heap.size ≤ k_) ∧ k_ ≠ gz)) (jb.out) (fun k_ hk => ⟨hk.1, hk.2⟩))).2.1 (Kd.Sz (Kd.gu (ok' := (fun k_ => (eY k_ ∨ w.heap.size ≤ k_) ∧ k_ ≠ gz)) (jb.out) (fun k_ hk => ⟨hk.1, hk.2⟩))))) (bW.none _ _))); intro akC w4 GY hb nO ji; clear nO ji; (rw [← aeR.out] at GY); have aeJ := ae.mk (Kd.uY GY (dR (by repeat ((with_reducible exact HB.out))))); replace jb := ae.mk (Kd.wR jb.out (Kd.vN GY) hb); replace dW := ae.mk (aJ dW.out hb); replace HB := ae.mk (ak (by repeat ((with_reducible exact HB.out))) hb); clear hb GY; have Du : w4.cell? ⟨gz, 0, none⟩ = some (.int .u8 au) := (af dW.out 0).trans rfl; have Dv : w4.cell? ⟨gz, 1, none⟩ = some (.int .i64 aI) := (af dW.out 1).trans rfl; have Dw : w4.cell? ⟨gz, 2, none⟩ = some (.int .i64 aC) := (af dW.out 2).trans rfl; have Dx : w4.cell? ⟨gz, 3, none⟩ = some (.int .i64 aH) := (af dW.out 3).trans rfl; have Dy : w4.cell? ⟨gz, 4, none⟩ = some (.int .i64 bz) := (af dW.out 4).trans rfl; have Dz : w4.cell? ⟨gz, 5, none⟩ = some (.int .i64 bD) := (af dW.out 5).trans rfl; have DC : w4.cell? ⟨gz, 6, none⟩ = some (.slice dG aQ.length dH) := (af dW.out 6).trans rfl; have DD := ah dW.out 0; have DF := ah dW.out 1; have DI := ah dW.out 2; have DJ := ah dW.out 3; have DK := ah dW.out 4; have DL := ah dW.out 5; have DN := ah dW.out 6))
 go_loopg [3, 10] k (fun kq v3 v10 w' => ∃ (uj : List (ai)) (dL : Int), v10 = .int .i64 dL ∧ ae (dB.l0 kq uj (aQ.length : Int) dL au aI aC aH bz bD aQ = some r) ∧ ae (kq ≤ k) ∧ ae (Kd.N k26 26 w' w.heap.size (fun k_ => (eY k_ ∨ w.heap.size ≤ k_) ∧ k_ ≠ gz) v3 uj) ∧ ae (Kd.V k26 26 w' w.heap.size (fun k_ => (eY k_ ∨ w.heap.size ≤ k_) ∧ some k_ ≠ (v3 : Value).ownBlock ∧ k_ ≠ gz) (.slice dG aQ.length dH) aQ) ∧ ae (w'.heap[gz]? = some (.cells #[.int .u8 au, .int .i64 aI, .int .i64 aC, .int .i64 aH, .int .i64 bz, .int .i64 bD, (.slice dG aQ.length dH)] 26 (0, 0))) ∧ ae (Below w.heap.size w w'))
 case atStart => exact ⟨(aeB), (0), (by rfl), H', ⟨Nat.le_refl _⟩, ⟨by exact aeJ.out⟩, ⟨by exact Kd.gu jb.out (fun _ hk => ⟨hk.1.1, ⟨hk.2, hk.1.2⟩⟩)⟩, ⟨by exact dW.out⟩, ⟨by repeat ((with_reducible exact HB.out))⟩⟩
 case round =>
  clear H'
  clear ac9 ac_ ac' ada adb ade adf Du Dv Dw Dx Dy Dz DC adw adx ady adz adA adC adD DD DF DI DJ DK DL DN
  obtain ⟨uj, dL, rfl, HA, nI, wQ, rQ, dW, HB⟩ := hrel
  cases gk with
  | zero => exact absurd HA.out (by simp [dB.l0])
  | succ k1 =>
   have H := HA.out
   clear HA
   simp only [dB.l0] at H
   by_cases c7 : dL < (aQ.length : Int)
   ·rw [if_pos c7] at H
    have wV : decide (dL < (aQ.length : Int)) = true := decide_eq_true c7
    clear c7
    by_cases c8 : 0 ≤ dL
    ·rw [if_pos c8] at H
     have Dj : decide (0 ≤ dL) = true := decide_eq_true c8
     clear c8
     by_cases c9 : dL < (aQ.length : Int)
     ·rw [if_pos c9] at H
      have L9 : decide (dL < (aQ.length : Int)) = true := decide_eq_true c9
      clear c9
      replace H := Option.bind_eq_some_iff.mp H
      obtain ⟨t136, abf, H⟩ := H
      replace H : (if uj.length + t136.length < 1954687338268 then (dB.l0 k1 (uj ++ t136) (aQ.length : Int) (wrap64 (dL + 1)) au aI aC aH bz bD aQ) else (none)) = some r := H
      have A10 := ae.mk abf
      clear abf
      by_cases c11 : uj.length + t136.length < 1954687338268
      ·rw [if_pos c11] at H
       have aeP := ae.mk c11
       clear c11
       obtain ⟨aeC, QM⟩ : ∃ y_ : List (ai), y_ = (uj ++ t136) := ⟨_, rfl⟩
       replace H : (dB.l0 k1 aeC (aQ.length : Int) (wrap64 (dL + 1)) au aI aC aH bz bD aQ) = some r := by (rw [QM]; with_reducible exact H)
       have aeS := ae.mk QM
       clear QM
       have H' := ae.mk H
       clear H
       have Y0 : wr.cell? ⟨gz, 0, none⟩ = some (.int .u8 au) := (af dW.out 0).trans rfl
       have Y1 : wr.cell? ⟨gz, 1, none⟩ = some (.int .i64 aI) := (af dW.out 1).trans rfl
       have Y2 : wr.cell? ⟨gz, 2, none⟩ = some (.int .i64 aC) := (af dW.out 2).trans rfl
       have Y3 : wr.cell? ⟨gz, 3, none⟩ = some (.int .i64 aH) := (af dW.out 3).trans rfl
       have ahs : wr.cell? ⟨gz, 4, none⟩ = some (.int .i64 bz) := (af dW.out 4).trans rfl
       have aht : wr.cell? ⟨gz, 5, none⟩ = some (.int .i64 bD) := (af dW.out 5).trans rfl
       have ahu : wr.cell? ⟨gz, 6, none⟩ = some (.slice dG aQ.length dH) := (af dW.out 6).trans rfl
       have ZC := ah dW.out 0
       have ZE := ah dW.out 1
       have ZF := ah dW.out 2
       have ZG := ah dW.out 3
       have ahK := ah dW.out 4
       have ahL := ah dW.out 5
       have ahM := ah dW.out 6
       have QW : 0 ≤ (dL : Int) := of_decide_eq_true (by (with_reducible assumption))
       have Q7 : dL < (aQ.length : Int) := of_decide_eq_true (by (with_reducible assumption))
       obtain ⟨aj2, abh, acm, agW, ahZ, ah0, ah1, ah2, ah3, ah4, aah, aaf, aad⟩ := rW (Kd.kP rQ.out).2.2 dL QW Q7
       cases agW
       obtain ⟨aj9, ac7, ac4, Tt⟩ := Kd.ae3 rQ.out z26 dL QW Q7
       obtain ⟨aia, aic, rfl, Jc, Ip⟩ := ni ac4
       have ED := Tt 6 _ rfl
       rw [jI _ _ 6 (by omega)] at ED
       replace ED := Option.some.inj (ED.symm.trans aah)
       injection ED with zu FV zx
       rw [zu] at Ip
       rw [zx] at Jc
       have AP := ae.mk (show Kd.V k26 26 _ w.heap.size _ _ ((aA aQ dL).f3) from Kd.wU Jc Ip)
       clear zu FV zx Ip Jc
       clear Tt ac7
       clear aad aaf
       replace QW := eq_true QW
       replace Q7 := eq_true Q7
       go_wp2_with (first | ((with_reducible refine kM (f := 79) rfl ?_); refine mM (some 19) rfl rfl Try.func79 (by kernel_rfl) rfl #[.agg #[.int .u8 ((aA aQ dL).f0), .int .i64 ((aA aQ dL).f1.f0), .int .i64 ((aA aQ dL).f1.f1), .int .i64 ((aA aQ dL).f1.f2), .int .i64 ((aA aQ dL).f1.f3), .int .i64 ((aA aQ dL).f2), .slice abh ((aA aQ dL).f3).length acm]] rfl (by (try simp only [List.map_toArray, List.map_cons, List.map_nil]); rfl) ?_; (with_reducible refine (ih k1 (by have := nI.out; omega) ((aA aQ dL).f0) ((aA aQ dL).f1.f0) ((aA aQ dL).f1.f1) ((aA aQ dL).f1.f2) ((aA aQ dL).f1.f3) ((aA aQ dL).f2) (fun k_ => ((eY k_ ∨ w.heap.size ≤ k_) ∧ (some k_ ≠ (u3 : Value).ownBlock ∧ k_ ≠ gz))) _ _ ((aA aQ dL).f3) t136 _ ?tK A10.out).mono ?_); (case tK => exact AP.out); rintro e uf ⟨akD, rfl, ho0, hb⟩; refine ⟨_, rfl, ?_⟩; have J8 := ae.mk (Kd.uY (Kd.iH (ok' := fun k_ => (eY k_ ∨ w.heap.size ≤ k_) ∧ some k_ ≠ (u3 : Value).ownBlock ∧ k_ ≠ gz) ho0 (fun k_ NF => ⟨Or.elim NF (fun hs_ => hs_.1) (fun DR => (.inr (Nat.le_trans (dR (by repeat ((with_reducible exact HB.out)))) DR))), Or.elim NF (fun hs_ => hs_.2.1) (fun DR => (Kd.fresh' (Kd.Fv wQ.out) k_ DR)), Or.elim NF (fun hs_ => hs_.2.2) (fun DR => (Kd.zo dW.out k_ DR))⟩)) (dR (by repeat ((with_reducible exact HB.out))))); replace wQ := ae.mk (Kd.Ld wQ.out (Kd.vN ho0) hb); replace rQ := ae.mk (Kd.wR rQ.out (Kd.vN ho0) hb); replace AP := ae.mk (Kd.wR AP.out (Kd.vN ho0) hb); replace dW := ae.mk (aJ dW.out hb); replace HB := ae.mk (ak (by repeat ((with_reducible exact HB.out))) hb); (try clear hb); (try clear ho0); obtain ⟨Vh, VN, VY⟩ := Kd.jw J8.out; subst VY) | ((with_reducible refine v_ (b := .append) (xs := #[.tmp 13, .tmp 19]) rfl ?_); at_builtin; refine Kd.CG k26 (w0 := w) w.heap.size rfl (.tmp 13) (.tmp 19) 24 26 (.agg #[(.int .u8 0), (.int .i64 0), (.int .i64 0), (.int .i64 0), (.int .i64 0), (.int .i64 0), (.slice none 0 0)]) 72 rfl Try.underlying24 info26 rfl (by decide) (by omega) u3 uj t136 _ _ _ (fun k_ => (eY k_ ∨ w.heap.size ≤ k_) ∧ k_ ≠ gz) (fun k_ => ((fun k_ => (eY k_ ∨ w.heap.size ≤ k_) ∧ k_ ≠ gz)) k_ ∧ some k_ ≠ (u3 : Value).ownBlock) rfl rfl ?aO ?aR (fun _ hk => hk) ?aF ?aB ?aS ?aL ?_; (case aR => exact (by exact Kd.XI (Kd.iH (ok' := (fun k_ => ((fun k_ => (eY k_ ∨ w.heap.size ≤ k_) ∧ k_ ≠ gz)) k_ ∧ some k_ ≠ (u3 : Value).ownBlock)) (J8.out) (fun k_ hk => ⟨⟨hk.1, hk.2.2⟩, hk.2.1⟩)))); (case aB => exact (by repeat ((with_reducible exact HB.out)))); (case aF => exact (fun k_ hk => ⟨(.inr (Nat.le_trans (dR (by repeat ((with_reducible exact HB.out)))) hk)), Kd.zo dW.out k_ hk⟩)); (case aO => exact (by exact Kd.iH wQ.out (fun _ hk => ⟨hk.1.1, hk.1.2⟩))); (case aS => exact (dR (by repeat ((with_reducible exact HB.out))))); (case aL => have := aeP.out; omega); intro akE w14 ho hb hg hat; rw [← aeS.out] at ho; have aeK := ae.mk (ho); replace rQ := ae.mk (Kd.BF (ok := (fun k_ => (eY k_ ∨ w.heap.size ≤ k_) ∧ some k_ ≠ (.slice Vh t136.length VN : Value).ownBlock ∧ k_ ≠ gz)) (by exact Kd.gu rQ.out (fun _ hk => ⟨⟨hk.1.1, ⟨hk.2, hk.1.2.2⟩⟩, hk.1.2.1⟩)) hg hat); replace dW := ae.mk (df dW.out hg (Kd.R_ wQ.out (fun _ hk => hk.1.2))); replace AP := ae.mk (Kd.BF (ok := (fun k_ => (eY k_ ∨ w.heap.size ≤ k_) ∧ some k_ ≠ (.slice Vh t136.length VN : Value).ownBlock ∧ k_ ≠ gz)) (by exact Kd.gu AP.out (fun _ hk => ⟨⟨hk.1.1, ⟨hk.2, hk.1.2.2⟩⟩, hk.1.2.1⟩)) hg hat); replace J8 := ae.mk (Kd.Lc (ok := (fun k_ => (eY k_ ∨ w.heap.size ≤ k_) ∧ k_ ≠ gz)) (by exact Kd.iH J8.out (fun _ hk => ⟨⟨hk.1, hk.2.2⟩, hk.2.1⟩)) hg hat); replace HB := ae.mk (hb); clear wQ; clear ho hb hg hat))
       go_roundg k1
       case measure => have := nI.out; omega
       case rel => exact ⟨(aeC), (wrap64 (dL + 1)), (by rfl), H', ⟨by have := nI.out; omega⟩, ⟨by exact aeK.out⟩, ⟨by exact Kd.gu rQ.out (fun _ hk => ⟨hk.1.1, ⟨hk.2, hk.1.2.2⟩⟩)⟩, ⟨by exact dW.out⟩, ⟨by repeat ((with_reducible exact HB.out))⟩⟩
      ·rw [if_neg c11] at H
       exact absurd H (by simp)
     ·rw [if_neg c9] at H
      exact absurd H (by simp)
    ·rw [if_neg c8] at H
     exact absurd H (by simp)
   ·rw [if_neg c7] at H
    have wV : decide (dL < (aQ.length : Int)) = false := decide_eq_false c7
    clear c7
    obtain rfl := Option.some.inj H
    go_wp2
    go_ret
    exact ⟨_, by rfl, by exact Kd.iH wQ.out (fun _ hk => hk.1), by repeat ((with_reducible exact HB.out))⟩
def dJ.l0 : Nat → List (ai) → List (ai) → Int → Int → Option ((List (ai)))
 | 0, _, _, _, _ => none
 | k + 1, x3, x4, x10, x11 => if x11 < x10 then (if 0 ≤ x11 then (if x11 < (x4.length : Int) then (if ((aA x4 x11).f0) = 1 then (if x3.length < 1954687338268 then (dJ.l0 k (x3 ++ [(⟨(aA x4 x11).f0, (⟨(aA x4 x11).f1.f0, (aA x4 x11).f1.f1, (aA x4 x11).f1.f2, (aA x4 x11).f1.f3⟩ : dD), (aA x4 x11).f2, (aA x4 x11).f3⟩ : ai)]) x4 x10 (wrap64 (x11 + 1))) else (none)) else (dJ.l0 k x3 x4 x10 (wrap64 (x11 + 1)))) else (none)) else (none)) else (some x3)
def dJ.f (k : Nat) (au : Int) (aI : Int) (aC : Int) (aH : Int) (bz : Int) (bD : Int) (aQ : List (ai)) : Option ((List (ai))) := (dB.f k au aI aC aH bz bD aQ).bind fun t146 => (dJ.l0 k (([] : List (ai))) t146 (t146.length : Int) 0)
theorem dJ.calls (k : Nat) (au : Int) (aI : Int) (aC : Int) (aH : Int) (bz : Int) (bD : Int) (eY : Nat → Prop) (dG : Option Addr) (dH : Nat) (aQ : List (ai)) (r : List (ai)) (w : World) (EC : Kd.V k26 26 w w.heap.size (fun k_ => eY k_) (.slice dG aQ.length dH) aQ) (h : dJ.f k au aI aC aH bz bD aQ = some r) :
  Calls Try.prog 126 #[.agg #[.int .u8 au, .int .i64 aI, .int .i64 aC, .int .i64 aH, .int .i64 bz, .int .i64 bD, .slice dG aQ.length dH]] w fun e w' => ∃ vH : Value, e = .returned (vH) ∧ Kd.N k26 26 w' w.heap.size (fun k_ => (eY k_ ∨ w.heap.size ≤ k_)) vH r ∧ Below w.heap.size w w' := by
 have IL := Try.underlying26
 have jb := ae.mk (show Kd.V k26 26 w w.heap.size (fun k_ => (eY k_ ∨ w.heap.size ≤ k_)) (.slice dG aQ.length dH) aQ from Kd.gu EC (fun k_ hk => .inl hk))
 have HB := ae.mk (Below.refl w.heap.size w)
 have H : ((dB.f k au aI aC aH bz bD aQ).bind fun t146 => (dJ.l0 k (([] : List (ai))) t146 (t146.length : Int) 0)) = some r := h
 clear h
 obtain ⟨Xx, QN⟩ : ∃ y_ : List (ai), y_ = (([] : List (ai))) := ⟨_, rfl⟩
 replace H : ((dB.f k au aI aC aH bz bD aQ).bind fun t146 => (dJ.l0 k Xx t146 (t146.length : Int) 0)) = some r := by (rw [QN]; with_reducible exact H)
 have aeT := ae.mk QN
 clear QN
 replace H := Option.bind_eq_some_iff.mp H
 obtain ⟨t146, RD, H⟩ := H
 replace H : (dJ.l0 k Xx t146 (t146.length : Int) 0) = some r := H
 have A2 := ae.mk RD
 clear RD
 have H' := ae.mk H
 clear H
 go_enter Try.func126, Try.ntmps126
 go_wp2_with (first | ((with_reducible refine aG (N := 1) rfl ?_); refine aT ?hg (N := 1) ?hd (cs := #[.int .u8 au, .int .i64 aI, .int .i64 aC, .int .i64 aH, .int .i64 bz, .int .i64 bD, .slice dG aQ.length dH]) (t := 26) ?hr ?_; (case hd => rfl); (case hg => rfl); (case hr => (go_simp; done)); intro kJ hg w3 hbox hb; have jC := ae.mk (hbox); replace jb := ae.mk (Kd.ja (Kd.nK jb.out kJ (Nat.le_of_eq hg.symm)) hb); replace HB := ae.mk (ak (by repeat ((with_reducible exact HB.out))) hb); clear hb hbox hg) | ((with_reducible refine aG (N := 6) rfl ?_); refine Kd.yJ k26 _ 26 ?hg (N' := 6) ?hd (xs := ([] : List (ai))) (inner := []) (ok := (fun k_ => (eY k_ ∨ w.heap.size ≤ k_) ∧ k_ ≠ kJ)) (fD := (fun k_ => (eY k_ ∨ w.heap.size ≤ k_) ∧ k_ ≠ kJ)) ?hr ?hp (fun _ hk => hk) ((show ∀ k_, w3.heap.size ≤ k_ → (fun k_ => (eY k_ ∨ w.heap.size ≤ k_) ∧ k_ ≠ kJ) k_ from fun k_ hk => ⟨(.inr (Nat.le_trans (dR (by repeat ((with_reducible exact HB.out)))) hk)), Kd.zo jC.out k_ hk⟩) _ (Nat.le_refl _)) (Below.refl _ _) (Nat.le_refl _) (by simp) ?_; (case hd => rfl); (case hg => rfl); (case hr => (go_simp; done)); (case hp => exact (bW.none _ _)); intro aeu w4 GY hb nO ji; clear nO ji; (rw [← aeT.out] at GY); have J9 := ae.mk (Kd.uY GY (dR (by repeat ((with_reducible exact HB.out))))); replace jb := ae.mk (Kd.wR jb.out (Kd.vN GY) hb); replace jC := ae.mk (aJ jC.out hb); replace HB := ae.mk (ak (by repeat ((with_reducible exact HB.out))) hb); clear hb GY; have Du : w4.cell? ⟨kJ, 0, none⟩ = some (.int .u8 au) := (af jC.out 0).trans rfl; have Dv : w4.cell? ⟨kJ, 1, none⟩ = some (.int .i64 aI) := (af jC.out 1).trans rfl; have Dw : w4.cell? ⟨kJ, 2, none⟩ = some (.int .i64 aC) := (af jC.out 2).trans rfl; have Dx : w4.cell? ⟨kJ, 3, none⟩ = some (.int .i64 aH) := (af jC.out 3).trans rfl; have Dy : w4.cell? ⟨kJ, 4, none⟩ = some (.int .i64 bz) := (af jC.out 4).trans rfl; have Dz : w4.cell? ⟨kJ, 5, none⟩ = some (.int .i64 bD) := (af jC.out 5).trans rfl; have DC : w4.cell? ⟨kJ, 6, none⟩ = some (.slice dG aQ.length dH) := (af jC.out 6).trans rfl; have DD := ah jC.out 0; have DF := ah jC.out 1; have DI := ah jC.out 2; have DJ := ah jC.out 3; have DK := ah jC.out 4; have DL := ah jC.out 5; have DN := ah jC.out 6) | ((with_reducible refine kM (f := 79) rfl ?_); refine mM (some 8) rfl rfl Try.func79 (by kernel_rfl) rfl #[.agg #[.int .u8 au, .int .i64 aI, .int .i64 aC, .int .i64 aH, .int .i64 bz, .int .i64 bD, .slice dG aQ.length dH]] rfl (by (try simp only [List.map_toArray, List.map_cons, List.map_nil]); rfl) ?_; (with_reducible refine (dB.calls k au aI aC aH bz bD (fun k_ => (((eY k_ ∨ w.heap.size ≤ k_) ∧ k_ ≠ kJ) ∧ some k_ ≠ (aeu : Value).ownBlock)) _ _ aQ t146 _ ?tK A2.out).mono ?_); (case tK => exact jb.out); rintro e w7 ⟨akF, rfl, ho0, hb⟩; refine ⟨_, rfl, ?_⟩; have XC := ae.mk (Kd.uY (Kd.iH (ok' := fun k_ => (eY k_ ∨ w.heap.size ≤ k_) ∧ some k_ ≠ (aeu : Value).ownBlock ∧ k_ ≠ kJ) ho0 (fun k_ NF => ⟨Or.elim NF (fun hs_ => hs_.1.1) (fun DR => (.inr (Nat.le_trans (dR (by repeat ((with_reducible exact HB.out)))) DR))), Or.elim NF (fun hs_ => hs_.2) (fun DR => (Kd.fresh' (Kd.Fv J9.out) k_ DR)), Or.elim NF (fun hs_ => hs_.1.2) (fun DR => (Kd.zo jC.out k_ DR))⟩)) (dR (by repeat ((with_reducible exact HB.out))))); replace jb := ae.mk (Kd.wR jb.out (Kd.vN ho0) hb); replace J9 := ae.mk (Kd.Ld J9.out (Kd.vN ho0) hb); replace jC := ae.mk (aJ jC.out hb); replace HB := ae.mk (ak (by repeat ((with_reducible exact HB.out))) hb); (try clear hb); (try clear ho0); obtain ⟨Ao8, GM, eo8⟩ := Kd.jw XC.out; subst eo8))
 go_loopg [3, 11] k (fun kq v3 v11 w' => ∃ (uj : List (ai)) (bT : Int), v11 = .int .i64 bT ∧ ae (dJ.l0 kq uj t146 (t146.length : Int) bT = some r) ∧ ae (kq ≤ k) ∧ ae (Kd.N k26 26 w' w.heap.size (fun k_ => (eY k_ ∨ w.heap.size ≤ k_) ∧ some k_ ≠ ((.slice Ao8 t146.length GM) : Value).ownBlock ∧ k_ ≠ kJ) v3 uj) ∧ ae (Kd.N k26 26 w' w.heap.size (fun k_ => (eY k_ ∨ w.heap.size ≤ k_) ∧ some k_ ≠ (v3 : Value).ownBlock ∧ k_ ≠ kJ) (.slice Ao8 t146.length GM) t146) ∧ ae (Kd.V k26 26 w' w.heap.size (fun k_ => (eY k_ ∨ w.heap.size ≤ k_) ∧ some k_ ≠ (v3 : Value).ownBlock ∧ some k_ ≠ ((.slice Ao8 t146.length GM) : Value).ownBlock ∧ k_ ≠ kJ) (.slice dG aQ.length dH) aQ) ∧ ae (w'.heap[kJ]? = some (.cells #[.int .u8 au, .int .i64 aI, .int .i64 aC, .int .i64 aH, .int .i64 bz, .int .i64 bD, (.slice dG aQ.length dH)] 26 (0, 0))) ∧ ae (Below w.heap.size w w'))
 case atStart => exact ⟨(Xx), (0), (by rfl), H', ⟨Nat.le_refl _⟩, ⟨by exact Kd.iH J9.out (fun _ hk => ⟨hk.1.1, ⟨hk.2, hk.1.2⟩⟩)⟩, ⟨by exact XC.out⟩, ⟨by exact Kd.gu jb.out (fun _ hk => ⟨hk.1.1.1, ⟨hk.1.2, ⟨hk.2, hk.1.1.2⟩⟩⟩)⟩, ⟨by exact jC.out⟩, ⟨by repeat ((with_reducible exact HB.out))⟩⟩
 case round =>
  clear H'
  clear Du Dv Dw Dx Dy Dz DC DD DF DI DJ DK DL DN
  obtain ⟨uj, bT, rfl, HA, nI, wQ, yZ, zQ, jC, HB⟩ := hrel
  cases gk with
  | zero => exact absurd HA.out (by simp [dJ.l0])
  | succ k1 =>
   have H := HA.out
   clear HA
   simp only [dJ.l0] at H
   by_cases c9 : bT < (t146.length : Int)
   ·rw [if_pos c9] at H
    have L9 : decide (bT < (t146.length : Int)) = true := decide_eq_true c9
    clear c9
    by_cases c10 : 0 ≤ bT
    ·rw [if_pos c10] at H
     have Qp : decide (0 ≤ bT) = true := decide_eq_true c10
     clear c10
     by_cases c11 : bT < (t146.length : Int)
     ·rw [if_pos c11] at H
      have GH : decide (bT < (t146.length : Int)) = true := decide_eq_true c11
      clear c11
      by_cases c12 : ((aA t146 bT).f0) = 1
      ·rw [if_pos c12] at H
       have BJ : (((aA t146 bT).f0) == 1) = true := beq_iff_eq.mpr c12
       have GI : (((aA t146 bT).f0) != 1) = false := bne_eq_false_iff_eq.mpr c12
       clear c12
       by_cases c13 : uj.length < 1954687338268
       ·rw [if_pos c13] at H
        have aeQ := ae.mk c13
        clear c13
        obtain ⟨y151, hy151⟩ : ∃ y_ : List (ai), y_ = (uj ++ [(⟨(aA t146 bT).f0, (⟨(aA t146 bT).f1.f0, (aA t146 bT).f1.f1, (aA t146 bT).f1.f2, (aA t146 bT).f1.f3⟩ : dD), (aA t146 bT).f2, (aA t146 bT).f3⟩ : ai)]) := ⟨_, rfl⟩
        replace H : (dJ.l0 k1 y151 t146 (t146.length : Int) (wrap64 (bT + 1))) = some r := by (rw [hy151]; with_reducible exact H)
        have aeU := ae.mk hy151
        clear hy151
        have H' := ae.mk H
        clear H
        have Cc : 0 ≤ (bT : Int) := of_decide_eq_true (by (with_reducible assumption))
        have Ce : bT < (t146.length : Int) := of_decide_eq_true (by (with_reducible assumption))
        obtain ⟨zS, Rz, SE, VT, aai, aaj, aak, aal, aam, aan, EF, IK, II⟩ := rW (Kd.iI yZ.out).2.2 bT Cc Ce
        cases VT
        obtain ⟨afo, Nl, Na, Dt⟩ := Kd.Qh yZ.out z26 bT Cc Ce
        obtain ⟨aaW, aaX, rfl, Bv, Ba⟩ := ni Na
        have tC := Dt 6 _ rfl
        rw [jI _ _ 6 (by omega)] at tC
        replace tC := Option.some.inj (tC.symm.trans EF)
        injection tC with zu FV zx
        rw [zu] at Ba
        rw [zx] at Bv
        clear zu FV zx Ba Bv
        clear Dt Nl
        clear II IK
        replace Cc := eq_true Cc
        replace Ce := eq_true Ce
        have QX : 0 ≤ (bT : Int) := of_decide_eq_true (by (with_reducible assumption))
        have Q8 : bT < (t146.length : Int) := of_decide_eq_true (by (with_reducible assumption))
        obtain ⟨ae4, aih, aiX, agX, ah5, ah6, ah7, ah8, ah9, ah_, PE, aag, aae⟩ := rW (Kd.iI yZ.out).2.2 bT QX Q8
        obtain rfl : zS = ae4 := (by injection agX)
        obtain ⟨aj_, ac8, ac5, Tu⟩ := Kd.Qh yZ.out z26 bT QX Q8
        obtain ⟨aib, aid, rfl, Jd, Iq⟩ := ni ac5
        have EE := Tu 6 _ rfl
        rw [jI _ _ 6 (by omega)] at EE
        replace EE := Option.some.inj (EE.symm.trans PE)
        injection EE with zu FV zx
        rw [zu] at Iq
        rw [zx] at Jd
        have En := ae.mk (show Kd.V k26 26 _ w.heap.size _ _ ((aA t146 bT).f3) from Kd.wU Jd Iq)
        clear zu FV zx Iq Jd
        clear Tu ac8
        clear aae aag
        replace QX := eq_true QX
        replace Q8 := eq_true Q8
        have ea_ := Option.some.inj (EF.symm.trans PE)
        injection ea_ with ea_ en_ ec_
        subst ea_
        subst ec_
        clear en_
        go_wp2_with (((with_reducible refine v_ (b := .append) (xs := #[.tmp 20, .tmp 25]) rfl ?_); at_builtin; refine Kd.Vp k26 (w0 := w) w.heap.size rfl (.tmp 20) (.tmp 25) 24 26 (.agg #[(.int .u8 0), (.int .i64 0), (.int .i64 0), (.int .i64 0), (.int .i64 0), (.int .i64 0), (.slice none 0 0)]) 72 rfl Try.underlying24 info26 rfl (by decide) (by omega) u3 uj (⟨(aA t146 bT).f0, (⟨(aA t146 bT).f1.f0, (aA t146 bT).f1.f1, (aA t146 bT).f1.f2, (aA t146 bT).f1.f3⟩ : dD), (aA t146 bT).f2, (aA t146 bT).f3⟩ : ai) [.int .u8 ((aA t146 bT).f0), .int .i64 ((aA t146 bT).f1.f0), .int .i64 ((aA t146 bT).f1.f1), .int .i64 ((aA t146 bT).f1.f2), .int .i64 ((aA t146 bT).f1.f3), .int .i64 ((aA t146 bT).f2), .slice Rz ((aA t146 bT).f3).length SE] (fun k_ => (eY k_ ∨ w.heap.size ≤ k_) ∧ some k_ ≠ (.slice (some zS) t146.length GM : Value).ownBlock ∧ k_ ≠ kJ) (fun k_ => ((fun k_ => (eY k_ ∨ w.heap.size ≤ k_) ∧ some k_ ≠ (.slice (some zS) t146.length GM : Value).ownBlock ∧ k_ ≠ kJ)) k_ ∧ some k_ ≠ (u3 : Value).ownBlock) rfl rfl ?aP (fun _ hk => hk) ?aF ?aO ?aB ?aS ?aL ?_; (case aP => exact (oC _ _ (⟨(aA t146 bT).f0, (⟨(aA t146 bT).f1.f0, (aA t146 bT).f1.f1, (aA t146 bT).f1.f2, (aA t146 bT).f1.f3⟩ : dD), (aA t146 bT).f2, (aA t146 bT).f3⟩ : ai) (Kd.kP (Kd.gu (ok' := (fun k_ => ((fun k_ => (eY k_ ∨ w.heap.size ≤ k_) ∧ some k_ ≠ (.slice (some zS) t146.length GM : Value).ownBlock ∧ k_ ≠ kJ)) k_ ∧ some k_ ≠ (u3 : Value).ownBlock)) (En.out) (fun k_ hk => ⟨⟨hk.1.1, ⟨hk.2, hk.1.2.2⟩⟩, hk.1.2.1⟩))).2.1 (Kd.Sz (Kd.gu (ok' := (fun k_ => ((fun k_ => (eY k_ ∨ w.heap.size ≤ k_) ∧ some k_ ≠ (.slice (some zS) t146.length GM : Value).ownBlock ∧ k_ ≠ kJ)) k_ ∧ some k_ ≠ (u3 : Value).ownBlock)) (En.out) (fun k_ hk => ⟨⟨hk.1.1, ⟨hk.2, hk.1.2.2⟩⟩, hk.1.2.1⟩))))); (case aB => exact (by repeat ((with_reducible exact HB.out)))); (case aF => exact (fun k_ hk => ⟨(.inr (Nat.le_trans (dR (by repeat ((with_reducible exact HB.out)))) hk)), Kd.fresh' (Kd.Fv yZ.out) k_ hk, Kd.zo jC.out k_ hk⟩)); (case aO => exact wQ.out); (case aS => exact (dR (by repeat ((with_reducible exact HB.out))))); (case aL => have := aeQ.out; omega); intro v152 w14 ho hb hg hat; rw [← aeU.out] at ho; have aeL := ae.mk (ho); replace yZ := ae.mk (Kd.Lc (ok := (fun k_ => (eY k_ ∨ w.heap.size ≤ k_) ∧ k_ ≠ kJ)) (by exact Kd.iH yZ.out (fun _ hk => ⟨⟨hk.1, hk.2.2⟩, hk.2.1⟩)) hg hat); replace zQ := ae.mk (Kd.BF (ok := (fun k_ => (eY k_ ∨ w.heap.size ≤ k_) ∧ some k_ ≠ (.slice (some zS) t146.length GM : Value).ownBlock ∧ k_ ≠ kJ)) (by exact Kd.gu zQ.out (fun _ hk => ⟨⟨hk.1, ⟨hk.2.2.1, hk.2.2.2⟩⟩, hk.2.1⟩)) hg hat); replace jC := ae.mk (df jC.out hg (Kd.R_ wQ.out (fun _ hk => hk.2.2))); replace En := ae.mk (Kd.BF (ok := (fun k_ => (eY k_ ∨ w.heap.size ≤ k_) ∧ some k_ ≠ (.slice (some zS) t146.length GM : Value).ownBlock ∧ k_ ≠ kJ)) (by exact Kd.gu En.out (fun _ hk => ⟨⟨hk.1.1, ⟨hk.2, hk.1.2.2⟩⟩, hk.1.2.1⟩)) hg hat); replace HB := ae.mk (hb); clear wQ; clear ho hb hg hat))
        go_roundg k1
        case measure => have := nI.out; omega
        case rel => exact ⟨(y151), (wrap64 (bT + 1)), (by rfl), H', ⟨by have := nI.out; omega⟩, ⟨by exact aeL.out⟩, ⟨by exact Kd.iH yZ.out (fun _ hk => ⟨hk.1.1, ⟨hk.2, hk.1.2⟩⟩)⟩, ⟨by exact Kd.gu zQ.out (fun _ hk => ⟨hk.1.1, ⟨hk.2, ⟨hk.1.2.1, hk.1.2.2⟩⟩⟩)⟩, ⟨by exact jC.out⟩, ⟨by repeat ((with_reducible exact HB.out))⟩⟩
       ·rw [if_neg c13] at H
        exact absurd H (by simp)
      ·rw [if_neg c12] at H
       have BJ : (((aA t146 bT).f0) == 1) = false := beq_eq_false_iff_ne.mpr c12
       have GI : (((aA t146 bT).f0) != 1) = true := bne_iff_ne.mpr c12
       have H' := ae.mk H
       clear H
       have Cc : 0 ≤ (bT : Int) := of_decide_eq_true (by (with_reducible assumption))
       have Ce : bT < (t146.length : Int) := of_decide_eq_true (by (with_reducible assumption))
       obtain ⟨zS, Rz, SE, VT, aai, aaj, aak, aal, aam, aan, EF, IK, II⟩ := rW (Kd.iI yZ.out).2.2 bT Cc Ce
       cases VT
       obtain ⟨afo, Nl, Na, Dt⟩ := Kd.Qh yZ.out z26 bT Cc Ce
       obtain ⟨aaW, aaX, rfl, Bv, Ba⟩ := ni Na
       have tC := Dt 6 _ rfl
       rw [jI _ _ 6 (by omega)] at tC
       replace tC := Option.some.inj (tC.symm.trans EF)
       injection tC with zu FV zx
       rw [zu] at Ba
       rw [zx] at Bv
       clear zu FV zx Ba Bv
       clear Dt Nl
       clear II IK
       replace Cc := eq_true Cc
       replace Ce := eq_true Ce
       go_wp2
       go_roundg k1
       case measure => have := nI.out; omega
       case rel => exact ⟨(uj), (wrap64 (bT + 1)), (by rfl), H', ⟨by have := nI.out; omega⟩, ⟨by exact wQ.out⟩, ⟨by exact yZ.out⟩, ⟨by exact zQ.out⟩, ⟨by exact jC.out⟩, ⟨by repeat ((with_reducible exact HB.out))⟩⟩
     ·rw [if_neg c11] at H
      exact absurd H (by simp)
    ·rw [if_neg c10] at H
     exact absurd H (by simp)
   ·rw [if_neg c9] at H
    have L9 : decide (bT < (t146.length : Int)) = false := decide_eq_false c9
    clear c9
    obtain rfl := Option.some.inj H
    go_wp2
    go_ret
    exact ⟨_, by rfl, by exact Kd.iH wQ.out (fun _ hk => hk.1), by repeat ((with_reducible exact HB.out))⟩
end Go.Proofs.Ytfdmfgaiblfbhaa.P
namespace Go.Proofs.Ytfdmfgaiblfbhaa.P
open Go.RowKit Go.Proofs.ag.aK Go.Proofs.ag.bG Go.Proofs.ag.bV
theorem lu (pre : List ai) (p : ai) (rest : List ai) : aA (pre ++ p :: rest) (pre.length : Int) = p := by
 simp [aA, List.getD_eq_getElem?_getD]
theorem Rt {α : Type} (pre : List α) (p : α) (rest : List α) (h : (pre ++ p :: rest).length ≤ 9223372036854775807) : wrap64 ((pre.length : Int) + 1) = ((pre ++ [p]).length : Int) := by
 simp only [List.length_append, List.length_cons, List.length_nil] at h ⊢
 rw [wq (by omega) (by omega)]
 omega
theorem VO (L : Int) : ∀ (N : Nat) (c : ai), sz c ≤ N → N ≤ 1048576 → ∃ n : Int, Ev (fun k => dw.f k c.f0 c.f1.f0 c.f1.f1 c.f1.f2 c.f1.f3 c.f2 c.f3 L) n ∧ 1 ≤ n ∧ n ≤ (sz c : Int) ∧ (n > L ∨ n = (sz c : Int)) := by
 intro N
 induction N with
 | zero => intro c h _; rw [cO] at h; omega
 | succ N ih =>
  intro c hc hN
  have hs := cO c
  have key : ∀ (rest pre : List ai), pre ++ rest = c.f3 → ∀ acc : Int, 1 ≤ acc → acc + (dI rest : Int) ≤ 1048576 → (acc > L ∨ acc = 1 + (dI pre : Int)) →
    ∃ n : Int, Ev (fun k => dw.l0 k L acc (c.f3.length : Int) (pre.length : Int) c.f0 c.f1.f0 c.f1.f1 c.f1.f2 c.f1.f3 c.f2 c.f3) n ∧ acc ≤ n ∧ n ≤ acc + (dI rest : Int) ∧ (n > L ∨ n = 1 + (dI c.f3 : Int)) := by
   intro rest
   induction rest with
   | nil =>
    intro pre hp acc h1 h2 h3
    rw [List.append_nil] at hp
    refine ⟨acc, Ev.step (f := fun _ => some acc) (fun k => ?_) (Ev.now _), by omega, by omega, by rw [← hp]; exact h3⟩
    simp only [dw.l0]
    rw [if_neg (by rw [hp]; omega)]
   | cons x xs ihr =>
    intro pre hp acc h1 h2 h3
    have hl : (pre.length : Int) < (c.f3.length : Int) := by rw [← hp, List.length_append, List.length_cons]; omega
    have hlen := ik c.f3
    by_cases hL : acc > L
    ·refine ⟨acc, Ev.step (f := fun _ => some acc) (fun k => ?_) (Ev.now _), by omega, by omega, .inl hL⟩
     simp only [dw.l0]
     rw [if_pos hl, if_pos hL]
    ·have h3' : acc = 1 + (dI pre : Int) := by omega
     have hsum : dI c.f3 = dI pre + (sz x + dI xs) := by rw [← hp, nG, bY]
     obtain ⟨n1, e1, a1, b1, c1⟩ := ih x (by omega) (by omega)
     rw [bY] at h2
     obtain ⟨n, e2, a2, b2, c2⟩ := ihr (pre ++ [x]) (by rw [List.append_assoc]; exact hp) (acc + n1) (by omega) (by omega) (by
      rw [nG, bY, xk]
      omega)
     refine ⟨n, ?_, by omega, by rw [bY]; omega, c2⟩
     have hw : wrap64 (acc + n1) = acc + n1 := wq (by omega) (by omega)
     have hr : aA c.f3 (pre.length : Int) = x := by rw [← hp]; exact lu pre x xs
     have hu : wrap64 ((pre.length : Int) + 1) = ((pre ++ [x]).length : Int) := Rt pre x xs (by rw [hp]; omega)
     refine Ev.step (f := fun k => (dw.f k x.f0 x.f1.f0 x.f1.f1 x.f1.f2 x.f1.f3 x.f2 x.f3 L).bind fun t => dw.l0 k L (wrap64 (acc + t)) (c.f3.length : Int) (wrap64 ((pre.length : Int) + 1)) c.f0 c.f1.f0 c.f1.f1 c.f1.f2 c.f1.f3 c.f2 c.f3) (fun k => ?_) (Ev.bind e1 ?_)
     ·simp only [dw.l0]
      rw [if_pos hl, if_neg hL, if_pos (by omega), if_pos hl, hr]
     ·rw [hw, hu]
      exact e2
  obtain ⟨n, e, a, b, d⟩ := key c.f3 [] rfl 1 (by omega) (by omega) (.inr (by rw [xk]; rfl))
  refine ⟨n, Ev.step (fun k => ?_) e, a, by omega, by omega⟩
  simp only [dw.f]
  rfl
theorem V_ (c : ai) (h : sz c ≤ 1048576) : ∃ b : Bool, Ev (fun k => jr.f k c.f0 c.f1.f0 c.f1.f1 c.f1.f2 c.f1.f3 c.f2 c.f3) b ∧ (b = false → sz c ≤ 200) := by
 obtain ⟨n, e, h1, h2, h3⟩ := VO 200 1048576 c h (Nat.le_refl _)
 refine ⟨decide (n > 200), ?_, fun hb => ?_⟩
 ·unfold jr.f
  exact Ev.bind e (Ev.now _)
 ·have := of_decide_eq_false hb
  omega
theorem Jv : ∀ (N : Nat) (c : ai), sz c ≤ N → N ≤ 1048576 → Ev (fun k => dB.f k c.f0 c.f1.f0 c.f1.f1 c.f1.f2 c.f1.f3 c.f2 c.f3) (fG c) := by
 intro N
 induction N with
 | zero => intro c h _; rw [cO] at h; omega
 | succ N ih =>
  intro c hc hN
  have hs := cO c
  have key : ∀ (rest pre : List ai), pre ++ rest = c.f3 → Ev (fun k => dB.l0 k (c :: allL pre) (c.f3.length : Int) (pre.length : Int) c.f0 c.f1.f0 c.f1.f1 c.f1.f2 c.f1.f3 c.f2 c.f3) (fG c) := by
   intro rest
   induction rest with
   | nil =>
    intro pre hp
    rw [List.append_nil] at hp
    refine Ev.step (f := fun _ => some (fG c)) (fun k => ?_) (Ev.now _)
    simp only [dB.l0]
    rw [if_neg (by rw [hp]; omega), hp, pV]
   | cons x xs ihr =>
    intro pre hp
    have hl : (pre.length : Int) < (c.f3.length : Int) := by rw [← hp, List.length_append, List.length_cons]; omega
    have hlen := ik c.f3
    have hsum : dI c.f3 = dI pre + (sz x + dI xs) := by rw [← hp, nG, bY]
    have e2 := ihr (pre ++ [x]) (by rw [List.append_assoc]; exact hp)
    have hr : aA c.f3 (pre.length : Int) = x := by rw [← hp]; exact lu pre x xs
    have hu : wrap64 ((pre.length : Int) + 1) = ((pre ++ [x]).length : Int) := Rt pre x xs (by rw [hp]; omega)
    have ha : c :: allL (pre ++ [x]) = (c :: allL pre) ++ fG x := by rw [BH, lF, pg, List.append_nil, List.cons_append]
    have hb : (c :: allL pre).length + (fG x).length < 1954687338268 := by
     have h1 : (allL pre).length = dI pre := rfl
     have h2 : (fG x).length = sz x := rfl
     rw [List.length_cons, h1, h2]
     omega
    rw [ha] at e2
    refine Ev.step (f := fun k => (dB.f k x.f0 x.f1.f0 x.f1.f1 x.f1.f2 x.f1.f3 x.f2 x.f3).bind fun t => (if (c :: allL pre).length + t.length < 1954687338268 then (dB.l0 k ((c :: allL pre) ++ t) (c.f3.length : Int) (wrap64 ((pre.length : Int) + 1)) c.f0 c.f1.f0 c.f1.f1 c.f1.f2 c.f1.f3 c.f2 c.f3) else none)) (fun k => ?_) (Ev.bind (ih x (by omega) (by omega)) (acQ hb ?_))
    ·simp only [dB.l0]
     rw [if_pos hl, if_pos (by omega), if_pos hl, hr]
    ·rw [hu]
     exact e2
  refine Ev.step (fun k => ?_) (key c.f3 [] rfl)
  simp only [dB.f, pg, GR]
  rfl
def lT (c : ai) : List ai := (fG c).filter fun x => decide (x.f0 = 1)
theorem Us (c : ai) (h : sz c ≤ 1048576) : Ev (fun k => dJ.f k c.f0 c.f1.f0 c.f1.f1 c.f1.f2 c.f1.f3 c.f2 c.f3) (lT c) := by
 unfold dJ.f
 refine Ev.bind (Jv _ c h (Nat.le_refl _)) ?_
 have key : ∀ (rest pre : List ai), pre ++ rest = fG c → Ev (fun k => dJ.l0 k (pre.filter fun x => decide (x.f0 = 1)) (fG c) ((fG c).length : Int) (pre.length : Int)) (lT c) := by
  intro rest
  induction rest with
  | nil =>
   intro pre hp
   rw [List.append_nil] at hp
   refine Ev.step (f := fun _ => some (lT c)) (fun k => ?_) (Ev.now _)
   simp only [dJ.l0]
   rw [if_neg (by rw [hp]; omega), hp]
   rfl
  | cons x xs ihr =>
   intro pre hp
   have hsz : (fG c).length ≤ 1048576 := h
   have hl : (pre.length : Int) < ((fG c).length : Int) := by rw [← hp, List.length_append, List.length_cons]; omega
   have e2 := ihr (pre ++ [x]) (by rw [List.append_assoc]; exact hp)
   have hr : aA (fG c) (pre.length : Int) = x := by rw [← hp]; exact lu pre x xs
   have hu : wrap64 ((pre.length : Int) + 1) = ((pre ++ [x]).length : Int) := Rt pre x xs (by rw [hp]; omega)
   have hb : (pre.filter fun x => decide (x.f0 = 1)).length < 1954687338268 := by
    have := List.length_filter_le (fun x : ai => decide (x.f0 = 1)) pre
    omega
   rw [List.filter_append] at e2
   refine Ev.step (fun k => ?_) e2
   simp only [dJ.l0]
   rw [if_pos hl, if_pos (by omega), if_pos hl, hr, hu]
   by_cases h1 : x.f0 = 1
   ·rw [if_pos h1, if_pos hb, List.filter_cons_of_pos (by simpa using h1), GR]
    rfl
   ·rw [if_neg h1, List.filter_cons_of_neg (by simpa using h1), List.filter_nil, List.append_nil]
 exact key (fG c) [] rfl
def mf (c : ai) : Bool := jU c.f1 && decide (1 ≤ c.f0 ∧ c.f0 ≤ 3) && decide (c.f0 = 1 → c.f3.length = 0 ∧ 0 ≤ c.f2 ∧ c.f2 ≤ 2147483647) && decide (c.f0 > 1 → 2 ≤ c.f3.length ∧ c.f2 = 0)
def eF : List ai → Bool
 | [] => true
 | x :: xs => (xs.all fun y => decide (y.f2 ≠ x.f2)) && eF xs
def oz (pre : List ai) (x : ai) : Bool := pre.all fun y => decide (x.f2 ≠ y.f2)
theorem qM (pre : List ai) (x : ai) : eF (pre ++ [x]) = (eF pre && oz pre x) := by
 induction pre with
 | nil => simp [eF, oz]
 | cons y ys ih =>
  have : (decide (x.f2 ≠ y.f2)) = decide (¬ x.f2 = y.f2) := rfl
  simp only [List.cons_append, eF, ih, oz, List.all_append, List.all_cons, List.all_nil, Bool.and_true]
  cases (ys.all fun z => decide (z.f2 ≠ y.f2)) <;> cases (decide (x.f2 ≠ y.f2)) <;> cases eF ys <;> cases (ys.all fun z => decide (x.f2 ≠ z.f2)) <;> rfl
theorem yz : ∀ (pre rest : List ai), eF pre = false → eF (pre ++ rest) = false := by
 intro pre rest h
 induction rest generalizing pre with
 | nil => rw [List.append_nil]; exact h
 | cons x xs ih =>
  have := ih (pre ++ [x]) (by rw [qM, h, Bool.false_and])
  rwa [List.append_assoc] at this
def kU (c : ai) : Bool := decide (sz c ≤ 20000) && ((fG c).all mf && eF (lT c))
theorem adW {σ : Type} (Inv : σ → World → Prop) (step : σ → ai → Bool × σ) (g : Nat) (lb : Array Value) (eg : ∀ args w, (callFunc g args).run Try.prog w = .ok (.enter g args) w) (l : List ai) (A : Option Addr) (c : Nat)
  (w0 : World) (hR : Kd.C k26 w0 A l.length l) (hW : ∀ s W, Inv s W → Below w0.heap.size w0 W) (hD : ∀ s W n, Inv s W → Inv s (W.drewN n))
  (hcall : ∀ s W (x : ai) (B : Option Addr) (cb : Nat), x ∈ l → Inv s W → Kd.C k26 w0 B x.f3.length x.f3 → x.f3.length ≤ cb → Calls Try.prog g (#[.agg #[.int .u8 x.f0, .int .i64 x.f1.f0, .int .i64 x.f1.f1, .int .i64 x.f1.f2, .int .i64 x.f1.f3, .int .i64 x.f2, .slice B x.f3.length cb]] ++ lb) W fun e w' => e = .returned (.bool (step s x).1) ∧ Inv (step s x).2 w')
  (s : σ) (w : World) (hI : Inv s w) (hl : l.length ≤ 9223372036854775807) :
  Calls Try.prog 192 #[.slice A l.length c, .func (.func g) #[] lb] w fun e w' => e = .returned (.int .i64 (kK step 0 s l).1) ∧ Inv (kK step 0 s l).2 w' := by
 have HR := ae.mk hR
 have HW := ae.mk hW
 have HI := ae.mk hI
 have yI := ae.mk hcall
 clear hR hW hcall hD hI
 go_enter Try.func192, Try.ntmps192
 go_wp2
 go_loopg [5, 8] l.length (fun gg _ v8 wr => ∃ (kk : Nat) (t : σ), kk ≤ l.length ∧ l.length - kk ≤ gg ∧ v8 = .int .i64 kk ∧ ae (Inv t wr) ∧ ae (kK step 0 s l = kK step kk t (l.drop kk)))
 case atStart => exact ⟨0, s, Nat.zero_le _, by omega, rfl, HI, ⟨by simp⟩⟩
 case round =>
  clear HI
  obtain ⟨kk, t, hkk, hg, rfl, HI, HS⟩ := hrel
  by_cases hlt : kk < l.length
  ·have hltz : (kk : Int) < (l.length : Int) := by omega
   obtain ⟨ad, B, cb, rfl, hc0, hc1, hc2, hc3, hc4, hc5, hc6, hlb, hgb⟩ := rW HR.out (kk : Int) (by omega) (by omega)
   have hbw := HW.out t wr HI.out
   replace hc0 := (hbw.cell (World.block_lt_of_cell? w0 _ hc0)).trans hc0
   replace hc1 := (hbw.cell (World.block_lt_of_cell? w0 _ hc1)).trans hc1
   replace hc2 := (hbw.cell (World.block_lt_of_cell? w0 _ hc2)).trans hc2
   replace hc3 := (hbw.cell (World.block_lt_of_cell? w0 _ hc3)).trans hc3
   replace hc4 := (hbw.cell (World.block_lt_of_cell? w0 _ hc4)).trans hc4
   replace hc5 := (hbw.cell (World.block_lt_of_cell? w0 _ hc5)).trans hc5
   replace hc6 := (hbw.cell (World.block_lt_of_cell? w0 _ hc6)).trans hc6
   clear hbw
   have HX : ae (kK step kk t (l.drop kk) = if (step t (aA l (kk : Int))).1 = true then ((kk : Int), (step t (aA l (kk : Int))).2) else kK step ((kk + 1 : Nat) : Int) (step t (aA l (kk : Int))).2 (l.drop (kk + 1))) := ⟨PO step z26 l kk hlt t⟩
   have hmem : (aA l (kk : Int)) ∈ l := Cf z26 l kk hlt
   have hcall := yI.out t wr _ B cb hmem HI.out hgb hlb
   clear hmem hgb hlb
   simp only [Int.toNat_natCast] at hc0 hc1 hc2 hc3 hc4 hc5 hc6
   generalize aA l (kk : Int) = x at hc0 hc1 hc2 hc3 hc4 hc5 hc6 HX hcall
   have HC := ae.mk hcall
   clear hcall
   cases hq : (step t x).1 with
   | true =>
    have h := HC.out
    rw [hq] at h
    have HH := ae.mk h
    have HQ := ae.mk hq
    clear hq HC h
    go_wp2_with fail
    refine HH.out.mono ?_
    rintro e w' ⟨rfl, hb'⟩
    have HB := ae.mk hb'
    clear hb'
    go_wp2
    go_ret
    rw [HS.out, HX.out, if_pos HQ.out]
    exact ⟨rfl, HB.out⟩
   | false =>
    have h := HC.out
    rw [hq] at h
    have HH := ae.mk h
    have HQ := ae.mk hq
    clear hq HC h
    go_wp2_with fail
    refine HH.out.mono ?_
    rintro e w' ⟨rfl, hb'⟩
    have HB := ae.mk hb'
    clear hb'
    go_wp2
    go_roundg (l.length - (kk + 1))
    case measure => omega
    case rel =>
     refine ⟨kk + 1, (step t x).2, by omega, by omega, by go_num, HB, ⟨?_⟩⟩
     rw [HS.out, HX.out, if_neg (by rw [HQ.out]; simp)]
  ·have hltz : ¬ (kk : Int) < (l.length : Int) := by omega
   go_wp2
   go_ret
   rw [HS.out, List.drop_eq_nil_of_le (by omega)]
   exact ⟨rfl, HI.out⟩
theorem SK {σ : Type} (Inv : σ → World → Prop) (step : σ → ai → Bool × σ) (g : Nat) (lb : Array Value) (eg : ∀ args w, (callFunc g args).run Try.prog w = .ok (.enter g args) w) (l : List ai) (A : Option Addr) (c : Nat)
  (w0 : World) (hR : Kd.C k26 w0 A l.length l) (hW : ∀ s W, Inv s W → Below w0.heap.size w0 W) (hD : ∀ s W n, Inv s W → Inv s (W.drewN n))
  (hcall : ∀ s W (x : ai) (B : Option Addr) (cb : Nat), x ∈ l → Inv s W → Kd.C k26 w0 B x.f3.length x.f3 → x.f3.length ≤ cb → Calls Try.prog g (#[.agg #[.int .u8 x.f0, .int .i64 x.f1.f0, .int .i64 x.f1.f1, .int .i64 x.f1.f2, .int .i64 x.f1.f3, .int .i64 x.f2, .slice B x.f3.length cb]] ++ lb) W fun e w' => e = .returned (.bool (step s x).1) ∧ Inv (step s x).2 w')
  (s : σ) (w : World) (hI : Inv s w) (hl : l.length ≤ 9223372036854775807) :
  Calls Try.prog 174 #[.slice A l.length c, .func (.func g) #[] lb] w fun e w' => e = .returned (.bool (rH step s l).1) ∧ Inv (rH step s l).2 w' := by
 have hi := adW Inv step g lb eg l A c w0 hR hW hD hcall s w hI hl
 rw [Oh]
 clear hR hW hD hcall hI
 generalize kK step 0 s l = r at hi
 have HI := ae.mk hi
 clear hi
 go_enter Try.func174, Try.ntmps174
 go_wp2_with fail
 refine HI.out.mono ?_
 rintro e w' ⟨rfl, hb'⟩
 have HB := ae.mk hb'
 clear hb'
 go_wp2
 go_ret
 exact ⟨rfl, HB.out⟩
theorem PH (l : List ai) (A : Option Addr) (c : Nat) (g : Nat) (lb : Array Value) (Q : World → Prop) (b : Bool) (w : World)
  (h : Calls Try.prog 174 #[.slice A l.length c, .func (.func g) #[] lb] w fun e w' => e = .returned (.bool b) ∧ Q w') (hD : ∀ W n, Q W → Q (W.drewN n)) :
  Calls Try.prog 142 #[.slice A l.length c, .func (.func g) #[] lb] w fun e w' => e = .returned (.bool (!b)) ∧ Q w' := by
 have H := ae.mk h
 clear h hD
 cases b
 all_goals
  go_enter Try.func142, Try.ntmps142
  go_wp2_with fail
  refine H.out.mono ?_
  rintro e w' ⟨rfl, hb⟩
  have HB := ae.mk hb
  clear hb
  go_wp2
  go_ret
  exact ⟨rfl, HB.out⟩
structure Kp (S : Nat → Prop) (W W' : World) : Prop where
 size : W.heap.size ≤ W'.heap.size
 blk : ∀ k, k < W.heap.size → ¬ S k → W'.heap[k]? = W.heap[k]?
theorem Kp.refl (S : Nat → Prop) (W : World) : Kp S W W := ⟨Nat.le_refl _, fun _ _ _ => rfl⟩
theorem Kp.trans {S : Nat → Prop} {W W1 W2 : World} (h : Kp S W W1) (k : Kp S W1 W2) : Kp S W W2 := ⟨Nat.le_trans h.size k.size, fun i hi hs => (k.blk i (Nat.lt_of_lt_of_le hi h.size) hs).trans (h.blk i hi hs)⟩
theorem Kp.below {S : Nat → Prop} {W W1 : World} (h : Below W.heap.size W W1) : Kp S W W1 := ⟨h.size, fun i hi _ => h.block i hi⟩
theorem Kp.at {S : Nat → Prop} {W W1 : World} {g : Nat} {o : Obj} (h : Kp S W W1) (hb : W.heap[g]? = some o) (hs : ¬ S g) : W1.heap[g]? = some o := (h.blk g (fA hb) hs).trans hb
theorem acC (x : ai) (B : Option Addr) (cb g : Nat) (lb : Array Value) (b3 : Nat) (r : Bool) (R : World → Prop) (W : World) (hk : W.heap[b3]? = some (.cells #[.func (.func g) #[] lb] 27 (0, 0)))
  (h : ∀ W1, Below W.heap.size W W1 → Calls Try.prog 175 #[.agg #[.int .u8 x.f0, .int .i64 x.f1.f0, .int .i64 x.f1.f1, .int .i64 x.f1.f2, .int .i64 x.f1.f3, .int .i64 x.f2, .slice B x.f3.length cb], .func (.func g) #[] lb] W1 fun e w' => e = .returned (.bool r) ∧ R w') :
  Calls Try.prog 193 (#[.agg #[.int .u8 x.f0, .int .i64 x.f1.f0, .int .i64 x.f1.f1, .int .i64 x.f1.f2, .int .i64 x.f1.f3, .int .i64 x.f2, .slice B x.f3.length cb]] ++ #[.pointer (some ⟨b3, 0, none⟩)]) W fun e w' => e = .returned (.bool (!r)) ∧ R w' := by
 have HK := ae.mk hk
 have H := ae.mk h
 clear hk h
 simp only [List.append_toArray, List.cons_append, List.nil_append]
 cases r
 all_goals
  go_enter Try.func193, Try.ntmps193
  go_wp2_with (((with_reducible refine aG (N := 2) rfl ?_); refine aT ?hg (N := 2) ?hd (cs := #[.int .u8 x.f0, .int .i64 x.f1.f0, .int .i64 x.f1.f1, .int .i64 x.f1.f2, .int .i64 x.f1.f3, .int .i64 x.f2, .slice B x.f3.length cb]) (t := 26) ?hr ?_; (case hd => rfl); (case hg => rfl); (case hr => (go_simp; done)); intro b2 hg w2 hbox hb; have HB := ae.mk hb; have K2 := ae.mk hbox; have K3 := ae.mk (aJ HK.out hb); clear hb hbox hg; have c0 := (af K2.out 0).trans rfl; have c1 := (af K2.out 1).trans rfl; have c2 := (af K2.out 2).trans rfl; have c3 := (af K2.out 3).trans rfl; have c4 := (af K2.out 4).trans rfl; have c5 := (af K2.out 5).trans rfl; have c6 := (af K2.out 6).trans rfl; have d0 := (af K3.out 0).trans rfl))
  clear c0 c1 c2 c3 c4 c5 c6 d0
  refine (H.out _ HB.out).mono ?_
  rintro e w' ⟨rfl, hR⟩
  have HR := ae.mk hR
  clear hR
  go_wp2
  go_ret
  exact ⟨rfl, HR.out⟩
theorem acb {σ : Type} (S : Nat → Prop) (Inv : σ → World → Prop) (step : σ → ai → Bool × σ) (g : Nat) (lb : Array Value) (eg : ∀ args w, (callFunc g args).run Try.prog w = .ok (.enter g args) w) (w0 : World)
  (hW : ∀ s W, Inv s W → Below w0.heap.size w0 W) (hB : ∀ s W W', Inv s W → Below W.heap.size W W' → Inv s W') (hS : ∀ s W, Inv s W → ∀ k, S k → k < W.heap.size)
  (hcall : ∀ s W (x : ai) (B : Option Addr) (cb : Nat), Inv s W → Kd.C k26 w0 B x.f3.length x.f3 → x.f3.length ≤ cb → Calls Try.prog g (#[.agg #[.int .u8 x.f0, .int .i64 x.f1.f0, .int .i64 x.f1.f1, .int .i64 x.f1.f2, .int .i64 x.f1.f3, .int .i64 x.f2, .slice B x.f3.length cb]] ++ lb) W fun e w' => e = .returned (.bool (step s x).1) ∧ Inv (step s x).2 w' ∧ Kp S W w') :
  ∀ (N : Nat) (c : ai), sz c ≤ N → ∀ (A : Option Addr) (cc : Nat), Kd.C k26 w0 A c.f3.length c.f3 → c.f3.length ≤ cc → ∀ s W, Inv s W →
   Calls Try.prog 175 #[.agg #[.int .u8 c.f0, .int .i64 c.f1.f0, .int .i64 c.f1.f1, .int .i64 c.f1.f2, .int .i64 c.f1.f3, .int .i64 c.f2, .slice A c.f3.length cc], .func (.func g) #[] lb] W fun e w' => e = .returned (.bool (qX step c s).1) ∧ Inv (qX step c s).2 w' ∧ Kp S W w' := by
 intro N
 induction N with
 | zero => intro c h; rw [cO] at h; omega
 | succ N ih =>
  intro c hc A cc hr hlc s W hI
  have hsz := cO c
  have XY : ∀ (b3 : Nat) (s1 : σ) (W1 : World), Inv s1 W1 → W1.heap[b3]? = some (.cells #[.func (.func g) #[] lb] 27 (0, 0)) → ¬ S b3 →
    Calls Try.prog 142 #[.slice A c.f3.length cc, .func (.func 193) #[] #[.pointer (some ⟨b3, 0, none⟩)]] W1 fun e w' => e = .returned (.bool (rE step c.f3 s1).1) ∧ Inv (rE step c.f3 s1).2 w' ∧ Kp S W1 w' := by
   intro b3 s1 W1 hI1 hk3 hs3
   have hcon := SK (fun t w' => Inv t w' ∧ Kp S W1 w') (fun t k => (!(qX step k t).1, (qX step k t).2)) 193 #[.pointer (some ⟨b3, 0, none⟩)] (r_ Try.func193 (by decide +kernel) (by kernel_rfl)) c.f3 A cc w0 hr (fun t w' h => hW t w' h.1)
    (fun t w' n h => ⟨hB t w' _ h.1 (eG (Below.refl _ _) n), h.2.trans (Kp.below (eG (Below.refl _ _) n))⟩)
    (fun t w' x B cb hx h hCx hlx => by
     refine acC x B cb g lb b3 _ _ w' (h.2.at hk3 hs3) (fun W2 hb2 => ?_)
     refine (ih x ?_ B cb hCx hlx t W2 (hB t w' W2 h.1 hb2)).mono fun e w'' ⟨he, hi, hk⟩ => ⟨he, hi, (h.2.trans (Kp.below hb2)).trans hk⟩
     have : sz x ≤ dI c.f3 := by
      obtain ⟨p, q, e⟩ := List.append_of_mem hx
      rw [e, nG, bY]; omega
     omega) s1 W1 ⟨hI1, Kp.refl S W1⟩ hr.2.1
   rw [UW] at hcon
   have := PH c.f3 A cc 193 _ _ _ W1 hcon (fun w' n h => ⟨hB _ w' _ h.1 (eG (Below.refl _ _) n), h.2.trans (Kp.below (eG (Below.refl _ _) n))⟩)
   rw [Bool.not_not] at this
   exact this
  have ac2 : ∀ k, S k → k < W.heap.size := hS s W hI
  have hE := OU step c s
  have hcl := fun W1 (h : Inv s W1) => hcall s W1 c A cc h hr hlc
  rcases hst : step s c with ⟨q, s1⟩
  rw [hst] at hE hcl
  simp only [] at hE hcl
  rw [hE]
  have HN := ae.mk fun b3 W1 => XY b3 s1 W1
  have HI := ae.mk hI
  have yI := ae.mk hcl
  have Xz := ae.mk hB
  have HS := ae.mk hS
  have HS0 := ae.mk ac2
  have HK := ae.mk (Kp.refl S W)
  clear XY hI hcall hB hS ih hr hlc hsz hc hW hE hcl hst ac2
  obtain ⟨ck, ⟨cx, cy, cw, ch⟩, aU, l⟩ := c
  simp only [] at HN yI ⊢
  generalize rE step l s1 = ns at HN ⊢
  obtain ⟨n1, n2⟩ := ns
  cases q with
  | false =>
   simp only [Bool.false_eq_true, if_false]
   clear HN
   go_enter Try.func175, Try.ntmps175
   go_wp2_with (first | ((with_reducible refine aG (N := 2) rfl ?_); refine aT ?hg (N := 2) ?hd (cs := #[.int .u8 ck, .int .i64 cx, .int .i64 cy, .int .i64 cw, .int .i64 ch, .int .i64 aU, .slice A l.length cc]) (t := 26) ?hr ?_; (case hd => rfl); (case hg => rfl); (case hr => (go_simp; done)); intro b2 hg Yn hbox hb; have K2 := ae.mk hbox; have HS2 := ae.mk (show ¬ b2 < W.heap.size by rw [hg]; exact Nat.lt_irrefl _); have dS := ae.mk (Xz.out _ _ _ HI.out hb); have dZ := ae.mk (HK.out.trans (Kp.below hb)); clear HI HK; have HI := dS; have HK := dZ; clear dS dZ; clear hb hbox hg) | ((with_reducible refine aG (N := 3) rfl ?_); refine aT ?hg (N := 3) ?hd (cs := #[.func (.func g) #[] lb]) (t := 27) ?hr ?_; (case hd => rfl); (case hg => rfl); (case hr => (go_simp; done)); intro b3 hg Vd hbox hb; have K3 := ae.mk hbox; have gQ := ae.mk (aJ K2.out hb); have NS := ae.mk (fun h => Nat.lt_irrefl _ (Nat.lt_of_lt_of_le (hg ▸ HS.out _ _ HI.out b3 h) (Nat.le_refl _)) : ¬ S b3); have NS2 := ae.mk (fun h => HS2.out (HS0.out b2 h) : ¬ S b2); clear K2; have K2 := gQ; clear gQ; have dS := ae.mk (Xz.out _ _ _ HI.out hb); have dZ := ae.mk (HK.out.trans (Kp.below hb)); clear HI HK; have HI := dS; have HK := dZ; clear dS dZ; clear hb hbox hg; have c0 := (af K2.out 0).trans rfl; have c1 := (af K2.out 1).trans rfl; have c2 := (af K2.out 2).trans rfl; have c3 := (af K2.out 3).trans rfl; have c4 := (af K2.out 4).trans rfl; have c5 := (af K2.out 5).trans rfl; have c6 := (af K2.out 6).trans rfl; have d0 := (af K3.out 0).trans rfl))
   clear c0 c1 c2 c3 c4 c5 c6 d0
   refine (yI.out _ HI.out).mono ?_
   rintro e w' ⟨rfl, hi, hk⟩
   have HI' := ae.mk hi
   have HK' := ae.mk (HK.out.trans hk)
   clear hi hk
   go_wp2
   go_ret
   exact ⟨rfl, HI'.out, HK'.out⟩
  | true =>
   simp only [if_true]
   cases n1
   all_goals
    go_enter Try.func175, Try.ntmps175
    go_wp2_with (first | ((with_reducible refine aG (N := 2) rfl ?_); refine aT ?hg (N := 2) ?hd (cs := #[.int .u8 ck, .int .i64 cx, .int .i64 cy, .int .i64 cw, .int .i64 ch, .int .i64 aU, .slice A l.length cc]) (t := 26) ?hr ?_; (case hd => rfl); (case hg => rfl); (case hr => (go_simp; done)); intro b2 hg Yn hbox hb; have K2 := ae.mk hbox; have HS2 := ae.mk (show ¬ b2 < W.heap.size by rw [hg]; exact Nat.lt_irrefl _); have dS := ae.mk (Xz.out _ _ _ HI.out hb); have dZ := ae.mk (HK.out.trans (Kp.below hb)); clear HI HK; have HI := dS; have HK := dZ; clear dS dZ; clear hb hbox hg) | ((with_reducible refine aG (N := 3) rfl ?_); refine aT ?hg (N := 3) ?hd (cs := #[.func (.func g) #[] lb]) (t := 27) ?hr ?_; (case hd => rfl); (case hg => rfl); (case hr => (go_simp; done)); intro b3 hg Vd hbox hb; have K3 := ae.mk hbox; have gQ := ae.mk (aJ K2.out hb); have NS := ae.mk (fun h => Nat.lt_irrefl _ (Nat.lt_of_lt_of_le (hg ▸ HS.out _ _ HI.out b3 h) (Nat.le_refl _)) : ¬ S b3); have NS2 := ae.mk (fun h => HS2.out (HS0.out b2 h) : ¬ S b2); clear K2; have K2 := gQ; clear gQ; have dS := ae.mk (Xz.out _ _ _ HI.out hb); have dZ := ae.mk (HK.out.trans (Kp.below hb)); clear HI HK; have HI := dS; have HK := dZ; clear dS dZ; clear hb hbox hg; have c0 := (af K2.out 0).trans rfl; have c1 := (af K2.out 1).trans rfl; have c2 := (af K2.out 2).trans rfl; have c3 := (af K2.out 3).trans rfl; have c4 := (af K2.out 4).trans rfl; have c5 := (af K2.out 5).trans rfl; have c6 := (af K2.out 6).trans rfl; have d0 := (af K3.out 0).trans rfl))
    clear c0 c1 c2 c3 c4 c5 c6 d0
    refine (yI.out _ HI.out).mono ?_
    rintro e w' ⟨rfl, hi, hk⟩
    have HI' := ae.mk hi
    have HK' := ae.mk (HK.out.trans hk)
    have K3' := ae.mk (hk.at K3.out NS.out)
    have K2' := ae.mk (hk.at K2.out NS2.out)
    clear hi hk
    have c6 : w'.cell? ⟨b2, 6, none⟩ = some (.slice A l.length cc) := (af K2'.out 6).trans rfl
    go_wp2_with fail
    clear c6
    refine (HN.out b3 w' HI'.out K3'.out NS.out).mono ?_
    rintro e w'' ⟨rfl, hi, hk⟩
    have HI2 := ae.mk hi
    have zM := ae.mk (HK'.out.trans hk)
    clear hi hk
    go_wp2
    go_ret
    exact ⟨rfl, HI2.out, zM.out⟩
def wE (x : ai) : Bool := if x.f0 = 1 then decide (x.f3.length = 0) && (decide (0 ≤ x.f2) && decide (x.f2 ≤ 2147483647)) else if x.f0 = 2 ∨ x.f0 = 3 then decide (2 ≤ x.f3.length) && decide (x.f2 = 0) else false
theorem zy (x : ai) : mf x = (wE x && jU x.f1) := by
 unfold mf wE
 by_cases h1 : x.f0 = 1
 ·simp [h1, Bool.and_comm, Bool.and_assoc]
 ·by_cases h2 : x.f0 = 2
  ·simp [h2, Bool.and_comm]
  ·by_cases h3 : x.f0 = 3
   ·simp [h3, Bool.and_comm]
   ·have : ¬ (1 ≤ x.f0 ∧ x.f0 ≤ 3) := by omega
    simp [h1, h2, h3, this]
def iP (s : Int × List Int) (x : ai) : Bool × (Int × List Int) :=
 if 20000 < wrap64 (s.1 + 1) then (false, (wrap64 (s.1 + 1), s.2))
 else if mf x = false then (false, (wrap64 (s.1 + 1), s.2))
 else if x.f0 = 1 then (if x.f2 ∈ s.2 then (false, (wrap64 (s.1 + 1), s.2)) else (true, (wrap64 (s.1 + 1), x.f2 :: s.2)))
 else (true, (wrap64 (s.1 + 1), s.2))
def lv (l : List ai) : List ai := l.filter fun x => decide (x.f0 = 1)
theorem Uw : ∀ (rest pre : List ai), (pre ++ rest).length ≤ 1048576 → pre.length ≤ 20000 → eF (lv pre) = true →
  (ui iP rest ((pre.length : Int), ((lv pre).map (·.f2)).reverse)).1 = (decide (pre.length + rest.length ≤ 20000) && (rest.all mf && eF (lv (pre ++ rest)))) := by
 intro rest
 induction rest with
 | nil =>
  intro pre _ h2 h3
  simp [ui, h3]
  exact h2
 | cons x xs ih =>
  intro pre h1 h2 h3
  have hlen : (pre ++ x :: xs).length = pre.length + xs.length + 1 := by simp; omega
  have hw : wrap64 ((pre.length : Int) + 1) = ((pre.length + 1 : Nat) : Int) := (wq (by omega) (by omega)).trans (by omega)
  have hsp : pre ++ x :: xs = (pre ++ [x]) ++ xs := by simp
  simp only [ui]
  unfold iP
  simp only [hw]
  by_cases c1 : (20000 : Int) < ((pre.length + 1 : Nat) : Int)
  ·rw [if_pos c1]
   simp
   intro h
   omega
  ·rw [if_neg c1]
   cases c2 : mf x with
   | false => simp [c2]
   | true =>
    simp only [Bool.true_eq_false, if_false, List.all_cons, c2, Bool.true_and]
    have hl1 : (pre ++ [x]).length = pre.length + 1 := by simp
    have hcnt : decide (pre.length + (x :: xs).length ≤ 20000) = decide ((pre ++ [x]).length + xs.length ≤ 20000) := by
     rw [hl1, List.length_cons, decide_eq_decide]; omega
    rw [hcnt]
    by_cases c3 : x.f0 = 1
    ·rw [if_pos c3]
     have hlv : lv (pre ++ [x]) = lv pre ++ [x] := by simp [lv, c3]
     have hmem : x.f2 ∈ ((lv pre).map (·.f2)).reverse ↔ oz (lv pre) x = false := by
      simp [oz]
      constructor
      ·rintro ⟨y, hy, e⟩; exact ⟨y, hy, e.symm⟩
      ·rintro ⟨y, hy, e⟩; exact ⟨y, hy, e.symm⟩
     by_cases c4 : x.f2 ∈ ((lv pre).map (·.f2)).reverse
     ·rw [if_pos c4]
      have hd : eF (lv (pre ++ x :: xs)) = false := by
       rw [hsp]
       unfold lv
       rw [List.filter_append]
       apply yz
       have : List.filter (fun x => decide (x.f0 = 1)) (pre ++ [x]) = lv pre ++ [x] := hlv
       rw [this, qM, hmem.1 c4, Bool.and_false]
      simp [hd]
     ·rw [if_neg c4]
      have ha : oz (lv pre) x = true := by
       cases h : oz (lv pre) x with
       | true => rfl
       | false => exact absurd (hmem.2 h) c4
      have e := ih (pre ++ [x]) (by rw [← hsp]; exact h1) (by rw [hl1]; omega) (by rw [hlv, qM, h3, ha]; rfl)
      rw [hlv, List.map_append, List.reverse_append, hl1, ← hsp] at e
      simp only [if_true]
      rw [hl1]
      exact e
    ·rw [if_neg c3]
     have hlv : lv (pre ++ [x]) = lv pre := by simp [lv, c3]
     have e := ih (pre ++ [x]) (by rw [← hsp]; exact h1) (by rw [hl1]; omega) (by rw [hlv]; exact h3)
     rw [hlv, hl1, ← hsp] at e
     simp only [if_true]
     rw [hl1]
     exact e
theorem Vu (c : ai) (h : sz c ≤ 1048576) : (qX iP c (0, [])).1 = kU c := by
 rw [(Vw iP (sz c)).1 c (Nat.le_refl _)]
 have e := Uw (fG c) [] (by rw [List.nil_append]; exact h) (by simp) rfl
 have e2 : (ui iP (fG c) (0, [])).1 = (decide (0 + (fG c).length ≤ 20000) && ((fG c).all mf && eF (lv ([] ++ fG c)))) := e
 rw [e2, Nat.zero_add, List.nil_append]
 rfl
theorem WO : ∀ (N : Nat) (l : List Int), l.Nodup → (∀ i ∈ l, 0 ≤ i ∧ i < (N : Int)) → l.length ≤ N := by
 intro N
 induction N with
 | zero =>
  intro l _ h
  cases l with
  | nil => simp
  | cons x xs => have := h x (by simp); omega
 | succ N ih =>
  intro l hn h
  have h1 := ih (l.filter fun i => decide (i ≠ (N : Int))) (hn.filter _) (fun i hi => by
   have h2 := List.mem_filter.1 hi
   have h3 := h i h2.1
   have h4 := of_decide_eq_true h2.2
   omega)
  have h5 : ∀ (m : List Int), m.Nodup → m.length ≤ (m.filter fun i => decide (i ≠ (N : Int))).length + 1 := by
   intro m
   induction m with
   | nil => intro _; simp
   | cons y ys ihm =>
    intro hm
    rw [List.nodup_cons] at hm
    by_cases hy : y = (N : Int)
    ·have : ys.filter (fun i => decide (i ≠ (N : Int))) = ys := by
      rw [List.filter_eq_self]
      intro i hi
      exact decide_eq_true (fun e => hm.1 (by rw [hy, ← e]; exact hi))
     rw [List.filter_cons_of_neg (by simp [hy]), this, List.length_cons]
     exact Nat.le_refl _
    ·rw [List.filter_cons_of_pos (by simpa using hy), List.length_cons, List.length_cons]
     have := ihm hm.2
     omega
  have := h5 l hn
  omega
def F9 (ids : List Int) : DataW Unit := ids.foldr (fun i D => D.put (.int .i64 i) (.lit (.bool true))) (.map [])
theorem Xl : ∀ ids : List Int, Maps.IsMap (F9 ids) := by
 intro ids
 induction ids with
 | nil => exact Maps.isMap_empty
 | cons x xs ih => exact Maps.IsMap.put ih _ _
theorem PS (i : Int) : ∀ ids : List Int, (F9 ids).atKey (.int .i64 i) (.lit (.bool false)) = .lit (.bool (decide (i ∈ ids))) := by
 intro ids
 induction ids with
 | nil => rfl
 | cons x xs ih =>
  show (DataW.put (F9 xs) (.int .i64 x) (.lit (.bool true))).atKey (.int .i64 i) (.lit (.bool false)) = _
  by_cases h : i = x
  ·subst h
   rw [Maps.atKey_put_same (Xl xs) (by simp [WideAt.IsKeyLit])]
   simp
  ·rw [Maps.atKey_put_other (by intro e; injection e with _ e; exact h e), ih]
   simp [h]
structure lN (w0 : World) (bn bm B : Nat) (s : Int × List Int) (W : World) : Prop where
 hn : W.heap[bn]? = some (.cells #[.int .i64 s.1] 3 (0, 0))
 hm : W.heap[bm]? = some (.cells #[.map (some B)] 161 (0, 0))
 map : W.ownsMap (H := Unit) Try.prog 3 (plainElem Try.prog 4) B s.2.length (F9 s.2)
 below : Below w0.heap.size w0 W
 gn : w0.heap.size ≤ bn
 gB : w0.heap.size ≤ B
 nd : s.2.Nodup
 rg : ∀ i ∈ s.2, 0 ≤ i ∧ i ≤ 2147483647
theorem below_grown {W W' : World} (h : Below W.heap.size W W') : W.grownBy W' none := ⟨h.os, h.tape, h.output, h.size, fun k hk _ => h.block k hk⟩
theorem lN.step {w0 W W' : World} {bn bm B : Nat} {s : Int × List Int} (h : lN w0 bn bm B s W) (hb : Below W.heap.size W W') : lN w0 bn bm B s W' :=
 ⟨aJ h.hn hb, aJ h.hm hb, h.map.kept (below_grown hb) (by simp), ak h.below hb, h.gn, h.gB, h.nd, h.rg⟩
theorem lN.X9 {w0 W : World} {bn bm B : Nat} {s : Int × List Int} (h : lN w0 bn bm B s W) : bn ≠ B ∧ bm ≠ B ∧ bm ≠ bn := by
 obtain ⟨es, cl, hB, _⟩ := h.map
 refine ⟨fun e => ?_, fun e => ?_, uo h.hm h.hn (by decide)⟩
 ·have := h.hn; rw [e, hB] at this; cases this
 ·have := h.hm; rw [e, hB] at this; cases this
def vK (bn B : Nat) (k : Nat) : Prop := k = bn ∨ k = B
section
variable {P : Program} {ops : Array Oper} {rest : List Oper} {o : Oper} {a : Act} {Q : Exit → Act → World → Prop}
theorem ER (w : World) (hg : o.guard = none) (m x : Operand) (t : TypeId) (hop : o.op = Op.lookup t m x false)
  (k e : TypeId) (K : Maps.Keyed P k) (ht : P.underlying t = some (.map k e)) (he : P.underlying e = some .bool) (hz : (zeroValue e).run P w = .ok (.bool false) w) (b n : Nat) (D : DataW Unit)
  (hm : a.eval m = .map (some b)) (hown : w.ownsMap P k (plainElem P e) b n D) (key : Value) (kl : Lit) (hx : a.eval x = key) (hkey : keyOf P k key = some kl) (r : Bool) (hr : D.atKey kl (.lit (.bool false)) = .lit (.bool r))
  (hK : wpList P ops Q rest (a.put o.dst (.bool r)) w) : wpList P ops Q (o :: rest) a w := by
 refine wpList_plain hg fun K' hK' => ?_
 obtain ⟨v, ps, hrun, hv⟩ := hown.lookup K ht hz (plainElem_bool he false) hkey
 have hv2 : v = .bool r := by
  rw [hr] at hv
  unfold plainElem at hv
  rw [he] at hv
  cases v with
  | bool q =>
   simp only [Option.some.injEq, Prod.mk.injEq, DataW.lit.injEq, Lit.bool.injEq] at hv
   rw [hv.1]
  | _ => cases hv
 subst hv2
 unfold Oper.wp
 simp [execOp, hop, hm, hx, hrun, Result.andThen]
 exact hK' _ _ hK
end
theorem Bj (x : ai) (B : Option Addr) (cb : Nat) (w : World) : Calls Try.prog 177 #[.agg #[.int .u8 x.f0, .int .i64 x.f1.f0, .int .i64 x.f1.f1, .int .i64 x.f1.f2, .int .i64 x.f1.f3, .int .i64 x.f2, .slice B x.f3.length cb]] w fun e w' => e = .returned (.bool (wE x)) ∧ Below w.heap.size w w' := by
 unfold wE
 by_cases k1 : x.f0 = 1
 ·rw [if_pos k1]
  have k1b : (x.f0 == 1) = true := beq_iff_eq.mpr k1
  clear k1
  by_cases l0 : x.f3.length = 0
  ·rw [decide_eq_true l0, Bool.true_and]
   have l1 : ((x.f3.length : Int) == 0) = true := by simp [l0]
   have l2 : (x.f3.length == 0) = true := by simp [l0]
   clear l0
   by_cases i0 : 0 ≤ x.f2
   ·rw [decide_eq_true i0, Bool.true_and]
    have Uj : decide (0 ≤ x.f2) = true := decide_eq_true i0
    by_cases i1 : x.f2 ≤ 2147483647
    ·rw [decide_eq_true i1]
     have i1b : decide (x.f2 ≤ 2147483647) = true := decide_eq_true i1
     go_enter Try.func177, Try.ntmps177
     go_wp2_with (((with_reducible refine aG (N := 1) rfl ?_); refine aT ?hg (N := 1) ?hd (cs := #[.int .u8 x.f0, .int .i64 x.f1.f0, .int .i64 x.f1.f1, .int .i64 x.f1.f2, .int .i64 x.f1.f3, .int .i64 x.f2, .slice B x.f3.length cb]) (t := 26) ?hr ?_; (case hd => rfl); (case hg => rfl); (case hr => (go_simp; done)); intro b1 hg w1 hbox hb; have HB := ae.mk hb; have K1 := ae.mk hbox; clear hb hbox hg; have c0 := (af K1.out 0).trans rfl; have c1 := (af K1.out 1).trans rfl; have c2 := (af K1.out 2).trans rfl; have c3 := (af K1.out 3).trans rfl; have c4 := (af K1.out 4).trans rfl; have c5 := (af K1.out 5).trans rfl; have c6 := (af K1.out 6).trans rfl))
     go_ret
     exact ⟨rfl, HB.out⟩
    ·rw [decide_eq_false i1]
     have i1b : decide (x.f2 ≤ 2147483647) = false := decide_eq_false i1
     go_enter Try.func177, Try.ntmps177
     go_wp2_with (((with_reducible refine aG (N := 1) rfl ?_); refine aT ?hg (N := 1) ?hd (cs := #[.int .u8 x.f0, .int .i64 x.f1.f0, .int .i64 x.f1.f1, .int .i64 x.f1.f2, .int .i64 x.f1.f3, .int .i64 x.f2, .slice B x.f3.length cb]) (t := 26) ?hr ?_; (case hd => rfl); (case hg => rfl); (case hr => (go_simp; done)); intro b1 hg w1 hbox hb; have HB := ae.mk hb; have K1 := ae.mk hbox; clear hb hbox hg; have c0 := (af K1.out 0).trans rfl; have c1 := (af K1.out 1).trans rfl; have c2 := (af K1.out 2).trans rfl; have c3 := (af K1.out 3).trans rfl; have c4 := (af K1.out 4).trans rfl; have c5 := (af K1.out 5).trans rfl; have c6 := (af K1.out 6).trans rfl))
     go_ret
     exact ⟨rfl, HB.out⟩
   ·rw [decide_eq_false i0, Bool.false_and]
    have Uj : decide (0 ≤ x.f2) = false := decide_eq_false i0
    go_enter Try.func177, Try.ntmps177
    go_wp2_with (((with_reducible refine aG (N := 1) rfl ?_); refine aT ?hg (N := 1) ?hd (cs := #[.int .u8 x.f0, .int .i64 x.f1.f0, .int .i64 x.f1.f1, .int .i64 x.f1.f2, .int .i64 x.f1.f3, .int .i64 x.f2, .slice B x.f3.length cb]) (t := 26) ?hr ?_; (case hd => rfl); (case hg => rfl); (case hr => (go_simp; done)); intro b1 hg w1 hbox hb; have HB := ae.mk hb; have K1 := ae.mk hbox; clear hb hbox hg; have c0 := (af K1.out 0).trans rfl; have c1 := (af K1.out 1).trans rfl; have c2 := (af K1.out 2).trans rfl; have c3 := (af K1.out 3).trans rfl; have c4 := (af K1.out 4).trans rfl; have c5 := (af K1.out 5).trans rfl; have c6 := (af K1.out 6).trans rfl))
    go_ret
    exact ⟨rfl, HB.out⟩
  ·rw [decide_eq_false l0, Bool.false_and]
   have l1 : ((x.f3.length : Int) == 0) = false := by simp; intro h; exact l0 (by simp [h])
   have l2 : (x.f3.length == 0) = false := by simpa using l0
   clear l0
   go_enter Try.func177, Try.ntmps177
   go_wp2_with (((with_reducible refine aG (N := 1) rfl ?_); refine aT ?hg (N := 1) ?hd (cs := #[.int .u8 x.f0, .int .i64 x.f1.f0, .int .i64 x.f1.f1, .int .i64 x.f1.f2, .int .i64 x.f1.f3, .int .i64 x.f2, .slice B x.f3.length cb]) (t := 26) ?hr ?_; (case hd => rfl); (case hg => rfl); (case hr => (go_simp; done)); intro b1 hg w1 hbox hb; have HB := ae.mk hb; have K1 := ae.mk hbox; clear hb hbox hg; have c0 := (af K1.out 0).trans rfl; have c1 := (af K1.out 1).trans rfl; have c2 := (af K1.out 2).trans rfl; have c3 := (af K1.out 3).trans rfl; have c4 := (af K1.out 4).trans rfl; have c5 := (af K1.out 5).trans rfl; have c6 := (af K1.out 6).trans rfl))
   go_ret
   exact ⟨rfl, HB.out⟩
 ·rw [if_neg k1]
  have k1b : (x.f0 == 1) = false := beq_eq_false_iff_ne.mpr k1
  by_cases k2 : x.f0 = 2
  ·rw [if_pos (.inl k2)]
   have k2b : (x.f0 == 2) = true := beq_iff_eq.mpr k2
   clear k2 k1
   by_cases l0 : 2 ≤ x.f3.length
   ·rw [decide_eq_true l0, Bool.true_and]
    have l1 : (2 : Int) ≤ (x.f3.length : Int) := by omega
    by_cases i0 : x.f2 = 0
    ·rw [decide_eq_true i0]
     have Uj : (x.f2 == 0) = true := beq_iff_eq.mpr i0
     clear i0
     go_enter Try.func177, Try.ntmps177
     go_wp2_with (((with_reducible refine aG (N := 1) rfl ?_); refine aT ?hg (N := 1) ?hd (cs := #[.int .u8 x.f0, .int .i64 x.f1.f0, .int .i64 x.f1.f1, .int .i64 x.f1.f2, .int .i64 x.f1.f3, .int .i64 x.f2, .slice B x.f3.length cb]) (t := 26) ?hr ?_; (case hd => rfl); (case hg => rfl); (case hr => (go_simp; done)); intro b1 hg w1 hbox hb; have HB := ae.mk hb; have K1 := ae.mk hbox; clear hb hbox hg; have c0 := (af K1.out 0).trans rfl; have c1 := (af K1.out 1).trans rfl; have c2 := (af K1.out 2).trans rfl; have c3 := (af K1.out 3).trans rfl; have c4 := (af K1.out 4).trans rfl; have c5 := (af K1.out 5).trans rfl; have c6 := (af K1.out 6).trans rfl))
     go_ret
     exact ⟨rfl, HB.out⟩
    ·rw [decide_eq_false i0]
     have Uj : (x.f2 == 0) = false := beq_eq_false_iff_ne.mpr i0
     clear i0
     go_enter Try.func177, Try.ntmps177
     go_wp2_with (((with_reducible refine aG (N := 1) rfl ?_); refine aT ?hg (N := 1) ?hd (cs := #[.int .u8 x.f0, .int .i64 x.f1.f0, .int .i64 x.f1.f1, .int .i64 x.f1.f2, .int .i64 x.f1.f3, .int .i64 x.f2, .slice B x.f3.length cb]) (t := 26) ?hr ?_; (case hd => rfl); (case hg => rfl); (case hr => (go_simp; done)); intro b1 hg w1 hbox hb; have HB := ae.mk hb; have K1 := ae.mk hbox; clear hb hbox hg; have c0 := (af K1.out 0).trans rfl; have c1 := (af K1.out 1).trans rfl; have c2 := (af K1.out 2).trans rfl; have c3 := (af K1.out 3).trans rfl; have c4 := (af K1.out 4).trans rfl; have c5 := (af K1.out 5).trans rfl; have c6 := (af K1.out 6).trans rfl))
     go_ret
     exact ⟨rfl, HB.out⟩
   ·rw [decide_eq_false l0, Bool.false_and]
    have l1 : ¬ (2 : Int) ≤ (x.f3.length : Int) := by omega
    go_enter Try.func177, Try.ntmps177
    go_wp2_with (((with_reducible refine aG (N := 1) rfl ?_); refine aT ?hg (N := 1) ?hd (cs := #[.int .u8 x.f0, .int .i64 x.f1.f0, .int .i64 x.f1.f1, .int .i64 x.f1.f2, .int .i64 x.f1.f3, .int .i64 x.f2, .slice B x.f3.length cb]) (t := 26) ?hr ?_; (case hd => rfl); (case hg => rfl); (case hr => (go_simp; done)); intro b1 hg w1 hbox hb; have HB := ae.mk hb; have K1 := ae.mk hbox; clear hb hbox hg; have c0 := (af K1.out 0).trans rfl; have c1 := (af K1.out 1).trans rfl; have c2 := (af K1.out 2).trans rfl; have c3 := (af K1.out 3).trans rfl; have c4 := (af K1.out 4).trans rfl; have c5 := (af K1.out 5).trans rfl; have c6 := (af K1.out 6).trans rfl))
    go_ret
    exact ⟨rfl, HB.out⟩
  ·by_cases k3 : x.f0 = 3
   ·rw [if_pos (.inr k3)]
    have k2b : (x.f0 == 2) = false := beq_eq_false_iff_ne.mpr k2
    have k3b : (x.f0 == 3) = true := beq_iff_eq.mpr k3
    clear k3 k2 k1
    by_cases l0 : 2 ≤ x.f3.length
    ·rw [decide_eq_true l0, Bool.true_and]
     have l1 : (2 : Int) ≤ (x.f3.length : Int) := by omega
     by_cases i0 : x.f2 = 0
     ·rw [decide_eq_true i0]
      have Uj : (x.f2 == 0) = true := beq_iff_eq.mpr i0
      clear i0
      go_enter Try.func177, Try.ntmps177
      go_wp2_with (((with_reducible refine aG (N := 1) rfl ?_); refine aT ?hg (N := 1) ?hd (cs := #[.int .u8 x.f0, .int .i64 x.f1.f0, .int .i64 x.f1.f1, .int .i64 x.f1.f2, .int .i64 x.f1.f3, .int .i64 x.f2, .slice B x.f3.length cb]) (t := 26) ?hr ?_; (case hd => rfl); (case hg => rfl); (case hr => (go_simp; done)); intro b1 hg w1 hbox hb; have HB := ae.mk hb; have K1 := ae.mk hbox; clear hb hbox hg; have c0 := (af K1.out 0).trans rfl; have c1 := (af K1.out 1).trans rfl; have c2 := (af K1.out 2).trans rfl; have c3 := (af K1.out 3).trans rfl; have c4 := (af K1.out 4).trans rfl; have c5 := (af K1.out 5).trans rfl; have c6 := (af K1.out 6).trans rfl))
      go_ret
      exact ⟨rfl, HB.out⟩
     ·rw [decide_eq_false i0]
      have Uj : (x.f2 == 0) = false := beq_eq_false_iff_ne.mpr i0
      clear i0
      go_enter Try.func177, Try.ntmps177
      go_wp2_with (((with_reducible refine aG (N := 1) rfl ?_); refine aT ?hg (N := 1) ?hd (cs := #[.int .u8 x.f0, .int .i64 x.f1.f0, .int .i64 x.f1.f1, .int .i64 x.f1.f2, .int .i64 x.f1.f3, .int .i64 x.f2, .slice B x.f3.length cb]) (t := 26) ?hr ?_; (case hd => rfl); (case hg => rfl); (case hr => (go_simp; done)); intro b1 hg w1 hbox hb; have HB := ae.mk hb; have K1 := ae.mk hbox; clear hb hbox hg; have c0 := (af K1.out 0).trans rfl; have c1 := (af K1.out 1).trans rfl; have c2 := (af K1.out 2).trans rfl; have c3 := (af K1.out 3).trans rfl; have c4 := (af K1.out 4).trans rfl; have c5 := (af K1.out 5).trans rfl; have c6 := (af K1.out 6).trans rfl))
      go_ret
      exact ⟨rfl, HB.out⟩
    ·rw [decide_eq_false l0, Bool.false_and]
     have l1 : ¬ (2 : Int) ≤ (x.f3.length : Int) := by omega
     go_enter Try.func177, Try.ntmps177
     go_wp2_with (((with_reducible refine aG (N := 1) rfl ?_); refine aT ?hg (N := 1) ?hd (cs := #[.int .u8 x.f0, .int .i64 x.f1.f0, .int .i64 x.f1.f1, .int .i64 x.f1.f2, .int .i64 x.f1.f3, .int .i64 x.f2, .slice B x.f3.length cb]) (t := 26) ?hr ?_; (case hd => rfl); (case hg => rfl); (case hr => (go_simp; done)); intro b1 hg w1 hbox hb; have HB := ae.mk hb; have K1 := ae.mk hbox; clear hb hbox hg; have c0 := (af K1.out 0).trans rfl; have c1 := (af K1.out 1).trans rfl; have c2 := (af K1.out 2).trans rfl; have c3 := (af K1.out 3).trans rfl; have c4 := (af K1.out 4).trans rfl; have c5 := (af K1.out 5).trans rfl; have c6 := (af K1.out 6).trans rfl))
     go_ret
     exact ⟨rfl, HB.out⟩
   ·rw [if_neg (fun h => h.elim k2 k3)]
    have k2b : (x.f0 == 2) = false := beq_eq_false_iff_ne.mpr k2
    have k3b : (x.f0 == 3) = false := beq_eq_false_iff_ne.mpr k3
    go_enter Try.func177, Try.ntmps177
    go_wp2_with (((with_reducible refine aG (N := 1) rfl ?_); refine aT ?hg (N := 1) ?hd (cs := #[.int .u8 x.f0, .int .i64 x.f1.f0, .int .i64 x.f1.f1, .int .i64 x.f1.f2, .int .i64 x.f1.f3, .int .i64 x.f2, .slice B x.f3.length cb]) (t := 26) ?hr ?_; (case hd => rfl); (case hg => rfl); (case hr => (go_simp; done)); intro b1 hg w1 hbox hb; have HB := ae.mk hb; have K1 := ae.mk hbox; clear hb hbox hg; have c0 := (af K1.out 0).trans rfl; have c1 := (af K1.out 1).trans rfl; have c2 := (af K1.out 2).trans rfl; have c3 := (af K1.out 3).trans rfl; have c4 := (af K1.out 4).trans rfl; have c5 := (af K1.out 5).trans rfl; have c6 := (af K1.out 6).trans rfl))
    go_ret
    exact ⟨rfl, HB.out⟩
theorem adV {σ : Type} (Inv : σ → World → Prop) (step : σ → dD → Bool × σ) (g : Nat) (lb : Array Value) (eg : ∀ args w, (callFunc g args).run Try.prog w = .ok (.enter g args) w) (l : List dD) (A : Option Addr) (c : Nat)
  (hR : ∀ s W, Inv s W → Kd.C k23 W A l.length l) (hD : ∀ s W n, Inv s W → Inv s (W.drewN n))
  (hcall : ∀ s W (x : dD), x ∈ l → Inv s W → Calls Try.prog g (#[.agg #[.int .i64 x.f0, .int .i64 x.f1, .int .i64 x.f2, .int .i64 x.f3]] ++ lb) W fun e w' => e = .returned (.bool (step s x).1) ∧ Inv (step s x).2 w')
  (s : σ) (w : World) (hI : Inv s w) (hl : l.length ≤ 9223372036854775807) :
  Calls Try.prog 173 #[.slice A l.length c, .func (.func g) #[] lb] w fun e w' => e = .returned (.int .i64 (kK step 0 s l).1) ∧ Inv (kK step 0 s l).2 w' := by
 have HR := ae.mk hR
 have HI := ae.mk hI
 have yI := ae.mk hcall
 clear hR hcall hD hI
 go_enter Try.func173, Try.ntmps173
 go_wp2
 go_loopg [5, 8] l.length (fun gg _ v8 wr => ∃ (kk : Nat) (t : σ), kk ≤ l.length ∧ l.length - kk ≤ gg ∧ v8 = .int .i64 kk ∧ ae (Inv t wr) ∧ ae (kK step 0 s l = kK step kk t (l.drop kk)))
 case atStart => exact ⟨0, s, Nat.zero_le _, by omega, rfl, HI, ⟨by simp⟩⟩
 case round =>
  clear HI
  obtain ⟨kk, t, hkk, hg, rfl, HI, HS⟩ := hrel
  by_cases hlt : kk < l.length
  ·have hltz : (kk : Int) < (l.length : Int) := by omega
   obtain ⟨ad, rfl, hc0, hc1, hc2, hc3⟩ := LX (HR.out t wr HI.out) (kk : Int) (by omega) (by omega)
   have HX : ae (kK step kk t (l.drop kk) = if (step t (qf l (kk : Int))).1 = true then ((kk : Int), (step t (qf l (kk : Int))).2) else kK step ((kk + 1 : Nat) : Int) (step t (qf l (kk : Int))).2 (l.drop (kk + 1))) := ⟨PO step z23 l kk hlt t⟩
   have hmem : (qf l (kk : Int)) ∈ l := Cf z23 l kk hlt
   have hcall := yI.out t wr _ hmem HI.out
   clear hmem
   simp only [Int.toNat_natCast] at hc0 hc1 hc2 hc3
   generalize qf l (kk : Int) = x at hc0 hc1 hc2 hc3 HX hcall
   have HC := ae.mk hcall
   clear hcall
   cases hq : (step t x).1 with
   | true =>
    have h := HC.out
    rw [hq] at h
    have HH := ae.mk h
    have HQ := ae.mk hq
    clear hq HC h
    go_wp2_with fail
    refine HH.out.mono ?_
    rintro e w' ⟨rfl, hb'⟩
    have HB := ae.mk hb'
    clear hb'
    go_wp2
    go_ret
    rw [HS.out, HX.out, if_pos HQ.out]
    exact ⟨rfl, HB.out⟩
   | false =>
    have h := HC.out
    rw [hq] at h
    have HH := ae.mk h
    have HQ := ae.mk hq
    clear hq HC h
    go_wp2_with fail
    refine HH.out.mono ?_
    rintro e w' ⟨rfl, hb'⟩
    have HB := ae.mk hb'
    clear hb'
    go_wp2
    go_roundg (l.length - (kk + 1))
    case measure => omega
    case rel =>
     refine ⟨kk + 1, (step t x).2, by omega, by omega, by go_num, HB, ⟨?_⟩⟩
     rw [HS.out, HX.out, if_neg (by rw [HQ.out]; simp)]
  ·have hltz : ¬ (kk : Int) < (l.length : Int) := by omega
   go_wp2
   go_ret
   rw [HS.out, List.drop_eq_nil_of_le (by omega)]
   exact ⟨rfl, HI.out⟩
theorem acF {σ : Type} (Inv : σ → World → Prop) (step : σ → dD → Bool × σ) (g : Nat) (lb : Array Value) (eg : ∀ args w, (callFunc g args).run Try.prog w = .ok (.enter g args) w) (l : List dD) (A : Option Addr) (c : Nat)
  (hR : ∀ s W, Inv s W → Kd.C k23 W A l.length l) (hD : ∀ s W n, Inv s W → Inv s (W.drewN n))
  (hcall : ∀ s W (x : dD), x ∈ l → Inv s W → Calls Try.prog g (#[.agg #[.int .i64 x.f0, .int .i64 x.f1, .int .i64 x.f2, .int .i64 x.f3]] ++ lb) W fun e w' => e = .returned (.bool (step s x).1) ∧ Inv (step s x).2 w')
  (s : σ) (w : World) (hI : Inv s w) (hl : l.length ≤ 9223372036854775807) :
  Calls Try.prog 134 #[.slice A l.length c, .func (.func g) #[] lb] w fun e w' => e = .returned (.bool (rH step s l).1) ∧ Inv (rH step s l).2 w' := by
 have hi := adV Inv step g lb eg l A c hR hD hcall s w hI hl
 rw [Oh]
 clear hR hD hcall hI
 generalize kK step 0 s l = r at hi
 have HI := ae.mk hi
 clear hi
 go_enter Try.func134, Try.ntmps134
 go_wp2_with fail
 refine HI.out.mono ?_
 rintro e w' ⟨rfl, hb'⟩
 have HB := ae.mk hb'
 clear hb'
 go_wp2
 go_ret
 exact ⟨rfl, HB.out⟩
theorem may1 (x : dD) (w : World) : Calls Try.prog 138 #[.agg #[.int .i64 x.f0, .int .i64 x.f1, .int .i64 x.f2, .int .i64 x.f3]] w fun e w' => e = .returned (.bool (!jU x)) ∧ Below w.heap.size w w' := by
 have hc := fun W => xg.calls x.f0 x.f1 x.f2 x.f3 (jU x) W (NR _ _ _ _)
 have HC := ae.mk hc
 clear hc
 cases hm : jU x with
 | true =>
  rw [hm] at HC
  clear hm
  go_enter Try.func138, Try.ntmps138
  go_wp2_with fail
  refine (HC.out _).mono ?_
  rintro e w' ⟨rfl, hb⟩
  have HB := ae.mk hb
  clear hb
  go_wp2
  go_ret
  exact ⟨rfl, vT (jk (Below.refl _ _) _) (by simp) HB.out⟩
 | false =>
  rw [hm] at HC
  clear hm
  go_enter Try.func138, Try.ntmps138
  go_wp2_with fail
  refine (HC.out _).mono ?_
  rintro e w' ⟨rfl, hb⟩
  have HB := ae.mk hb
  clear hb
  go_wp2
  go_ret
  exact ⟨rfl, vT (jk (Below.refl _ _) _) (by simp) HB.out⟩
def kZ.f (l0 : List (dD)) : Option Bool := some (l0.all jU)
theorem kZ.calls (A0 : Option Addr) (c0 : Nat) (l0 : List (dD)) (r : Bool) (w : World) (hr0 : Kd.C k23 w A0 l0.length l0) (agK : l0.length ≤ c0) (h : kZ.f l0 = some r) :
  Calls Try.prog 68 #[.slice A0 l0.length c0] w fun e w' => e = .returned (.bool r) ∧ Below w.heap.size w w' := by
 have hcon := acF (fun (_ : Unit) W => Below w.heap.size w W) (fun _ x => (!jU x, ())) 138 #[] (r_ Try.func138 (by decide +kernel) (by kernel_rfl)) l0 A0 c0 (fun _ W hW => Kd.gV hr0 hW) (fun _ W n hW => eG hW n)
  (fun _ W x _ hW => by
   rw [show (#[Value.agg #[.int .i64 x.f0, .int .i64 x.f1, .int .i64 x.f2, .int .i64 x.f3]] ++ #[] : Array Value) = #[.agg #[.int .i64 x.f0, .int .i64 x.f1, .int .i64 x.f2, .int .i64 x.f3]] by simp]
   exact (may1 x W).mono fun e w' ⟨he, hb⟩ => ⟨he, vT hW hW.size hb⟩) () w (Below.refl _ _) hr0.2.1
 rw [JR] at hcon
 have e1 : r = !(l0.any fun x => !jU x) := by
  injection h with h
  rw [← h]
  clear h hcon hr0 agK
  induction l0 with
  | nil => rfl
  | cons x xs ih => simp only [List.all_cons, List.any_cons, ih, Bool.not_or, Bool.not_not]
 subst e1
 generalize (l0.any fun x => !jU x) = b at hcon
 have HC := ae.mk hcon
 clear hcon h hr0
 go_enter Try.func68, Try.ntmps68
 go_wp2_with fail
 refine HC.out.mono ?_
 rintro e w' ⟨rfl, hb⟩
 have HB := ae.mk hb
 clear hb
 go_wp2
 go_ret
 exact ⟨rfl, HB.out⟩
theorem Kp.grown {S : Nat → Prop} {W W1 : World} {g : Nat} (h : W.grownBy W1 (some g)) (hs : S g) : Kp S W W1 := ⟨h.size, fun k hk hn => h.block k hk (fun e => hn (by injection e with e; rw [e]; exact hs))⟩
theorem lN.count {w0 W W1 : World} {bn bm B : Nat} {s : Int × List Int} {n : Int} (h : lN w0 bn bm B s W) (hk : W1.heap[bn]? = some (.cells #[.int .i64 n] 3 (0, 0))) (hb : Below w0.heap.size w0 W1) (hg : W.grownBy W1 (some bn)) : lN w0 bn bm B (n, s.2) W1 :=
 ⟨hk, df h.hm hg (fun e => h.X9.2.2 (Option.some.inj e)), h.map.kept hg (fun e => h.X9.1 (Option.some.inj e).symm), hb, h.gn, h.gB, h.nd, h.rg⟩
theorem lN.met {w0 W W1 : World} {bn bm B : Nat} {s : Int × List Int} {i : Int} (h : lN w0 bn bm B s W) (hm : W1.ownsMap (H := Unit) Try.prog 3 (plainElem Try.prog 4) B (s.2.length + 1) ((F9 s.2).put (.int .i64 i) (.lit (.bool true)))) (hg : W.grownBy W1 (some B)) (hi : i ∉ s.2) (h0 : 0 ≤ i) (h1 : i ≤ 2147483647) : lN w0 bn bm B (s.1, i :: s.2) W1 :=
 ⟨df h.hn hg (fun e => h.X9.1 (Option.some.inj e)), df h.hm hg (fun e => h.X9.2.1 (Option.some.inj e)), hm, grown_below h.below hg h.gB h.below.size, h.gn, h.gB, List.nodup_cons.2 ⟨hi, h.nd⟩, fun j hj => by
  rcases List.mem_cons.1 hj with rfl | hj
  ·exact ⟨h0, h1⟩
  ·exact h.rg j hj⟩
theorem Yp (w : World) : (zeroValue 4).run Try.prog w = .ok (.bool false) w := by kernel_rfl
theorem afy (w0 : World) (bn bm B : Nat) (s : Int × List Int) (W : World) (x : ai) (A : Option Addr) (cb : Nat) (hI : lN w0 bn bm B s W) (h1 : 20000 < wrap64 (s.1 + 1)) :
  Calls Try.prog 176 (#[.agg #[.int .u8 x.f0, .int .i64 x.f1.f0, .int .i64 x.f1.f1, .int .i64 x.f1.f2, .int .i64 x.f1.f3, .int .i64 x.f2, .slice A x.f3.length cb]] ++ #[.pointer (some ⟨bn, 0, none⟩), .pointer (some ⟨bm, 0, none⟩)]) W fun e w' => e = .returned (.bool (iP s x).1) ∧ lN w0 bn bm B (iP s x).2 w' ∧ Kp (vK bn B) W w' := by
 rw [show iP s x = (false, (wrap64 (s.1 + 1), s.2)) from by unfold iP; rw [if_pos h1]]
 have HI := ae.mk hI
 have HK := ae.mk (Kp.refl (vK bn B) W)
 clear hI
 simp only [List.append_toArray, List.cons_append, List.nil_append]
 go_enter Try.func176, Try.ntmps176
 go_wp2_with (first | ((with_reducible refine aG (N := 3) rfl ?_); refine aT ?hg (N := 3) ?hd (cs := #[.int .u8 x.f0, .int .i64 x.f1.f0, .int .i64 x.f1.f1, .int .i64 x.f1.f2, .int .i64 x.f1.f3, .int .i64 x.f2, .slice A x.f3.length cb]) (t := 26) ?hr ?_; (case hd => rfl); (case hg => rfl); (case hr => (go_simp; done)); intro b3 hg w3 hbox hb; have K3 := ae.mk hbox; have dS := ae.mk (HI.out.step hb); have dZ := ae.mk (HK.out.trans (Kp.below hb)); clear HI HK; have HI := dS; have HK := dZ; clear dS dZ; clear hb hbox hg; have cn := (af HI.out.hn 0).trans rfl) | ((with_reducible refine lH (.store 3 (.tmp 1) (.tmp 6)) rfl ?_); go_loud (clear cn; refine fQ (w0 := w0) rfl rfl 3 (.tmp 1) (.tmp 6) rfl (g := bn) (j := 0) (base := w0.heap.size) #[.int .i64 (wrap64 (s.1 + 1))] (u := .int .i64 (wrap64 (s.1 + 1))) (bK := [.int .i64 (wrap64 (s.1 + 1))]) ?sA ?sX rfl ?sT ?s1 HI.out.hn ?sJ rfl HI.out.below HI.out.below.size HI.out.gn ?_; (case sA => rfl); (case sX => rfl); (case sT => rfl); (case s1 => (simp [Value.oneCell'])); (case sJ => (simp)); intro ws hbk hbb hgg; have dS := ae.mk (HI.out.count hbk hbb hgg); have dZ := ae.mk (HK.out.trans (Kp.grown hgg (Or.inl rfl))); have gQ := ae.mk (df K3.out hgg (fun e_ => uo K3.out HI.out.hn (by decide) (Option.some.inj e_))); clear HI HK K3 hbk hbb hgg; have HI := dS; have HK := dZ; have K3 := gQ; clear dS dZ gQ; have cn := (af HI.out.hn 0).trans rfl; have c0 := (af K3.out 0).trans rfl; have c1 := (af K3.out 1).trans rfl; have c2 := (af K3.out 2).trans rfl; have c3 := (af K3.out 3).trans rfl; have c4 := (af K3.out 4).trans rfl; have c5 := (af K3.out 5).trans rfl; have c6 := (af K3.out 6).trans rfl)))
 go_ret
 exact ⟨rfl, HI.out, HK.out⟩
theorem afz (w0 : World) (bn bm B : Nat) (s : Int × List Int) (W : World) (x : ai) (A : Option Addr) (cb : Nat) (hI : lN w0 bn bm B s W) (h1 : ¬ 20000 < wrap64 (s.1 + 1)) (h2 : wE x = false) :
  Calls Try.prog 176 (#[.agg #[.int .u8 x.f0, .int .i64 x.f1.f0, .int .i64 x.f1.f1, .int .i64 x.f1.f2, .int .i64 x.f1.f3, .int .i64 x.f2, .slice A x.f3.length cb]] ++ #[.pointer (some ⟨bn, 0, none⟩), .pointer (some ⟨bm, 0, none⟩)]) W fun e w' => e = .returned (.bool (iP s x).1) ∧ lN w0 bn bm B (iP s x).2 w' ∧ Kp (vK bn B) W w' := by
 rw [show iP s x = (false, (wrap64 (s.1 + 1), s.2)) from by unfold iP; rw [if_neg h1, zy, h2]; simp]
 have HN := ae.mk fun W => Bj x A cb W
 rw [h2] at HN
 clear h2
 have HI := ae.mk hI
 have HK := ae.mk (Kp.refl (vK bn B) W)
 clear hI
 simp only [List.append_toArray, List.cons_append, List.nil_append]
 go_enter Try.func176, Try.ntmps176
 go_wp2_with (first | ((with_reducible refine aG (N := 3) rfl ?_); refine aT ?hg (N := 3) ?hd (cs := #[.int .u8 x.f0, .int .i64 x.f1.f0, .int .i64 x.f1.f1, .int .i64 x.f1.f2, .int .i64 x.f1.f3, .int .i64 x.f2, .slice A x.f3.length cb]) (t := 26) ?hr ?_; (case hd => rfl); (case hg => rfl); (case hr => (go_simp; done)); intro b3 hg w3 hbox hb; have K3 := ae.mk hbox; have dS := ae.mk (HI.out.step hb); have dZ := ae.mk (HK.out.trans (Kp.below hb)); clear HI HK; have HI := dS; have HK := dZ; clear dS dZ; clear hb hbox hg; have cn := (af HI.out.hn 0).trans rfl) | ((with_reducible refine lH (.store 3 (.tmp 1) (.tmp 6)) rfl ?_); go_loud (clear cn; refine fQ (w0 := w0) rfl rfl 3 (.tmp 1) (.tmp 6) rfl (g := bn) (j := 0) (base := w0.heap.size) #[.int .i64 (wrap64 (s.1 + 1))] (u := .int .i64 (wrap64 (s.1 + 1))) (bK := [.int .i64 (wrap64 (s.1 + 1))]) ?sA ?sX rfl ?sT ?s1 HI.out.hn ?sJ rfl HI.out.below HI.out.below.size HI.out.gn ?_; (case sA => rfl); (case sX => rfl); (case sT => rfl); (case s1 => (simp [Value.oneCell'])); (case sJ => (simp)); intro ws hbk hbb hgg; have dS := ae.mk (HI.out.count hbk hbb hgg); have dZ := ae.mk (HK.out.trans (Kp.grown hgg (Or.inl rfl))); have gQ := ae.mk (df K3.out hgg (fun e_ => uo K3.out HI.out.hn (by decide) (Option.some.inj e_))); clear HI HK K3 hbk hbb hgg; have HI := dS; have HK := dZ; have K3 := gQ; clear dS dZ gQ; have cn := (af HI.out.hn 0).trans rfl; have c0 := (af K3.out 0).trans rfl; have c1 := (af K3.out 1).trans rfl; have c2 := (af K3.out 2).trans rfl; have c3 := (af K3.out 3).trans rfl; have c4 := (af K3.out 4).trans rfl; have c5 := (af K3.out 5).trans rfl; have c6 := (af K3.out 6).trans rfl)))
 clear cn
 clear c0 c1 c2 c3 c4 c5 c6
 refine (HN.out _).mono ?_
 rintro e wk ⟨rfl, hb⟩
 have gQ := ae.mk (aJ K3.out hb)
 clear K3
 have K3 := gQ
 clear gQ
 have dS := ae.mk (HI.out.step hb); have dZ := ae.mk (HK.out.trans (Kp.below hb)); clear HI HK; have HI := dS; have HK := dZ; clear dS dZ
 clear hb
 go_wp2
 go_ret
 exact ⟨rfl, HI.out, HK.out⟩
theorem afA (w0 : World) (bn bm B : Nat) (s : Int × List Int) (W : World) (x : ai) (A : Option Addr) (cb : Nat) (hI : lN w0 bn bm B s W) (h1 : ¬ 20000 < wrap64 (s.1 + 1)) (h2 : wE x = true) (h3 : jU x.f1 = false) :
  Calls Try.prog 176 (#[.agg #[.int .u8 x.f0, .int .i64 x.f1.f0, .int .i64 x.f1.f1, .int .i64 x.f1.f2, .int .i64 x.f1.f3, .int .i64 x.f2, .slice A x.f3.length cb]] ++ #[.pointer (some ⟨bn, 0, none⟩), .pointer (some ⟨bm, 0, none⟩)]) W fun e w' => e = .returned (.bool (iP s x).1) ∧ lN w0 bn bm B (iP s x).2 w' ∧ Kp (vK bn B) W w' := by
 rw [show iP s x = (false, (wrap64 (s.1 + 1), s.2)) from by unfold iP; rw [if_neg h1, zy, h2, h3]; simp]
 have HN := ae.mk fun W => Bj x A cb W
 rw [h2] at HN
 clear h2
 have M1 := ae.mk (show kZ.f [x.f1] = some false by simp [kZ.f, h3])
 clear h3
 have HI := ae.mk hI
 have HK := ae.mk (Kp.refl (vK bn B) W)
 clear hI
 simp only [List.append_toArray, List.cons_append, List.nil_append]
 go_enter Try.func176, Try.ntmps176
 go_wp2_with (first | ((with_reducible refine aG (N := 3) rfl ?_); refine aT ?hg (N := 3) ?hd (cs := #[.int .u8 x.f0, .int .i64 x.f1.f0, .int .i64 x.f1.f1, .int .i64 x.f1.f2, .int .i64 x.f1.f3, .int .i64 x.f2, .slice A x.f3.length cb]) (t := 26) ?hr ?_; (case hd => rfl); (case hg => rfl); (case hr => (go_simp; done)); intro b3 hg w3 hbox hb; have K3 := ae.mk hbox; have dS := ae.mk (HI.out.step hb); have dZ := ae.mk (HK.out.trans (Kp.below hb)); clear HI HK; have HI := dS; have HK := dZ; clear dS dZ; clear hb hbox hg; have cn := (af HI.out.hn 0).trans rfl) | ((with_reducible refine lH (.store 3 (.tmp 1) (.tmp 6)) rfl ?_); go_loud (clear cn; refine fQ (w0 := w0) rfl rfl 3 (.tmp 1) (.tmp 6) rfl (g := bn) (j := 0) (base := w0.heap.size) #[.int .i64 (wrap64 (s.1 + 1))] (u := .int .i64 (wrap64 (s.1 + 1))) (bK := [.int .i64 (wrap64 (s.1 + 1))]) ?sA ?sX rfl ?sT ?s1 HI.out.hn ?sJ rfl HI.out.below HI.out.below.size HI.out.gn ?_; (case sA => rfl); (case sX => rfl); (case sT => rfl); (case s1 => (simp [Value.oneCell'])); (case sJ => (simp)); intro ws hbk hbb hgg; have dS := ae.mk (HI.out.count hbk hbb hgg); have dZ := ae.mk (HK.out.trans (Kp.grown hgg (Or.inl rfl))); have gQ := ae.mk (df K3.out hgg (fun e_ => uo K3.out HI.out.hn (by decide) (Option.some.inj e_))); clear HI HK K3 hbk hbb hgg; have HI := dS; have HK := dZ; have K3 := gQ; clear dS dZ gQ; have cn := (af HI.out.hn 0).trans rfl; have c0 := (af K3.out 0).trans rfl; have c1 := (af K3.out 1).trans rfl; have c2 := (af K3.out 2).trans rfl; have c3 := (af K3.out 3).trans rfl; have c4 := (af K3.out 4).trans rfl; have c5 := (af K3.out 5).trans rfl; have c6 := (af K3.out 6).trans rfl)))
 clear cn
 clear c0 c1 c2 c3 c4 c5 c6
 refine (HN.out _).mono ?_
 rintro e wk ⟨rfl, hb⟩
 have gQ := ae.mk (aJ K3.out hb)
 clear K3
 have K3 := gQ
 clear gQ
 have dS := ae.mk (HI.out.step hb); have dZ := ae.mk (HK.out.trans (Kp.below hb)); clear HI HK; have HI := dS; have HK := dZ; clear dS dZ
 clear hb
 have c0 := (af K3.out 0).trans rfl
 have c1 := (af K3.out 1).trans rfl
 have c2 := (af K3.out 2).trans rfl
 have c3 := (af K3.out 3).trans rfl
 have c4 := (af K3.out 4).trans rfl
 have c5 := (af K3.out 5).trans rfl
 have c6 := (af K3.out 6).trans rfl
 go_wp2_with (((with_reducible refine aG (N := 17) rfl ?_); (try (refine iE (by rfl) ?_; dsimp only)); refine Kd.vO k23 _ 23 ?hg (N := 17) ?hd (xs := ([x.f1] : List dD)) (inner := [.int .i64 x.f1.f0, .int .i64 x.f1.f1, .int .i64 x.f1.f2, .int .i64 x.f1.f3]) (ok := fun _ => True) (fD := fun _ => True) ?hr ?hp (fun _ hk => hk) trivial (Below.refl _ _) (Nat.le_refl _) (by simp) ?_; (case hd => rfl); (case hg => rfl); (case hr => (go_simp; done)); (case hp => exact (bW.c4 (show Kd.M k23 _ _ _ x.f1 [.int .i64 x.f1.f0, .int .i64 x.f1.f1, .int .i64 x.f1.f2, .int .i64 x.f1.f3] from qR _ _ _ x.f1) (bW.none _ _))); intro vr wr ho hb nO ji; clear nO ji; obtain ⟨Ar, cr, er⟩ := Kd.gJ ho; subst er; have gQ := ae.mk (aJ K3.out hb); clear K3; have K3 := gQ; clear gQ; have dS := ae.mk (HI.out.step hb); have dZ := ae.mk (HK.out.trans (Kp.below hb)); clear HI HK; have HI := dS; have HK := dZ; clear dS dZ; have HR := ae.mk (Kd.dO ho).2.2; have LR := ae.mk (Kd.dO ho).2.1; clear ho hb))
 clear c0 c1 c2 c3 c4 c5 c6
 refine (kZ.calls Ar cr [x.f1] false _ HR.out LR.out M1.out).mono ?_
 rintro e wk ⟨rfl, hb⟩
 have gQ := ae.mk (aJ K3.out hb)
 clear K3
 have K3 := gQ
 clear gQ
 have dS := ae.mk (HI.out.step hb); have dZ := ae.mk (HK.out.trans (Kp.below hb)); clear HI HK; have HI := dS; have HK := dZ; clear dS dZ
 clear hb
 go_wp2
 go_ret
 exact ⟨rfl, HI.out, HK.out⟩
theorem afB (w0 : World) (bn bm B : Nat) (s : Int × List Int) (W : World) (x : ai) (A : Option Addr) (cb : Nat) (hI : lN w0 bn bm B s W) (h1 : ¬ 20000 < wrap64 (s.1 + 1)) (h2 : wE x = true) (h3 : jU x.f1 = true) (h4 : x.f0 ≠ 1) :
  Calls Try.prog 176 (#[.agg #[.int .u8 x.f0, .int .i64 x.f1.f0, .int .i64 x.f1.f1, .int .i64 x.f1.f2, .int .i64 x.f1.f3, .int .i64 x.f2, .slice A x.f3.length cb]] ++ #[.pointer (some ⟨bn, 0, none⟩), .pointer (some ⟨bm, 0, none⟩)]) W fun e w' => e = .returned (.bool (iP s x).1) ∧ lN w0 bn bm B (iP s x).2 w' ∧ Kp (vK bn B) W w' := by
 rw [show iP s x = (true, (wrap64 (s.1 + 1), s.2)) from by unfold iP; rw [if_neg h1, zy, h2, h3, if_neg (by simp), if_neg h4]]
 have HN := ae.mk fun W => Bj x A cb W
 rw [h2] at HN
 clear h2
 have M1 := ae.mk (show kZ.f [x.f1] = some true by simp [kZ.f, h3])
 clear h3
 have GX : (x.f0 == 1) = false := beq_eq_false_iff_ne.mpr h4
 clear h4
 have HI := ae.mk hI
 have HK := ae.mk (Kp.refl (vK bn B) W)
 clear hI
 simp only [List.append_toArray, List.cons_append, List.nil_append]
 go_enter Try.func176, Try.ntmps176
 go_wp2_with (first | ((with_reducible refine aG (N := 3) rfl ?_); refine aT ?hg (N := 3) ?hd (cs := #[.int .u8 x.f0, .int .i64 x.f1.f0, .int .i64 x.f1.f1, .int .i64 x.f1.f2, .int .i64 x.f1.f3, .int .i64 x.f2, .slice A x.f3.length cb]) (t := 26) ?hr ?_; (case hd => rfl); (case hg => rfl); (case hr => (go_simp; done)); intro b3 hg w3 hbox hb; have K3 := ae.mk hbox; have dS := ae.mk (HI.out.step hb); have dZ := ae.mk (HK.out.trans (Kp.below hb)); clear HI HK; have HI := dS; have HK := dZ; clear dS dZ; clear hb hbox hg; have cn := (af HI.out.hn 0).trans rfl) | ((with_reducible refine lH (.store 3 (.tmp 1) (.tmp 6)) rfl ?_); go_loud (clear cn; refine fQ (w0 := w0) rfl rfl 3 (.tmp 1) (.tmp 6) rfl (g := bn) (j := 0) (base := w0.heap.size) #[.int .i64 (wrap64 (s.1 + 1))] (u := .int .i64 (wrap64 (s.1 + 1))) (bK := [.int .i64 (wrap64 (s.1 + 1))]) ?sA ?sX rfl ?sT ?s1 HI.out.hn ?sJ rfl HI.out.below HI.out.below.size HI.out.gn ?_; (case sA => rfl); (case sX => rfl); (case sT => rfl); (case s1 => (simp [Value.oneCell'])); (case sJ => (simp)); intro ws hbk hbb hgg; have dS := ae.mk (HI.out.count hbk hbb hgg); have dZ := ae.mk (HK.out.trans (Kp.grown hgg (Or.inl rfl))); have gQ := ae.mk (df K3.out hgg (fun e_ => uo K3.out HI.out.hn (by decide) (Option.some.inj e_))); clear HI HK K3 hbk hbb hgg; have HI := dS; have HK := dZ; have K3 := gQ; clear dS dZ gQ; have cn := (af HI.out.hn 0).trans rfl; have c0 := (af K3.out 0).trans rfl; have c1 := (af K3.out 1).trans rfl; have c2 := (af K3.out 2).trans rfl; have c3 := (af K3.out 3).trans rfl; have c4 := (af K3.out 4).trans rfl; have c5 := (af K3.out 5).trans rfl; have c6 := (af K3.out 6).trans rfl)))
 clear cn
 clear c0 c1 c2 c3 c4 c5 c6
 refine (HN.out _).mono ?_
 rintro e wk ⟨rfl, hb⟩
 have gQ := ae.mk (aJ K3.out hb)
 clear K3
 have K3 := gQ
 clear gQ
 have dS := ae.mk (HI.out.step hb); have dZ := ae.mk (HK.out.trans (Kp.below hb)); clear HI HK; have HI := dS; have HK := dZ; clear dS dZ
 clear hb
 have c0 := (af K3.out 0).trans rfl
 have c1 := (af K3.out 1).trans rfl
 have c2 := (af K3.out 2).trans rfl
 have c3 := (af K3.out 3).trans rfl
 have c4 := (af K3.out 4).trans rfl
 have c5 := (af K3.out 5).trans rfl
 have c6 := (af K3.out 6).trans rfl
 go_wp2_with (((with_reducible refine aG (N := 17) rfl ?_); (try (refine iE (by rfl) ?_; dsimp only)); refine Kd.vO k23 _ 23 ?hg (N := 17) ?hd (xs := ([x.f1] : List dD)) (inner := [.int .i64 x.f1.f0, .int .i64 x.f1.f1, .int .i64 x.f1.f2, .int .i64 x.f1.f3]) (ok := fun _ => True) (fD := fun _ => True) ?hr ?hp (fun _ hk => hk) trivial (Below.refl _ _) (Nat.le_refl _) (by simp) ?_; (case hd => rfl); (case hg => rfl); (case hr => (go_simp; done)); (case hp => exact (bW.c4 (show Kd.M k23 _ _ _ x.f1 [.int .i64 x.f1.f0, .int .i64 x.f1.f1, .int .i64 x.f1.f2, .int .i64 x.f1.f3] from qR _ _ _ x.f1) (bW.none _ _))); intro vr wr ho hb nO ji; clear nO ji; obtain ⟨Ar, cr, er⟩ := Kd.gJ ho; subst er; have gQ := ae.mk (aJ K3.out hb); clear K3; have K3 := gQ; clear gQ; have dS := ae.mk (HI.out.step hb); have dZ := ae.mk (HK.out.trans (Kp.below hb)); clear HI HK; have HI := dS; have HK := dZ; clear dS dZ; have HR := ae.mk (Kd.dO ho).2.2; have LR := ae.mk (Kd.dO ho).2.1; clear ho hb))
 clear c0 c1 c2 c3 c4 c5 c6
 refine (kZ.calls Ar cr [x.f1] true _ HR.out LR.out M1.out).mono ?_
 rintro e wk ⟨rfl, hb⟩
 have gQ := ae.mk (aJ K3.out hb)
 clear K3
 have K3 := gQ
 clear gQ
 have dS := ae.mk (HI.out.step hb); have dZ := ae.mk (HK.out.trans (Kp.below hb)); clear HI HK; have HI := dS; have HK := dZ; clear dS dZ
 clear hb
 have c0 := (af K3.out 0).trans rfl
 have c1 := (af K3.out 1).trans rfl
 have c2 := (af K3.out 2).trans rfl
 have c3 := (af K3.out 3).trans rfl
 have c4 := (af K3.out 4).trans rfl
 have c5 := (af K3.out 5).trans rfl
 have c6 := (af K3.out 6).trans rfl
 go_wp2
 go_ret
 exact ⟨rfl, HI.out, HK.out⟩
theorem afC (w0 : World) (bn bm B : Nat) (s : Int × List Int) (W : World) (x : ai) (A : Option Addr) (cb : Nat) (hI : lN w0 bn bm B s W) (h1 : ¬ 20000 < wrap64 (s.1 + 1)) (h2 : wE x = true) (h3 : jU x.f1 = true) (h4 : x.f0 = 1) (h5 : 0 ≤ x.f2) (h6 : x.f2 ≤ 2147483647) (h7 : x.f2 ∈ s.2) :
  Calls Try.prog 176 (#[.agg #[.int .u8 x.f0, .int .i64 x.f1.f0, .int .i64 x.f1.f1, .int .i64 x.f1.f2, .int .i64 x.f1.f3, .int .i64 x.f2, .slice A x.f3.length cb]] ++ #[.pointer (some ⟨bn, 0, none⟩), .pointer (some ⟨bm, 0, none⟩)]) W fun e w' => e = .returned (.bool (iP s x).1) ∧ lN w0 bn bm B (iP s x).2 w' ∧ Kp (vK bn B) W w' := by
 rw [show iP s x = (false, (wrap64 (s.1 + 1), s.2)) from by unfold iP; rw [if_neg h1, zy, h2, h3, if_neg (by simp), if_pos h4, if_pos h7]]
 have HN := ae.mk fun W => Bj x A cb W
 rw [h2] at HN
 clear h2
 have M1 := ae.mk (show kZ.f [x.f1] = some true by simp [kZ.f, h3])
 clear h3
 have LK : ae ((F9 s.2).atKey (.int .i64 x.f2) (.lit (.bool false)) = .lit (.bool true)) := ⟨by rw [PS, decide_eq_true h7]⟩
 clear h7
 have WF : ae ((Lit.int .i64 x.f2).wf = true) := ⟨WalkArith.wf_i64 (by omega)⟩
 have GX : (x.f0 == 1) = true := beq_iff_eq.mpr h4
 clear h4 h5 h6
 have HI := ae.mk hI
 have HK := ae.mk (Kp.refl (vK bn B) W)
 clear hI
 simp only [List.append_toArray, List.cons_append, List.nil_append]
 go_enter Try.func176, Try.ntmps176
 go_wp2_with (first | ((with_reducible refine aG (N := 3) rfl ?_); refine aT ?hg (N := 3) ?hd (cs := #[.int .u8 x.f0, .int .i64 x.f1.f0, .int .i64 x.f1.f1, .int .i64 x.f1.f2, .int .i64 x.f1.f3, .int .i64 x.f2, .slice A x.f3.length cb]) (t := 26) ?hr ?_; (case hd => rfl); (case hg => rfl); (case hr => (go_simp; done)); intro b3 hg w3 hbox hb; have K3 := ae.mk hbox; have dS := ae.mk (HI.out.step hb); have dZ := ae.mk (HK.out.trans (Kp.below hb)); clear HI HK; have HI := dS; have HK := dZ; clear dS dZ; clear hb hbox hg; have cn := (af HI.out.hn 0).trans rfl) | ((with_reducible refine lH (.store 3 (.tmp 1) (.tmp 6)) rfl ?_); go_loud (clear cn; refine fQ (w0 := w0) rfl rfl 3 (.tmp 1) (.tmp 6) rfl (g := bn) (j := 0) (base := w0.heap.size) #[.int .i64 (wrap64 (s.1 + 1))] (u := .int .i64 (wrap64 (s.1 + 1))) (bK := [.int .i64 (wrap64 (s.1 + 1))]) ?sA ?sX rfl ?sT ?s1 HI.out.hn ?sJ rfl HI.out.below HI.out.below.size HI.out.gn ?_; (case sA => rfl); (case sX => rfl); (case sT => rfl); (case s1 => (simp [Value.oneCell'])); (case sJ => (simp)); intro ws hbk hbb hgg; have dS := ae.mk (HI.out.count hbk hbb hgg); have dZ := ae.mk (HK.out.trans (Kp.grown hgg (Or.inl rfl))); have gQ := ae.mk (df K3.out hgg (fun e_ => uo K3.out HI.out.hn (by decide) (Option.some.inj e_))); clear HI HK K3 hbk hbb hgg; have HI := dS; have HK := dZ; have K3 := gQ; clear dS dZ gQ; have cn := (af HI.out.hn 0).trans rfl; have c0 := (af K3.out 0).trans rfl; have c1 := (af K3.out 1).trans rfl; have c2 := (af K3.out 2).trans rfl; have c3 := (af K3.out 3).trans rfl; have c4 := (af K3.out 4).trans rfl; have c5 := (af K3.out 5).trans rfl; have c6 := (af K3.out 6).trans rfl)))
 clear cn
 clear c0 c1 c2 c3 c4 c5 c6
 refine (HN.out _).mono ?_
 rintro e wk ⟨rfl, hb⟩
 have gQ := ae.mk (aJ K3.out hb)
 clear K3
 have K3 := gQ
 clear gQ
 have dS := ae.mk (HI.out.step hb); have dZ := ae.mk (HK.out.trans (Kp.below hb)); clear HI HK; have HI := dS; have HK := dZ; clear dS dZ
 clear hb
 have c0 := (af K3.out 0).trans rfl
 have c1 := (af K3.out 1).trans rfl
 have c2 := (af K3.out 2).trans rfl
 have c3 := (af K3.out 3).trans rfl
 have c4 := (af K3.out 4).trans rfl
 have c5 := (af K3.out 5).trans rfl
 have c6 := (af K3.out 6).trans rfl
 go_wp2_with (((with_reducible refine aG (N := 17) rfl ?_); (try (refine iE (by rfl) ?_; dsimp only)); refine Kd.vO k23 _ 23 ?hg (N := 17) ?hd (xs := ([x.f1] : List dD)) (inner := [.int .i64 x.f1.f0, .int .i64 x.f1.f1, .int .i64 x.f1.f2, .int .i64 x.f1.f3]) (ok := fun _ => True) (fD := fun _ => True) ?hr ?hp (fun _ hk => hk) trivial (Below.refl _ _) (Nat.le_refl _) (by simp) ?_; (case hd => rfl); (case hg => rfl); (case hr => (go_simp; done)); (case hp => exact (bW.c4 (show Kd.M k23 _ _ _ x.f1 [.int .i64 x.f1.f0, .int .i64 x.f1.f1, .int .i64 x.f1.f2, .int .i64 x.f1.f3] from qR _ _ _ x.f1) (bW.none _ _))); intro vr wr ho hb nO ji; clear nO ji; obtain ⟨Ar, cr, er⟩ := Kd.gJ ho; subst er; have gQ := ae.mk (aJ K3.out hb); clear K3; have K3 := gQ; clear gQ; have dS := ae.mk (HI.out.step hb); have dZ := ae.mk (HK.out.trans (Kp.below hb)); clear HI HK; have HI := dS; have HK := dZ; clear dS dZ; have HR := ae.mk (Kd.dO ho).2.2; have LR := ae.mk (Kd.dO ho).2.1; clear ho hb))
 clear c0 c1 c2 c3 c4 c5 c6
 refine (kZ.calls Ar cr [x.f1] true _ HR.out LR.out M1.out).mono ?_
 rintro e wk ⟨rfl, hb⟩
 have gQ := ae.mk (aJ K3.out hb)
 clear K3
 have K3 := gQ
 clear gQ
 have dS := ae.mk (HI.out.step hb); have dZ := ae.mk (HK.out.trans (Kp.below hb)); clear HI HK; have HI := dS; have HK := dZ; clear dS dZ
 clear hb
 have c0 := (af K3.out 0).trans rfl
 have c1 := (af K3.out 1).trans rfl
 have c2 := (af K3.out 2).trans rfl
 have c3 := (af K3.out 3).trans rfl
 have c4 := (af K3.out 4).trans rfl
 have c5 := (af K3.out 5).trans rfl
 have c6 := (af K3.out 6).trans rfl
 have cm := (af HI.out.hm 0).trans rfl
 go_wp2_with (((with_reducible refine aG (N := 29) rfl ?_); (try (refine iE (by rfl) ?_; dsimp only)); refine ER _ rfl _ _ 161 rfl 3 4 (Maps.int_keyed Try.underlying3) Try.underlying161 Try.underlying4 (Yp _) B _ _ rfl HI.out.map _ (.int .i64 x.f2) rfl (Maps.keyOf_int_mk Try.underlying3 WF.out) true LK.out ?_))
 go_ret
 exact ⟨rfl, HI.out, HK.out⟩
theorem afD (w0 : World) (bn bm B : Nat) (s : Int × List Int) (W : World) (x : ai) (A : Option Addr) (cb : Nat) (hI : lN w0 bn bm B s W) (h1 : ¬ 20000 < wrap64 (s.1 + 1)) (h2 : wE x = true) (h3 : jU x.f1 = true) (h4 : x.f0 = 1) (h5 : 0 ≤ x.f2) (h6 : x.f2 ≤ 2147483647) (h7 : x.f2 ∉ s.2) :
  Calls Try.prog 176 (#[.agg #[.int .u8 x.f0, .int .i64 x.f1.f0, .int .i64 x.f1.f1, .int .i64 x.f1.f2, .int .i64 x.f1.f3, .int .i64 x.f2, .slice A x.f3.length cb]] ++ #[.pointer (some ⟨bn, 0, none⟩), .pointer (some ⟨bm, 0, none⟩)]) W fun e w' => e = .returned (.bool (iP s x).1) ∧ lN w0 bn bm B (iP s x).2 w' ∧ Kp (vK bn B) W w' := by
 rw [show iP s x = (true, (wrap64 (s.1 + 1), x.f2 :: s.2)) from by unfold iP; rw [if_neg h1, zy, h2, h3, if_neg (by simp), if_pos h4, if_neg h7]]
 have HN := ae.mk fun W => Bj x A cb W
 rw [h2] at HN
 clear h2
 have M1 := ae.mk (show kZ.f [x.f1] = some true by simp [kZ.f, h3])
 clear h3
 have LK : ae ((F9 s.2).atKey (.int .i64 x.f2) (.lit (.bool false)) = .lit (.bool false)) := ⟨by rw [PS, decide_eq_false h7]⟩
 have NM := ae.mk h7
 clear h7
 have zN : ae (s.2.length < maxLen) := ⟨by have h8 := WO 2147483648 s.2 hI.nd (fun i hi => by have := hI.rg i hi; omega); unfold maxLen; omega⟩
 have I0 := ae.mk h5
 have I1 := ae.mk h6
 have WF : ae ((Lit.int .i64 x.f2).wf = true) := ⟨WalkArith.wf_i64 (by omega)⟩
 have GX : (x.f0 == 1) = true := beq_iff_eq.mpr h4
 clear h4 h5 h6
 have HI := ae.mk hI
 have HK := ae.mk (Kp.refl (vK bn B) W)
 clear hI
 simp only [List.append_toArray, List.cons_append, List.nil_append]
 go_enter Try.func176, Try.ntmps176
 go_wp2_with (first | ((with_reducible refine aG (N := 3) rfl ?_); refine aT ?hg (N := 3) ?hd (cs := #[.int .u8 x.f0, .int .i64 x.f1.f0, .int .i64 x.f1.f1, .int .i64 x.f1.f2, .int .i64 x.f1.f3, .int .i64 x.f2, .slice A x.f3.length cb]) (t := 26) ?hr ?_; (case hd => rfl); (case hg => rfl); (case hr => (go_simp; done)); intro b3 hg w3 hbox hb; have K3 := ae.mk hbox; have dS := ae.mk (HI.out.step hb); have dZ := ae.mk (HK.out.trans (Kp.below hb)); clear HI HK; have HI := dS; have HK := dZ; clear dS dZ; clear hb hbox hg; have cn := (af HI.out.hn 0).trans rfl) | ((with_reducible refine lH (.store 3 (.tmp 1) (.tmp 6)) rfl ?_); go_loud (clear cn; refine fQ (w0 := w0) rfl rfl 3 (.tmp 1) (.tmp 6) rfl (g := bn) (j := 0) (base := w0.heap.size) #[.int .i64 (wrap64 (s.1 + 1))] (u := .int .i64 (wrap64 (s.1 + 1))) (bK := [.int .i64 (wrap64 (s.1 + 1))]) ?sA ?sX rfl ?sT ?s1 HI.out.hn ?sJ rfl HI.out.below HI.out.below.size HI.out.gn ?_; (case sA => rfl); (case sX => rfl); (case sT => rfl); (case s1 => (simp [Value.oneCell'])); (case sJ => (simp)); intro ws hbk hbb hgg; have dS := ae.mk (HI.out.count hbk hbb hgg); have dZ := ae.mk (HK.out.trans (Kp.grown hgg (Or.inl rfl))); have gQ := ae.mk (df K3.out hgg (fun e_ => uo K3.out HI.out.hn (by decide) (Option.some.inj e_))); clear HI HK K3 hbk hbb hgg; have HI := dS; have HK := dZ; have K3 := gQ; clear dS dZ gQ; have cn := (af HI.out.hn 0).trans rfl; have c0 := (af K3.out 0).trans rfl; have c1 := (af K3.out 1).trans rfl; have c2 := (af K3.out 2).trans rfl; have c3 := (af K3.out 3).trans rfl; have c4 := (af K3.out 4).trans rfl; have c5 := (af K3.out 5).trans rfl; have c6 := (af K3.out 6).trans rfl)))
 clear cn
 clear c0 c1 c2 c3 c4 c5 c6
 refine (HN.out _).mono ?_
 rintro e wk ⟨rfl, hb⟩
 have gQ := ae.mk (aJ K3.out hb)
 clear K3
 have K3 := gQ
 clear gQ
 have dS := ae.mk (HI.out.step hb); have dZ := ae.mk (HK.out.trans (Kp.below hb)); clear HI HK; have HI := dS; have HK := dZ; clear dS dZ
 clear hb
 have c0 := (af K3.out 0).trans rfl
 have c1 := (af K3.out 1).trans rfl
 have c2 := (af K3.out 2).trans rfl
 have c3 := (af K3.out 3).trans rfl
 have c4 := (af K3.out 4).trans rfl
 have c5 := (af K3.out 5).trans rfl
 have c6 := (af K3.out 6).trans rfl
 go_wp2_with (((with_reducible refine aG (N := 17) rfl ?_); (try (refine iE (by rfl) ?_; dsimp only)); refine Kd.vO k23 _ 23 ?hg (N := 17) ?hd (xs := ([x.f1] : List dD)) (inner := [.int .i64 x.f1.f0, .int .i64 x.f1.f1, .int .i64 x.f1.f2, .int .i64 x.f1.f3]) (ok := fun _ => True) (fD := fun _ => True) ?hr ?hp (fun _ hk => hk) trivial (Below.refl _ _) (Nat.le_refl _) (by simp) ?_; (case hd => rfl); (case hg => rfl); (case hr => (go_simp; done)); (case hp => exact (bW.c4 (show Kd.M k23 _ _ _ x.f1 [.int .i64 x.f1.f0, .int .i64 x.f1.f1, .int .i64 x.f1.f2, .int .i64 x.f1.f3] from qR _ _ _ x.f1) (bW.none _ _))); intro vr wr ho hb nO ji; clear nO ji; obtain ⟨Ar, cr, er⟩ := Kd.gJ ho; subst er; have gQ := ae.mk (aJ K3.out hb); clear K3; have K3 := gQ; clear gQ; have dS := ae.mk (HI.out.step hb); have dZ := ae.mk (HK.out.trans (Kp.below hb)); clear HI HK; have HI := dS; have HK := dZ; clear dS dZ; have HR := ae.mk (Kd.dO ho).2.2; have LR := ae.mk (Kd.dO ho).2.1; clear ho hb))
 clear c0 c1 c2 c3 c4 c5 c6
 refine (kZ.calls Ar cr [x.f1] true _ HR.out LR.out M1.out).mono ?_
 rintro e wk ⟨rfl, hb⟩
 have gQ := ae.mk (aJ K3.out hb)
 clear K3
 have K3 := gQ
 clear gQ
 have dS := ae.mk (HI.out.step hb); have dZ := ae.mk (HK.out.trans (Kp.below hb)); clear HI HK; have HI := dS; have HK := dZ; clear dS dZ
 clear hb
 have c0 := (af K3.out 0).trans rfl
 have c1 := (af K3.out 1).trans rfl
 have c2 := (af K3.out 2).trans rfl
 have c3 := (af K3.out 3).trans rfl
 have c4 := (af K3.out 4).trans rfl
 have c5 := (af K3.out 5).trans rfl
 have c6 := (af K3.out 6).trans rfl
 have cm := (af HI.out.hm 0).trans rfl
 go_wp2_with (first | ((with_reducible refine aG (N := 29) rfl ?_); (try (refine iE (by rfl) ?_; dsimp only)); refine ER _ rfl _ _ 161 rfl 3 4 (Maps.int_keyed Try.underlying3) Try.underlying161 Try.underlying4 (Yp _) B _ _ rfl HI.out.map _ (.int .i64 x.f2) rfl (Maps.keyOf_int_mk Try.underlying3 WF.out) false LK.out ?_) | (at_mapUpdate; refine wpList_mapUpdate_own _ rfl _ _ _ 161 rfl 3 4 (Maps.int_keyed Try.underlying3) Try.underlying161 _ B _ _ rfl HI.out.map zN.out _ _ (.int .i64 x.f2) rfl rfl (Maps.keyOf_int_mk Try.underlying3 WF.out) (.lit (.bool true)) [] (plainElem_bool Try.underlying4 true) ?_; intro wu hown1 hgrow1; have dS := ae.mk (HI.out.met hown1 hgrow1 NM.out I0.out I1.out); have dZ := ae.mk (HK.out.trans (Kp.grown hgrow1 (Or.inr rfl))); clear HI HK hown1 hgrow1; have HI := dS; have HK := dZ; clear dS dZ))
 go_ret
 exact ⟨rfl, HI.out, HK.out⟩
theorem ad6 (w0 : World) (bn bm B : Nat) (s : Int × List Int) (W : World) (x : ai) (A : Option Addr) (cb : Nat) (hI : lN w0 bn bm B s W) :
  Calls Try.prog 176 (#[.agg #[.int .u8 x.f0, .int .i64 x.f1.f0, .int .i64 x.f1.f1, .int .i64 x.f1.f2, .int .i64 x.f1.f3, .int .i64 x.f2, .slice A x.f3.length cb]] ++ #[.pointer (some ⟨bn, 0, none⟩), .pointer (some ⟨bm, 0, none⟩)]) W fun e w' => e = .returned (.bool (iP s x).1) ∧ lN w0 bn bm B (iP s x).2 w' ∧ Kp (vK bn B) W w' := by
 by_cases h1 : 20000 < wrap64 (s.1 + 1)
 ·exact afy w0 bn bm B s W x A cb hI h1
 ·cases h2 : wE x with
  | false => exact afz w0 bn bm B s W x A cb hI h1 h2
  | true =>
   cases h3 : jU x.f1 with
   | false => exact afA w0 bn bm B s W x A cb hI h1 h2 h3
   | true =>
    by_cases h4 : x.f0 = 1
    ·have h8 := h2
     unfold wE at h8
     rw [if_pos h4] at h8
     simp only [Bool.and_eq_true, decide_eq_true_eq] at h8
     by_cases h7 : x.f2 ∈ s.2
     ·exact afC w0 bn bm B s W x A cb hI h1 h2 h3 h4 h8.2.1 h8.2.2 h7
     ·exact afD w0 bn bm B s W x A cb hI h1 h2 h3 h4 h8.2.1 h8.2.2 h7
    ·exact afB w0 bn bm B s W x A cb hI h1 h2 h3 h4
section
variable {P : Program} {ops : Array Oper} {rest : List Oper} {o : Oper} {a : Act} {Q : Exit → Act → World → Prop}
theorem Ux {W : World} (hgd : o.guard = none) {N : Tmp} (_hd : o.dst = some N) (t k e : TypeId) (ho : o.op = .makeMap t none)
  (h : ∀ g, g = W.heap.size → ∀ w1, Below W.heap.size W w1 → w1.ownsMap (H := Unit) P k (plainElem P e) g 0 (.map []) → wpList P ops Q rest (a.put o.dst (.map (some g))) w1) : wpList P ops Q (o :: rest) a W := by
 refine Kd.zU hgd (w1 := W.alloc (.map #[] 0)) (v := .map (some W.heap.size)) ?_ (h _ rfl _ (jk (Below.refl _ _) _) (World.ownsMap_made W P k _))
 unfold execOp
 simp [ho, run_makeMap, Result.andThen]
end
theorem ad5 (c : ai) (A : Option Addr) (cc : Nat) (W : World) (hz : sz c ≤ 1048576) (hr : Kd.C k26 W A c.f3.length c.f3) (hc : c.f3.length ≤ cc) : Calls Try.prog 144 #[.agg #[.int .u8 c.f0, .int .i64 c.f1.f0, .int .i64 c.f1.f1, .int .i64 c.f1.f2, .int .i64 c.f1.f3, .int .i64 c.f2, .slice A c.f3.length cc]] W fun e w' => e = .returned (.bool (kU c)) ∧ Below W.heap.size W w' := by
 have Vk := ae.mk fun (bn bm B : Nat) (W1 : World) (hI : lN W bn bm B (0, []) W1) => acb (vK bn B) (lN W bn bm B) iP 176 #[.pointer (some ⟨bn, 0, none⟩), .pointer (some ⟨bm, 0, none⟩)] (r_ Try.func176 (by decide +kernel) (by kernel_rfl)) W (fun s w h => h.below) (fun s w w' h hb => h.step hb)
  (fun s w h k hk => hk.elim (fun e => e ▸ fA h.hn) (fun e => e ▸ h.map.lt)) (fun s w x B' cb h _ _ => ad6 W bn bm B s w x B' cb h) (sz c) c (Nat.le_refl _) A cc hr hc (0, []) W1 hI
 rw [Vu c hz] at Vk
 have HB := ae.mk (Below.refl W.heap.size W)
 clear hr hc hz
 generalize kU c = r at Vk ⊢
 go_enter Try.func144, Try.ntmps144
 go_wp2_with (first | ((with_reducible refine aG (N := 1) rfl ?_); refine aT ?hg (N := 1) ?hd (cs := #[.int .u8 c.f0, .int .i64 c.f1.f0, .int .i64 c.f1.f1, .int .i64 c.f1.f2, .int .i64 c.f1.f3, .int .i64 c.f2, .slice A c.f3.length cc]) (t := 26) ?hr ?_; (case hd => rfl); (case hg => rfl); (case hr => (go_simp; done)); intro b1 hg Ym hbox hb; have dM := ae.mk hbox; have dh := ae.mk (ak HB.out hb); clear HB; have HB := dh; clear dh; clear hb hbox hg) | ((with_reducible refine aG (N := 5) rfl ?_); refine Ux rfl (N := 5) rfl 161 3 4 rfl ?_; intro B hg wB hb hM; have GB := ae.mk (show W.heap.size ≤ B by rw [hg]; exact HB.out.size); have HM := ae.mk hM; have dh := ae.mk (ak HB.out hb); have fP := ae.mk (aJ dM.out hb); clear HB dM; have HB := dh; have dM := fP; clear dh fP; clear hb hM hg) | ((with_reducible refine aG (N := 3) rfl ?_); refine aT ?hg (N := 3) ?hd (cs := #[.map none]) (t := 161) ?hr ?_; (case hd => rfl); (case hg => rfl); (case hr => (go_simp; done)); intro bm hg wbm hbox hb; have AU := ae.mk hbox; have Gbm := ae.mk (show W.heap.size ≤ bm by rw [hg]; exact HB.out.size); have dh := ae.mk (ak HB.out hb); have fP := ae.mk (aJ dM.out hb); have zH := ae.mk (HM.out.kept (below_grown hb) (by simp)); clear HB dM HM; have HB := dh; have dM := fP; have HM := zH; clear dh fP zH; clear hb hbox hg) | ((with_reducible refine lH (.store 161 (.tmp 3) (.tmp 5)) rfl ?_); go_loud (refine fQ (w0 := W) rfl rfl 161 (.tmp 3) (.tmp 5) rfl (g := bm) (j := 0) (base := W.heap.size) #[.map (some B)] (u := .map (some B)) (bK := [.map (some B)]) ?sA ?sX rfl ?sT ?s1 AU.out ?sJ rfl HB.out HB.out.size Gbm.out ?_; (case sA => rfl); (case sX => rfl); (case sT => rfl); (case s1 => (simp [Value.oneCell'])); (case sJ => (simp)); intro akP hbk hbb hgg; have NB : ae (B ≠ bm) := ⟨fun e => by have hq := AU.out; obtain ⟨es, cl, hB, _⟩ := HM.out; rw [← e, hB] at hq; cases hq⟩; have fP := ae.mk (df dM.out hgg (fun e_ => uo dM.out AU.out (by decide) (Option.some.inj e_))); have zH := ae.mk (HM.out.kept hgg (fun e_ => NB.out (Option.some.inj e_))); clear dM HM; have dM := fP; have HM := zH; clear fP zH; clear AU HB; have AU := ae.mk hbk; have HB := ae.mk hbb; clear hbk hbb hgg)) | ((with_reducible refine aG (N := 4) rfl ?_); refine aT ?hg (N := 4) ?hd (cs := #[.int .i64 0]) (t := 3) ?hr ?_; (case hd => rfl); (case hg => rfl); (case hr => (go_simp; done)); intro bn hg wbn hbox hb; have La := ae.mk hbox; have Gbn := ae.mk (show W.heap.size ≤ bn by rw [hg]; exact HB.out.size); have dh := ae.mk (ak HB.out hb); have fP := ae.mk (aJ dM.out hb); have Hq := ae.mk (aJ AU.out hb); have zH := ae.mk (HM.out.kept (below_grown hb) (by simp)); clear HB dM AU HM; have HB := dh; have dM := fP; have AU := Hq; have HM := zH; clear dh fP Hq zH; clear hb hbox hg) | ((with_reducible refine lH (.store 3 (.tmp 4) (.const (.int .i64 0))) rfl ?_); go_loud (refine fQ (w0 := W) rfl rfl 3 (.tmp 4) (.const (.int .i64 0)) rfl (g := bn) (j := 0) (base := W.heap.size) #[.int .i64 0] (u := .int .i64 0) (bK := [.int .i64 0]) ?sA ?sX rfl ?sT ?s1 La.out ?sJ rfl HB.out HB.out.size Gbn.out ?_; (case sA => rfl); (case sX => rfl); (case sT => rfl); (case s1 => (simp [Value.oneCell'])); (case sJ => (decide)); intro akQ hbk hbb hgg; have NN : ae (B ≠ bn) := ⟨fun e => by have hq := La.out; obtain ⟨es, cl, hB, _⟩ := HM.out; rw [← e, hB] at hq; cases hq⟩; have fP := ae.mk (df dM.out hgg (fun e_ => uo dM.out La.out (by decide) (Option.some.inj e_))); have Hq := ae.mk (df AU.out hgg (fun e_ => uo AU.out La.out (by decide) (Option.some.inj e_))); have zH := ae.mk (HM.out.kept hgg (fun e_ => NN.out (Option.some.inj e_))); clear dM AU HM; have dM := fP; have AU := Hq; have HM := zH; clear fP Hq zH; clear La HB; have La := ae.mk hbk; have HB := ae.mk hbb; clear hbk hbb hgg; have c0 := (af dM.out 0).trans rfl; have c1 := (af dM.out 1).trans rfl; have c2 := (af dM.out 2).trans rfl; have c3 := (af dM.out 3).trans rfl; have c4 := (af dM.out 4).trans rfl; have c5 := (af dM.out 5).trans rfl; have c6 := (af dM.out 6).trans rfl)))
 clear c0 c1 c2 c3 c4 c5 c6
 refine (Vk.out bn bm B _ ⟨La.out, AU.out, HM.out, HB.out, Gbn.out, GB.out, List.nodup_nil, fun i hi => absurd hi (by simp)⟩).mono ?_
 rintro e w' ⟨rfl, hi, _⟩
 have HI := ae.mk hi.below
 clear hi
 go_wp2
 go_ret
 exact ⟨rfl, HI.out⟩
theorem ad4 (c : ai) (A : Option Addr) (cc : Nat) (W : World) (hz : sz c ≤ 1048576) (hr : Kd.C k26 W A c.f3.length c.f3) (hc : c.f3.length ≤ cc) : Calls Try.prog 143 #[.agg #[.int .u8 c.f0, .int .i64 c.f1.f0, .int .i64 c.f1.f1, .int .i64 c.f1.f2, .int .i64 c.f1.f3, .int .i64 c.f2, .slice A c.f3.length cc]] W fun e w' => e = .returned (.bool (!kU c)) ∧ Below W.heap.size W w' := by
 have H := ae.mk fun (W1 : World) (hb : Below W.heap.size W W1) => ad5 c A cc W1 hz (Kd.gV hr hb) hc
 clear hr hc hz
 cases hm : kU c
 all_goals
  rw [hm] at H
  clear hm
  go_enter Try.func143, Try.ntmps143
  go_wp2_with (((with_reducible refine aG (N := 1) rfl ?_); refine aT ?hg (N := 1) ?hd (cs := #[.int .u8 c.f0, .int .i64 c.f1.f0, .int .i64 c.f1.f1, .int .i64 c.f1.f2, .int .i64 c.f1.f3, .int .i64 c.f2, .slice A c.f3.length cc]) (t := 26) ?hr ?_; (case hd => rfl); (case hg => rfl); (case hr => (go_simp; done)); intro b1 hg w1 hbox hb; have HB := ae.mk hb; have K1 := ae.mk hbox; clear hb hbox hg; have c0 := (af K1.out 0).trans rfl; have c1 := (af K1.out 1).trans rfl; have c2 := (af K1.out 2).trans rfl; have c3 := (af K1.out 3).trans rfl; have c4 := (af K1.out 4).trans rfl; have c5 := (af K1.out 5).trans rfl; have c6 := (af K1.out 6).trans rfl))
  clear c0 c1 c2 c3 c4 c5 c6
  refine (H.out _ HB.out).mono ?_
  rintro e w' ⟨rfl, hb⟩
  have HB2 := ae.mk (ak HB.out hb)
  clear hb
  go_wp2
  go_ret
  exact ⟨rfl, HB2.out⟩
def rZ.f (l0 : List ai) : Option Bool := if l0.all (fun c => decide (sz c ≤ 1048576)) = true then some (l0.all kU) else none
theorem rZ.calls (A0 : Option Addr) (c0 : Nat) (l0 : List ai) (r : Bool) (w : World) (hr0 : Kd.C k26 w A0 l0.length l0) (hc0 : l0.length ≤ c0) (h : rZ.f l0 = some r) :
  Calls Try.prog 76 #[.slice A0 l0.length c0] w fun e w' => e = .returned (.bool r) ∧ Below w.heap.size w w' := by
 unfold rZ.f at h
 split at h
 ·rename_i hz
  injection h with h
  have hcon := SK (fun (_ : Unit) W => Below w.heap.size w W) (fun _ x => (!kU x, ())) 143 #[] (r_ Try.func143 (by decide +kernel) (by kernel_rfl)) l0 A0 c0 w hr0 (fun _ W hW => hW) (fun _ W n hW => eG hW n)
   (fun _ W x B cb hx hW hC hl => by
    rw [show (#[Value.agg #[.int .u8 x.f0, .int .i64 x.f1.f0, .int .i64 x.f1.f1, .int .i64 x.f1.f2, .int .i64 x.f1.f3, .int .i64 x.f2, .slice B x.f3.length cb]] ++ #[] : Array Value) = #[.agg #[.int .u8 x.f0, .int .i64 x.f1.f0, .int .i64 x.f1.f1, .int .i64 x.f1.f2, .int .i64 x.f1.f3, .int .i64 x.f2, .slice B x.f3.length cb]] by simp]
    exact (ad4 x B cb W (of_decide_eq_true (List.all_eq_true.1 hz x hx)) (Kd.gV hC hW) hl).mono fun e w' ⟨he, hb⟩ => ⟨he, vT hW hW.size hb⟩) () w (Below.refl _ _) hr0.2.1
  rw [JR] at hcon
  have hnone := PH l0 A0 c0 143 #[] _ _ w hcon (fun W n hW => eG hW n)
  have e1 : r = !(l0.any fun x => !kU x) := by
   rw [← h]
   clear h hcon hr0 hc0 hz hnone
   induction l0 with
   | nil => rfl
   | cons x xs ih => simp only [List.all_cons, List.any_cons, ih, Bool.not_or, Bool.not_not]
  subst e1
  generalize (l0.any fun x => !kU x) = b at hnone
  have HC := ae.mk hnone
  clear hcon h hr0 hnone hz
  go_enter Try.func76, Try.ntmps76
  go_wp2_with fail
  refine HC.out.mono ?_
  rintro e w' ⟨rfl, hb⟩
  have HB := ae.mk hb
  clear hb
  go_wp2
  go_ret
  exact ⟨rfl, HB.out⟩
 ·exact absurd h (by simp)
end Go.Proofs.Ytfdmfgaiblfbhaa.P
namespace Go.Proofs.Ytfdmfgaiblfbhaa.P
open Go.RowKit Go.Proofs.ag.aK Go.Proofs.ag.bG Go.Proofs.ag.bV
attribute [local go_sem] jm jB jR kF jO jP kT kV
def lV.l0 : Nat → List Int → List Int → Int → Int → Option (Bool)
 | 0, _, _, _, _ => none
 | k + 1, x0, x1, x12, H8 => if H8 < x12 then (if 0 ≤ H8 then (if H8 < (x0.length : Int) then (if H8 < (x1.length : Int) then (if (rd x0 H8) = (rd x1 H8) then (lV.l0 k x0 x1 x12 (wrap64 (H8 + 1))) else (some false)) else (none)) else (none)) else (none)) else (some true)
def lV.f (k : Nat) (l0 : List Int) (l1 : List Int) : Option (Bool) := if (l0.length : Int) = (l1.length : Int) then (lV.l0 k l0 l1 (l0.length : Int) 0) else (some false)
def agl.f (au : Int) (aI : Int) (aC : Int) (aH : Int) (a1 : Int) : Option (Int × Int × Int × Int × Int × Int × (List (ai))) := some (1, au, aI, aC, aH, a1, ([] : List (ai)))
mutual
def zT.l0 : Nat → Int → List (ai) → Int → Int → Option (Int)
 | 0, _, _, _, _ => none
 | k + 1, x3, x8, x9, x10 => if x10 < x9 then (if 0 ≤ x10 then (if x10 < (x8.length : Int) then ((zT.f k ((aA x8 x10).f3)).bind fun ahk => (zT.l0 k (wrap64 (x3 + ahk)) x8 x9 (wrap64 (x10 + 1)))) else (none)) else (none)) else (some x3)
def zT.f : Nat → List (ai) → Option (Int)
 | 0, _ => none
 | k + 1, l0 => zT.l0 k (l0.length : Int) l0 (l0.length : Int) 0
end
end Go.Proofs.Ytfdmfgaiblfbhaa.P
namespace Go.Proofs.Ytfdmfgaiblfbhaa.P
open Go.RowKit Go.Proofs.ag.aK Go.Proofs.ag.bG Go.Proofs.ag.bV
def Yc.f : Option Bool := some true
end Go.Proofs.Ytfdmfgaiblfbhaa.P
namespace Go.Proofs.Ytfdmfgaiblfbhaa.P
open Go.RowKit Go.Proofs.ag.aK Go.Proofs.ag.bG Go.Proofs.ag.bV
attribute [local go_sem] jm jB jR kF jO jP kT kV
mutual
def bf.l0 : Nat → Int → List Int → List Int → Option (List Int)
 | 0, _, _, _ => none
 | k + 1, x0, x1, x5 => if x0 > 0 then (bf.l1 k x0 x1 x5 0 x0 x1 (x1.length : Int) 0) else (some x5)
def bf.l1 : Nat → Int → List Int → List Int → Int → Int → List Int → Int → Int → Option (List Int)
 | 0, _, _, _, _, _, _, _, _ => none
 | k + 1, x0, x1, x5, x6, x7, x20, x21, E5 => if E5 < x21 then (if 0 ≤ E5 then (if E5 < (x20.length : Int) then (if E5 < (x5.length : Int) then (if (wrap64 ((rd x20 E5) + (rd x5 E5))) > 0 then (bf.l1 k x0 x1 x5 (wrap64 (x6 + 1)) (mn x7 (wrap64 ((rd x20 E5) + (rd x5 E5)))) x20 x21 (wrap64 (E5 + 1))) else (bf.l1 k x0 x1 x5 x6 x7 x20 x21 (wrap64 (E5 + 1)))) else (none)) else (none)) else (none)) else (if x6 = 0 then (none) else (bf.l2 k x0 x1 x5 (mx 1 (mn x7 (wrap64 (Int.tdiv x0 x6)))) x1 (x1.length : Int) 0))
def bf.l2 : Nat → Int → List Int → List Int → Int → List Int → Int → Int → Option (List Int)
 | 0, _, _, _, _, _, _, _ => none
 | k + 1, x0, x1, x5, x10, Vf, Yo, Ej => if Ej < Yo then (if 0 ≤ Ej then (if Ej < (Vf.length : Int) then (if Ej < (x5.length : Int) then (if (wrap64 ((rd Vf Ej) + (rd x5 Ej))) > 0 then (if x0 > 0 then (bf.l2 k (wrap64 (x0 - (mn x10 x0))) x1 (x5.set (Ej : Int).toNat (wrap64 ((rd x5 Ej) - (mn x10 x0)))) x10 Vf Yo (wrap64 (Ej + 1))) else (bf.l2 k x0 x1 x5 x10 Vf Yo (wrap64 (Ej + 1)))) else (bf.l2 k x0 x1 x5 x10 Vf Yo (wrap64 (Ej + 1)))) else (none)) else (none)) else (none)) else (bf.l0 k x0 x1 x5)
end
def bf.f (k : Nat) (a0 : Int) (l1 : List Int) : Option (List Int) := if 0 ≤ (l1.length : Int) then (if ((l1.length : Int) : Int).toNat ≤ 35184372088832 then (bf.l0 k a0 l1 (List.replicate ((l1.length : Int) : Int).toNat 0)) else (none)) else (none)
theorem bf.calls (k : Nat) (a0 : Int) (A1 : Option Addr) (c1 : Nat) (l1 : List Int) (r : List Int) (w : World) (hr1 : Kd.C (Kd.int .i64) w A1 l1.length l1) (hc1 : l1.length ≤ c1) (h : bf.f k a0 l1 = some r) :
  Calls Try.prog 130 #[.int .i64 a0, .slice A1 l1.length c1] w fun e w' => ∃ vH : Value, e = .returned (vH) ∧ Kd.R (Kd.int .i64) 3 w' w.heap.size (fun _ => True) vH r ∧ Below w.heap.size w w' := by
 have HR1 := ae.mk hr1
 clear hr1 hc1
 have HB := ae.mk (Below.refl w.heap.size w)
 have H : (if 0 ≤ (l1.length : Int) then (if ((l1.length : Int) : Int).toNat ≤ 35184372088832 then (bf.l0 k a0 l1 (List.replicate ((l1.length : Int) : Int).toNat 0)) else (none)) else (none)) = some r := h
 clear h
 by_cases c3 : 0 ≤ (l1.length : Int)
 ·rw [if_pos c3] at H
  have uh := eq_true c3
  have y9 : decide (0 ≤ (l1.length : Int)) = true := decide_eq_true c3
  clear c3
  by_cases c4 : ((l1.length : Int) : Int).toNat ≤ 35184372088832
  ·rw [if_pos c4] at H
   have Di := eq_true c4
   have L8 : decide (((l1.length : Int) : Int).toNat ≤ 35184372088832) = true := decide_eq_true c4
   clear c4
   obtain ⟨aeD, QO⟩ : ∃ y_ : List Int, y_ = (List.replicate ((l1.length : Int) : Int).toNat 0) := ⟨_, rfl⟩
   replace H : (bf.l0 k a0 l1 aeD) = some r := by (rw [QO]; with_reducible exact H)
   have aeV := ae.mk QO
   clear QO
   have H' := ae.mk H
   clear H
   go_enter Try.func130, Try.ntmps130
   go_wp2_with (((with_reducible refine aG (N := 16) rfl ?_); refine Kd.ab6 (Kd.int .i64) _ 3 rfl (N := 16) rfl 41 _ _ rfl (l1.length : Int) rfl rfl Try.underlying41 (.int .i64 0) 8 info3 rfl (by decide) (by omega) 0 (ok := fun _ => True) (fD := fun _ => True) rfl (fun _ hk => hk) trivial (of_decide_eq_true (by (with_reducible assumption))) (Nat.le_trans (Nat.mul_le_mul_right _ (of_decide_eq_true (by (with_reducible assumption)) : (l1.length : Int).toNat ≤ 35184372088832)) (by omega)) (Below.refl _ _) (Nat.le_refl _) ?_; intro Xu w5 ho6 hb nO ji; clear nO ji; (rw [← aeV.out] at ho6); have aeM := ae.mk (Kd.pU ho6 (dR (by repeat ((with_reducible exact HB.out))))); replace HB := ae.mk (ak (by repeat ((with_reducible exact HB.out))) hb); clear hb ho6))
   go_loopg [0] k (fun kq v0 w' => ∃ (uT : Int) (lq : List Int), v0 = .int .i64 uT ∧ ae (bf.l0 kq uT l1 lq = some r) ∧ ae (kq ≤ k) ∧ ae (Kd.R (Kd.int .i64) 3 w' w.heap.size (fun _ => True) Xu lq) ∧ ae (Below w.heap.size w w'))
   case atStart => exact ⟨(a0), (aeD), (by rfl), H', ⟨Nat.le_refl _⟩, ⟨by exact aeM.out⟩, ⟨by repeat ((with_reducible exact HB.out))⟩⟩
   case round =>
    clear H'
    clear uh y9 Di L8
    obtain ⟨uT, lq, rfl, HA, nI, lM, HB⟩ := hrel
    cases gk with
    | zero => exact absurd HA.out (by simp [bf.l0])
    | succ k1 =>
     have H := HA.out
     clear HA
     simp only [bf.l0] at H
     by_cases c7 : uT > 0
     ·rw [if_pos c7] at H
      have wV : decide (0 < uT) = true := decide_eq_true c7
      clear c7
      have H' := ae.mk H
      clear H
      go_wp2
      go_loopg [6, 7, 22] k1 (fun kq v6 v7 v22 w' => ∃ (yD : Int) (AL : Int) (fH : Int), v6 = .int .i64 yD ∧ v7 = .int .i64 AL ∧ v22 = .int .i64 fH ∧ ae (bf.l1 kq uT l1 lq yD AL l1 (l1.length : Int) fH = some r) ∧ ae (kq ≤ k1) ∧ ae (Kd.R (Kd.int .i64) 3 w' w.heap.size (fun _ => True) Xu lq) ∧ ae (Below w.heap.size w w'))
      case atStart => exact ⟨(0), (uT), (0), (by rfl), (by rfl), (by rfl), H', ⟨Nat.le_refl _⟩, ⟨by exact lM.out⟩, ⟨by repeat ((with_reducible exact HB.out))⟩⟩
      case round =>
       clear H'
       clear wV
       obtain ⟨yD, AL, fH, rfl, rfl, rfl, HA, zM, lM, HB⟩ := hrel
       cases gk with
       | zero => exact absurd HA.out (by simp [bf.l1])
       | succ k2 =>
        have H := HA.out
        clear HA
        simp only [bf.l1] at H
        by_cases c8 : fH < (l1.length : Int)
        ·rw [if_pos c8] at H
         have Dj : decide (fH < (l1.length : Int)) = true := decide_eq_true c8
         clear c8
         by_cases c9 : 0 ≤ fH
         ·rw [if_pos c9] at H
          have L9 : decide (0 ≤ fH) = true := decide_eq_true c9
          clear c9
          by_cases c10 : fH < (l1.length : Int)
          ·rw [if_pos c10] at H
           have Qp : decide (fH < (l1.length : Int)) = true := decide_eq_true c10
           clear c10
           by_cases c11 : fH < (lq.length : Int)
           ·rw [if_pos c11] at H
            have GH : decide (fH < (lq.length : Int)) = true := decide_eq_true c11
            clear c11
            by_cases c12 : (wrap64 ((rd l1 fH) + (rd lq fH))) > 0
            ·rw [if_pos c12] at H
             have BJ : decide (0 < (wrap64 ((rd l1 fH) + (rd lq fH)))) = true := decide_eq_true c12
             clear c12
             obtain ⟨Wv, XZ⟩ : ∃ j_ : Int, (mn AL (wrap64 ((rd l1 fH) + (rd lq fH)))) = j_ := ⟨_, rfl⟩
             replace H : (bf.l1 k2 uT l1 lq (wrap64 (yD + 1)) Wv l1 (l1.length : Int) (wrap64 (fH + 1))) = some r := by (rw [XZ] at H; exact H)
             have ajz : (if (wrap64 ((rd l1 fH) + (rd lq fH))) < AL then (wrap64 ((rd l1 fH) + (rd lq fH))) else AL) = Wv := XZ
             have H' := ae.mk H
             clear H
             have FZ : 0 ≤ (fH : Int) := of_decide_eq_true (by (with_reducible assumption))
             have F6 : fH < (l1.length : Int) := of_decide_eq_true (by (with_reducible assumption))
             obtain ⟨ae5, VU, wZ⟩ := Kd.iR HR1.out fH FZ F6
             cases VU
             replace wZ := (HB.out.cell (World.block_lt_of_cell? w _ wZ)).trans wZ
             replace FZ := eq_true FZ
             replace F6 := eq_true F6
             obtain ⟨aki, akr, ag1⟩ := Kd.gJ lM.out
             subst ag1
             have F5 : 0 ≤ (fH : Int) := of_decide_eq_true (by (with_reducible assumption))
             have F7 : fH < (lq.length : Int) := of_decide_eq_true (by (with_reducible assumption))
             obtain ⟨XK, VV, aao⟩ := Kd.iR (Kd.dO lM.out).2.2 fH F5 F7
             cases VV
             replace F5 := eq_true F5
             replace F7 := eq_true F7
             have WX : 0 ≤ (fH : Int) := of_decide_eq_true (by (with_reducible assumption))
             have Xd : fH < (lq.length : Int) := of_decide_eq_true (by (with_reducible assumption))
             obtain ⟨ae6, agY, ah'⟩ := Kd.iR (Kd.dO lM.out).2.2 fH WX Xd
             obtain rfl : XK = ae6 := (by injection agY)
             replace WX := eq_true WX
             replace Xd := eq_true Xd
             go_wp2
             go_roundg k2
             case measure => have := nI.out; have := zM.out; omega
             case rel => exact ⟨(wrap64 (yD + 1)), (Wv), (wrap64 (fH + 1)), (by rfl), (by rfl), (by rfl), H', ⟨by have := nI.out; have := zM.out; omega⟩, ⟨by exact lM.out⟩, ⟨by repeat ((with_reducible exact HB.out))⟩⟩
            ·rw [if_neg c12] at H
             have BJ : decide (0 < (wrap64 ((rd l1 fH) + (rd lq fH)))) = false := decide_eq_false c12
             clear c12
             have H' := ae.mk H
             clear H
             have FZ : 0 ≤ (fH : Int) := of_decide_eq_true (by (with_reducible assumption))
             have F6 : fH < (l1.length : Int) := of_decide_eq_true (by (with_reducible assumption))
             obtain ⟨ae5, VU, wZ⟩ := Kd.iR HR1.out fH FZ F6
             cases VU
             replace wZ := (HB.out.cell (World.block_lt_of_cell? w _ wZ)).trans wZ
             replace FZ := eq_true FZ
             replace F6 := eq_true F6
             obtain ⟨Vh, VN, VY⟩ := Kd.gJ lM.out
             subst VY
             have F5 : 0 ≤ (fH : Int) := of_decide_eq_true (by (with_reducible assumption))
             have F7 : fH < (lq.length : Int) := of_decide_eq_true (by (with_reducible assumption))
             obtain ⟨XK, VV, aao⟩ := Kd.iR (Kd.dO lM.out).2.2 fH F5 F7
             cases VV
             replace F5 := eq_true F5
             replace F7 := eq_true F7
             go_wp2
             go_roundg k2
             case measure => have := nI.out; have := zM.out; omega
             case rel => exact ⟨(yD), (AL), (wrap64 (fH + 1)), (by rfl), (by rfl), (by rfl), H', ⟨by have := nI.out; have := zM.out; omega⟩, ⟨by exact lM.out⟩, ⟨by repeat ((with_reducible exact HB.out))⟩⟩
           ·rw [if_neg c11] at H
            exact absurd H (by simp)
          ·rw [if_neg c10] at H
           exact absurd H (by simp)
         ·rw [if_neg c9] at H
          exact absurd H (by simp)
        ·rw [if_neg c8] at H
         have Dj : decide (fH < (l1.length : Int)) = false := decide_eq_false c8
         clear c8
         by_cases c16 : yD = 0
         ·rw [if_pos c16] at H
          exact absurd H (by simp)
         ·rw [if_neg c16] at H
          have Qq : (yD == 0) = false := beq_eq_false_iff_ne.mpr c16
          have afd : (yD != 0) = true := bne_iff_ne.mpr c16
          obtain ⟨NJ, X0⟩ : ∃ j_ : Int, (mn AL (wrap64 (Int.tdiv uT yD))) = j_ := ⟨_, rfl⟩
          replace H : (bf.l2 k2 uT l1 lq (mx 1 (NJ)) l1 (l1.length : Int) 0) = some r := by (rw [X0] at H; exact H)
          have ajA : (if (wrap64 (Int.tdiv uT yD)) < AL then (wrap64 (Int.tdiv uT yD)) else AL) = NJ := X0
          obtain ⟨DU, X3⟩ : ∃ j_ : Int, (mx 1 (NJ)) = j_ := ⟨_, rfl⟩
          replace H : (bf.l2 k2 uT l1 lq DU l1 (l1.length : Int) 0) = some r := by (rw [X3] at H; exact H)
          have ajB : (if 1 < (NJ) then (NJ) else 1) = DU := X3
          have H' := ae.mk H
          clear H
          go_wp2
          go_loopg [0, 53] k2 (fun kq v0 v53 w' => ∃ (uU : Int) (nT : List Int) (dU : Int), v0 = .int .i64 uU ∧ v53 = .int .i64 dU ∧ ae (bf.l2 kq uU l1 nT DU l1 (l1.length : Int) dU = some r) ∧ ae (kq ≤ k2) ∧ ae (Kd.R (Kd.int .i64) 3 w' w.heap.size (fun _ => True) Xu nT) ∧ ae (Below w.heap.size w w'))
          case atStart => exact ⟨(uT), (lq), (0), (by rfl), (by rfl), H', ⟨Nat.le_refl _⟩, ⟨by exact lM.out⟩, ⟨by repeat ((with_reducible exact HB.out))⟩⟩
          case round =>
           clear H'
           clear Dj c16 Qq afd
           obtain ⟨uU, nT, dU, rfl, rfl, HA, Jt, lM, HB⟩ := hrel
           cases gk with
           | zero => exact absurd HA.out (by simp [bf.l2])
           | succ k3 =>
            have H := HA.out
            clear HA
            simp only [bf.l2] at H
            by_cases c19 : dU < (l1.length : Int)
            ·rw [if_pos c19] at H
             have afg : decide (dU < (l1.length : Int)) = true := decide_eq_true c19
             clear c19
             by_cases c20 : 0 ≤ dU
             ·rw [if_pos c20] at H
              have aj6 : decide (0 ≤ dU) = true := decide_eq_true c20
              clear c20
              by_cases c21 : dU < (l1.length : Int)
              ·rw [if_pos c21] at H
               have aj7 : decide (dU < (l1.length : Int)) = true := decide_eq_true c21
               clear c21
               by_cases XT : dU < (nT.length : Int)
               ·rw [if_pos XT] at H
                have aj8 : decide (dU < (nT.length : Int)) = true := decide_eq_true XT
                clear XT
                by_cases c23 : (wrap64 ((rd l1 dU) + (rd nT dU))) > 0
                ·rw [if_pos c23] at H
                 have afh : decide (0 < (wrap64 ((rd l1 dU) + (rd nT dU)))) = true := decide_eq_true c23
                 clear c23
                 by_cases c24 : uU > 0
                 ·rw [if_pos c24] at H
                  have afi : decide (0 < uU) = true := decide_eq_true c24
                  clear c24
                  obtain ⟨DV, X4⟩ : ∃ j_ : Int, (mn DU uU) = j_ := ⟨_, rfl⟩
                  replace H : (bf.l2 k3 (wrap64 (uU - (DV))) l1 (nT.set (dU : Int).toNat (wrap64 ((rd nT dU) - (DV)))) DU l1 (l1.length : Int) (wrap64 (dU + 1))) = some r := by (rw [X4] at H; exact H)
                  have ajC : (if uU < DU then uU else DU) = DV := X4
                  obtain ⟨Xy, QP⟩ : ∃ y_ : List Int, y_ = (nT.set (dU : Int).toNat (wrap64 ((rd nT dU) - (DV)))) := ⟨_, rfl⟩
                  replace H : (bf.l2 k3 (wrap64 (uU - (DV))) l1 Xy DU l1 (l1.length : Int) (wrap64 (dU + 1))) = some r := by (rw [QP]; with_reducible exact H)
                  have aeW := ae.mk QP
                  clear QP
                  have H' := ae.mk H
                  clear H
                  have zA : 0 ≤ (dU : Int) := of_decide_eq_true (by (with_reducible assumption))
                  have zD : dU < (l1.length : Int) := of_decide_eq_true (by (with_reducible assumption))
                  obtain ⟨XL, MQ, pX⟩ := Kd.iR HR1.out dU zA zD
                  cases MQ
                  replace pX := (HB.out.cell (World.block_lt_of_cell? w _ pX)).trans pX
                  replace zA := eq_true zA
                  replace zD := eq_true zD
                  obtain ⟨akj, agU, ag3⟩ := Kd.gJ lM.out
                  subst ag3
                  have zB : 0 ≤ (dU : Int) := of_decide_eq_true (by (with_reducible assumption))
                  have zF : dU < (nT.length : Int) := of_decide_eq_true (by (with_reducible assumption))
                  obtain ⟨Ql, MR, IY⟩ := Kd.iR (Kd.dO lM.out).2.2 dU zB zF
                  cases MR
                  replace zB := eq_true zB
                  replace zF := eq_true zF
                  have WY : 0 ≤ (dU : Int) := of_decide_eq_true (by (with_reducible assumption))
                  have Xe : dU < (nT.length : Int) := of_decide_eq_true (by (with_reducible assumption))
                  obtain ⟨ae7, agZ, aap⟩ := Kd.iR (Kd.dO lM.out).2.2 dU WY Xe
                  obtain rfl : Ql = ae7 := (by injection agZ)
                  replace WY := eq_true WY
                  replace Xe := eq_true Xe
                  have p26 : 0 ≤ (dU : Int) := of_decide_eq_true (by (with_reducible assumption))
                  have q26 : (dU : Int) < ((nT.length : Int) : Int) := of_decide_eq_true (by (with_reducible assumption))
                  obtain ⟨V9, aks, ag2, acV, ag7, akn, agH⟩ := Kd.Su lM.out (by omega)
                  (cases ag2)
                  have agG := ae.mk acV
                  clear acV ag7 agH
                  (simp only [add_plain] at IY)
                  (simp only [add_plain] at aap)
                  obtain ⟨ajE, ajy⟩ := Kd.YB 0 lM.out (dU : Int) p26 q26
                  replace p26 := eq_true p26
                  replace q26 := eq_true q26
                  have Vm := Kd.ab7 lM.out (dU : Int) (wrap64 ((rd nT dU) - (DV)))
                  go_wp2_with (((with_reducible refine QA (t := 3) (p := 78) rfl ?_); refine OC (t := 3) (p := 78) (v := ?ajQ) (w1 := (wr.setCell ⟨V9, (dU : Int).toNat, none⟩ (.int .i64 (wrap64 ((rd nT dU) - (DV)))))) ?hg ?ho ?hn ?hr ?_; (case ho => rfl); (case hg => rfl); (case hn => rfl); (case hr => (go_simp; done)); intro JV hw; have hg : wr.grownBy JV (some V9) := (by rw [hw]; exact Vm.2); have hp_ : Kd.R (Kd.int .i64) 3 JV w.heap.size (fun _ => True) (.slice (some ⟨V9, 0, none⟩) nT.length agU) Xy := (by rw [hw, aeW.out]; exact Vm.1); clear Vm; replace lM := ae.mk (hp_); replace HB := ae.mk ((by rw [hw]; exact oM (HB.out) agG.out : Below w.heap.size w JV)); clear hg hw hp_))
                  go_roundg k3
                  case measure => have := nI.out; have := zM.out; have := Jt.out; omega
                  case rel => exact ⟨(wrap64 (uU - (DV))), (Xy), (wrap64 (dU + 1)), (by rfl), (by rfl), H', ⟨by have := nI.out; have := zM.out; have := Jt.out; omega⟩, ⟨by exact lM.out⟩, ⟨by repeat ((with_reducible exact HB.out))⟩⟩
                 ·rw [if_neg c24] at H
                  have afi : decide (0 < uU) = false := decide_eq_false c24
                  clear c24
                  have H' := ae.mk H
                  clear H
                  have zA : 0 ≤ (dU : Int) := of_decide_eq_true (by (with_reducible assumption))
                  have zD : dU < (l1.length : Int) := of_decide_eq_true (by (with_reducible assumption))
                  obtain ⟨XL, MQ, pX⟩ := Kd.iR HR1.out dU zA zD
                  cases MQ
                  replace pX := (HB.out.cell (World.block_lt_of_cell? w _ pX)).trans pX
                  replace zA := eq_true zA
                  replace zD := eq_true zD
                  obtain ⟨akk, akt, ag4⟩ := Kd.gJ lM.out
                  subst ag4
                  have zB : 0 ≤ (dU : Int) := of_decide_eq_true (by (with_reducible assumption))
                  have zF : dU < (nT.length : Int) := of_decide_eq_true (by (with_reducible assumption))
                  obtain ⟨Ql, MR, IY⟩ := Kd.iR (Kd.dO lM.out).2.2 dU zB zF
                  cases MR
                  replace zB := eq_true zB
                  replace zF := eq_true zF
                  go_wp2
                  go_roundg k3
                  case measure => have := nI.out; have := zM.out; have := Jt.out; omega
                  case rel => exact ⟨(uU), (nT), (wrap64 (dU + 1)), (by rfl), (by rfl), H', ⟨by have := nI.out; have := zM.out; have := Jt.out; omega⟩, ⟨by exact lM.out⟩, ⟨by repeat ((with_reducible exact HB.out))⟩⟩
                ·rw [if_neg c23] at H
                 have afh : decide (0 < (wrap64 ((rd l1 dU) + (rd nT dU)))) = false := decide_eq_false c23
                 clear c23
                 have H' := ae.mk H
                 clear H
                 have zA : 0 ≤ (dU : Int) := of_decide_eq_true (by (with_reducible assumption))
                 have zD : dU < (l1.length : Int) := of_decide_eq_true (by (with_reducible assumption))
                 obtain ⟨XL, MQ, pX⟩ := Kd.iR HR1.out dU zA zD
                 cases MQ
                 replace pX := (HB.out.cell (World.block_lt_of_cell? w _ pX)).trans pX
                 replace zA := eq_true zA
                 replace zD := eq_true zD
                 obtain ⟨akl, aku, ag5⟩ := Kd.gJ lM.out
                 subst ag5
                 have zB : 0 ≤ (dU : Int) := of_decide_eq_true (by (with_reducible assumption))
                 have zF : dU < (nT.length : Int) := of_decide_eq_true (by (with_reducible assumption))
                 obtain ⟨Ql, MR, IY⟩ := Kd.iR (Kd.dO lM.out).2.2 dU zB zF
                 cases MR
                 replace zB := eq_true zB
                 replace zF := eq_true zF
                 go_wp2
                 go_roundg k3
                 case measure => have := nI.out; have := zM.out; have := Jt.out; omega
                 case rel => exact ⟨(uU), (nT), (wrap64 (dU + 1)), (by rfl), (by rfl), H', ⟨by have := nI.out; have := zM.out; have := Jt.out; omega⟩, ⟨by exact lM.out⟩, ⟨by repeat ((with_reducible exact HB.out))⟩⟩
               ·rw [if_neg XT] at H
                exact absurd H (by simp)
              ·rw [if_neg c21] at H
               exact absurd H (by simp)
             ·rw [if_neg c20] at H
              exact absurd H (by simp)
            ·rw [if_neg c19] at H
             have afg : decide (dU < (l1.length : Int)) = false := decide_eq_false c19
             clear c19
             have H' := ae.mk H
             clear H
             go_wp2
             go_roundg k3
             case measure => have := nI.out; have := zM.out; have := Jt.out; omega
             case rel => exact ⟨(uU), (nT), (by rfl), H', ⟨by have := nI.out; have := zM.out; have := Jt.out; omega⟩, ⟨by exact lM.out⟩, ⟨by repeat ((with_reducible exact HB.out))⟩⟩
     ·rw [if_neg c7] at H
      have wV : decide (0 < uT) = false := decide_eq_false c7
      clear c7
      obtain rfl := Option.some.inj H
      go_wp2
      go_ret
      exact ⟨_, by rfl, by exact lM.out, by repeat ((with_reducible exact HB.out))⟩
  ·rw [if_neg c4] at H
   exact absurd H (by simp)
 ·rw [if_neg c3] at H
  exact absurd H (by simp)
end Go.Proofs.Ytfdmfgaiblfbhaa.P
namespace Go.Proofs.Ytfdmfgaiblfbhaa.P
open Go.RowKit Go.Proofs.ag.aK Go.Proofs.ag.bG Go.Proofs.ag.bV
def qN (a n : Int) (i : Int) : Int := a / n + if i < a % n then 1 else 0
def moreL (a : Int) (n : Nat) : List Int := (List.range n).map fun i => qN a n (i : Nat)
theorem sG (a : Int) (n : Nat) : (moreL a n).length = n := by simp [moreL]
theorem UA (a : Int) (n k : Nat) (h : k < n) : (moreL a n)[k]? = some (qN a n k) := by simp [moreL, h]
theorem Xn {α : Type} (L : List α) (x z : α) (k : Nat) (hx : L[k]? = some x) : (L.take k ++ List.replicate (L.length - k) z).set k x = L.take (k + 1) ++ List.replicate (L.length - (k + 1)) z := by
 obtain ⟨h, rfl⟩ := List.getElem?_eq_some_iff.1 hx
 obtain ⟨m, hm⟩ : ∃ m, L.length - k = m + 1 := ⟨L.length - k - 1, by omega⟩
 rw [List.set_append_right _ _ (by simp; omega), List.length_take, show k - min k L.length = 0 by omega, hm, List.replicate_succ, List.set_cons_zero, List.take_succ_eq_append_getElem h, List.append_assoc, show L.length - (k + 1) = m by omega]
 rfl
theorem Ha (a : Int) (n k : Nat) (h : k < n) : ((moreL a n).take k ++ List.replicate (n - k) 0).set k (qN a n k) = (moreL a n).take (k + 1) ++ List.replicate (n - (k + 1)) 0 := by
 have := Xn (moreL a n) (qN a n k) 0 k (UA a n k h)
 rwa [sG] at this
theorem WL (a : Int) (n : Nat) (w : World) (h0 : 0 ≤ a) (h1 : a ≤ 9000000000000000000) (h2 : 1 ≤ n) (h3 : n ≤ 100000) :
  Calls Try.prog 129 #[.int .i64 a, .int .i64 n] w fun e w' => ∃ vH : Value, e = .returned vH ∧ Kd.R (Kd.int .i64) 3 w' w.heap.size (fun _ => True) vH (moreL a n) ∧ Below w.heap.size w w' := by
 have hmk := QZ (P := Try.prog) 41 3 .i64 8 Try.underlying41 info3 (by decide) n (by omega)
 have hs := WT w w.heap.size 3 .i64 n (Nat.le_refl _) (by omega)
 have hq0 : 0 ≤ a / (n : Int) := Int.ediv_nonneg h0 (by omega)
 have hq1 : a / (n : Int) ≤ a := Int.ediv_le_self _ h0
 have HS := ae.mk hs
 clear hs
 go_enter Try.func129, Try.ntmps129
 go_wp2
 go_loopw [11] (fun v11 wr => ∃ k : Nat, k ≤ n ∧ v11 = .int .i64 k ∧ ae (wr.ownsRow w.heap.size 3 1 (.slice (some ⟨w.heap.size, 0, none⟩) n n) n (nums .i64 ((moreL a n).take k ++ List.replicate (n - k) 0))) ∧ ae (Below w.heap.size w wr)) (fun v11 _ => n - (intOf v11).toNat)
 case atStart => exact ⟨0, by omega, rfl, ⟨by simpa using HS.out⟩, ⟨jk (Below.refl _ _) _⟩⟩
 case round =>
  obtain ⟨k, hk, rfl, HO, HB⟩ := hrel
  clear hmk HS
  by_cases hlt : k < n
  ·have hlt' : (k : Int) < (n : Int) := by omega
   obtain ⟨hc, hf⟩ := aeb HO.out (k : Int) (by omega) (by omega)
   simp only [Int.toNat_natCast] at hc hf
   by_cases hr : (k : Int) < a % (n : Int)
   ·have HK := ae.mk (Ha a n k hlt)
    have HR := ae.mk hr
    go_wp2
    go_roundw
    case rel =>
     obtain ⟨s1, _⟩ := DZ HO.out (k : Int) (a / n)
     obtain ⟨s2, _⟩ := DZ s1 (k : Int) (a / n + 1)
     simp only [Int.toNat_natCast, List.set_set] at s1 s2
     have e : qN a n k = a / n + 1 := by unfold qN; rw [if_pos HR.out]
     rw [← e, HK.out] at s2
     exact ⟨k + 1, by omega, by go_num, ⟨by rw [← e]; exact s2⟩, ⟨oM (oM HB.out (Nat.le_refl _)) (Nat.le_refl _)⟩⟩
    case measure => simp [intOf]; omega
   ·have HK := ae.mk (Ha a n k hlt)
    have HR := ae.mk hr
    go_wp2
    go_roundw
    case rel =>
     obtain ⟨s1, _⟩ := DZ HO.out (k : Int) (a / n)
     simp only [Int.toNat_natCast] at s1
     have e : qN a n k = a / n := by unfold qN; rw [if_neg HR.out]; omega
     rw [← e, HK.out] at s1
     exact ⟨k + 1, by omega, by go_num, ⟨by rw [← e]; exact s1⟩, ⟨oM HB.out (Nat.le_refl _)⟩⟩
    case measure => simp [intOf]; omega
  ·obtain rfl : k = n := by omega
   go_wp2
   go_ret
   refine ⟨_, rfl, ?_, HB.out⟩
   have h := HO.out
   rw [List.take_of_length_le (by rw [sG]; omega), Nat.sub_self] at h
   simp only [List.replicate_zero, List.append_nil] at h
   exact Kd.BD (enc := Value.int .i64) (h1 := fun _ => rfl) (by rw [sG]; exact h) (fun _ _ => trivial)
def o_.f (a0 a1 : Int) : Option (List Int) := if 0 ≤ a0 ∧ a0 ≤ 9000000000000000000 ∧ 1 ≤ a1 ∧ a1 ≤ 100000 then some (moreL a0 a1.toNat) else none
theorem o_.calls (a0 a1 : Int) (r : List Int) (w : World) (h : o_.f a0 a1 = some r) : Calls Try.prog 129 #[.int .i64 a0, .int .i64 a1] w fun e w' => ∃ vH : Value, e = .returned (vH) ∧ Kd.R (Kd.int .i64) 3 w' w.heap.size (fun _ => True) vH r ∧ Below w.heap.size w w' := by
 unfold o_.f at h
 split at h
 ·rename_i hc
  obtain ⟨n, rfl⟩ := Int.eq_ofNat_of_zero_le (show 0 ≤ a1 by omega)
  obtain rfl := Option.some.inj h
  exact WL a0 n w hc.1 hc.2.1 (by omega) (by omega)
 ·exact absurd h (by simp)
end Go.Proofs.Ytfdmfgaiblfbhaa.P
namespace Go.Proofs.Ytfdmfgaiblfbhaa.P
open Go.RowKit Go.Proofs.ag.aK Go.Proofs.ag.bG Go.Proofs.ag.bV
attribute [local go_sem] jm jB jR kF jO jP kT kV
mutual
def bF.l0 : Nat → Int → List Int → Int → List Int → Int → Int → Option (List Int × Bool)
 | 0, _, _, _, _, _, _ => none
 | k + 1, x0, x1, x6, x9, x10, x11 => if x11 < x10 then (if 0 ≤ x11 then (if x11 < (x9.length : Int) then (if (rd x9 x11) < 0 then (some (([] : List Int), false)) else (if (rd x9 x11) > 2147483647 then (some (([] : List Int), false)) else (bF.l0 k x0 x1 (mn 2147483647 (wrap64 (x6 + (rd x9 x11)))) x9 x10 (wrap64 (x11 + 1))))) else (none)) else (none)) else (if (x1.length : Int) = 0 then (bF.j1 k x0 x1 true) else (if x0 < (wrap64 (-x6)) then (bF.j1 k x0 x1 true) else (bF.j1 k x0 x1 (decide (x0 > 2147483647)))))
def bF.j1 : Nat → Int → List Int → Bool → Option (List Int × Bool)
 | 0, _, _, _ => none
 | k + 1, x0, x1, x26 => if x26 = true then (some (([] : List Int), false)) else (if x0 ≥ 0 then ((o_.f x0 (x1.length : Int)).bind fun I9 => (some (I9, true))) else ((bf.f k (wrap64 (-x0)) x1).bind fun I_ => (some (I_, true))))
end
def bF.f (k : Nat) (a0 : Int) (l1 : List Int) : Option (List Int × Bool) := bF.l0 k a0 l1 0 l1 (l1.length : Int) 0
theorem bF.calls (k : Nat) (a0 : Int) (A1 : Option Addr) (c1 : Nat) (l1 : List Int) (r1 : List Int) (r2 : Bool) (w : World) (hr1 : Kd.C (Kd.int .i64) w A1 l1.length l1) (hc1 : l1.length ≤ c1) (h : bF.f k a0 l1 = some (r1, r2)) :
  Calls Try.prog 49 #[.int .i64 a0, .slice A1 l1.length c1] w fun e w' => ∃ vH : Value, e = .returned (.tuple #[vH, .bool r2]) ∧ Kd.R (Kd.int .i64) 3 w' w.heap.size (fun _ => True) vH r1 ∧ Below w.heap.size w w' := by
 have HR1 := ae.mk hr1
 have vI := ae.mk hc1
 clear hr1 hc1
 have HB := ae.mk (Below.refl w.heap.size w)
 have H : (bF.l0 k a0 l1 0 l1 (l1.length : Int) 0) = some (r1, r2) := h
 clear h
 have H' := ae.mk H
 clear H
 go_enter Try.func49, Try.ntmps49
 go_wp2
 go_loopg [6, 11] k (fun kq v6 v11 w' => ∃ (CB : Int) (bT : Int), v6 = .int .i64 CB ∧ v11 = .int .i64 bT ∧ ae (bF.l0 kq a0 l1 CB l1 (l1.length : Int) bT = some (r1, r2)) ∧ ae (kq ≤ k) ∧ ae (Below w.heap.size w w'))
 case atStart => exact ⟨(0), (0), (by rfl), (by rfl), H', ⟨Nat.le_refl _⟩, ⟨by repeat ((with_reducible exact HB.out))⟩⟩
 case round =>
  clear H'
  obtain ⟨CB, bT, rfl, rfl, HA, nI, HB⟩ := hrel
  cases gk with
  | zero => exact absurd HA.out (by simp [bF.l0])
  | succ k1 =>
   have H := HA.out
   clear HA
   simp only [bF.l0] at H
   by_cases c3 : bT < (l1.length : Int)
   ·rw [if_pos c3] at H
    have uh : decide (bT < (l1.length : Int)) = true := decide_eq_true c3
    clear c3
    by_cases c4 : 0 ≤ bT
    ·rw [if_pos c4] at H
     have Di : decide (0 ≤ bT) = true := decide_eq_true c4
     clear c4
     by_cases c5 : bT < (l1.length : Int)
     ·rw [if_pos c5] at H
      have Ih : decide (bT < (l1.length : Int)) = true := decide_eq_true c5
      clear c5
      by_cases c6 : (rd l1 bT) < 0
      ·rw [if_pos c6] at H
       have BK : decide ((rd l1 bT) < 0) = true := decide_eq_true c6
       clear c6
       simp only [Option.some.injEq, Prod.mk.injEq] at H
       obtain ⟨rfl, rfl⟩ := H
       have zC : 0 ≤ (bT : Int) := of_decide_eq_true (by (with_reducible assumption))
       have zG : bT < (l1.length : Int) := of_decide_eq_true (by (with_reducible assumption))
       obtain ⟨XM, MS, pY⟩ := Kd.iR HR1.out bT zC zG
       cases MS
       replace pY := (HB.out.cell (World.block_lt_of_cell? w _ pY)).trans pY
       replace zC := eq_true zC
       replace zG := eq_true zG
       go_wp2
       go_ret2
       exact ⟨_, by rfl, by exact Kd.uM _ _ _ _ _, by repeat ((with_reducible exact HB.out))⟩
      ·rw [if_neg c6] at H
       have BK : decide ((rd l1 bT) < 0) = false := decide_eq_false c6
       clear c6
       by_cases c7 : (rd l1 bT) > 2147483647
       ·rw [if_pos c7] at H
        have wV : decide (2147483647 < (rd l1 bT)) = true := decide_eq_true c7
        clear c7
        simp only [Option.some.injEq, Prod.mk.injEq] at H
        obtain ⟨rfl, rfl⟩ := H
        have zC : 0 ≤ (bT : Int) := of_decide_eq_true (by (with_reducible assumption))
        have zG : bT < (l1.length : Int) := of_decide_eq_true (by (with_reducible assumption))
        obtain ⟨XM, MS, pY⟩ := Kd.iR HR1.out bT zC zG
        cases MS
        replace pY := (HB.out.cell (World.block_lt_of_cell? w _ pY)).trans pY
        replace zC := eq_true zC
        replace zG := eq_true zG
        go_wp2
        go_ret2
        exact ⟨_, by rfl, by exact Kd.uM _ _ _ _ _, by repeat ((with_reducible exact HB.out))⟩
       ·rw [if_neg c7] at H
        have wV : decide (2147483647 < (rd l1 bT)) = false := decide_eq_false c7
        clear c7
        obtain ⟨ji8, adO⟩ : ∃ j_ : Int, (mn 2147483647 (wrap64 (CB + (rd l1 bT)))) = j_ := ⟨_, rfl⟩
        replace H : (bF.l0 k1 a0 l1 ji8 l1 (l1.length : Int) (wrap64 (bT + 1))) = some (r1, r2) := by (rw [adO] at H; exact H)
        have aka : (if (wrap64 (CB + (rd l1 bT))) < 2147483647 then (wrap64 (CB + (rd l1 bT))) else 2147483647) = ji8 := adO
        have H' := ae.mk H
        clear H
        have zC : 0 ≤ (bT : Int) := of_decide_eq_true (by (with_reducible assumption))
        have zG : bT < (l1.length : Int) := of_decide_eq_true (by (with_reducible assumption))
        obtain ⟨XM, MS, pY⟩ := Kd.iR HR1.out bT zC zG
        cases MS
        replace pY := (HB.out.cell (World.block_lt_of_cell? w _ pY)).trans pY
        replace zC := eq_true zC
        replace zG := eq_true zG
        go_wp2
        go_roundg k1
        case measure => have := nI.out; omega
        case rel => exact ⟨(ji8), (wrap64 (bT + 1)), (by rfl), (by rfl), H', ⟨by have := nI.out; omega⟩, ⟨by repeat ((with_reducible exact HB.out))⟩⟩
     ·rw [if_neg c5] at H
      exact absurd H (by simp)
    ·rw [if_neg c4] at H
     exact absurd H (by simp)
   ·rw [if_neg c3] at H
    have uh : decide (bT < (l1.length : Int)) = false := decide_eq_false c3
    clear c3
    have HC9 := ae.mk H
    clear H
    go_upto_region 9 with (fail)
    go_cut [26] (fun v26 wc => ∃ (kq : Nat) (Kw : Bool), v26 = .bool Kw ∧ ae (bF.j1 kq a0 l1 Kw = some (r1, r2)) ∧ ae (kq ≤ k1) ∧ ae (Below w.heap.size w wc))
    case first =>
     have H := HC9.out
     clear HC9
     by_cases c10 : (l1.length : Int) = 0
     ·rw [if_pos c10] at H
      have Qp : ((l1.length : Int) == 0) = true := beq_iff_eq.mpr c10
      have ae' : ((l1.length : Int) != 0) = false := bne_eq_false_iff_eq.mpr c10
      clear c10
      (skip)
      have H' := ae.mk H
      clear H
      go_wp2
      go_meet
      case rel => exact ⟨_, (true), (by rfl), H', ⟨by have := nI.out; omega⟩, ⟨by repeat ((with_reducible exact HB.out))⟩⟩
     ·rw [if_neg c10] at H
      have Qp : ((l1.length : Int) == 0) = false := beq_eq_false_iff_ne.mpr c10
      have ae' : ((l1.length : Int) != 0) = true := bne_iff_ne.mpr c10
      have aj3 : ¬ (l1 = []) := fun h_ => c10 (by rw [h_]; rfl)
      (skip)
      by_cases c11 : a0 < (wrap64 (-CB))
      ·rw [if_pos c11] at H
       have GH : decide (a0 < (wrap64 (-CB))) = true := decide_eq_true c11
       clear c11
       have H' := ae.mk H
       clear H
       go_wp2
       go_meet
       case rel => exact ⟨_, (true), (by rfl), H', ⟨by have := nI.out; omega⟩, ⟨by repeat ((with_reducible exact HB.out))⟩⟩
      ·rw [if_neg c11] at H
       have GH : decide (a0 < (wrap64 (-CB))) = false := decide_eq_false c11
       clear c11
       have H' := ae.mk H
       clear H
       go_wp2
       go_meet
       case rel => exact ⟨_, (decide (a0 > 2147483647)), (by rfl), H', ⟨by have := nI.out; omega⟩, ⟨by repeat ((with_reducible exact HB.out))⟩⟩
    case rest =>
     clear HC9
     clear uh
     obtain ⟨kq, Kw, rfl, HA, HJ8, HB⟩ := hcut
     cases kq with
     | zero => exact absurd HA.out (by simp [bF.j1])
     | succ kj8 =>
      have H := HA.out
      clear HA
      simp only [bF.j1] at H
      by_cases c12 : Kw = true
      ·subst c12
       have H1 : (some (([] : List Int), false)) = some (r1, r2) := by rw [if_pos rfl] at H; exact H
       clear H
       have H := H1
       clear H1
       simp only [Option.some.injEq, Prod.mk.injEq] at H
       obtain ⟨rfl, rfl⟩ := H
       go_wp2
       go_ret2
       exact ⟨_, by rfl, by exact Kd.uM _ _ _ _ _, by repeat ((with_reducible exact HB.out))⟩
      ·replace c12 := Bool.eq_false_iff.mpr c12
       subst c12
       have H1 : (if a0 ≥ 0 then ((o_.f a0 (l1.length : Int)).bind fun I9 => (some (I9, true))) else ((bf.f kj8 (wrap64 (-a0)) l1).bind fun I_ => (some (I_, true)))) = some (r1, r2) := by rw [if_neg (show ¬ (false = true) by decide)] at H; exact H
       clear H
       have H := H1
       clear H1
       by_cases c13 : a0 ≥ 0
       ·rw [if_pos c13] at H
        have afa : decide (0 ≤ a0) = true := decide_eq_true c13
        clear c13
        replace H := Option.bind_eq_some_iff.mp H
        obtain ⟨I9, abj, H⟩ := H
        replace H : (some (I9, true)) = some (r1, r2) := H
        have A14 := ae.mk abj
        clear abj
        simp only [Option.some.injEq, Prod.mk.injEq] at H
        obtain ⟨rfl, rfl⟩ := H
        go_wp2_with (((with_reducible refine kM (f := 129) rfl ?_); refine mM (some 46) rfl rfl Try.func129 (by kernel_rfl) rfl #[.int .i64 a0, .int .i64 (l1.length : Int)] rfl (by (try simp only [List.map_toArray, List.map_cons, List.map_nil]); rfl) ?_; (with_reducible refine (o_.calls a0 (l1.length : Int) I9 _ A14.out).mono ?_); rintro e ug ⟨akG, rfl, ho0, hb⟩; refine ⟨_, rfl, ?_⟩; have aeN := ae.mk (Kd.pU ho0 (dR (by repeat ((with_reducible exact HB.out))))); replace HB := ae.mk (ak (by repeat ((with_reducible exact HB.out))) hb); (try clear hb); (try clear ho0)))
        go_ret2
        exact ⟨_, by rfl, by exact aeN.out, by repeat ((with_reducible exact HB.out))⟩
       ·rw [if_neg c13] at H
        have afa : decide (0 ≤ a0) = false := decide_eq_false c13
        clear c13
        replace H := Option.bind_eq_some_iff.mp H
        obtain ⟨I_, Ky, H⟩ := H
        replace H : (some (I_, true)) = some (r1, r2) := H
        have A16 := ae.mk Ky
        clear Ky
        simp only [Option.some.injEq, Prod.mk.injEq] at H
        obtain ⟨rfl, rfl⟩ := H
        go_wp2_with (((with_reducible refine kM (f := 130) rfl ?_); refine mM (some 50) rfl rfl Try.func130 (by kernel_rfl) rfl #[.int .i64 (wrap64 (-a0)), .slice A1 l1.length c1] rfl (by (try simp only [List.map_toArray, List.map_cons, List.map_nil]); rfl) ?_; (with_reducible refine (bf.calls kj8 (wrap64 (-a0)) _ _ l1 I_ _ ?tK ?yR A16.out).mono ?_); (case tK => repeat (exact (Kd.gV HR1.out HB.out))); (case yR => exact vI.out); rintro e Vb ⟨akH, rfl, ho0, hb⟩; refine ⟨_, rfl, ?_⟩; have aeO := ae.mk (Kd.pU ho0 (dR (by repeat ((with_reducible exact HB.out))))); replace HB := ae.mk (ak (by repeat ((with_reducible exact HB.out))) hb); (try clear hb); (try clear ho0)))
        go_ret2
        exact ⟨_, by rfl, by exact aeO.out, by repeat ((with_reducible exact HB.out))⟩
def Yd.f (k : Nat)  : Option (Bool) := (bF.f k 5 (([0, 0, 0] : List Int))).bind fun XO => ((bF.f k (-5) (([1, 9, 2] : List Int))).bind fun XP => (if XO.2 = true then ((lV.f k XO.1 (([2, 2, 1] : List Int))).bind fun ahf => (if ahf = true then (if XP.2 = true then ((lV.f k XP.1 (([(-1), (-2), (-2)] : List Int))).bind fun ahg => (some ahg)) else (some false)) else (some false))) else (some false)))
end Go.Proofs.Ytfdmfgaiblfbhaa.P
namespace Go.Proofs.Ytfdmfgaiblfbhaa.P
open Go.RowKit Go.Proofs.ag.aK Go.Proofs.ag.bG Go.Proofs.ag.bV
def yQ (left : Int) (p : Int × Int) : Int × (Int × Int) := if left > 0 then (left - 1, (p.1, p.2 + 1)) else if left < 0 ∧ p.1 + p.2 > 0 then (left + 1, (p.1, p.2 - 1)) else (left, p)
def xR : Int → List (Int × Int) → Int × List (Int × Int)
 | l, [] => (l, [])
 | l, p :: ps => ((xR (yQ l p).1 ps).1, (yQ l p).2 :: (xR (yQ l p).1 ps).2)
def wH : Nat → Int → List (Int × Int) → Option (List Int × Bool)
 | 0, _, _ => none
 | k + 1, l, ps => if l = 0 then some (ps.map Prod.snd, true) else if (xR l ps).1 = l then some ([], false) else wH k (xR l ps).1 (xR l ps).2
def Xj.f (k : Nat) (a0 : Int) (l1 : List Int) : Option (List Int × Bool) :=
 if -100000 ≤ a0 ∧ a0 ≤ 100000 ∧ l1.length ≤ 100000 then
  if l1 = [] then some ([], false)
  else if ∀ g, g ∈ l1 → 0 ≤ g ∧ g ≤ 2147483647 then wH k a0 (l1.map fun g => (g, 0)) else some ([], false)
 else none
end Go.Proofs.Ytfdmfgaiblfbhaa.P
