/- The row of the law CellMays, second form (what it reads is of bulk at most 1048576), out of its plain law and its walk. -/
import Derived.Test.YtfdmfgaiblfbhaaMCellMayse
import Derived.Test.YtfdmfgaiblfbhaaRows
import Derived.Test.YtfdmfgaiblfbhaaMCellMaysd
import Derived.WalkKit
import Derived.ProofKit
import Derived.OpenShut
import Derived.ShutString
import Derived.ChangeOld
import Derived.Below
import Derived.SizedLaws
import Derived.JoinedCond
/- How a law's arguments read, with their bulk: a tree has no more cells than its reading has bulk. -/
namespace Go.Proofs.Ytfdmfgaiblfbhaa.P
open Go.RowKit Go.Proofs.YtfdmfgaiblfbhaaW.PrintWords Go.Proofs.YtfdmfgaiblfbhaaW.PrintLast Go.Proofs.YtfdmfgaiblfbhaaW.PrintMore
open Go.ChangeShapes Go.WideShapes Go.ChangeAt Go.Joins Go.Deep

section
variable {H : Type} {enc : TypeId × Value → H} {P : Program} {w : World} {base : Nat} {spare : Nat → Bool} {held : Bool}
theorem bulk_pos (d : DataW H) : 1 ≤ Rows.uptoBulk d := by
  cases d with
  | lit l => cases l <;> simp [Rows.uptoBulk]
  | _ => simp [Rows.uptoBulk]
theorem bulk_len (l : List (DataW H)) : l.length ≤ Rows.uptoBulkAll l := by
  induction l with
  | nil => simp
  | cons x xs ih =>
    have := bulk_pos x
    simp only [Rows.uptoBulkAll, List.length_cons]
    omega
theorem bulk_sum {α : Type} (m : α → Nat) : ∀ (l : List α) (es : List (DataW H)), l.length = es.length → (∀ (i : Nat) (p : α) (e : DataW H), l[i]? = some p → es[i]? = some e → m p ≤ Rows.uptoBulk e) → (l.map m).sum ≤ Rows.uptoBulkAll es := by
  intro l
  induction l with
  | nil => intro es _ _; simp
  | cons x xs ih =>
    intro es hl h
    cases es with
    | nil => simp at hl
    | cons e es =>
      have h0 := h 0 x e rfl rfl
      have h1 := ih es (by simpa using hl) (fun i p e hp he => h (i + 1) p e (by simpa using hp) (by simpa using he))
      simp only [List.map_cons, List.sum_cons, Rows.uptoBulkAll]
      omega
theorem trod_struct4z {t : TypeId} {f0 f1 f2 f3 : Field} {fuel : Nat} {cs : List Value} {x : DataW H × List MemPlace} (ht : P.underlying t = some (.struct #[f0, f1, f2, f3])) (h : DataW.trod enc P w base spare held fuel t cs = some x) :
    ∃ y0 y1 y2 y3 n, fuel = n + 1 ∧ x.1 = .agg [y0.1, y1.1, y2.1, y3.1] ∧ cs.length = P.cellsOf t ∧ DataW.trod enc P w base spare held n f0.type ((cs.drop f0.offset).take (P.cellsOf f0.type)) = some y0 ∧
      DataW.trod enc P w base spare held n f1.type ((cs.drop f1.offset).take (P.cellsOf f1.type)) = some y1 ∧ DataW.trod enc P w base spare held n f2.type ((cs.drop f2.offset).take (P.cellsOf f2.type)) = some y2 ∧
      DataW.trod enc P w base spare held n f3.type ((cs.drop f3.offset).take (P.cellsOf f3.type)) = some y3 := by
  obtain ⟨xs, n, hn, rfl, hl, hlen, hf⟩ := DataW.trod_struct ht h
  match xs, hlen with
  | [y0, y1, y2, y3], _ => exact ⟨y0, y1, y2, y3, n, hn, rfl, hl, by simpa using hf 0 f0 rfl, by simpa using hf 1 f1 rfl, by simpa using hf 2 f2 rfl, by simpa using hf 3 f3 rfl⟩
/-- A row whose elements read: so many, and of such a bulk. -/
theorem open_rowz {α : Type} {k : Kd α} {ok : α → Prop} (m : α → Nat) {t e : TypeId} {fuel : Nat} {cs : List Value} {x : DataW H × List MemPlace} (ht : P.underlying t = some (.slice e)) (hs : k.sz = P.cellsOf e)
    (hE : ∀ n, n < fuel → ∀ cs y, DataW.trod enc P w base spare held n e cs = some y → ∃ p, k.K w p cs ∧ ok p ∧ m p ≤ Rows.uptoBulk y.1) (h : DataW.trod enc P w base spare held fuel t cs = some x) :
    ∃ A c l, cs = [.slice A (l : List α).length c] ∧ l.length ≤ c ∧ k.C w A l.length l ∧ (∀ p, p ∈ l → ok p) ∧ (l.map m).sum < Rows.uptoBulk x.1 ∧ l.length < Rows.uptoBulk x.1 := by
  rcases DataW.trod_slice ht h with ⟨rfl, rfl⟩ | ⟨a, len, cap, elems, rest, n, hn, rfl, rfl, hb, hl, hm, hlen, hel, hsp, hns⟩
  · exact ⟨none, 0, [], rfl, Nat.le_refl _, ⟨rfl, by simp, fun h => absurd h (by simp)⟩, (fun p hp => by cases hp), (by simp [Rows.uptoBulk]), (by simp [Rows.uptoBulk])⟩
  · obtain ⟨l, hl2, hq⟩ := row_of (α := α) (Q := fun i p => ok p ∧ (∃ c, c.length = k.sz ∧ k.K w p c ∧ ∀ j u, c[j]? = some u → w.cell? (a.add (i * k.sz + j)) = some u) ∧ ∀ e, elems[i]? = some e → m p ≤ Rows.uptoBulk e.1) len (fun i hi => by
      have key := hel i hi
      rw [List.getElem?_eq_getElem (by omega)] at key
      obtain ⟨cs', h1, h2⟩ := Option.bind_eq_some_iff.1 key
      obtain ⟨p, hp, hok, hm⟩ := hE n (by omega) cs' _ h2
      obtain ⟨h3, h4⟩ := cells_at h1
      refine ⟨p, hok, ⟨cs', by rw [h3, hs], hp, fun j u hj => ?_⟩, fun e he => ?_⟩
      · rw [hs, ← Deep.add_add]
        exact h4 j u hj
      · rw [List.getElem?_eq_getElem (by omega)] at he
        cases he
        exact hm)
    subst hl2
    refine ⟨some a, cap, l, rfl, hl, ⟨rfl, by unfold maxLen at hm; omega, fun _ => ⟨a, rfl, fun j p hj => ?_⟩⟩, fun p hp => ?_, ?_, ?_⟩
    · obtain ⟨_, ⟨c, h1, h2, h3⟩, _⟩ := hq j p hj
      exact ⟨c, h1, h2, h3⟩
    · obtain ⟨i, hi, rfl⟩ := List.getElem_of_mem hp
      exact (hq i _ (List.getElem?_eq_getElem hi)).1
    · have := bulk_sum m l (elems.map (·.1)) (by simp [hlen]) (fun i p e hp he => by
        rw [List.getElem?_map] at he
        obtain ⟨e', he', rfl⟩ := Option.map_eq_some_iff.1 he
        exact (hq i p hp).2.2 e' he')
      simp only [Rows.uptoBulk]
      omega
    · have := bulk_len (elems.map (·.1))
      simp only [List.length_map] at this
      simp only [Rows.uptoBulk]
      omega
end
section
variable {H : Type} {enc : TypeId × Value → H} {w : World} {base : Nat} {spare : Nat → Bool} {held : Bool}
set_option maxRecDepth 100000 in
theorem read26nz : ∀ (fuel : Nat) {cs : List Value} {x : DataW H × List MemPlace} (_ : DataW.trod enc Try.prog w base spare held fuel 26 cs = some x), ∃ r : S26, (Kd.upto F26 7 [26] fuel).K w r cs ∧ wfn26 fuel r ∧ sz r ≤ Rows.uptoBulk x.1 := by
  intro fuel
  induction fuel using Nat.strongRecOn with
  | _ fuel ih =>
  intro cs x h
  cases fuel with
  | zero => simp [DataW.trod] at h
  | succ fuel =>
    obtain ⟨y0, y1, y2, y3, m, hm, hx, hl, h0, h1, h2, h3⟩ := trod_struct4z Try.underlying26 h
    obtain rfl : fuel = m := by omega
    rw [cells26] at hl
    match cs, hl with
    | [c0, c1, c2, c3, c4, c5, c6], _ =>
        simp only [cells3, cells5, cells23, cells24, List.drop_zero, List.take_succ_cons, List.take_zero, List.drop_succ_cons] at h0 h1 h2 h3
        obtain ⟨n0, e0, _, w0⟩ := DataW.trod_int Try.underlying5 h0
        obtain ⟨n2, e2, _, w2⟩ := DataW.trod_int Try.underlying3 h2
        simp only [List.cons.injEq, and_true] at e0 e2
        subst e0 e2
        obtain ⟨r, hr, hw⟩ := read23 h1
        obtain e1 := k23_open hr
        simp only [List.cons.injEq, and_true] at e1
        obtain ⟨rfl, rfl, rfl, rfl⟩ := e1
        obtain ⟨A, c, l, e3, hlc, hC, hok, hsum, _⟩ := open_rowz (k := Kd.upto F26 7 [26] fuel) (ok := wfn26 fuel) sz Try.underlying24 (by rw [sz26, cells26]) (fun n hn cs y hy => by
          obtain ⟨p, hp, hok, hz⟩ := ih n (by omega) hy
          exact ⟨p, Kd.upto_K_le mono26 sz26 (by omega) hp, wfn26_le (by omega) hok, hz⟩) h3
        simp only [List.cons.injEq, and_true] at e3
        subst e3
        have hlen9 : l.length ≤ 9223372036854775807 := hC.2.1
        refine ⟨⟨n0, r, n2, l⟩, ?_, ⟨u8_of w0, hw, i64_of w2, hlen9, hok⟩, ?_⟩
        · exact ⟨[.int .u8 n0], [.int .i64 r.f0, .int .i64 r.f1, .int .i64 r.f2, .int .i64 r.f3, .int .i64 n2, .slice A l.length c], rfl, rfl, [.int .i64 r.f0, .int .i64 r.f1, .int .i64 r.f2, .int .i64 r.f3], [.int .i64 n2, .slice A l.length c], rfl, k23_mk w r, [.int .i64 n2], [.slice A l.length c], rfl, rfl, A, c, rfl, hlc, hC⟩
        · rw [hx, sz_eq]
          have := szL_sum l
          simp only [Rows.uptoBulk, Rows.uptoBulkAll]
          have h3 := bulk_pos y0.1
          omega
theorem read26z {fuel : Nat} {cs : List Value} {x : DataW H × List MemPlace} (h : DataW.trod enc Try.prog w base spare held fuel 26 cs = some x) : ∃ r : S26, k26.K w r cs ∧ wf26 r ∧ sz r ≤ Rows.uptoBulk x.1 := by
  obtain ⟨r, hr, hw, hz⟩ := read26nz fuel h
  exact ⟨r, ⟨fuel, hr⟩, ⟨fuel, hw⟩, hz⟩
end
theorem mem_sum {α : Type} (m : α → Nat) {x : α} : ∀ {l : List α}, x ∈ l → m x ≤ (l.map m).sum := by
  intro l
  induction l with
  | nil => intro h; cases h
  | cons y ys ih =>
    intro h
    rw [List.map_cons, List.sum_cons]
    rcases List.mem_cons.1 h with rfl | h
    · omega
    · have := ih h; omega
end Go.Proofs.Ytfdmfgaiblfbhaa.P
/- The row of the law CellMays, second form (what it reads is of bulk at most 1048576), out of its plain law and its walk. -/
namespace Go.Proofs.Ytfdmfgaiblfbhaa.cellMaysUpto
open Go.ChangeShapes Go.WideShapes Go.ChangeAt Go.RowKit Go.Proofs.Ytfdmfgaiblfbhaa.P Go.Proofs.YtfdmfgaiblfbhaaW.PrintWords
open Go.ChangeMaps (open_string shut_string)
theorem own : ownKnob Try.prog.godebug = none := by kernel_rfl
theorem laidOut : laidOutB Try.prog = true := by kernel_rfl
set_option maxRecDepth 100000 in
theorem lifted (os : Os) (started : os.Started) (H : Type) (enc : TypeId × Value → H) (F : Stop.Interp) :
    ReturnsInHanded {} Try.checked os 16 .any ((Rows.OpenSpec.upto Rows.cellMaysSpec).pre6 enc Try.prog Try.f16 Rows.cellMaysUptoRow.domain false) (((Rows.OpenSpec.upto Rows.cellMaysSpec).at F).post enc Try.prog Try.f16 false true false false) := by
  refine returnsInHanded_of_cond (C := Try.checked) (s := Rows.OpenSpec.upto Rows.cellMaysSpec) (k := Rows.uptoSmall) rfl own started (by kernel_rfl) Try.func16
    (OpenSpec.witness (enc := enc) (C := Try.checked) (s := Rows.OpenSpec.upto Rows.cellMaysSpec) (k := Rows.uptoSmall) rfl false ⟨#[], #[.slice none 0 0], []⟩ 8 (by kernel_rfl) (by kernel_rfl) (by kernel_rfl)
      (x := ([.nil], [], [])) (by kernel_rfl) rfl (by kernel_rfl)) ?_
  intro W base args ds gs before hval0 hW hcnd hk0 _
  have hval : ∀ (j : Nat) t v, Try.f16.params[j]? = some t → args[j]? = some v → Value.okWide Try.prog W .any base t v := hval0
  have hW' := hW
  obtain ⟨p, q, hA0, hV, rfl, hfz, hnd⟩ := hW
  have hA : DataW.TrodAll enc Try.prog W 0 (fun _ => true) true Try.f16.params.toList args.toList ds p := hA0
  rw [Try.params16] at hA hval
  obtain ⟨v0, vs0, d0, ds0, p0, q0, hargs, rfl, rfl, h0, r0⟩ := trodAll_cons hA
  obtain ⟨rfl, rfl, rfl⟩ := trodAll_nil r0
  obtain rfl : args = #[v0] := by cases args; simp_all
  obtain ⟨rfl, rfl⟩ := trodVars_none hV
  have hB := of_decide_eq_true hk0
  simp only [List.cons_append, List.nil_append, List.append_nil, Rows.uptoBulkAll] at hB
  have z0 : Rows.uptoBulk d0 ≤ 1048576 := by omega
  have k0 := h0
  have lt0 : ∀ x ∈ p0, x.block < W.heap.size := by obtain ⟨m, hm⟩ := k0; exact DataW.trod_lt m _ _ _ hm
  obtain ⟨fuel0, hf0⟩ := h0
  obtain ⟨A0, len0, cap0, rfl⟩ := okWide_slice Try.underlying24 (hval 0 24 v0 rfl rfl)
  obtain ⟨B0, c0, a0, e0, hc0, hr0, w0, s0, y0⟩ := open_rowz (k := k26) (ok := wf26) (sz) Try.underlying24 (by kernel_rfl) (fun n _ cs y hy => by obtain ⟨x, hx, hw, hz⟩ := read26z hy; exact ⟨x, hx, hw, hz⟩) hf0
  simp only [Value.cells, List.cons.injEq, Value.slice.injEq, and_true] at e0
  obtain ⟨rfl, rfl, rfl⟩ := e0
  obtain ⟨k, hP⟩ := Pure.CellMays a0 (Nat.le_trans (Nat.le_of_lt y0) z0) w0 (fun x hx => Nat.le_trans (mem_sum sz hx) (Nat.le_trans (Nat.le_of_lt s0) z0))
  refine (sashlaw05_CellMays.calls k _ _ a0 true W hr0 hc0 hP).mono fun e W' ⟨he, bel0⟩ => ?_
  have bel : Below W.heap.size W W' := bel0
  subst he
  exact ⟨_, rfl, _, _, _, [], _, [], hW', trodAll_mk1 (shut_bool Try.underlying4 _), (trodAll_cons_mk (Below.trod laidOut (by kernel_rfl) (of_decide_eq_true (by kernel_rfl)) k0 bel lt0) trodAll_mk0), rfl, bel.frame _, fun h => by cases h⟩
theorem j0 : (Rows.cellMaysUptoRow.wf (OpenSpec.ofChange (Rows.OpenSpec.upto Rows.cellMaysSpec).bare)) = true := by kernel_rfl
theorem j1 : (laidOutB Try.prog) = true := by kernel_rfl
theorem j2 : (mapsRowed Try.prog) = true := by kernel_rfl
theorem j3 : (Try.f16.params.all (Try.prog.readableRec ·)) = true := by kernel_rfl
theorem j4 : (namedTie Try.prog Rows.cellMaysUptoRow.named (Rows.OpenSpec.upto Rows.cellMaysSpec).bare.vars) = true := by kernel_rfl
theorem j5 : ((Rows.cellMaysUptoRow.stops == [])) = true := by kernel_rfl
theorem j6 : ((Try.prog.stops == [])) = true := by kernel_rfl
theorem j7 : ((Rows.cellMaysUptoRow.knobs == [])) = true := by kernel_rfl
theorem j8 : ((Try.prog.stopKnobs == [])) = true := by kernel_rfl
theorem j9 : ((Rows.cellMaysUptoRow.inPlace == Try.prog.inPlace 16)) = true := by kernel_rfl
theorem j10 : ((Rows.cellMaysUptoRow.unfollowed == Try.prog.unfollowed 16)) = true := by kernel_rfl
theorem j11 : ((Rows.cellMaysUptoRow.recurses == Try.prog.recurses 16)) = true := by kernel_rfl
theorem j12 : ((Rows.cellMaysUptoRow.named == Try.prog.varsNamed 16)) = true := by kernel_rfl
theorem j13 : ((Rows.cellMaysUptoRow.maps == (Try.f16.params.toList ++ (Rows.OpenSpec.upto Rows.cellMaysSpec).bare.plain.varTypes Try.prog).any (Try.prog.mapsRec ·))) = true := by kernel_rfl
theorem j14 : ((Rows.cellMaysUptoRow.ifaces == (Try.f16.params.toList ++ (Rows.OpenSpec.upto Rows.cellMaysSpec).bare.plain.varTypes Try.prog).any (Try.prog.ifacesRec ·))) = true := by kernel_rfl
theorem j15 : ((Rows.cellMaysUptoRow.mapsOut == Try.prog.mapsAmong Try.f16.resultTypes.toList)) = true := by kernel_rfl
theorem j16 : ((Rows.cellMaysUptoRow.loops == (Try.f16.params.toList ++ (Rows.OpenSpec.upto Rows.cellMaysSpec).bare.plain.varTypes Try.prog).any (Try.prog.loopsFrom ·))) = true := by kernel_rfl
theorem j17 : ((Rows.cellMaysUptoRow.wideKeys == (Try.f16.params.toList ++ (Rows.OpenSpec.upto Rows.cellMaysSpec).bare.plain.varTypes Try.prog ++ Try.f16.resultTypes.toList).any (Try.prog.wideKeysFrom ·))) = true := by kernel_rfl
theorem j18 : ((Rows.OpenSpec.upto Rows.cellMaysSpec).bare.vars.all (Try.prog.varReadable ·)) = true := by kernel_rfl
theorem j19 : (Try.f16.resultTypes.all (fun t => Try.prog.readableRec t && decide (t < Try.prog.types.size))) = true := by kernel_rfl
theorem j20 : ((Rows.cellMaysUptoRow.ifacesOut == Try.f16.resultTypes.toList.any (Try.prog.ifacesRec ·))) = true := by kernel_rfl
theorem j21 : ((Rows.cellMaysUptoRow.loopsOut == Try.f16.resultTypes.toList.any (Try.prog.loopsFrom ·))) = true := by kernel_rfl
theorem j23 : (Rows.cellMaysUptoRow.shortTexts.isNone) = true := by kernel_rfl
theorem j29 : ((Rows.cellMaysUptoRow.pinned == Rows.cellMaysUptoRow.pinnedBy)) = true := by kernel_rfl
theorem j30 : ((Rows.cellMaysUptoRow.veiled == (Try.f16.params.toList ++ (Rows.OpenSpec.upto Rows.cellMaysSpec).bare.plain.varTypes Try.prog ++ Try.f16.resultTypes.toList).any (Try.prog.veiledRec ·))) = true := by kernel_rfl
theorem j31 : (Rows.cellMaysUptoRow.veiledFits Try.prog Try.f16.params.toList (Try.f16.params.toList ++ (Rows.OpenSpec.upto Rows.cellMaysSpec).bare.plain.varTypes Try.prog ++ Try.f16.resultTypes.toList)) = true := by kernel_rfl
theorem closed : joinedFacts Try.prog 16 Try.f16 (Rows.OpenSpec.upto Rows.cellMaysSpec).bare Rows.cellMaysUptoRow = true := P.joined_mk j0 j1 j2 j3 j4 j5 j6 j7 j8 j9 j10 j11 j12 j13 j14 j15 j16 j17 j18 j19 j20 j21 P.head_keys j23 P.head_heard P.head_enter (by rw [P.head_final]; rfl) (by rw [P.head_make]; rfl) rfl rfl j29 j30 j31
theorem over : Rows.cellMaysUptoRow.holds Try.pinned (Rows.OpenSpec.upto Rows.cellMaysSpec) :=
  OpenClaim.holds_of_cond 16 Try.f16 rfl rfl rfl rfl rfl rfl rfl ⟨rfl, rfl, rfl, rfl, rfl⟩ rfl rfl rfl rfl rfl (by kernel_rfl) Try.func16 closed
    (of_decide_eq_true (by kernel_rfl)) (by unfold Func.isWrapper; first | (rw [if_pos (by decide +kernel)]; kernel_rfl) | (rw [if_neg (by decide +kernel)]; exact ⟨rfl, rfl⟩))
    (fun os started H enc _ F => lifted os started H enc F)
theorem proved : Rows.CellMaysUptoSaid := over
#print axioms proved
end Go.Proofs.Ytfdmfgaiblfbhaa.cellMaysUpto
namespace Go.Proofs.Ytfdmfgaiblfbhaa
/-- The row, under a short name, for the claim. -/
theorem cellMaysUpto_holds : Rows.CellMaysUptoSaid := cellMaysUpto.proved
end Go.Proofs.Ytfdmfgaiblfbhaa
