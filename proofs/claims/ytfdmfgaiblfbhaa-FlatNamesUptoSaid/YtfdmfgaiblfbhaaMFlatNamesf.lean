/- The row of the law FlatNames, second form (what it reads is of bulk at most 1048576), out of its plain law and its walk. -/
import Derived.Test.YtfdmfgaiblfbhaaMFlatNamesc
import Derived.Test.YtfdmfgaiblfbhaaMFlatNamese
import Derived.ProofKit
import Derived.Deep.Slices
import Derived.Lib.SmallJoins
import Derived.OpenShut
import Derived.Test.YtfdmfgaiblfbhaaRows
import Derived.WalkKit
import Derived.ShutString
import Derived.ChangeOld
import Derived.Below
import Derived.SizedLaws
import Derived.JoinedCond
/- The law FlatNames, walked: its three ways, over the plain facts of what it calls. Condition: the tree has at most 1048576 cells. -/
namespace Go.Proofs.Ytfdmfgaiblfbhaa.P
open Go.RowKit Go.Proofs.YtfdmfgaiblfbhaaW.PrintWords Go.Proofs.YtfdmfgaiblfbhaaW.PrintLast Go.Proofs.YtfdmfgaiblfbhaaW.PrintMore
set_option linter.unusedVariables false
set_option linter.unusedSimpArgs false
theorem C_V26 {W : World} {A : Option Addr} {l : List S26} {c : Nat} (h : Kd.C k26 W A l.length l) (hc : l.length ≤ c) : Kd.V k26 26 W W.heap.size (fun k => k < W.heap.size) (.slice A l.length c) l := Kd.V_mk hc (Kd.C_F k26_heap h)
theorem C_V3 {W : World} {A : Option Addr} {l : List Int} {c : Nat} (h : Kd.C (Kd.int .i64) W A l.length l) (hc : l.length ≤ c) : Kd.V (Kd.int .i64) 3 W W.heap.size (fun k => k < W.heap.size) (.slice A l.length c) l := Kd.V_mk hc (Kd.C_F (Kd.heap_int .i64) h)
set_option maxHeartbeats 4000000 in
set_option maxRecDepth 100000 in
theorem names_great (c : S26) (ids : List Int) (A : Option Addr) (cc : Nat) (B : Option Addr) (cb : Nat) (w : World) (hr : Kd.C k26 w A c.f3.length c.f3) (hc : c.f3.length ≤ cc) (hi : Kd.C (Kd.int .i64) w B ids.length ids) (hb : ids.length ≤ cb) (awk : ∃ k, sashlaw07_awake.f k = some true) (hg : ∃ k, sashref05_Great.f k c.f0 c.f1.f0 c.f1.f1 c.f1.f2 c.f1.f3 c.f2 c.f3 = some true) :
    Calls Try.prog 11 #[.agg #[.int .u8 c.f0, .int .i64 c.f1.f0, .int .i64 c.f1.f1, .int .i64 c.f1.f2, .int .i64 c.f1.f3, .int .i64 c.f2, .slice A c.f3.length cc], .slice B ids.length cb] w fun e w' => e = .returned (.bool true) ∧ Below w.heap.size w w' := by
  have HC := Aside0.mk hr
  have LC := Aside0.mk hc
  have HI := Aside0.mk hi
  have LI := Aside0.mk hb
  have HB := Aside0.mk (Below.refl w.heap.size w)
  obtain ⟨ka, haw⟩ := awk
  have AW := Aside0.mk haw
  obtain ⟨k1, h1⟩ := hg
  have G1 := Aside0.mk h1
  clear hr hc hi hb haw h1
  go_enter Try.func11, Try.ntmps11
  go_wp2_with (first
    | ((with_reducible refine gate_dst (N := 2) rfl ?_); refine box_event ?hg (N := 2) ?hd (cs := #[.int .u8 c.f0, .int .i64 c.f1.f0, .int .i64 c.f1.f1, .int .i64 c.f1.f2, .int .i64 c.f1.f3, .int .i64 c.f2, .slice A c.f3.length cc]) (t := 26) ?hr ?_; (case hd => rfl); (case hg => rfl); (case hr => first | (go_simp; done) | (go_simp; rfl)); intro b2 hg wb2 hbox hb; have qHC_ := Aside0.mk (Kd.C_below HC.out hb); have qHI_ := Aside0.mk (Kd.C_below HI.out hb); have qHB_ := Aside0.mk (below_step HB.out hb); clear HC HI HB; have HC := qHC_; have HI := qHI_; have HB := qHB_; clear qHC_ qHI_ qHB_; have Kb2 := Aside0.mk hbox; clear hb hbox hg; have cb2_0 := (blk_cell Kb2.out 0).trans rfl; have cb2_1 := (blk_cell Kb2.out 1).trans rfl; have cb2_2 := (blk_cell Kb2.out 2).trans rfl; have cb2_3 := (blk_cell Kb2.out 3).trans rfl; have cb2_4 := (blk_cell Kb2.out 4).trans rfl; have cb2_5 := (blk_cell Kb2.out 5).trans rfl; have cb2_6 := (blk_cell Kb2.out 6).trans rfl)
    | fail)
  clear cb2_0 cb2_1 cb2_2 cb2_3 cb2_4 cb2_5 cb2_6
  refine (sashref05_Great.calls k1 c.f0 c.f1.f0 c.f1.f1 c.f1.f2 c.f1.f3 c.f2 A cc c.f3 true _ HC.out LC.out G1.out).mono ?_
  rintro e wk1 ⟨rfl, hb⟩
  have qHC_ := Aside0.mk (Kd.C_below HC.out hb); have qHI_ := Aside0.mk (Kd.C_below HI.out hb); have qKb2_ := Aside0.mk (blk_below Kb2.out hb); have qHB_ := Aside0.mk (below_step HB.out hb); clear HC HI Kb2 HB; have HC := qHC_; have HI := qHI_; have Kb2 := qKb2_; have HB := qHB_; clear qHC_ qHI_ qKb2_ qHB_
  clear hb
  go_wp2_with fail
  refine (sashlaw07_awake.calls ka true _ AW.out).mono ?_
  rintro e wk2 ⟨rfl, hb⟩
  have qHC_ := Aside0.mk (Kd.C_below HC.out hb); have qHI_ := Aside0.mk (Kd.C_below HI.out hb); have qKb2_ := Aside0.mk (blk_below Kb2.out hb); have qHB_ := Aside0.mk (below_step HB.out hb); clear HC HI Kb2 HB; have HC := qHC_; have HI := qHI_; have Kb2 := qKb2_; have HB := qHB_; clear qHC_ qHI_ qKb2_ qHB_
  clear hb
  go_wp2
  go_ret
  exact ⟨rfl, HB.out⟩
set_option maxHeartbeats 4000000 in
set_option maxRecDepth 100000 in
theorem names_many (c : S26) (ids : List Int) (A : Option Addr) (cc : Nat) (B : Option Addr) (cb : Nat) (w : World) (hr : Kd.C k26 w A c.f3.length c.f3) (hc : c.f3.length ≤ cc) (hi : Kd.C (Kd.int .i64) w B ids.length ids) (hb : ids.length ≤ cb) (awk : ∃ k, sashlaw07_awake.f k = some true) (hg : ∃ k, sashref05_Great.f k c.f0 c.f1.f0 c.f1.f1 c.f1.f2 c.f1.f3 c.f2 c.f3 = some false) (hgt : 300 < ids.length) :
    Calls Try.prog 11 #[.agg #[.int .u8 c.f0, .int .i64 c.f1.f0, .int .i64 c.f1.f1, .int .i64 c.f1.f2, .int .i64 c.f1.f3, .int .i64 c.f2, .slice A c.f3.length cc], .slice B ids.length cb] w fun e w' => e = .returned (.bool true) ∧ Below w.heap.size w w' := by
  have HC := Aside0.mk hr
  have LC := Aside0.mk hc
  have HI := Aside0.mk hi
  have LI := Aside0.mk hb
  have HB := Aside0.mk (Below.refl w.heap.size w)
  obtain ⟨ka, haw⟩ := awk
  have AW := Aside0.mk haw
  obtain ⟨k1, h1⟩ := hg
  have G1 := Aside0.mk h1
  have hgz : (300 : Int) < (ids.length : Int) := by omega
  clear hr hc hi hb haw h1 hgt
  go_enter Try.func11, Try.ntmps11
  go_wp2_with (first
    | ((with_reducible refine gate_dst (N := 2) rfl ?_); refine box_event ?hg (N := 2) ?hd (cs := #[.int .u8 c.f0, .int .i64 c.f1.f0, .int .i64 c.f1.f1, .int .i64 c.f1.f2, .int .i64 c.f1.f3, .int .i64 c.f2, .slice A c.f3.length cc]) (t := 26) ?hr ?_; (case hd => rfl); (case hg => rfl); (case hr => first | (go_simp; done) | (go_simp; rfl)); intro b2 hg wb2 hbox hb; have qHC_ := Aside0.mk (Kd.C_below HC.out hb); have qHI_ := Aside0.mk (Kd.C_below HI.out hb); have qHB_ := Aside0.mk (below_step HB.out hb); clear HC HI HB; have HC := qHC_; have HI := qHI_; have HB := qHB_; clear qHC_ qHI_ qHB_; have Kb2 := Aside0.mk hbox; clear hb hbox hg; have cb2_0 := (blk_cell Kb2.out 0).trans rfl; have cb2_1 := (blk_cell Kb2.out 1).trans rfl; have cb2_2 := (blk_cell Kb2.out 2).trans rfl; have cb2_3 := (blk_cell Kb2.out 3).trans rfl; have cb2_4 := (blk_cell Kb2.out 4).trans rfl; have cb2_5 := (blk_cell Kb2.out 5).trans rfl; have cb2_6 := (blk_cell Kb2.out 6).trans rfl)
    | fail)
  clear cb2_0 cb2_1 cb2_2 cb2_3 cb2_4 cb2_5 cb2_6
  refine (sashref05_Great.calls k1 c.f0 c.f1.f0 c.f1.f1 c.f1.f2 c.f1.f3 c.f2 A cc c.f3 false _ HC.out LC.out G1.out).mono ?_
  rintro e wk1 ⟨rfl, hb⟩
  have qHC_ := Aside0.mk (Kd.C_below HC.out hb); have qHI_ := Aside0.mk (Kd.C_below HI.out hb); have qKb2_ := Aside0.mk (blk_below Kb2.out hb); have qHB_ := Aside0.mk (below_step HB.out hb); clear HC HI Kb2 HB; have HC := qHC_; have HI := qHI_; have Kb2 := qKb2_; have HB := qHB_; clear qHC_ qHI_ qKb2_ qHB_
  clear hb
  go_wp2_with fail
  refine (sashlaw07_awake.calls ka true _ AW.out).mono ?_
  rintro e wk2 ⟨rfl, hb⟩
  have qHC_ := Aside0.mk (Kd.C_below HC.out hb); have qHI_ := Aside0.mk (Kd.C_below HI.out hb); have qKb2_ := Aside0.mk (blk_below Kb2.out hb); have qHB_ := Aside0.mk (below_step HB.out hb); clear HC HI Kb2 HB; have HC := qHC_; have HI := qHI_; have Kb2 := qKb2_; have HB := qHB_; clear qHC_ qHI_ qKb2_ qHB_
  clear hb
  go_wp2
  go_ret
  exact ⟨rfl, HB.out⟩
set_option maxHeartbeats 4000000 in
set_option maxRecDepth 100000 in
theorem names_other (c : S26) (ids : List Int) (A : Option Addr) (cc : Nat) (B : Option Addr) (cb : Nat) (w : World) (hr : Kd.C k26 w A c.f3.length c.f3) (hc : c.f3.length ≤ cc) (hi : Kd.C (Kd.int .i64) w B ids.length ids) (hb : ids.length ≤ cb) (awk : ∃ k, sashlaw07_awake.f k = some true) (hg : ∃ k, sashref05_Great.f k c.f0 c.f1.f0 c.f1.f1 c.f1.f2 c.f1.f3 c.f2 c.f3 = some false) (hgt : ids.length ≤ 300) (x : S26) (hn : ∃ k, flat_Name.f k c.f0 c.f1.f0 c.f1.f1 c.f1.f2 c.f1.f3 c.f2 c.f3 ids = some (x.f0, x.f1.f0, x.f1.f1, x.f1.f2, x.f1.f3, x.f2, x.f3, false)) (idc : List Int) (hid : ∃ k, sashref05_IDs.f k c.f0 c.f1.f0 c.f1.f1 c.f1.f2 c.f1.f3 c.f2 c.f3 = some idc) (hln : ids.length ≠ idc.length) (hs : ∃ k, sashref05_Same.f k x.f0 x.f1.f0 x.f1.f1 x.f1.f2 x.f1.f3 x.f2 x.f3 0 0 0 0 0 0 [] = some true) :
    Calls Try.prog 11 #[.agg #[.int .u8 c.f0, .int .i64 c.f1.f0, .int .i64 c.f1.f1, .int .i64 c.f1.f2, .int .i64 c.f1.f3, .int .i64 c.f2, .slice A c.f3.length cc], .slice B ids.length cb] w fun e w' => e = .returned (.bool true) ∧ Below w.heap.size w w' := by
  have HC := Aside0.mk hr
  have LC := Aside0.mk hc
  have HI := Aside0.mk hi
  have LI := Aside0.mk hb
  have HB := Aside0.mk (Below.refl w.heap.size w)
  obtain ⟨ka, haw⟩ := awk
  have AW := Aside0.mk haw
  obtain ⟨k1, h1⟩ := hg
  have G1 := Aside0.mk h1
  obtain ⟨k2, h2⟩ := hn
  have N1 := Aside0.mk h2
  obtain ⟨k3, h3⟩ := hid
  have I1 := Aside0.mk h3
  have HLN := Aside0.mk hln
  have hgz : ¬ (300 : Int) < (ids.length : Int) := by omega
  have hl0 : ((ids.length : Int) != (idc.length : Int)) = true := by simp; have := HLN.out; omega
  have hl1 : (ids.length == idc.length) = false := by simpa using HLN.out
  have hl2 : (ids.length != idc.length) = true := by simpa using HLN.out
  obtain ⟨k4, h4⟩ := hs
  have S1 := Aside0.mk h4
  clear hr hc hi hb haw h1 hgt h2 h3 hln h4
  go_enter Try.func11, Try.ntmps11
  go_wp2_with (first
    | ((with_reducible refine gate_dst (N := 2) rfl ?_); refine box_event ?hg (N := 2) ?hd (cs := #[.int .u8 c.f0, .int .i64 c.f1.f0, .int .i64 c.f1.f1, .int .i64 c.f1.f2, .int .i64 c.f1.f3, .int .i64 c.f2, .slice A c.f3.length cc]) (t := 26) ?hr ?_; (case hd => rfl); (case hg => rfl); (case hr => first | (go_simp; done) | (go_simp; rfl)); intro b2 hg wb2 hbox hb; have qHC_ := Aside0.mk (Kd.C_below HC.out hb); have qHI_ := Aside0.mk (Kd.C_below HI.out hb); have qHB_ := Aside0.mk (below_step HB.out hb); clear HC HI HB; have HC := qHC_; have HI := qHI_; have HB := qHB_; clear qHC_ qHI_ qHB_; have Kb2 := Aside0.mk hbox; clear hb hbox hg; have cb2_0 := (blk_cell Kb2.out 0).trans rfl; have cb2_1 := (blk_cell Kb2.out 1).trans rfl; have cb2_2 := (blk_cell Kb2.out 2).trans rfl; have cb2_3 := (blk_cell Kb2.out 3).trans rfl; have cb2_4 := (blk_cell Kb2.out 4).trans rfl; have cb2_5 := (blk_cell Kb2.out 5).trans rfl; have cb2_6 := (blk_cell Kb2.out 6).trans rfl)
    | fail)
  clear cb2_0 cb2_1 cb2_2 cb2_3 cb2_4 cb2_5 cb2_6
  refine (sashref05_Great.calls k1 c.f0 c.f1.f0 c.f1.f1 c.f1.f2 c.f1.f3 c.f2 A cc c.f3 false _ HC.out LC.out G1.out).mono ?_
  rintro e wk1 ⟨rfl, hb⟩
  have qHC_ := Aside0.mk (Kd.C_below HC.out hb); have qHI_ := Aside0.mk (Kd.C_below HI.out hb); have qKb2_ := Aside0.mk (blk_below Kb2.out hb); have qHB_ := Aside0.mk (below_step HB.out hb); clear HC HI Kb2 HB; have HC := qHC_; have HI := qHI_; have Kb2 := qKb2_; have HB := qHB_; clear qHC_ qHI_ qKb2_ qHB_
  have cb2_0 := (blk_cell Kb2.out 0).trans rfl
  have cb2_1 := (blk_cell Kb2.out 1).trans rfl
  have cb2_2 := (blk_cell Kb2.out 2).trans rfl
  have cb2_3 := (blk_cell Kb2.out 3).trans rfl
  have cb2_4 := (blk_cell Kb2.out 4).trans rfl
  have cb2_5 := (blk_cell Kb2.out 5).trans rfl
  have cb2_6 := (blk_cell Kb2.out 6).trans rfl
  clear hb
  go_wp2_with fail
  clear cb2_0 cb2_1 cb2_2 cb2_3 cb2_4 cb2_5 cb2_6
  refine (flat_Name.calls k2 c.f0 c.f1.f0 c.f1.f1 c.f1.f2 c.f1.f3 c.f2 _ A cc c.f3 _ B cb ids x.f0 x.f1.f0 x.f1.f1 x.f1.f2 x.f1.f3 x.f2 x.f3 false _ (C_V26 HC.out LC.out) (C_V3 HI.out LI.out) N1.out).mono ?_
  rintro e wk2 ⟨v1, rfl, ho, hb⟩
  have qHC_ := Aside0.mk (Kd.C_below HC.out hb); have qHI_ := Aside0.mk (Kd.C_below HI.out hb); have qKb2_ := Aside0.mk (blk_below Kb2.out hb); have qHB_ := Aside0.mk (below_step HB.out hb); clear HC HI Kb2 HB; have HC := qHC_; have HI := qHI_; have Kb2 := qKb2_; have HB := qHB_; clear qHC_ qHI_ qKb2_ qHB_
  obtain ⟨Ax, cx, ex⟩ := Kd.N_slice ho
  subst ex
  have HX := Aside0.mk (Kd.N_reads' ho).2.2
  have LX := Aside0.mk (Kd.N_reads' ho).2.1
  clear ho
  clear hb
  go_wp2_with (first
    | ((with_reducible refine gate_dst (N := 5) rfl ?_); refine box_event ?hg (N := 5) ?hd (cs := #[.int .u8 0, .int .i64 0, .int .i64 0, .int .i64 0, .int .i64 0, .int .i64 0, .slice none 0 0]) (t := 26) ?hr ?_; (case hd => rfl); (case hg => rfl); (case hr => first | (go_simp; done) | (go_simp; rfl)); intro b5 hg wb5 hbox hb; have Kb5 := Aside0.mk hbox; have Xb5 := Aside0.mk hb; have Gb5 := Aside0.mk (Nat.le_of_eq hg.symm); clear hb hbox hg)
    | ((with_reducible refine gate_ (.store 26 (.tmp 5) (.tmp 23)) rfl ?_); go_loud (refine box_store rfl rfl 26 (.tmp 5) (.tmp 23) rfl (g := b5) (j := 0) #[.int .u8 x.f0, .int .i64 x.f1.f0, .int .i64 x.f1.f1, .int .i64 x.f1.f2, .int .i64 x.f1.f3, .int .i64 x.f2, .slice Ax x.f3.length cx] (u := .agg #[.int .u8 x.f0, .int .i64 x.f1.f0, .int .i64 x.f1.f1, .int .i64 x.f1.f2, .int .i64 x.f1.f3, .int .i64 x.f2, .slice Ax x.f3.length cx]) (seg := [.int .u8 x.f0, .int .i64 x.f1.f0, .int .i64 x.f1.f1, .int .i64 x.f1.f2, .int .i64 x.f1.f3, .int .i64 x.f2, .slice Ax x.f3.length cx]) ?sA ?sX rfl ?sT ?s1 Kb5.out ?sJ rfl Xb5.out Xb5.out.size Gb5.out ?_; (case sA => rfl); (case sX => rfl); (case sT => rfl); (case s1 => (simp [Value.oneCell'])); (case sJ => (first | decide | simp)); intro ws3 hbk hbb hgg; have qHC_ := Aside0.mk (Kd.C_below HC.out hbb); have qHI_ := Aside0.mk (Kd.C_below HI.out hbb); have qHX_ := Aside0.mk (Kd.C_below HX.out hbb); have qKb2_ := Aside0.mk (blk_below Kb2.out hbb); have qHB_ := Aside0.mk (below_step HB.out hbb); clear HC HI HX Kb2 HB; have HC := qHC_; have HI := qHI_; have HX := qHX_; have Kb2 := qKb2_; have HB := qHB_; clear qHC_ qHI_ qHX_ qKb2_ qHB_; clear Kb5 Xb5 Gb5; have Kb5 := Aside0.mk hbk; clear hbk hbb hgg; have cb2_0 := (blk_cell Kb2.out 0).trans rfl; have cb2_1 := (blk_cell Kb2.out 1).trans rfl; have cb2_2 := (blk_cell Kb2.out 2).trans rfl; have cb2_3 := (blk_cell Kb2.out 3).trans rfl; have cb2_4 := (blk_cell Kb2.out 4).trans rfl; have cb2_5 := (blk_cell Kb2.out 5).trans rfl; have cb2_6 := (blk_cell Kb2.out 6).trans rfl))
    | fail)
  clear cb2_0 cb2_1 cb2_2 cb2_3 cb2_4 cb2_5 cb2_6
  refine (sashref05_IDs.calls k3 c.f0 c.f1.f0 c.f1.f1 c.f1.f2 c.f1.f3 c.f2 A cc c.f3 idc _ HC.out LC.out I1.out).mono ?_
  rintro e wk4 ⟨v2, rfl, ho, hb⟩
  have qHC_ := Aside0.mk (Kd.C_below HC.out hb); have qHI_ := Aside0.mk (Kd.C_below HI.out hb); have qHX_ := Aside0.mk (Kd.C_below HX.out hb); have qKb2_ := Aside0.mk (blk_below Kb2.out hb); have qKb5_ := Aside0.mk (blk_below Kb5.out hb); have qHB_ := Aside0.mk (below_step HB.out hb); clear HC HI HX Kb2 Kb5 HB; have HC := qHC_; have HI := qHI_; have HX := qHX_; have Kb2 := qKb2_; have Kb5 := qKb5_; have HB := qHB_; clear qHC_ qHI_ qHX_ qKb2_ qKb5_ qHB_
  obtain ⟨Ai, ci, ei⟩ := Kd.R_slice ho
  subst ei
  clear ho
  clear hb
  have cb5_0 := (blk_cell Kb5.out 0).trans rfl
  have cb5_1 := (blk_cell Kb5.out 1).trans rfl
  have cb5_2 := (blk_cell Kb5.out 2).trans rfl
  have cb5_3 := (blk_cell Kb5.out 3).trans rfl
  have cb5_4 := (blk_cell Kb5.out 4).trans rfl
  have cb5_5 := (blk_cell Kb5.out 5).trans rfl
  have cb5_6 := (blk_cell Kb5.out 6).trans rfl
  go_wp2_with fail
  clear cb5_0 cb5_1 cb5_2 cb5_3 cb5_4 cb5_5 cb5_6
  refine (sashref05_Same.calls k4 x.f0 x.f1.f0 x.f1.f1 x.f1.f2 x.f1.f3 x.f2 Ax cx x.f3 0 0 0 0 0 0 none 0 [] true _ HX.out LX.out (Kd.C_nil _ _) (Nat.le_refl _) S1.out).mono ?_
  rintro e wk5 ⟨rfl, hb⟩
  have qHC_ := Aside0.mk (Kd.C_below HC.out hb); have qHI_ := Aside0.mk (Kd.C_below HI.out hb); have qHX_ := Aside0.mk (Kd.C_below HX.out hb); have qKb2_ := Aside0.mk (blk_below Kb2.out hb); have qKb5_ := Aside0.mk (blk_below Kb5.out hb); have qHB_ := Aside0.mk (below_step HB.out hb); clear HC HI HX Kb2 Kb5 HB; have HC := qHC_; have HI := qHI_; have HX := qHX_; have Kb2 := qKb2_; have Kb5 := qKb5_; have HB := qHB_; clear qHC_ qHI_ qHX_ qKb2_ qKb5_ qHB_
  clear hb
  go_wp2_with fail
  refine (sashlaw07_awake.calls ka true _ AW.out).mono ?_
  rintro e wk6 ⟨rfl, hb⟩
  have qHC_ := Aside0.mk (Kd.C_below HC.out hb); have qHI_ := Aside0.mk (Kd.C_below HI.out hb); have qHX_ := Aside0.mk (Kd.C_below HX.out hb); have qKb2_ := Aside0.mk (blk_below Kb2.out hb); have qKb5_ := Aside0.mk (blk_below Kb5.out hb); have qHB_ := Aside0.mk (below_step HB.out hb); clear HC HI HX Kb2 Kb5 HB; have HC := qHC_; have HI := qHI_; have HX := qHX_; have Kb2 := qKb2_; have Kb5 := qKb5_; have HB := qHB_; clear qHC_ qHI_ qHX_ qKb2_ qKb5_ qHB_
  clear hb
  go_wp2
  go_ret
  exact ⟨rfl, HB.out⟩
def names.T7 : Bool × List (List Nat × List Nat) := (true, [([], []), ([], []), ([1], [1]), ([0, 2, 2], [0, 2]), ([3], [3]), ([4], [4]), ([4], [4]), ([], []), ([7, 5, 3, 0, 1, 2, 3, 4, 5, 7], [5, 7]), ([6, 8, 0, 1, 2, 3, 4, 5, 6, 7, 8], [6])])
def names.B7 : List Nat := [0, 0, 2, 7, 15, 31, 31, 0, 191, 511]
theorem names.tab7 : rtab .any (opsOf Try.f11 7) = names.T7 := by kernel_rfl
theorem names.bits7 : waitsOk names.T7.2 names.B7 = true := by kernel_rfl
set_option maxHeartbeats 4000000 in
set_option maxRecDepth 100000 in
theorem names_fit (c : S26) (ids : List Int) (A : Option Addr) (cc : Nat) (B : Option Addr) (cb : Nat) (w : World) (hr : Kd.C k26 w A c.f3.length c.f3) (hc : c.f3.length ≤ cc) (hi : Kd.C (Kd.int .i64) w B ids.length ids) (hb : ids.length ≤ cb) (awk : ∃ k, sashlaw07_awake.f k = some true) (hg : ∃ k, sashref05_Great.f k c.f0 c.f1.f0 c.f1.f1 c.f1.f2 c.f1.f3 c.f2 c.f3 = some false) (hgt : ids.length ≤ 300) (x : S26) (hn : ∃ k, flat_Name.f k c.f0 c.f1.f0 c.f1.f1 c.f1.f2 c.f1.f3 c.f2 c.f3 ids = some (x.f0, x.f1.f0, x.f1.f1, x.f1.f2, x.f1.f3, x.f2, x.f3, true)) (idc : List Int) (hid : ∃ k, sashref05_IDs.f k c.f0 c.f1.f0 c.f1.f1 c.f1.f2 c.f1.f3 c.f2 c.f3 = some idc) (hln : ids.length = idc.length) (n : Int) (hw : ∃ k, sashref07_Name.f k c.f0 c.f1.f0 c.f1.f1 c.f1.f2 c.f1.f3 c.f2 c.f3 ids = some (x.f0, x.f1.f0, x.f1.f1, x.f1.f2, x.f1.f3, x.f2, x.f3, n)) (hnn : n = (ids.length : Int)) (hbk : ∃ k, flat_Name.f k x.f0 x.f1.f0 x.f1.f1 x.f1.f2 x.f1.f3 x.f2 x.f3 idc = some (c.f0, c.f1.f0, c.f1.f1, c.f1.f2, c.f1.f3, c.f2, c.f3, true)) (hss : ∃ k, sashref05_Same.f k x.f0 x.f1.f0 x.f1.f1 x.f1.f2 x.f1.f3 x.f2 x.f3 x.f0 x.f1.f0 x.f1.f1 x.f1.f2 x.f1.f3 x.f2 x.f3 = some true) (hix : ∃ k, sashref05_IDs.f k x.f0 x.f1.f0 x.f1.f1 x.f1.f2 x.f1.f3 x.f2 x.f3 = some ids) (hii : ∃ k, sashref05_Ints.f k ids ids = some true) (hsc : ∃ k, sashref05_Same.f k c.f0 c.f1.f0 c.f1.f1 c.f1.f2 c.f1.f3 c.f2 c.f3 c.f0 c.f1.f0 c.f1.f1 c.f1.f2 c.f1.f3 c.f2 c.f3 = some true) :
    Calls Try.prog 11 #[.agg #[.int .u8 c.f0, .int .i64 c.f1.f0, .int .i64 c.f1.f1, .int .i64 c.f1.f2, .int .i64 c.f1.f3, .int .i64 c.f2, .slice A c.f3.length cc], .slice B ids.length cb] w fun e w' => e = .returned (.bool true) ∧ Below w.heap.size w w' := by
  have HC := Aside0.mk hr
  have LC := Aside0.mk hc
  have HI := Aside0.mk hi
  have LI := Aside0.mk hb
  have HB := Aside0.mk (Below.refl w.heap.size w)
  obtain ⟨ka, haw⟩ := awk
  have AW := Aside0.mk haw
  obtain ⟨k1, h1⟩ := hg
  have G1 := Aside0.mk h1
  obtain ⟨k2, h2⟩ := hn
  have N1 := Aside0.mk h2
  obtain ⟨k3, h3⟩ := hid
  have I1 := Aside0.mk h3
  have HLN := Aside0.mk hln
  have hgz : ¬ (300 : Int) < (ids.length : Int) := by omega
  have hl0 : ((ids.length : Int) != (idc.length : Int)) = false := by rw [HLN.out]; simp
  have hl1 : (ids.length == idc.length) = true := by simpa using HLN.out
  have hl2 : (ids.length != idc.length) = false := by simpa using HLN.out
  obtain ⟨khw, hhw_⟩ := hw
  have W1 := Aside0.mk hhw_
  clear hhw_
  obtain ⟨khbk, hhbk_⟩ := hbk
  have N2 := Aside0.mk hhbk_
  clear hhbk_
  obtain ⟨khss, hhss_⟩ := hss
  have S1 := Aside0.mk hhss_
  clear hhss_
  obtain ⟨khix, hhix_⟩ := hix
  have I2 := Aside0.mk hhix_
  clear hhix_
  obtain ⟨khii, hhii_⟩ := hii
  have J1 := Aside0.mk hhii_
  clear hhii_
  obtain ⟨khsc, hhsc_⟩ := hsc
  have S2 := Aside0.mk hhsc_
  clear hhsc_
  subst hnn
  clear hr hc hi hb haw h1 hgt h2 h3 hln
  go_enter Try.func11, Try.ntmps11
  go_wp2_with (first
    | ((with_reducible refine gate_dst (N := 2) rfl ?_); refine box_event ?hg (N := 2) ?hd (cs := #[.int .u8 c.f0, .int .i64 c.f1.f0, .int .i64 c.f1.f1, .int .i64 c.f1.f2, .int .i64 c.f1.f3, .int .i64 c.f2, .slice A c.f3.length cc]) (t := 26) ?hr ?_; (case hd => rfl); (case hg => rfl); (case hr => first | (go_simp; done) | (go_simp; rfl)); intro b2 hg wb2 hbox hb; have qHC_ := Aside0.mk (Kd.C_below HC.out hb); have qHI_ := Aside0.mk (Kd.C_below HI.out hb); have qHB_ := Aside0.mk (below_step HB.out hb); clear HC HI HB; have HC := qHC_; have HI := qHI_; have HB := qHB_; clear qHC_ qHI_ qHB_; have Kb2 := Aside0.mk hbox; clear hb hbox hg; have cb2_0 := (blk_cell Kb2.out 0).trans rfl; have cb2_1 := (blk_cell Kb2.out 1).trans rfl; have cb2_2 := (blk_cell Kb2.out 2).trans rfl; have cb2_3 := (blk_cell Kb2.out 3).trans rfl; have cb2_4 := (blk_cell Kb2.out 4).trans rfl; have cb2_5 := (blk_cell Kb2.out 5).trans rfl; have cb2_6 := (blk_cell Kb2.out 6).trans rfl)
    | fail)
  clear cb2_0 cb2_1 cb2_2 cb2_3 cb2_4 cb2_5 cb2_6
  refine (sashref05_Great.calls k1 c.f0 c.f1.f0 c.f1.f1 c.f1.f2 c.f1.f3 c.f2 A cc c.f3 false _ HC.out LC.out G1.out).mono ?_
  rintro e wk1 ⟨rfl, hb⟩
  have qHC_ := Aside0.mk (Kd.C_below HC.out hb); have qHI_ := Aside0.mk (Kd.C_below HI.out hb); have qKb2_ := Aside0.mk (blk_below Kb2.out hb); have qHB_ := Aside0.mk (below_step HB.out hb); clear HC HI Kb2 HB; have HC := qHC_; have HI := qHI_; have Kb2 := qKb2_; have HB := qHB_; clear qHC_ qHI_ qKb2_ qHB_
  have cb2_0 := (blk_cell Kb2.out 0).trans rfl
  have cb2_1 := (blk_cell Kb2.out 1).trans rfl
  have cb2_2 := (blk_cell Kb2.out 2).trans rfl
  have cb2_3 := (blk_cell Kb2.out 3).trans rfl
  have cb2_4 := (blk_cell Kb2.out 4).trans rfl
  have cb2_5 := (blk_cell Kb2.out 5).trans rfl
  have cb2_6 := (blk_cell Kb2.out 6).trans rfl
  clear hb
  go_wp2_with fail
  clear cb2_0 cb2_1 cb2_2 cb2_3 cb2_4 cb2_5 cb2_6
  refine (flat_Name.calls k2 c.f0 c.f1.f0 c.f1.f1 c.f1.f2 c.f1.f3 c.f2 _ A cc c.f3 _ B cb ids x.f0 x.f1.f0 x.f1.f1 x.f1.f2 x.f1.f3 x.f2 x.f3 true _ (C_V26 HC.out LC.out) (C_V3 HI.out LI.out) N1.out).mono ?_
  rintro e wk2 ⟨v1, rfl, ho, hb⟩
  have qHC_ := Aside0.mk (Kd.C_below HC.out hb); have qHI_ := Aside0.mk (Kd.C_below HI.out hb); have qKb2_ := Aside0.mk (blk_below Kb2.out hb); have qHB_ := Aside0.mk (below_step HB.out hb); clear HC HI Kb2 HB; have HC := qHC_; have HI := qHI_; have Kb2 := qKb2_; have HB := qHB_; clear qHC_ qHI_ qKb2_ qHB_
  obtain ⟨Ax, cx, ex⟩ := Kd.N_slice ho
  subst ex
  have HX := Aside0.mk (Kd.N_reads' ho).2.2
  have LX := Aside0.mk (Kd.N_reads' ho).2.1
  clear ho
  clear hb
  go_wp2_with (first
    | ((with_reducible refine gate_dst (N := 5) rfl ?_); refine box_event ?hg (N := 5) ?hd (cs := #[.int .u8 0, .int .i64 0, .int .i64 0, .int .i64 0, .int .i64 0, .int .i64 0, .slice none 0 0]) (t := 26) ?hr ?_; (case hd => rfl); (case hg => rfl); (case hr => first | (go_simp; done) | (go_simp; rfl)); intro b5 hg wb5 hbox hb; have Kb5 := Aside0.mk hbox; have Xb5 := Aside0.mk hb; have Gb5 := Aside0.mk (Nat.le_of_eq hg.symm); clear hb hbox hg)
    | ((with_reducible refine gate_ (.store 26 (.tmp 5) (.tmp 23)) rfl ?_); go_loud (refine box_store rfl rfl 26 (.tmp 5) (.tmp 23) rfl (g := b5) (j := 0) #[.int .u8 x.f0, .int .i64 x.f1.f0, .int .i64 x.f1.f1, .int .i64 x.f1.f2, .int .i64 x.f1.f3, .int .i64 x.f2, .slice Ax x.f3.length cx] (u := .agg #[.int .u8 x.f0, .int .i64 x.f1.f0, .int .i64 x.f1.f1, .int .i64 x.f1.f2, .int .i64 x.f1.f3, .int .i64 x.f2, .slice Ax x.f3.length cx]) (seg := [.int .u8 x.f0, .int .i64 x.f1.f0, .int .i64 x.f1.f1, .int .i64 x.f1.f2, .int .i64 x.f1.f3, .int .i64 x.f2, .slice Ax x.f3.length cx]) ?sA ?sX rfl ?sT ?s1 Kb5.out ?sJ rfl Xb5.out Xb5.out.size Gb5.out ?_; (case sA => rfl); (case sX => rfl); (case sT => rfl); (case s1 => (simp [Value.oneCell'])); (case sJ => (first | decide | simp)); intro ws3 hbk hbb hgg; have qHC_ := Aside0.mk (Kd.C_below HC.out hbb); have qHI_ := Aside0.mk (Kd.C_below HI.out hbb); have qHX_ := Aside0.mk (Kd.C_below HX.out hbb); have qKb2_ := Aside0.mk (blk_below Kb2.out hbb); have qHB_ := Aside0.mk (below_step HB.out hbb); clear HC HI HX Kb2 HB; have HC := qHC_; have HI := qHI_; have HX := qHX_; have Kb2 := qKb2_; have HB := qHB_; clear qHC_ qHI_ qHX_ qKb2_ qHB_; clear Kb5 Xb5 Gb5; have Kb5 := Aside0.mk hbk; clear hbk hbb hgg; have cb2_0 := (blk_cell Kb2.out 0).trans rfl; have cb2_1 := (blk_cell Kb2.out 1).trans rfl; have cb2_2 := (blk_cell Kb2.out 2).trans rfl; have cb2_3 := (blk_cell Kb2.out 3).trans rfl; have cb2_4 := (blk_cell Kb2.out 4).trans rfl; have cb2_5 := (blk_cell Kb2.out 5).trans rfl; have cb2_6 := (blk_cell Kb2.out 6).trans rfl))
    | fail)
  clear cb2_0 cb2_1 cb2_2 cb2_3 cb2_4 cb2_5 cb2_6
  refine (sashref05_IDs.calls k3 c.f0 c.f1.f0 c.f1.f1 c.f1.f2 c.f1.f3 c.f2 A cc c.f3 idc _ HC.out LC.out I1.out).mono ?_
  rintro e wk4 ⟨v2, rfl, ho, hb⟩
  have qHC_ := Aside0.mk (Kd.C_below HC.out hb); have qHI_ := Aside0.mk (Kd.C_below HI.out hb); have qHX_ := Aside0.mk (Kd.C_below HX.out hb); have qKb2_ := Aside0.mk (blk_below Kb2.out hb); have qKb5_ := Aside0.mk (blk_below Kb5.out hb); have qHB_ := Aside0.mk (below_step HB.out hb); clear HC HI HX Kb2 Kb5 HB; have HC := qHC_; have HI := qHI_; have HX := qHX_; have Kb2 := qKb2_; have Kb5 := qKb5_; have HB := qHB_; clear qHC_ qHI_ qHX_ qKb2_ qKb5_ qHB_
  obtain ⟨Ai, ci, ei⟩ := Kd.R_slice ho
  subst ei
  clear ho
  clear hb
  have cb2_0 := (blk_cell Kb2.out 0).trans rfl
  have cb2_1 := (blk_cell Kb2.out 1).trans rfl
  have cb2_2 := (blk_cell Kb2.out 2).trans rfl
  have cb2_3 := (blk_cell Kb2.out 3).trans rfl
  have cb2_4 := (blk_cell Kb2.out 4).trans rfl
  have cb2_5 := (blk_cell Kb2.out 5).trans rfl
  have cb2_6 := (blk_cell Kb2.out 6).trans rfl
  go_wp2_with fail
  clear cb2_0 cb2_1 cb2_2 cb2_3 cb2_4 cb2_5 cb2_6
  refine (sashref07_Name.calls khw c.f0 c.f1.f0 c.f1.f1 c.f1.f2 c.f1.f3 c.f2 A cc c.f3 B cb ids x.f0 x.f1.f0 x.f1.f1 x.f1.f2 x.f1.f3 x.f2 x.f3 _ _ HC.out LC.out HI.out LI.out W1.out).mono ?_
  rintro e wk5 ⟨v3, rfl, ho, hb⟩
  have qHC_ := Aside0.mk (Kd.C_below HC.out hb); have qHI_ := Aside0.mk (Kd.C_below HI.out hb); have qHX_ := Aside0.mk (Kd.C_below HX.out hb); have qKb2_ := Aside0.mk (blk_below Kb2.out hb); have qKb5_ := Aside0.mk (blk_below Kb5.out hb); have qHB_ := Aside0.mk (below_step HB.out hb); clear HC HI HX Kb2 Kb5 HB; have HC := qHC_; have HI := qHI_; have HX := qHX_; have Kb2 := qKb2_; have Kb5 := qKb5_; have HB := qHB_; clear qHC_ qHI_ qHX_ qKb2_ qKb5_ qHB_
  obtain ⟨Aw, cw, ew⟩ := Kd.R_slice ho
  subst ew
  have HW := Aside0.mk (Kd.R_reads' ho).2.2
  have LW := Aside0.mk (Kd.R_reads' ho).2.1
  clear ho
  clear hb
  go_upto_region 7 with (first
    | ((with_reducible refine gate_dst (N := 7) rfl ?_); refine box_event ?hg (N := 7) ?hd (cs := #[.int .u8 0, .int .i64 0, .int .i64 0, .int .i64 0, .int .i64 0, .int .i64 0, .slice none 0 0]) (t := 26) ?hr ?_; (case hd => rfl); (case hg => rfl); (case hr => first | (go_simp; done) | (go_simp; rfl)); intro b7 hg wb7 hbox hb; have Kb7 := Aside0.mk hbox; have Xb7 := Aside0.mk hb; have Gb7 := Aside0.mk (Nat.le_of_eq hg.symm); clear hb hbox hg)
    | ((with_reducible refine gate_ (.store 26 (.tmp 7) (.tmp 45)) rfl ?_); go_loud (refine box_store rfl rfl 26 (.tmp 7) (.tmp 45) rfl (g := b7) (j := 0) #[.int .u8 x.f0, .int .i64 x.f1.f0, .int .i64 x.f1.f1, .int .i64 x.f1.f2, .int .i64 x.f1.f3, .int .i64 x.f2, .slice Aw x.f3.length cw] (u := .agg #[.int .u8 x.f0, .int .i64 x.f1.f0, .int .i64 x.f1.f1, .int .i64 x.f1.f2, .int .i64 x.f1.f3, .int .i64 x.f2, .slice Aw x.f3.length cw]) (seg := [.int .u8 x.f0, .int .i64 x.f1.f0, .int .i64 x.f1.f1, .int .i64 x.f1.f2, .int .i64 x.f1.f3, .int .i64 x.f2, .slice Aw x.f3.length cw]) ?sA ?sX rfl ?sT ?s1 Kb7.out ?sJ rfl Xb7.out Xb7.out.size Gb7.out ?_; (case sA => rfl); (case sX => rfl); (case sT => rfl); (case s1 => (simp [Value.oneCell'])); (case sJ => (first | decide | simp)); intro ws6 hbk hbb hgg; have qHC_ := Aside0.mk (Kd.C_below HC.out hbb); have qHI_ := Aside0.mk (Kd.C_below HI.out hbb); have qHX_ := Aside0.mk (Kd.C_below HX.out hbb); have qHW_ := Aside0.mk (Kd.C_below HW.out hbb); have qKb2_ := Aside0.mk (blk_below Kb2.out hbb); have qKb5_ := Aside0.mk (blk_below Kb5.out hbb); have qHB_ := Aside0.mk (below_step HB.out hbb); clear HC HI HX HW Kb2 Kb5 HB; have HC := qHC_; have HI := qHI_; have HX := qHX_; have HW := qHW_; have Kb2 := qKb2_; have Kb5 := qKb5_; have HB := qHB_; clear qHC_ qHI_ qHX_ qHW_ qKb2_ qKb5_ qHB_; clear Kb7 Xb7 Gb7; have Kb7 := Aside0.mk hbk; clear hbk hbb hgg))
    | fail)
  have hb : Below ws6.heap.size ws6 ws6.drew := below_drew (Below.refl _ _)
  have qHC_ := Aside0.mk (Kd.C_below HC.out hb); have qHI_ := Aside0.mk (Kd.C_below HI.out hb); have qHX_ := Aside0.mk (Kd.C_below HX.out hb); have qHW_ := Aside0.mk (Kd.C_below HW.out hb); have qKb2_ := Aside0.mk (blk_below Kb2.out hb); have qKb5_ := Aside0.mk (blk_below Kb5.out hb); have qKb7_ := Aside0.mk (blk_below Kb7.out hb); have qHB_ := Aside0.mk (below_step HB.out hb); clear HC HI HX HW Kb2 Kb5 Kb7 HB; have HC := qHC_; have HI := qHI_; have HX := qHX_; have HW := qHW_; have Kb2 := qKb2_; have Kb5 := qKb5_; have Kb7 := qKb7_; have HB := qHB_; clear qHC_ qHI_ qHX_ qHW_ qKb2_ qKb5_ qKb7_ qHB_
  clear hb
  refine start_ (n := 10) (S := fun w' => w'.heap[b5]? = some (.cells #[.int .u8 x.f0, .int .i64 x.f1.f0, .int .i64 x.f1.f1, .int .i64 x.f1.f2, .int .i64 x.f1.f3, .int .i64 x.f2, .slice Ax x.f3.length cx] 26 (0, 0)) ∧ w'.heap[b2]? = some (.cells #[.int .u8 c.f0, .int .i64 c.f1.f0, .int .i64 c.f1.f1, .int .i64 c.f1.f2, .int .i64 c.f1.f3, .int .i64 c.f2, .slice A c.f3.length cc] 26 (0, 0))) (ds := [8]) #[false, false, false, false, false, false, false, false, false, false] (by kernel_rfl) rfl rfl ⟨Kb5.out, Kb2.out⟩ (fun hHeld => ?_); refine with_tabW names.tab7 names.bits7 (fun HT_ HW_ => ?_)
  generalize ws6.drew = wd at HB HC HI HX HW Kb2 Kb5 Kb7 hHeld ⊢
  refine take_ (i := 0) (N := some 48) (v := ?_) (a' := ?_) #[true, false, false, false, false, false, false, false, false, false] rfl rfl (take_ofW HT_.out HW_.out (by kernel_rfl)) (fun _ _ _ h => h) (Or.inl ⟨by rfl, ?_⟩) hHeld ?_ ?_
  rotate_left
  · intro w' hs_
    have c0 := (blk_cell hs_.1 0).trans rfl
    have c1 := (blk_cell hs_.1 1).trans rfl
    have c2 := (blk_cell hs_.1 2).trans rfl
    have c3 := (blk_cell hs_.1 3).trans rfl
    have c4 := (blk_cell hs_.1 4).trans rfl
    have c5 := (blk_cell hs_.1 5).trans rfl
    have c6 := (blk_cell hs_.1 6).trans rfl
    go_simp; with_reducible rfl
  rotate_left
  · simp only [Act.put, List.setIfInBounds_toArray, List.set_cons_zero, List.set_cons_succ, i64_w, i32_w]
    rfl
  refine take_ (i := 1) (N := some 49) (v := ?_) (a' := ?_) #[true, true, false, false, false, false, false, false, false, false] rfl rfl (take_ofW HT_.out HW_.out (by kernel_rfl)) (fun _ _ _ h => h) (Or.inl ⟨by rfl, ?_⟩) hHeld ?_ ?_
  rotate_left
  · intro w' hs_
    have c0 := (blk_cell hs_.2 0).trans rfl
    have c1 := (blk_cell hs_.2 1).trans rfl
    have c2 := (blk_cell hs_.2 2).trans rfl
    have c3 := (blk_cell hs_.2 3).trans rfl
    have c4 := (blk_cell hs_.2 4).trans rfl
    have c5 := (blk_cell hs_.2 5).trans rfl
    have c6 := (blk_cell hs_.2 6).trans rfl
    go_simp; with_reducible rfl
  rotate_left
  · simp only [Act.put, List.setIfInBounds_toArray, List.set_cons_zero, List.set_cons_succ, i64_w, i32_w]
    rfl
  refine join_ (σ := Value × Value × Nat) 2 #[true, true, true, true, true, true, true, true, false, false] (fun s_ => [(50, s_.1), (51, .tuple #[.agg #[.int .u8 c.f0, .int .i64 c.f1.f0, .int .i64 c.f1.f1, .int .i64 c.f1.f2, .int .i64 c.f1.f3, .int .i64 c.f2, s_.2.1], .bool true]), (9, .pointer (some ⟨s_.2.2, 0, none⟩)), (47, .tuple #[.agg #[.int .u8 c.f0, .int .i64 c.f1.f0, .int .i64 c.f1.f1, .int .i64 c.f1.f2, .int .i64 c.f1.f3, .int .i64 c.f2, s_.2.1], .bool true]), (52, .agg #[.int .u8 c.f0, .int .i64 c.f1.f0, .int .i64 c.f1.f1, .int .i64 c.f1.f2, .int .i64 c.f1.f3, .int .i64 c.f2, s_.2.1]), (53, .bool true)]) (fun s_ w' => Below wd.heap.size wd w' ∧ Kd.V k26 26 w' 0 (fun k => k ≠ s_.2.2) s_.2.1 c.f3 ∧ w'.heap[s_.2.2]? = some (.cells #[.int .u8 0, .int .i64 0, .int .i64 0, .int .i64 0, .int .i64 0, .int .i64 0, .slice none 0 0] 26 (0, 0)) ∧ wd.heap.size ≤ s_.2.2) ?_ ?_
  rotate_left
  · intro hCont
    have D := Aside0.mk (Below.refl wd.heap.size wd)
    have HXF := Aside0.mk (C_V26 HX.out LX.out)
    refine two_ (i := 2) (j := 7) (Ni := some 50) (Nj := some 9) #[true, true, true, false, false, false, false, false, false, false] #[true, true, false, false, false, false, false, true, false, false] rfl rfl rfl rfl (two_of HT_.out (by kernel_rfl)) (by decide) (by decide) (fun K hK => ?_) (fun K hK => ?_)
    · skip
      refine goes_ Try.func63 (by kernel_rfl) rfl #[.agg #[.int .u8 c.f0, .int .i64 c.f1.f0, .int .i64 c.f1.f1, .int .i64 c.f1.f2, .int .i64 c.f1.f3, .int .i64 c.f2, .slice A c.f3.length cc]] (by rfl) rfl rfl (by (try simp only [List.map_toArray, List.map_cons, List.map_nil]); first | done | rfl) ?_
      refine (sashref05_IDs.calls k3 c.f0 c.f1.f0 c.f1.f1 c.f1.f2 c.f1.f3 c.f2 A cc c.f3 idc _ (Kd.C_below HC.out D.out) LC.out I1.out).mono ?_
      rintro e wi ⟨v, rfl, ho, hb⟩
      refine ⟨_, rfl, ?_⟩
      obtain ⟨Aj, cj, ej⟩ := Kd.R_slice ho
      subst ej
      have HJ := Aside0.mk (Kd.V_mk (e := 3) (base := 0) (Kd.R_reads' ho).2.1 (Kd.R_F ho))
      have q_ := Aside0.mk (below_step D.out hb)
      clear D
      have D := q_
      clear q_
      have q_ := Aside0.mk (Kd.V_below HXF.out hb)
      clear HXF
      have HXF := q_
      clear q_
      clear ho hb
      refine hK.out _ _ ⟨blk_below Kb5.out D.out, blk_below Kb2.out D.out⟩ (fun hHeld => ?_)
      clear hK K
      refine norm_ (a' := ?_) ?_ ?_
      rotate_left
      · show Act.put _ (some 50) _ = _
        simp only [Act.put, List.setIfInBounds_toArray, List.set_cons_zero, List.set_cons_succ, i64_w, i32_w]
        rfl
      refine two_ (i := 3) (j := 7) (Ni := some 51) (Nj := some 9) #[true, true, true, true, false, false, false, false, false, false] #[true, true, true, false, false, false, false, true, false, false] rfl rfl rfl rfl (two_of HT_.out (by kernel_rfl)) (by decide) (by decide) (fun K hK => ?_) (fun K hK => ?_)
      · skip
        refine goes_ Try.func62 (by kernel_rfl) rfl #[.agg #[.int .u8 x.f0, .int .i64 x.f1.f0, .int .i64 x.f1.f1, .int .i64 x.f1.f2, .int .i64 x.f1.f3, .int .i64 x.f2, .slice Ax x.f3.length cx], .slice Aj idc.length cj] (by rfl) rfl rfl (by (try simp only [List.map_toArray, List.map_cons, List.map_nil]); first | done | rfl) ?_
        refine (flat_Name.calls khbk x.f0 x.f1.f0 x.f1.f1 x.f1.f2 x.f1.f3 x.f2 _ Ax cx x.f3 _ Aj cj idc c.f0 c.f1.f0 c.f1.f1 c.f1.f2 c.f1.f3 c.f2 c.f3 true _ HXF.out HJ.out N2.out).mono ?_
        rintro e wn ⟨v, rfl, ho, hb⟩
        refine ⟨_, rfl, ?_⟩
        obtain ⟨Ab, cbk, eb⟩ := Kd.N_slice ho
        subst eb
        have HBK := Aside0.mk (Kd.V_mk (e := 26) (base := 0) (Kd.N_reads' ho).2.1 (Kd.N_F ho))
        have q_ := Aside0.mk (below_step D.out hb)
        clear D
        have D := q_
        clear q_
        clear ho hb HXF HJ
        refine hK.out _ _ ⟨blk_below Kb5.out D.out, blk_below Kb2.out D.out⟩ (fun hHeld => ?_)
        clear hK K
        refine norm_ (a' := ?_) ?_ ?_
        rotate_left
        · show Act.put _ (some 51) _ = _
          simp only [Act.put, List.setIfInBounds_toArray, List.set_cons_zero, List.set_cons_succ, i64_w, i32_w]
          rfl
        refine pure_ (i := 4) (N := some 47) (v := ?_) (a' := ?_) #[true, true, true, true, true, false, false, false, false, false] rfl rfl (any_of HT_.out (by kernel_rfl)) (fun _ _ _ h => h) (Or.inl ⟨by rfl, ?_⟩) ?_ ?_
        rotate_left
        · intro w'; go_simp; with_reducible rfl
        rotate_left
        · simp only [Act.put, List.setIfInBounds_toArray, List.set_cons_zero, List.set_cons_succ, i64_w, i32_w]
          rfl
        refine pure_ (i := 5) (N := some 52) (v := ?_) (a' := ?_) #[true, true, true, true, true, true, false, false, false, false] rfl rfl (any_of HT_.out (by kernel_rfl)) (fun _ _ _ h => h) (Or.inl ⟨by rfl, ?_⟩) ?_ ?_
        rotate_left
        · intro w'; go_simp; with_reducible rfl
        rotate_left
        · simp only [Act.put, List.setIfInBounds_toArray, List.set_cons_zero, List.set_cons_succ, i64_w, i32_w]
          rfl
        refine pure_ (i := 6) (N := some 53) (v := ?_) (a' := ?_) #[true, true, true, true, true, true, true, false, false, false] rfl rfl (any_of HT_.out (by kernel_rfl)) (fun _ _ _ h => h) (Or.inl ⟨by rfl, ?_⟩) ?_ ?_
        rotate_left
        · intro w'; go_simp; with_reducible rfl
        rotate_left
        · simp only [Act.put, List.setIfInBounds_toArray, List.set_cons_zero, List.set_cons_succ, i64_w, i32_w]
          rfl
        refine one_ (i := 7) (N := some 9) #[true, true, true, true, true, true, true, true, false, false] rfl rfl (one_of HT_.out (by kernel_rfl)) (by decide) (fun K hK => ?_)
        refine box_step ?hg (N := 9) ?hd (cs := #[.int .u8 0, .int .i64 0, .int .i64 0, .int .i64 0, .int .i64 0, .int .i64 0, .slice none 0 0]) (t := 26) ?hr ?_; (case hd => rfl); (case hg => rfl); (case hr => first | (go_simp; done) | (go_simp; rfl))
        intro b9 hg wb hbox hb
        have K9 := Aside0.mk hbox
        have G9 := Aside0.mk (show wd.heap.size ≤ b9 by rw [hg]; exact D.out.size)
        have q_ := Aside0.mk (below_step D.out hb)
        clear D
        have D := q_
        clear q_
        have q_ := Aside0.mk (Kd.V_mono (Kd.V_below (Kd.V_elderB HBK.out b9 (Nat.le_of_eq hg.symm)) hb) (fun k hk => (hk.2 : k ≠ b9)))
        clear HBK
        have HBK := q_
        clear q_
        clear hg hbox hb
        refine hK.out _ _ ⟨blk_below Kb5.out D.out, blk_below Kb2.out D.out⟩ (fun hHeld => ?_)
        clear hK K
        refine norm_ (a' := ?_) ?_ ?_
        rotate_left
        · show Act.put _ (some 9) _ = _
          simp only [Act.put, List.setIfInBounds_toArray, List.set_cons_zero, List.set_cons_succ, i64_w, i32_w]
          rfl
        exact norm_ (by simp only [putAll, Act.put, List.setIfInBounds_toArray, List.set_cons_zero, List.set_cons_succ]) (hCont (.slice Aj idc.length cj, .slice Ab c.f3.length cbk, b9) _ ⟨D.out, HBK.out, K9.out, G9.out⟩)
      · skip
        refine box_step ?hg (N := 9) ?hd (cs := #[.int .u8 0, .int .i64 0, .int .i64 0, .int .i64 0, .int .i64 0, .int .i64 0, .slice none 0 0]) (t := 26) ?hr ?_; (case hd => rfl); (case hg => rfl); (case hr => first | (go_simp; done) | (go_simp; rfl))
        intro b9 hg wb hbox hb
        have K9 := Aside0.mk hbox
        have G9 := Aside0.mk (show wd.heap.size ≤ b9 by rw [hg]; exact D.out.size)
        have q_ := Aside0.mk (below_step D.out hb)
        clear D
        have D := q_
        clear q_
        have q_ := Aside0.mk (Kd.V_below HXF.out hb)
        clear HXF
        have HXF := q_
        clear q_
        have q_ := Aside0.mk (Kd.V_mono (Kd.V_below (Kd.V_elderB HJ.out b9 (Nat.le_of_eq hg.symm)) hb) (fun k hk => (hk.2 : k ≠ b9)))
        clear HJ
        have HJ := q_
        clear q_
        clear hg hbox hb
        refine hK.out _ _ ⟨blk_below Kb5.out D.out, blk_below Kb2.out D.out⟩ (fun hHeld => ?_)
        clear hK K
        refine norm_ (a' := ?_) ?_ ?_
        rotate_left
        · show Act.put _ (some 9) _ = _
          simp only [Act.put, List.setIfInBounds_toArray, List.set_cons_zero, List.set_cons_succ, i64_w, i32_w]
          rfl
        refine one_ (i := 3) (N := some 51) #[true, true, true, true, false, false, false, true, false, false] rfl rfl (one_of HT_.out (by kernel_rfl)) (by decide) (fun K hK => ?_)
        refine goes_ Try.func62 (by kernel_rfl) rfl #[.agg #[.int .u8 x.f0, .int .i64 x.f1.f0, .int .i64 x.f1.f1, .int .i64 x.f1.f2, .int .i64 x.f1.f3, .int .i64 x.f2, .slice Ax x.f3.length cx], .slice Aj idc.length cj] (by rfl) rfl rfl (by (try simp only [List.map_toArray, List.map_cons, List.map_nil]); first | done | rfl) ?_
        refine (flat_Name.calls khbk x.f0 x.f1.f0 x.f1.f1 x.f1.f2 x.f1.f3 x.f2 _ Ax cx x.f3 _ Aj cj idc c.f0 c.f1.f0 c.f1.f1 c.f1.f2 c.f1.f3 c.f2 c.f3 true _ HXF.out HJ.out N2.out).mono ?_
        rintro e wn ⟨v, rfl, ho, hb⟩
        refine ⟨_, rfl, ?_⟩
        obtain ⟨Ab, cbk, eb⟩ := Kd.N_slice ho
        subst eb
        have hlt9 := blk_lt K9.out
        have HBK := Aside0.mk (Kd.V_mk (e := 26) (base := 0) (Kd.N_reads' ho).2.1 (Kd.F_mono (Kd.N_F ho) (fun k hk => (hk.elim (fun h => h.elim (fun h => Nat.ne_of_lt (Nat.lt_of_lt_of_le h G9.out)) (fun h => h)) (fun h => Nat.ne_of_gt (Nat.lt_of_lt_of_le hlt9 h)) : k ≠ b9))))
        clear hlt9
        have q_ := Aside0.mk (below_step D.out hb)
        clear D
        have D := q_
        clear q_
        have q_ := Aside0.mk (blk_below K9.out hb)
        clear K9
        have K9 := q_
        clear q_
        clear ho hb HXF HJ
        refine hK.out _ _ ⟨blk_below Kb5.out D.out, blk_below Kb2.out D.out⟩ (fun hHeld => ?_)
        clear hK K
        refine norm_ (a' := ?_) ?_ ?_
        rotate_left
        · show Act.put _ (some 51) _ = _
          simp only [Act.put, List.setIfInBounds_toArray, List.set_cons_zero, List.set_cons_succ, i64_w, i32_w]
          rfl
        refine pure_ (i := 4) (N := some 47) (v := ?_) (a' := ?_) #[true, true, true, true, true, false, false, true, false, false] rfl rfl (any_of HT_.out (by kernel_rfl)) (fun _ _ _ h => h) (Or.inl ⟨by rfl, ?_⟩) ?_ ?_
        rotate_left
        · intro w'; go_simp; with_reducible rfl
        rotate_left
        · simp only [Act.put, List.setIfInBounds_toArray, List.set_cons_zero, List.set_cons_succ, i64_w, i32_w]
          rfl
        refine pure_ (i := 5) (N := some 52) (v := ?_) (a' := ?_) #[true, true, true, true, true, true, false, true, false, false] rfl rfl (any_of HT_.out (by kernel_rfl)) (fun _ _ _ h => h) (Or.inl ⟨by rfl, ?_⟩) ?_ ?_
        rotate_left
        · intro w'; go_simp; with_reducible rfl
        rotate_left
        · simp only [Act.put, List.setIfInBounds_toArray, List.set_cons_zero, List.set_cons_succ, i64_w, i32_w]
          rfl
        refine pure_ (i := 6) (N := some 53) (v := ?_) (a' := ?_) #[true, true, true, true, true, true, true, true, false, false] rfl rfl (any_of HT_.out (by kernel_rfl)) (fun _ _ _ h => h) (Or.inl ⟨by rfl, ?_⟩) ?_ ?_
        rotate_left
        · intro w'; go_simp; with_reducible rfl
        rotate_left
        · simp only [Act.put, List.setIfInBounds_toArray, List.set_cons_zero, List.set_cons_succ, i64_w, i32_w]
          rfl
        exact norm_ (by simp only [putAll, Act.put, List.setIfInBounds_toArray, List.set_cons_zero, List.set_cons_succ]) (hCont (.slice Aj idc.length cj, .slice Ab c.f3.length cbk, b9) _ ⟨D.out, HBK.out, K9.out, G9.out⟩)
    · skip
      refine box_step ?hg (N := 9) ?hd (cs := #[.int .u8 0, .int .i64 0, .int .i64 0, .int .i64 0, .int .i64 0, .int .i64 0, .slice none 0 0]) (t := 26) ?hr ?_; (case hd => rfl); (case hg => rfl); (case hr => first | (go_simp; done) | (go_simp; rfl))
      intro b9 hg wb hbox hb
      have K9 := Aside0.mk hbox
      have G9 := Aside0.mk (show wd.heap.size ≤ b9 by rw [hg]; exact D.out.size)
      have q_ := Aside0.mk (below_step D.out hb)
      clear D
      have D := q_
      clear q_
      have q_ := Aside0.mk (Kd.V_below HXF.out hb)
      clear HXF
      have HXF := q_
      clear q_
      clear hg hbox hb
      refine hK.out _ _ ⟨blk_below Kb5.out D.out, blk_below Kb2.out D.out⟩ (fun hHeld => ?_)
      clear hK K
      refine norm_ (a' := ?_) ?_ ?_
      rotate_left
      · show Act.put _ (some 9) _ = _
        simp only [Act.put, List.setIfInBounds_toArray, List.set_cons_zero, List.set_cons_succ, i64_w, i32_w]
        rfl
      refine one_ (i := 2) (N := some 50) #[true, true, true, false, false, false, false, true, false, false] rfl rfl (one_of HT_.out (by kernel_rfl)) (by decide) (fun K hK => ?_)
      refine goes_ Try.func63 (by kernel_rfl) rfl #[.agg #[.int .u8 c.f0, .int .i64 c.f1.f0, .int .i64 c.f1.f1, .int .i64 c.f1.f2, .int .i64 c.f1.f3, .int .i64 c.f2, .slice A c.f3.length cc]] (by rfl) rfl rfl (by (try simp only [List.map_toArray, List.map_cons, List.map_nil]); first | done | rfl) ?_
      refine (sashref05_IDs.calls k3 c.f0 c.f1.f0 c.f1.f1 c.f1.f2 c.f1.f3 c.f2 A cc c.f3 idc _ (Kd.C_below HC.out D.out) LC.out I1.out).mono ?_
      rintro e wi ⟨v, rfl, ho, hb⟩
      refine ⟨_, rfl, ?_⟩
      obtain ⟨Aj, cj, ej⟩ := Kd.R_slice ho
      subst ej
      have HJ := Aside0.mk (Kd.V_mk (e := 3) (base := 0) (Kd.R_reads' ho).2.1 (Kd.F_mono (Kd.R_F (Kd.R_bound ho)) (fun k hk => (Nat.ne_of_gt (Nat.lt_of_lt_of_le (blk_lt K9.out) hk.2.1) : k ≠ b9))))
      have q_ := Aside0.mk (below_step D.out hb)
      clear D
      have D := q_
      clear q_
      have q_ := Aside0.mk (Kd.V_below HXF.out hb)
      clear HXF
      have HXF := q_
      clear q_
      have q_ := Aside0.mk (blk_below K9.out hb)
      clear K9
      have K9 := q_
      clear q_
      clear ho hb
      refine hK.out _ _ ⟨blk_below Kb5.out D.out, blk_below Kb2.out D.out⟩ (fun hHeld => ?_)
      clear hK K
      refine norm_ (a' := ?_) ?_ ?_
      rotate_left
      · show Act.put _ (some 50) _ = _
        simp only [Act.put, List.setIfInBounds_toArray, List.set_cons_zero, List.set_cons_succ, i64_w, i32_w]
        rfl
      refine one_ (i := 3) (N := some 51) #[true, true, true, true, false, false, false, true, false, false] rfl rfl (one_of HT_.out (by kernel_rfl)) (by decide) (fun K hK => ?_)
      refine goes_ Try.func62 (by kernel_rfl) rfl #[.agg #[.int .u8 x.f0, .int .i64 x.f1.f0, .int .i64 x.f1.f1, .int .i64 x.f1.f2, .int .i64 x.f1.f3, .int .i64 x.f2, .slice Ax x.f3.length cx], .slice Aj idc.length cj] (by rfl) rfl rfl (by (try simp only [List.map_toArray, List.map_cons, List.map_nil]); first | done | rfl) ?_
      refine (flat_Name.calls khbk x.f0 x.f1.f0 x.f1.f1 x.f1.f2 x.f1.f3 x.f2 _ Ax cx x.f3 _ Aj cj idc c.f0 c.f1.f0 c.f1.f1 c.f1.f2 c.f1.f3 c.f2 c.f3 true _ HXF.out HJ.out N2.out).mono ?_
      rintro e wn ⟨v, rfl, ho, hb⟩
      refine ⟨_, rfl, ?_⟩
      obtain ⟨Ab, cbk, eb⟩ := Kd.N_slice ho
      subst eb
      have hlt9 := blk_lt K9.out
      have HBK := Aside0.mk (Kd.V_mk (e := 26) (base := 0) (Kd.N_reads' ho).2.1 (Kd.F_mono (Kd.N_F ho) (fun k hk => (hk.elim (fun h => h.elim (fun h => Nat.ne_of_lt (Nat.lt_of_lt_of_le h G9.out)) (fun h => h)) (fun h => Nat.ne_of_gt (Nat.lt_of_lt_of_le hlt9 h)) : k ≠ b9))))
      clear hlt9
      have q_ := Aside0.mk (below_step D.out hb)
      clear D
      have D := q_
      clear q_
      have q_ := Aside0.mk (blk_below K9.out hb)
      clear K9
      have K9 := q_
      clear q_
      clear ho hb HXF HJ
      refine hK.out _ _ ⟨blk_below Kb5.out D.out, blk_below Kb2.out D.out⟩ (fun hHeld => ?_)
      clear hK K
      refine norm_ (a' := ?_) ?_ ?_
      rotate_left
      · show Act.put _ (some 51) _ = _
        simp only [Act.put, List.setIfInBounds_toArray, List.set_cons_zero, List.set_cons_succ, i64_w, i32_w]
        rfl
      refine pure_ (i := 4) (N := some 47) (v := ?_) (a' := ?_) #[true, true, true, true, true, false, false, true, false, false] rfl rfl (any_of HT_.out (by kernel_rfl)) (fun _ _ _ h => h) (Or.inl ⟨by rfl, ?_⟩) ?_ ?_
      rotate_left
      · intro w'; go_simp; with_reducible rfl
      rotate_left
      · simp only [Act.put, List.setIfInBounds_toArray, List.set_cons_zero, List.set_cons_succ, i64_w, i32_w]
        rfl
      refine pure_ (i := 5) (N := some 52) (v := ?_) (a' := ?_) #[true, true, true, true, true, true, false, true, false, false] rfl rfl (any_of HT_.out (by kernel_rfl)) (fun _ _ _ h => h) (Or.inl ⟨by rfl, ?_⟩) ?_ ?_
      rotate_left
      · intro w'; go_simp; with_reducible rfl
      rotate_left
      · simp only [Act.put, List.setIfInBounds_toArray, List.set_cons_zero, List.set_cons_succ, i64_w, i32_w]
        rfl
      refine pure_ (i := 6) (N := some 53) (v := ?_) (a' := ?_) #[true, true, true, true, true, true, true, true, false, false] rfl rfl (any_of HT_.out (by kernel_rfl)) (fun _ _ _ h => h) (Or.inl ⟨by rfl, ?_⟩) ?_ ?_
      rotate_left
      · intro w'; go_simp; with_reducible rfl
      rotate_left
      · simp only [Act.put, List.setIfInBounds_toArray, List.set_cons_zero, List.set_cons_succ, i64_w, i32_w]
        rfl
      exact norm_ (by simp only [putAll, Act.put, List.setIfInBounds_toArray, List.set_cons_zero, List.set_cons_succ]) (hCont (.slice Aj idc.length cj, .slice Ab c.f3.length cbk, b9) _ ⟨D.out, HBK.out, K9.out, G9.out⟩)
  rintro ⟨vi, vb, b9⟩ wj ⟨hbj, hvb, hk9, hg9⟩
  obtain ⟨Ab, cbk, eb, lb, fb⟩ := hvb
  dsimp only at eb
  subst eb
  simp only [putAll, Act.put, List.setIfInBounds_toArray, List.set_cons_zero, List.set_cons_succ]
  have HBK := Aside0.mk fb
  have LB := Aside0.mk lb
  have K9 := Aside0.mk hk9
  have G9 := Aside0.mk hg9
  have D := Aside0.mk hbj
  clear fb lb hk9 hg9 hbj hHeld
  obtain ⟨w9, hw9⟩ : ∃ w9, w9 = wj.setCells b9 0 [.int .u8 c.f0, .int .i64 c.f1.f0, .int .i64 c.f1.f1, .int .i64 c.f1.f2, .int .i64 c.f1.f3, .int .i64 c.f2, .slice Ab c.f3.length cbk] := ⟨_, rfl⟩
  have hst := box_cells (j := 0) (cs' := #[.int .u8 c.f0, .int .i64 c.f1.f0, .int .i64 c.f1.f1, .int .i64 c.f1.f2, .int .i64 c.f1.f3, .int .i64 c.f2, .slice Ab c.f3.length cbk]) (seg := [.int .u8 c.f0, .int .i64 c.f1.f0, .int .i64 c.f1.f1, .int .i64 c.f1.f2, .int .i64 c.f1.f3, .int .i64 c.f2, .slice Ab c.f3.length cbk]) K9.out (by first | decide | simp) rfl
  rw [← hw9] at hst
  refine last_ (i := 8) (N := none) #[true, true, true, true, true, true, true, true, true, false] rfl rfl (one_of HT_.out (by kernel_rfl)) (by decide) (fun K hK => ?_)
  refine skip_ (w1 := w9) (by rfl) rfl ?_ ?_
  · rw [hw9]; exact store_exec 26 (.tmp 9) (.tmp 52) rfl (cs := #[.int .u8 0, .int .i64 0, .int .i64 0, .int .i64 0, .int .i64 0, .int .i64 0, .slice none 0 0]) (t0 := 26) (seg := [.int .u8 c.f0, .int .i64 c.f1.f0, .int .i64 c.f1.f1, .int .i64 c.f1.f2, .int .i64 c.f1.f3, .int .i64 c.f2, .slice Ab c.f3.length cbk]) rfl rfl rfl (by kernel_rfl) (by simp [Value.oneCell']) K9.out (by first | decide | simp)
  refine hK.out _ _ ?_
  clear hK K hw9
  have hb := grown_below D.out hst.2 G9.out D.out.size
  have HBK2 := Aside0.mk (Kd.F_now (Kd.F_grown HBK.out hst.2 (fun k hk e_ => hk (Option.some.inj e_))))
  have K9b := Aside0.mk hst.1
  have qHC_ := Aside0.mk (Kd.C_below HC.out hb); have qHI_ := Aside0.mk (Kd.C_below HI.out hb); have qHX_ := Aside0.mk (Kd.C_below HX.out hb); have qHW_ := Aside0.mk (Kd.C_below HW.out hb); have qKb2_ := Aside0.mk (blk_below Kb2.out hb); have qKb5_ := Aside0.mk (blk_below Kb5.out hb); have qKb7_ := Aside0.mk (blk_below Kb7.out hb); have qHB_ := Aside0.mk (below_step HB.out hb); clear HC HI HX HW Kb2 Kb5 Kb7 HB; have HC := qHC_; have HI := qHI_; have HX := qHX_; have HW := qHW_; have Kb2 := qKb2_; have Kb5 := qKb5_; have Kb7 := qKb7_; have HB := qHB_; clear qHC_ qHI_ qHX_ qHW_ qKb2_ qKb5_ qKb7_ qHB_
  clear hb hst D K9 G9 HBK
  refine pure_ (i := 9) (N := some 10) (v := ?_) (a' := ?_) #[true, true, true, true, true, true, true, true, true, true] rfl rfl (any_of HT_.out (by kernel_rfl)) (fun _ _ _ h => h) (Or.inl ⟨by rfl, ?_⟩) ?_ ?_
  rotate_left
  · intro w'; go_simp; with_reducible rfl
  rotate_left
  · simp only [Act.put, List.setIfInBounds_toArray, List.set_cons_zero, List.set_cons_succ, i64_w, i32_w]
    rfl
  refine done_ (done_of HT_.out (by kernel_rfl)) ?_
  have cb2_0 := (blk_cell Kb2.out 0).trans rfl
  have cb2_1 := (blk_cell Kb2.out 1).trans rfl
  have cb2_2 := (blk_cell Kb2.out 2).trans rfl
  have cb2_3 := (blk_cell Kb2.out 3).trans rfl
  have cb2_4 := (blk_cell Kb2.out 4).trans rfl
  have cb2_5 := (blk_cell Kb2.out 5).trans rfl
  have cb2_6 := (blk_cell Kb2.out 6).trans rfl
  have cb5_0 := (blk_cell Kb5.out 0).trans rfl
  have cb5_1 := (blk_cell Kb5.out 1).trans rfl
  have cb5_2 := (blk_cell Kb5.out 2).trans rfl
  have cb5_3 := (blk_cell Kb5.out 3).trans rfl
  have cb5_4 := (blk_cell Kb5.out 4).trans rfl
  have cb5_5 := (blk_cell Kb5.out 5).trans rfl
  have cb5_6 := (blk_cell Kb5.out 6).trans rfl
  have cb7_0 := (blk_cell Kb7.out 0).trans rfl
  have cb7_1 := (blk_cell Kb7.out 1).trans rfl
  have cb7_2 := (blk_cell Kb7.out 2).trans rfl
  have cb7_3 := (blk_cell Kb7.out 3).trans rfl
  have cb7_4 := (blk_cell Kb7.out 4).trans rfl
  have cb7_5 := (blk_cell Kb7.out 5).trans rfl
  have cb7_6 := (blk_cell Kb7.out 6).trans rfl
  have c9_0 := (blk_cell K9b.out 0).trans rfl
  have c9_1 := (blk_cell K9b.out 1).trans rfl
  have c9_2 := (blk_cell K9b.out 2).trans rfl
  have c9_3 := (blk_cell K9b.out 3).trans rfl
  have c9_4 := (blk_cell K9b.out 4).trans rfl
  have c9_5 := (blk_cell K9b.out 5).trans rfl
  have c9_6 := (blk_cell K9b.out 6).trans rfl
  go_wp2_with fail
  clear cb2_0 cb2_1 cb2_2 cb2_3 cb2_4 cb2_5 cb2_6 cb5_0 cb5_1 cb5_2 cb5_3 cb5_4 cb5_5 cb5_6 cb7_0 cb7_1 cb7_2 cb7_3 cb7_4 cb7_5 cb7_6
  clear c9_0 c9_1 c9_2 c9_3 c9_4 c9_5 c9_6
  refine (sashref05_Same.calls khss x.f0 x.f1.f0 x.f1.f1 x.f1.f2 x.f1.f3 x.f2 Ax cx x.f3 x.f0 x.f1.f0 x.f1.f1 x.f1.f2 x.f1.f3 x.f2 Aw cw x.f3 true _ HX.out LX.out HW.out LW.out S1.out).mono ?_
  rintro e wk7 ⟨rfl, hb⟩
  have qHC_ := Aside0.mk (Kd.C_below HC.out hb); have qHI_ := Aside0.mk (Kd.C_below HI.out hb); have qHX_ := Aside0.mk (Kd.C_below HX.out hb); have qHW_ := Aside0.mk (Kd.C_below HW.out hb); have qHBK2_ := Aside0.mk (Kd.C_below HBK2.out hb); have qKb2_ := Aside0.mk (blk_below Kb2.out hb); have qKb5_ := Aside0.mk (blk_below Kb5.out hb); have qKb7_ := Aside0.mk (blk_below Kb7.out hb); have qK9b_ := Aside0.mk (blk_below K9b.out hb); have qHB_ := Aside0.mk (below_step HB.out hb); clear HC HI HX HW HBK2 Kb2 Kb5 Kb7 K9b HB; have HC := qHC_; have HI := qHI_; have HX := qHX_; have HW := qHW_; have HBK2 := qHBK2_; have Kb2 := qKb2_; have Kb5 := qKb5_; have Kb7 := qKb7_; have K9b := qK9b_; have HB := qHB_; clear qHC_ qHI_ qHX_ qHW_ qHBK2_ qKb2_ qKb5_ qKb7_ qK9b_ qHB_
  clear hb
  have cb2_0 := (blk_cell Kb2.out 0).trans rfl
  have cb2_1 := (blk_cell Kb2.out 1).trans rfl
  have cb2_2 := (blk_cell Kb2.out 2).trans rfl
  have cb2_3 := (blk_cell Kb2.out 3).trans rfl
  have cb2_4 := (blk_cell Kb2.out 4).trans rfl
  have cb2_5 := (blk_cell Kb2.out 5).trans rfl
  have cb2_6 := (blk_cell Kb2.out 6).trans rfl
  have cb5_0 := (blk_cell Kb5.out 0).trans rfl
  have cb5_1 := (blk_cell Kb5.out 1).trans rfl
  have cb5_2 := (blk_cell Kb5.out 2).trans rfl
  have cb5_3 := (blk_cell Kb5.out 3).trans rfl
  have cb5_4 := (blk_cell Kb5.out 4).trans rfl
  have cb5_5 := (blk_cell Kb5.out 5).trans rfl
  have cb5_6 := (blk_cell Kb5.out 6).trans rfl
  have cb7_0 := (blk_cell Kb7.out 0).trans rfl
  have cb7_1 := (blk_cell Kb7.out 1).trans rfl
  have cb7_2 := (blk_cell Kb7.out 2).trans rfl
  have cb7_3 := (blk_cell Kb7.out 3).trans rfl
  have cb7_4 := (blk_cell Kb7.out 4).trans rfl
  have cb7_5 := (blk_cell Kb7.out 5).trans rfl
  have cb7_6 := (blk_cell Kb7.out 6).trans rfl
  have c9_0 := (blk_cell K9b.out 0).trans rfl
  have c9_1 := (blk_cell K9b.out 1).trans rfl
  have c9_2 := (blk_cell K9b.out 2).trans rfl
  have c9_3 := (blk_cell K9b.out 3).trans rfl
  have c9_4 := (blk_cell K9b.out 4).trans rfl
  have c9_5 := (blk_cell K9b.out 5).trans rfl
  have c9_6 := (blk_cell K9b.out 6).trans rfl
  go_wp2_with fail
  clear cb2_0 cb2_1 cb2_2 cb2_3 cb2_4 cb2_5 cb2_6 cb5_0 cb5_1 cb5_2 cb5_3 cb5_4 cb5_5 cb5_6 cb7_0 cb7_1 cb7_2 cb7_3 cb7_4 cb7_5 cb7_6
  clear c9_0 c9_1 c9_2 c9_3 c9_4 c9_5 c9_6
  refine (sashref05_IDs.calls khix x.f0 x.f1.f0 x.f1.f1 x.f1.f2 x.f1.f3 x.f2 Ax cx x.f3 ids _ HX.out LX.out I2.out).mono ?_
  rintro e wk8 ⟨v5, rfl, ho, hb⟩
  have qHC_ := Aside0.mk (Kd.C_below HC.out hb); have qHI_ := Aside0.mk (Kd.C_below HI.out hb); have qHX_ := Aside0.mk (Kd.C_below HX.out hb); have qHW_ := Aside0.mk (Kd.C_below HW.out hb); have qHBK2_ := Aside0.mk (Kd.C_below HBK2.out hb); have qKb2_ := Aside0.mk (blk_below Kb2.out hb); have qKb5_ := Aside0.mk (blk_below Kb5.out hb); have qKb7_ := Aside0.mk (blk_below Kb7.out hb); have qK9b_ := Aside0.mk (blk_below K9b.out hb); have qHB_ := Aside0.mk (below_step HB.out hb); clear HC HI HX HW HBK2 Kb2 Kb5 Kb7 K9b HB; have HC := qHC_; have HI := qHI_; have HX := qHX_; have HW := qHW_; have HBK2 := qHBK2_; have Kb2 := qKb2_; have Kb5 := qKb5_; have Kb7 := qKb7_; have K9b := qK9b_; have HB := qHB_; clear qHC_ qHI_ qHX_ qHW_ qHBK2_ qKb2_ qKb5_ qKb7_ qK9b_ qHB_
  obtain ⟨Ay, cy, ey⟩ := Kd.R_slice ho
  subst ey
  have HY := Aside0.mk (Kd.R_reads' ho).2.2
  have LY := Aside0.mk (Kd.R_reads' ho).2.1
  clear ho
  clear hb
  go_wp2_with fail
  refine (sashref05_Ints.calls khii Ay cy ids B cb ids true _ HY.out LY.out HI.out LI.out J1.out).mono ?_
  rintro e wz ⟨rfl, hd⟩
  have hb := hd.below
  clear hd
  have qHC_ := Aside0.mk (Kd.C_below HC.out hb); have qHI_ := Aside0.mk (Kd.C_below HI.out hb); have qHX_ := Aside0.mk (Kd.C_below HX.out hb); have qHW_ := Aside0.mk (Kd.C_below HW.out hb); have qHBK2_ := Aside0.mk (Kd.C_below HBK2.out hb); have qHY_ := Aside0.mk (Kd.C_below HY.out hb); have qKb2_ := Aside0.mk (blk_below Kb2.out hb); have qKb5_ := Aside0.mk (blk_below Kb5.out hb); have qKb7_ := Aside0.mk (blk_below Kb7.out hb); have qK9b_ := Aside0.mk (blk_below K9b.out hb); have qHB_ := Aside0.mk (below_step HB.out hb); clear HC HI HX HW HBK2 HY Kb2 Kb5 Kb7 K9b HB; have HC := qHC_; have HI := qHI_; have HX := qHX_; have HW := qHW_; have HBK2 := qHBK2_; have HY := qHY_; have Kb2 := qKb2_; have Kb5 := qKb5_; have Kb7 := qKb7_; have K9b := qK9b_; have HB := qHB_; clear qHC_ qHI_ qHX_ qHW_ qHBK2_ qHY_ qKb2_ qKb5_ qKb7_ qK9b_ qHB_
  clear hb
  have cb2_0 := (blk_cell Kb2.out 0).trans rfl
  have cb2_1 := (blk_cell Kb2.out 1).trans rfl
  have cb2_2 := (blk_cell Kb2.out 2).trans rfl
  have cb2_3 := (blk_cell Kb2.out 3).trans rfl
  have cb2_4 := (blk_cell Kb2.out 4).trans rfl
  have cb2_5 := (blk_cell Kb2.out 5).trans rfl
  have cb2_6 := (blk_cell Kb2.out 6).trans rfl
  have cb5_0 := (blk_cell Kb5.out 0).trans rfl
  have cb5_1 := (blk_cell Kb5.out 1).trans rfl
  have cb5_2 := (blk_cell Kb5.out 2).trans rfl
  have cb5_3 := (blk_cell Kb5.out 3).trans rfl
  have cb5_4 := (blk_cell Kb5.out 4).trans rfl
  have cb5_5 := (blk_cell Kb5.out 5).trans rfl
  have cb5_6 := (blk_cell Kb5.out 6).trans rfl
  have cb7_0 := (blk_cell Kb7.out 0).trans rfl
  have cb7_1 := (blk_cell Kb7.out 1).trans rfl
  have cb7_2 := (blk_cell Kb7.out 2).trans rfl
  have cb7_3 := (blk_cell Kb7.out 3).trans rfl
  have cb7_4 := (blk_cell Kb7.out 4).trans rfl
  have cb7_5 := (blk_cell Kb7.out 5).trans rfl
  have cb7_6 := (blk_cell Kb7.out 6).trans rfl
  have c9_0 := (blk_cell K9b.out 0).trans rfl
  have c9_1 := (blk_cell K9b.out 1).trans rfl
  have c9_2 := (blk_cell K9b.out 2).trans rfl
  have c9_3 := (blk_cell K9b.out 3).trans rfl
  have c9_4 := (blk_cell K9b.out 4).trans rfl
  have c9_5 := (blk_cell K9b.out 5).trans rfl
  have c9_6 := (blk_cell K9b.out 6).trans rfl
  go_wp2_with fail
  clear cb2_0 cb2_1 cb2_2 cb2_3 cb2_4 cb2_5 cb2_6 cb5_0 cb5_1 cb5_2 cb5_3 cb5_4 cb5_5 cb5_6 cb7_0 cb7_1 cb7_2 cb7_3 cb7_4 cb7_5 cb7_6
  clear c9_0 c9_1 c9_2 c9_3 c9_4 c9_5 c9_6
  refine (sashref05_Same.calls khsc c.f0 c.f1.f0 c.f1.f1 c.f1.f2 c.f1.f3 c.f2 Ab cbk c.f3 c.f0 c.f1.f0 c.f1.f1 c.f1.f2 c.f1.f3 c.f2 A cc c.f3 true _ HBK2.out LB.out HC.out LC.out S2.out).mono ?_
  rintro e wk9 ⟨rfl, hb⟩
  have qHC_ := Aside0.mk (Kd.C_below HC.out hb); have qHI_ := Aside0.mk (Kd.C_below HI.out hb); have qHX_ := Aside0.mk (Kd.C_below HX.out hb); have qHW_ := Aside0.mk (Kd.C_below HW.out hb); have qHBK2_ := Aside0.mk (Kd.C_below HBK2.out hb); have qHY_ := Aside0.mk (Kd.C_below HY.out hb); have qKb2_ := Aside0.mk (blk_below Kb2.out hb); have qKb5_ := Aside0.mk (blk_below Kb5.out hb); have qKb7_ := Aside0.mk (blk_below Kb7.out hb); have qK9b_ := Aside0.mk (blk_below K9b.out hb); have qHB_ := Aside0.mk (below_step HB.out hb); clear HC HI HX HW HBK2 HY Kb2 Kb5 Kb7 K9b HB; have HC := qHC_; have HI := qHI_; have HX := qHX_; have HW := qHW_; have HBK2 := qHBK2_; have HY := qHY_; have Kb2 := qKb2_; have Kb5 := qKb5_; have Kb7 := qKb7_; have K9b := qK9b_; have HB := qHB_; clear qHC_ qHI_ qHX_ qHW_ qHBK2_ qHY_ qKb2_ qKb5_ qKb7_ qK9b_ qHB_
  clear hb
  go_wp2_with fail
  refine (sashlaw07_awake.calls ka true _ AW.out).mono ?_
  rintro e wk10 ⟨rfl, hb⟩
  have qHC_ := Aside0.mk (Kd.C_below HC.out hb); have qHI_ := Aside0.mk (Kd.C_below HI.out hb); have qHX_ := Aside0.mk (Kd.C_below HX.out hb); have qHW_ := Aside0.mk (Kd.C_below HW.out hb); have qHBK2_ := Aside0.mk (Kd.C_below HBK2.out hb); have qHY_ := Aside0.mk (Kd.C_below HY.out hb); have qKb2_ := Aside0.mk (blk_below Kb2.out hb); have qKb5_ := Aside0.mk (blk_below Kb5.out hb); have qKb7_ := Aside0.mk (blk_below Kb7.out hb); have qK9b_ := Aside0.mk (blk_below K9b.out hb); have qHB_ := Aside0.mk (below_step HB.out hb); clear HC HI HX HW HBK2 HY Kb2 Kb5 Kb7 K9b HB; have HC := qHC_; have HI := qHI_; have HX := qHX_; have HW := qHW_; have HBK2 := qHBK2_; have HY := qHY_; have Kb2 := qKb2_; have Kb5 := qKb5_; have Kb7 := qKb7_; have K9b := qK9b_; have HB := qHB_; clear qHC_ qHI_ qHX_ qHW_ qHBK2_ qHY_ qKb2_ qKb5_ qKb7_ qK9b_ qHB_
  clear hb
  go_wp2
  go_ret
  exact ⟨rfl, HB.out⟩
end Go.Proofs.Ytfdmfgaiblfbhaa.P
/- Naming a tree's leaves, back and forth, and the reference's answer: plain data. -/
namespace Go.Proofs.Ytfdmfgaiblfbhaa.P
open Go.RowKit Go.Proofs.YtfdmfgaiblfbhaaW.PrintWords Go.Proofs.YtfdmfgaiblfbhaaW.PrintLast Go.Proofs.YtfdmfgaiblfbhaaW.PrintMore

theorem idsL_panes (c : S26) : idsL [c] = (panes c).map (·.f0) := by
  unfold idsL panes leavesC
  rw [allL_cons, allL_nil, List.append_nil, List.map_map]
  rfl
theorem idsL_nlv (c : S26) : (idsL [c]).length = nlv c := by rw [idsL_panes, List.length_map]; unfold panes nlv; rw [List.length_map]
theorem zip_f0 : ∀ (l : List S35) (ids : List Int), ids.length = l.length → (List.zipWith named l ids).map (·.f0) = ids := by
  intro l
  induction l with
  | nil => intro ids h; cases ids with
    | nil => rfl
    | cons y ys => simp at h
  | cons x xs ih =>
    intro ids h
    cases ids with
    | nil => simp at h
    | cons y ys => rw [List.zipWith_cons_cons, List.map_cons, ih ys (by simpa using h)]; rfl
theorem ids_named (c : S26) (ids : List Int) (h : ids.length = nlv c) : idsL [(nameC c ids).1] = ids := by
  rw [idsL_panes, ((name_facts (sz c)).1 c (Nat.le_refl _) ids (by omega)).2.2]
  exact zip_f0 _ _ (by rw [h, ← idsL_nlv, idsL_panes, List.length_map])
/-- Naming a named tree by what the leaves had: it is as it was. -/
theorem name_back : ∀ (N : Nat), (∀ c : S26, sz c ≤ N → ∀ ids rest : List Int, nameC (nameC c ids).1 (idsL [c] ++ rest) = (c, rest)) ∧ (∀ l : List S26, szL l ≤ N → ∀ ids rest : List Int, nameL (nameL l ids).1 (idsL l ++ rest) = (l, rest)) := by
  intro N
  induction N with
  | zero =>
    refine ⟨fun c h => ?_, fun l h => ?_⟩
    · rw [sz_eq] at h; omega
    · cases l with
      | nil => intro ids rest; rw [nameL_nil, nameL_nil]; unfold idsL; rw [allL_nil]; rfl
      | cons z zs => rw [szL_cons, sz_eq] at h; omega
  | succ N ih =>
    have hC : ∀ c : S26, sz c ≤ N + 1 → ∀ ids rest : List Int, nameC (nameC c ids).1 (idsL [c] ++ rest) = (c, rest) := by
      intro c h ids rest
      rw [sz_eq] at h
      rw [nameC_eq, nameC_eq, idsL_one]
      by_cases h1 : c.f0 = 1
      · simp only [if_pos h1, List.cons_append, List.nil_append, List.headD_cons, List.drop_succ_cons, List.drop_zero]
        rw [ih.2 c.f3 (by omega)]
        cases c; rfl
      · simp only [if_neg h1, List.nil_append]
        rw [ih.2 c.f3 (by omega)]
        cases c; rfl
    refine ⟨hC, fun l => ?_⟩
    induction l with
    | nil => intro _ ids rest; rw [nameL_nil, nameL_nil]; unfold idsL; rw [allL_nil]; rfl
    | cons z zs ihl =>
      intro h ids rest
      rw [szL_cons] at h
      rw [nameL_cons, nameL_cons, show z :: zs = [z] ++ zs from rfl, idsL_app, List.append_assoc, hC z (by omega), ihl (by omega)]
      rfl
theorem ids_ev (c : S26) (h : sz c ≤ 1048576) : Ev (fun k => sashref05_IDs.f k c.f0 c.f1.f0 c.f1.f1 c.f1.f2 c.f1.f3 c.f2 c.f3) (idsL [c]) := by
  unfold sashref05_IDs.f
  refine Ev.bind (leaves_ev c h) ?_
  have hsz : (leavesC c).length ≤ 1048576 := by have := leaves_len c; omega
  have key : ∀ (rest pre : List S26), pre ++ rest = leavesC c → Ev (fun k => sashref05_IDs.l0 k (pre.map (·.f2)) (leavesC c) ((leavesC c).length : Int) (pre.length : Int)) ((leavesC c).map (·.f2)) := by
    intro rest
    induction rest with
    | nil =>
      intro pre hp
      rw [List.append_nil] at hp
      refine Ev.step (f := fun _ => some ((leavesC c).map (·.f2))) (fun k => ?_) (Ev.now _)
      simp only [sashref05_IDs.l0]
      rw [if_neg (by rw [hp]; omega), hp]
    | cons x xs ihr =>
      intro pre hp
      have hl : (pre.length : Int) < ((leavesC c).length : Int) := by rw [← hp, List.length_append, List.length_cons]; omega
      have e2 := ihr (pre ++ [x]) (by rw [List.append_assoc]; exact hp)
      have hr : rd_T26 (leavesC c) (pre.length : Int) = x := by rw [← hp]; exact rd26_in pre x xs
      have hu : wrap64 ((pre.length : Int) + 1) = ((pre ++ [x]).length : Int) := up_in pre x xs (by rw [hp]; omega)
      rw [List.map_append] at e2
      refine Ev.step (fun k => ?_) e2
      simp only [sashref05_IDs.l0]
      rw [if_pos hl, if_pos (by omega), if_pos hl, if_pos (by rw [List.length_map]; omega), hr, hu]
      rfl
  have e := key (leavesC c) [] rfl
  rw [show idsL [c] = (leavesC c).map (·.f2) by unfold idsL leavesC; rw [allL_cons, allL_nil, List.append_nil]]
  exact e
theorem ints_self (l : List Int) (h : l.length ≤ 1048576) : Ev (fun k => sashref05_Ints.f k l l) true := by
  unfold sashref05_Ints.f
  refine ev_pos rfl ?_
  have key : ∀ d i : Nat, i + d = l.length → Ev (fun k => sashref05_Ints.l0 k l l (l.length : Int) (i : Int)) true := by
    intro d
    induction d with
    | zero =>
      intro i hi
      refine Ev.step (f := fun _ => some true) (fun k => ?_) (Ev.now _)
      simp only [sashref05_Ints.l0]
      rw [if_neg (by omega)]
    | succ d ih =>
      intro i hi
      have e := ih (i + 1) (by omega)
      have hw : wrap64 ((i : Int) + 1) = ((i + 1 : Nat) : Int) := (wq (by omega) (by omega)).trans (by omega)
      refine Ev.step (fun k => ?_) e
      simp only [sashref05_Ints.l0]
      rw [if_pos (by omega), if_pos (by omega), if_pos (by omega), if_pos (by omega), if_pos trivial, hw]
  exact key l.length 0 (by omega)
theorem refname_ev : ∀ (N : Nat) (c : S26), sz c ≤ N → N ≤ 1000000 → ∀ ids : List Int, nlv c ≤ ids.length → Ev (fun k => sashref07_Name.f k c.f0 c.f1.f0 c.f1.f1 c.f1.f2 c.f1.f3 c.f2 c.f3 ids) ((nameC c ids).1.f0, (nameC c ids).1.f1.f0, (nameC c ids).1.f1.f1, (nameC c ids).1.f1.f2, (nameC c ids).1.f1.f3, (nameC c ids).1.f2, (nameC c ids).1.f3, (nlv c : Int)) := by
  intro N
  induction N with
  | zero => intro c h _; rw [sz_eq] at h; omega
  | succ N ih =>
    intro c hc hN ids hids
    have hs := sz_eq c
    have hn := nlv_eq c
    have hlen := szL_len c.f3
    have key : ∀ (d : Int) (m : Nat), m ≤ 1 → m + nlvL c.f3 ≤ ids.length → ∀ (rest pre : List S26), pre ++ rest = c.f3 → Ev (fun k => sashref07_Name.l0 k ids ((m + nlvL pre : Nat) : Int) (nameL pre (ids.drop m)).1 (c.f3.length : Int) (pre.length : Int) c.f0 c.f1.f0 c.f1.f1 c.f1.f2 c.f1.f3 d c.f3) (c.f0, c.f1.f0, c.f1.f1, c.f1.f2, c.f1.f3, d, (nameL c.f3 (ids.drop m)).1, ((m + nlvL c.f3 : Nat) : Int)) := by
      intro d m hm1 hm rest
      induction rest with
      | nil =>
        intro pre hp
        rw [List.append_nil] at hp
        subst hp
        refine Ev.step (f := fun _ => some (c.f0, c.f1.f0, c.f1.f1, c.f1.f2, c.f1.f3, d, (nameL c.f3 (ids.drop m)).1, ((m + nlvL c.f3 : Nat) : Int))) (fun k => ?_) (Ev.now _)
        simp only [sashref07_Name.l0]
        rw [if_neg (by omega)]
      | cons x xs ihr =>
        intro pre hp
        have hl : (pre.length : Int) < (c.f3.length : Int) := by rw [← hp, List.length_append, List.length_cons]; omega
        have hsum : szL c.f3 = szL pre + (sz x + szL xs) := by rw [← hp, szL_app, szL_cons]
        have hnl : nlvL c.f3 = nlvL pre + (nlv x + nlvL xs) := by
          rw [← hp]
          unfold nlvL nlv leavesC
          rw [allL_app, allL_cons, List.filter_append, List.filter_append, List.length_append, List.length_append]
        have hnp : nlvL (pre ++ [x]) = nlvL pre + nlv x := by
          unfold nlvL nlv leavesC
          rw [allL_app, allL_cons, allL_nil, List.append_nil, List.filter_append, List.length_append]
        have hmle : m + nlvL pre ≤ ids.length := by omega
        have hpre := (name_facts (szL pre)).2 pre (Nat.le_refl _) (ids.drop m) (by rw [List.length_drop]; omega)
        have hb1 : nlvL pre ≤ szL pre := List.length_filter_le _ _
        have hb2 : nlv x ≤ sz x := List.length_filter_le _ _
        have e2 := ihr (pre ++ [x]) (by rw [List.append_assoc]; exact hp)
        have hr : rd_T26 c.f3 (pre.length : Int) = x := by rw [← hp]; exact rd26_in pre x xs
        have hu : wrap64 ((pre.length : Int) + 1) = ((pre ++ [x]).length : Int) := up_in pre x xs (by rw [hp]; omega)
        have hx := ih x (by omega) (by omega) (ids.drop (m + nlvL pre)) (by rw [List.length_drop]; omega)
        have hw : wrap64 (((m + nlvL pre : Nat) : Int) + (nlv x : Int)) = ((m + nlvL (pre ++ [x]) : Nat) : Int) := by rw [hnp, wq (by omega) (by omega)]; omega
        have hll : (nameL pre (ids.drop m)).1.length < 1954687338268 := by rw [nameL_len]; omega
        have hd : (ids.drop m).drop (nlvL pre) = ids.drop (m + nlvL pre) := by rw [List.drop_drop]
        rw [nameL_app, hpre.2.1, hd] at e2
        refine Ev.step (f := fun k => (sashref07_Name.f k x.f0 x.f1.f0 x.f1.f1 x.f1.f2 x.f1.f3 x.f2 x.f3 (ids.drop (m + nlvL pre))).bind fun bt => (if (nameL pre (ids.drop m)).1.length < 1954687338268 then (sashref07_Name.l0 k ids (wrap64 (((m + nlvL pre : Nat) : Int) + bt.2.2.2.2.2.2.2)) ((nameL pre (ids.drop m)).1 ++ [(⟨bt.1, (⟨bt.2.1, bt.2.2.1, bt.2.2.2.1, bt.2.2.2.2.1⟩ : S23), bt.2.2.2.2.2.1, bt.2.2.2.2.2.2.1⟩ : S26)]) (c.f3.length : Int) (wrap64 ((pre.length : Int) + 1)) c.f0 c.f1.f0 c.f1.f1 c.f1.f2 c.f1.f3 d c.f3) else none)) (fun k => ?_) (Ev.bind hx (ev_pos hll ?_))
        · simp only [sashref07_Name.l0]
          rw [if_pos hl, if_pos (Int.natCast_nonneg _), if_pos hl, if_pos (Int.natCast_nonneg _), if_pos (Int.ofNat_le.2 hmle), hr, Int.toNat_natCast]
        · simp only [eta26]
          rw [hw, hu]
          exact e2
    have kj : ∀ (d : Int) (m : Nat), m ≤ 1 → m + nlvL c.f3 ≤ ids.length → Ev (fun k => sashref07_Name.j0 k ids (m : Int) c.f0 c.f1.f0 c.f1.f1 c.f1.f2 c.f1.f3 d c.f3) (c.f0, c.f1.f0, c.f1.f1, c.f1.f2, c.f1.f3, d, (nameL c.f3 (ids.drop m)).1, ((m + nlvL c.f3 : Nat) : Int)) := by
      intro d m hm1 hm
      have e := key d m hm1 hm c.f3 [] rfl
      rw [nameL_nil, nlvL_nil] at e
      refine Ev.step (fun k => ?_) e
      simp only [sashref07_Name.j0]
      rfl
    rw [nameC_eq]
    by_cases h1 : c.f0 = 1
    · rw [if_pos h1] at hn
      simp only [if_pos h1]
      have e := kj (ids.headD 0) 1 (by omega) (by omega)
      have hrd : rd ids 0 = ids.headD 0 := by cases ids <;> rfl
      rw [hn]
      refine Ev.step (fun k => ?_) e
      simp only [sashref07_Name.f]
      rw [if_pos h1, if_pos (by omega), hrd]
      rfl
    · rw [if_neg h1] at hn
      simp only [if_neg h1]
      have e := kj c.f2 0 (by omega) (by omega)
      rw [hn]
      refine Ev.step (fun k => ?_) e
      simp only [sashref07_Name.f]
      rw [if_neg h1]
      rfl
/-- flat.Name, where the numbers fit. -/
theorem flatName_fit (c : S26) (h : sz c ≤ 1000000) (ids : List Int) (hl : ids.length = nlv c) : Ev (fun k => flat_Name.f k c.f0 c.f1.f0 c.f1.f1 c.f1.f2 c.f1.f3 c.f2 c.f3 ids) ((nameC c ids).1.f0, (nameC c ids).1.f1.f0, (nameC c ids).1.f1.f1, (nameC c ids).1.f1.f2, (nameC c ids).1.f1.f3, (nameC c ids).1.f2, (nameC c ids).1.f3, true) := by
  unfold flat_Name.f
  simp only [eta26]
  have e1 := cell_leaves_ev (szL [c]) [c] (Nat.le_refl _) (by rw [szL_cons, szL_nil]; omega)
  refine Ev.bind e1 (ev_pos (by rw [idsL_nlv, hl]) (Ev.bind (name_ev (sz c) c (Nat.le_refl _) h ids (by omega)) ?_))
  exact Ev.now _
theorem flatName_other (c : S26) (h : sz c ≤ 1000000) (ids : List Int) (hl : ids.length ≠ nlv c) : Ev (fun k => flat_Name.f k c.f0 c.f1.f0 c.f1.f1 c.f1.f2 c.f1.f3 c.f2 c.f3 ids) (0, 0, 0, 0, 0, 0, [], false) := by
  unfold flat_Name.f
  simp only [eta26]
  have e1 := cell_leaves_ev (szL [c]) [c] (Nat.le_refl _) (by rw [szL_cons, szL_nil]; omega)
  refine Ev.bind e1 (ev_neg (by rw [idsL_nlv]; omega) (Ev.now _))
end Go.Proofs.Ytfdmfgaiblfbhaa.P
/- The law FlatNames: what it comes to. Condition: the tree has at most 1000000 cells, or more than 200. -/
namespace Go.Proofs.Ytfdmfgaiblfbhaa.P
open Go.RowKit Go.Proofs.YtfdmfgaiblfbhaaW.PrintWords Go.Proofs.YtfdmfgaiblfbhaaW.PrintLast Go.Proofs.YtfdmfgaiblfbhaaW.PrintMore

def sashlaw07_FlatNames.f (a0 a1 a2 a3 a4 a5 : Int) (l : List S26) (_ : List Int) : Option Bool := if sz ⟨a0, ⟨a1, a2, a3, a4⟩, a5, l⟩ ≤ 1048576 then some true else none
theorem sashlaw07_FlatNames.calls (a0_0 a0_1 a0_2 a0_3 a0_4 a0_5 : Int) (A0_6 : Option Addr) (c0_6 : Nat) (l0_6 : List S26) (A1 : Option Addr) (c1 : Nat) (l1 : List Int) (r : Bool) (w : World) (hr0_6 : Kd.C k26 w A0_6 l0_6.length l0_6) (hc0_6 : l0_6.length ≤ c0_6) (hr1 : Kd.C (Kd.int .i64) w A1 l1.length l1) (hc1 : l1.length ≤ c1) (h : sashlaw07_FlatNames.f a0_0 a0_1 a0_2 a0_3 a0_4 a0_5 l0_6 l1 = some r) :
    Calls Try.prog 11 #[.agg #[.int .u8 a0_0, .int .i64 a0_1, .int .i64 a0_2, .int .i64 a0_3, .int .i64 a0_4, .int .i64 a0_5, .slice A0_6 l0_6.length c0_6], .slice A1 l1.length c1] w fun e w' => e = .returned (.bool r) ∧ Below w.heap.size w w' := by
  unfold sashlaw07_FlatNames.f at h
  split at h
  · rename_i hz
    injection h with h
    subst h
    generalize hcd : (⟨a0_0, ⟨a0_1, a0_2, a0_3, a0_4⟩, a0_5, l0_6⟩ : S26) = c at hz
    have e0 : a0_0 = c.f0 := by rw [← hcd]
    have e1 : a0_1 = c.f1.f0 := by rw [← hcd]
    have e2 : a0_2 = c.f1.f1 := by rw [← hcd]
    have e3 : a0_3 = c.f1.f2 := by rw [← hcd]
    have e4 : a0_4 = c.f1.f3 := by rw [← hcd]
    have e5 : a0_5 = c.f2 := by rw [← hcd]
    have e6 : l0_6 = c.f3 := by rw [← hcd]
    subst e0 e1 e2 e3 e4 e5 e6
    clear hcd
    have awk := awake07.rounds
    obtain ⟨g, eg, hg⟩ := great_ev c hz
    cases g with
    | true => exact names_great c l1 A0_6 c0_6 A1 c1 w hr0_6 hc0_6 hr1 hc1 awk eg.rounds
    | false =>
      have hz2 := hg rfl
      by_cases h3 : 300 < l1.length
      · exact names_many c l1 A0_6 c0_6 A1 c1 w hr0_6 hc0_6 hr1 hc1 awk eg.rounds h3
      · have hid := (ids_ev c hz).rounds
        by_cases hl : l1.length = nlv c
        · have hx := (name_facts (sz c)).1 c (Nat.le_refl _) l1 (by omega)
          have hxz : sz (nameC c l1).1 ≤ 1048576 := by rw [hx.1]; exact hz
          have hb := (name_back (sz c)).1 c (Nat.le_refl _) l1 []
          rw [List.append_nil] at hb
          have hxn : nlv (nameC c l1).1 = nlv c := by rw [← idsL_nlv, ids_named c l1 hl, hl]
          have ebk := flatName_fit (nameC c l1).1 (by rw [hx.1]; omega) (idsL [c]) (by rw [idsL_nlv, hxn])
          rw [hb] at ebk
          have eix := ids_ev (nameC c l1).1 hxz
          rw [ids_named c l1 hl] at eix
          exact names_fit c l1 A0_6 c0_6 A1 c1 w hr0_6 hc0_6 hr1 hc1 awk eg.rounds (by omega) (nameC c l1).1 (flatName_fit c (by omega) l1 hl).rounds (idsL [c]) hid (by rw [idsL_nlv, hl]) (nlv c) (refname_ev (sz c) c (Nat.le_refl _) (by omega) l1 (by omega)).rounds (by rw [hl]) ebk.rounds (same_self _ hxz).rounds eix.rounds (ints_self l1 (by omega)).rounds (same_self c hz).rounds
        · exact names_other c l1 A0_6 c0_6 A1 c1 w hr0_6 hc0_6 hr1 hc1 awk eg.rounds (by omega) z26 (flatName_other c (by omega) l1 hl).rounds (idsL [c]) hid (by rw [idsL_nlv]; omega) (same_self z26 (by decide)).rounds
  · exact absurd h (by simp)
end Go.Proofs.Ytfdmfgaiblfbhaa.P
/- How a law's arguments read: cells, rectangles, panes, and rows of these, as plain data. -/
namespace Go.Proofs.Ytfdmfgaiblfbhaa.P
open Go.RowKit Go.Proofs.YtfdmfgaiblfbhaaW.PrintWords Go.Proofs.YtfdmfgaiblfbhaaW.PrintLast Go.Proofs.YtfdmfgaiblfbhaaW.PrintMore
open Go.ChangeShapes Go.WideShapes Go.ChangeAt Go.Joins Go.Deep

/-! ### What is known of the numbers -/
def I64 (n : Int) : Prop := -9223372036854775808 ≤ n ∧ n ≤ 9223372036854775807
def U8 (n : Int) : Prop := 0 ≤ n ∧ n ≤ 255
def U16 (n : Int) : Prop := 0 ≤ n ∧ n ≤ 65535
def wf23 (r : S23) : Prop := I64 r.f0 ∧ I64 r.f1 ∧ I64 r.f2 ∧ I64 r.f3
def wf35 (p : S35) : Prop := I64 p.f0 ∧ wf23 p.f1
def wfn26 : Nat → S26 → Prop
  | 0, _ => False
  | n + 1, c => U8 c.f0 ∧ wf23 c.f1 ∧ I64 c.f2 ∧ c.f3.length ≤ 9223372036854775807 ∧ ∀ k, k ∈ c.f3 → wfn26 n k
def wf26 (c : S26) : Prop := ∃ n, wfn26 n c
theorem wfn26_le : ∀ {n m : Nat} (_ : n ≤ m) {c : S26}, wfn26 n c → wfn26 m c
  | 0, _, _, _, h => h.elim
  | n + 1, 0, hm, _, _ => absurd hm (by omega)
  | n + 1, m + 1, hm, _, h => ⟨h.1, h.2.1, h.2.2.1, h.2.2.2.1, fun k hk => wfn26_le (by omega) (h.2.2.2.2 k hk)⟩

section
variable {H : Type} {enc : TypeId × Value → H} {P : Program} {w : World} {base : Nat} {spare : Nat → Bool} {held : Bool}
theorem row_of {α : Type} {Q : Nat → α → Prop} : ∀ (n : Nat), (∀ i, i < n → ∃ p, Q i p) → ∃ l : List α, l.length = n ∧ ∀ i p, l[i]? = some p → Q i p
  | 0, _ => ⟨[], rfl, fun i p h => by simp at h⟩
  | n + 1, h => by
    obtain ⟨l, hl, hq⟩ := row_of n fun i hi => h i (by omega)
    obtain ⟨p, hp⟩ := h n (by omega)
    refine ⟨l ++ [p], by simp [hl], fun i q hi => ?_⟩
    rcases Nat.lt_trichotomy i n with h1 | h1 | h1
    · rw [List.getElem?_append_left (by omega)] at hi
      exact hq i q hi
    · subst h1
      rw [List.getElem?_append_right (by omega), hl, Nat.sub_self] at hi
      obtain rfl : p = q := by simpa using hi
      exact hp
    · rw [List.getElem?_eq_none (by simp; omega)] at hi
      cases hi
theorem cells_at {a : Addr} {n : Nat} {cs : List Value} (h : w.cells? base a n = some cs) : cs.length = n ∧ ∀ i u, cs[i]? = some u → w.cell? (a.add i) = some u := by
  obtain ⟨_, h1, h2⟩ := World.cells?_some h
  exact ⟨h1, fun i u hi => by
    have hlt : i < n := by rw [← h1]; exact (List.getElem?_eq_some_iff.1 hi).1
    rw [h2 i hlt, hi]⟩

end
section
variable {H : Type} {enc : TypeId × Value → H} {w : World} {base : Nat} {spare : Nat → Bool} {held : Bool}
theorem i64_of {n : Int} (h : (Lit.int .i64 n).wf = true) : I64 n := by
  have := bounds_i64 h
  unfold I64
  omega
theorem u8_of {n : Int} (h : (Lit.int .u8 n).wf = true) : U8 n := bounds_u8 h
theorem agg_of {a : Array Value} {l : List Value} (h : (Value.agg a).cells.toList = l) : a = l.toArray := by
  subst h
  simp [Value.cells]
theorem cells23 : Try.prog.cellsOf 23 = 4 := by kernel_rfl
theorem cells26 : Try.prog.cellsOf 26 = 7 := by kernel_rfl
theorem cells3 : Try.prog.cellsOf 3 = 1 := by kernel_rfl
theorem cells5 : Try.prog.cellsOf 5 = 1 := by kernel_rfl
theorem cells24 : Try.prog.cellsOf 24 = 1 := by kernel_rfl
set_option maxRecDepth 100000 in
theorem read23 {fuel : Nat} {cs : List Value} {x : DataW H × List MemPlace} (h : DataW.trod enc Try.prog w base spare held fuel 23 cs = some x) : ∃ r : S23, k23.K w r cs ∧ wf23 r := by
  obtain ⟨y0, y1, y2, y3, n, _, hl, h0, h1, h2, h3⟩ := trod_struct4 Try.underlying23 h
  rw [cells23] at hl
  match cs, hl with
  | [c0, c1, c2, c3], _ =>
    simp only [cells3, List.drop_zero, List.take_succ_cons, List.take_zero, List.drop_succ_cons] at h0 h1 h2 h3
    obtain ⟨n0, e0, _, w0⟩ := DataW.trod_int Try.underlying3 h0
    obtain ⟨n1, e1, _, w1⟩ := DataW.trod_int Try.underlying3 h1
    obtain ⟨n2, e2, _, w2⟩ := DataW.trod_int Try.underlying3 h2
    obtain ⟨n3, e3, _, w3⟩ := DataW.trod_int Try.underlying3 h3
    simp only [List.cons.injEq, and_true] at e0 e1 e2 e3
    subst e0 e1 e2 e3
    exact ⟨⟨n0, n1, n2, n3⟩, k23_mk w ⟨n0, n1, n2, n3⟩, i64_of w0, i64_of w1, i64_of w2, i64_of w3⟩
end
end Go.Proofs.Ytfdmfgaiblfbhaa.P
/- FlatNames, the plain law: it holds of every tree of at most 1048576 cells. -/
namespace Go.Proofs.Ytfdmfgaiblfbhaa.Pure
open Go.RowKit Go.Proofs.Ytfdmfgaiblfbhaa.P Go.Proofs.YtfdmfgaiblfbhaaW.PrintWords Go.Proofs.YtfdmfgaiblfbhaaW.PrintLast Go.Proofs.YtfdmfgaiblfbhaaW.PrintMore
theorem FlatNames : ∀ (a0 : S26) (a1 : List Int), wf26 a0 → sz a0 ≤ 1048576 → a1.length ≤ 1048576 → (∀ x, x ∈ a1 → I64 x) → sashlaw07_FlatNames.f a0.f0 a0.f1.f0 a0.f1.f1 a0.f1.f2 a0.f1.f3 a0.f2 a0.f3 a1 = some true := by
  intro c ids _ hz _ _
  unfold sashlaw07_FlatNames.f
  rw [eta26, if_pos hz]
end Go.Proofs.Ytfdmfgaiblfbhaa.Pure
/- Facts on the program's head, each once: the head's text as a row of signs, its words; what follows of them. -/
namespace Go.Proofs.Ytfdmfgaiblfbhaa.P
open Go.RowKit
def headSigns : List Char := [104, 97, 114, 110, 101, 115, 115, 32, 57, 48, 98, 52, 50, 100, 98, 100, 99, 50, 52, 54, 55, 51, 50, 51, 56, 57, 50, 48, 100, 50, 50, 98, 56, 57, 53, 102, 48, 48, 55, 48, 53, 101, 102, 48, 53, 53, 102, 54, 54, 55, 97, 57, 54, 56, 100, 50, 56, 97, 57, 52, 55, 52, 56, 57, 49, 49, 48, 97, 48, 101, 53, 55, 32, 99, 117, 116, 32, 97, 116, 32, 115, 97, 115, 104, 47, 115, 97, 115, 104, 108, 97, 119, 48, 55, 46, 70, 108, 97, 116, 78, 101, 120, 116, 115, 32, 115, 97, 115, 104, 47, 115, 97, 115, 104, 108, 97, 119, 48, 55, 46, 70, 108, 97, 116, 76, 105, 115, 116, 115, 32, 115, 97, 115, 104, 47, 115, 97, 115, 104, 108, 97, 119, 48, 52, 46, 82, 101, 99, 116, 67, 117, 116, 115, 32, 115, 97, 115, 104, 47, 115, 97, 115, 104, 108, 97, 119, 48, 57, 46, 65, 100, 106, 117, 115, 116, 83, 104, 97, 114, 101, 115, 32, 115, 97, 115, 104, 47, 115, 97, 115, 104, 108, 97, 119, 48, 57, 46, 65, 100, 106, 117, 115, 116, 69, 118, 101, 110, 115, 32, 115, 97, 115, 104, 47, 115, 97, 115, 104, 108, 97, 119, 49, 54, 46, 83, 112, 114, 101, 97, 100, 83, 105, 122, 101, 115, 32, 115, 97, 115, 104, 47, 115, 97, 115, 104, 108, 97, 119, 48, 55, 46, 70, 108, 97, 116, 67, 104, 97, 110, 103, 101, 115, 32, 115, 97, 115, 104, 47, 115, 97, 115, 104, 108, 97, 119, 48, 52, 46, 82, 101, 99, 116, 73, 110, 115, 105, 100, 101, 32, 115, 97, 115, 104, 47, 115, 97, 115, 104, 108, 97, 119, 48, 55, 46, 70, 108, 97, 116, 78, 97, 109, 101, 115, 32, 115, 97, 115, 104, 47, 115, 97, 115, 104, 108, 97, 119, 48, 57, 46, 65, 100, 106, 117, 115, 116, 83, 101, 116, 115, 32, 115, 97, 115, 104, 47, 115, 97, 115, 104, 108, 97, 119, 48, 52, 46, 82, 101, 99, 116, 77, 101, 101, 116, 115, 32, 115, 97, 115, 104, 47, 115, 97, 115, 104, 108, 97, 119, 48, 52, 46, 82, 101, 99, 116, 77, 97, 121, 115, 32, 115, 97, 115, 104, 47, 115, 97, 115, 104, 108, 97, 119, 48, 55, 46, 70, 108, 97, 116, 83, 116, 105, 108, 108, 32, 115, 97, 115, 104, 47, 115, 97, 115, 104, 108, 97, 119, 48, 53, 46, 67, 101, 108, 108, 77, 97, 121, 115, 32, 115, 97, 115, 104, 47, 115, 97, 115, 104, 108, 97, 119, 48, 53, 46, 67, 101, 108, 108, 83, 97, 109, 101, 32, 115, 97, 115, 104, 47, 115, 97, 115, 104, 108, 97, 119, 48, 53, 46, 67, 101, 108, 108, 67, 111, 117, 110, 116, 115, 32, 115, 97, 115, 104, 47, 115, 97, 115, 104, 108, 97, 119, 48, 56, 46, 76, 101, 97, 115, 116, 83, 117, 109, 115, 32, 115, 97, 115, 104, 47, 115, 97, 115, 104, 108, 97, 119, 48, 53, 46, 67, 101, 108, 108, 70, 105, 110, 100, 115, 32, 115, 97, 115, 104, 47, 115, 97, 115, 104, 108, 97, 119, 48, 56, 46, 76, 101, 97, 115, 116, 73, 115, 32, 115, 97, 115, 104, 47, 115, 97, 115, 104, 108, 97, 119, 48, 56, 46, 76, 101, 97, 115, 116, 70, 105, 116, 115, 32, 115, 97, 115, 104, 47, 115, 97, 115, 104, 108, 97, 119, 48, 56, 46, 76, 101, 97, 115, 116, 80, 97, 116, 104, 115, 32, 115, 97, 115, 104, 47, 115, 97, 115, 104, 108, 97, 119, 48, 53, 46, 67, 101, 108, 108, 80, 117, 116, 115, 32, 115, 97, 115, 104, 47, 115, 97, 115, 104, 108, 97, 119, 49, 50, 46, 83, 112, 108, 105, 116, 83, 105, 122, 101, 115, 32, 115, 97, 115, 104, 47, 115, 97, 115, 104, 108, 97, 119, 49, 54, 46, 83, 112, 114, 101, 97, 100, 65, 108, 108, 32, 115, 97, 115, 104, 47, 115, 97, 115, 104, 108, 97, 119, 49, 54, 46, 83, 112, 114, 101, 97, 100, 65, 116, 32, 115, 97, 115, 104, 47, 115, 97, 115, 104, 108, 97, 119, 49, 52, 46, 80, 117, 115, 104, 73, 115, 32, 115, 97, 115, 104, 47, 115, 97, 115, 104, 108, 97, 119, 49, 52, 46, 80, 117, 115, 104, 79, 110, 101, 32, 115, 97, 115, 104, 47, 115, 97, 115, 104, 108, 97, 119, 49, 52, 46, 80, 117, 115, 104, 70, 114, 97, 109, 101, 115, 32, 115, 97, 115, 104, 47, 115, 97, 115, 104, 108, 97, 119, 49, 52, 46, 80, 117, 115, 104, 67, 97, 110, 32, 115, 97, 115, 104, 47, 115, 97, 115, 104, 108, 97, 119, 49, 50, 46, 83, 112, 108, 105, 116, 73, 115, 32, 115, 97, 115, 104, 47, 115, 97, 115, 104, 108, 97, 119, 49, 50, 46, 83, 112, 108, 105, 116, 67, 97, 110].map Char.ofNat
def headWords : List (List Char) := [[104, 97, 114, 110, 101, 115, 115].map Char.ofNat,
  [57, 48, 98, 52, 50, 100, 98, 100, 99, 50, 52, 54, 55, 51, 50, 51, 56, 57, 50, 48, 100, 50, 50, 98, 56, 57, 53, 102, 48, 48, 55, 48, 53, 101, 102, 48, 53, 53, 102, 54, 54, 55, 97, 57, 54, 56, 100, 50, 56, 97, 57, 52, 55, 52, 56, 57, 49, 49, 48, 97, 48, 101, 53, 55].map Char.ofNat,
  [99, 117, 116].map Char.ofNat,
  [97, 116].map Char.ofNat,
  [115, 97, 115, 104, 47, 115, 97, 115, 104, 108, 97, 119, 48, 55, 46, 70, 108, 97, 116, 78, 101, 120, 116, 115].map Char.ofNat,
  [115, 97, 115, 104, 47, 115, 97, 115, 104, 108, 97, 119, 48, 55, 46, 70, 108, 97, 116, 76, 105, 115, 116, 115].map Char.ofNat,
  [115, 97, 115, 104, 47, 115, 97, 115, 104, 108, 97, 119, 48, 52, 46, 82, 101, 99, 116, 67, 117, 116, 115].map Char.ofNat,
  [115, 97, 115, 104, 47, 115, 97, 115, 104, 108, 97, 119, 48, 57, 46, 65, 100, 106, 117, 115, 116, 83, 104, 97, 114, 101, 115].map Char.ofNat,
  [115, 97, 115, 104, 47, 115, 97, 115, 104, 108, 97, 119, 48, 57, 46, 65, 100, 106, 117, 115, 116, 69, 118, 101, 110, 115].map Char.ofNat,
  [115, 97, 115, 104, 47, 115, 97, 115, 104, 108, 97, 119, 49, 54, 46, 83, 112, 114, 101, 97, 100, 83, 105, 122, 101, 115].map Char.ofNat,
  [115, 97, 115, 104, 47, 115, 97, 115, 104, 108, 97, 119, 48, 55, 46, 70, 108, 97, 116, 67, 104, 97, 110, 103, 101, 115].map Char.ofNat,
  [115, 97, 115, 104, 47, 115, 97, 115, 104, 108, 97, 119, 48, 52, 46, 82, 101, 99, 116, 73, 110, 115, 105, 100, 101].map Char.ofNat,
  [115, 97, 115, 104, 47, 115, 97, 115, 104, 108, 97, 119, 48, 55, 46, 70, 108, 97, 116, 78, 97, 109, 101, 115].map Char.ofNat,
  [115, 97, 115, 104, 47, 115, 97, 115, 104, 108, 97, 119, 48, 57, 46, 65, 100, 106, 117, 115, 116, 83, 101, 116, 115].map Char.ofNat,
  [115, 97, 115, 104, 47, 115, 97, 115, 104, 108, 97, 119, 48, 52, 46, 82, 101, 99, 116, 77, 101, 101, 116, 115].map Char.ofNat,
  [115, 97, 115, 104, 47, 115, 97, 115, 104, 108, 97, 119, 48, 52, 46, 82, 101, 99, 116, 77, 97, 121, 115].map Char.ofNat,
  [115, 97, 115, 104, 47, 115, 97, 115, 104, 108, 97, 119, 48, 55, 46, 70, 108, 97, 116, 83, 116, 105, 108, 108].map Char.ofNat,
  [115, 97, 115, 104, 47, 115, 97, 115, 104, 108, 97, 119, 48, 53, 46, 67, 101, 108, 108, 77, 97, 121, 115].map Char.ofNat,
  [115, 97, 115, 104, 47, 115, 97, 115, 104, 108, 97, 119, 48, 53, 46, 67, 101, 108, 108, 83, 97, 109, 101].map Char.ofNat,
  [115, 97, 115, 104, 47, 115, 97, 115, 104, 108, 97, 119, 48, 53, 46, 67, 101, 108, 108, 67, 111, 117, 110, 116, 115].map Char.ofNat,
  [115, 97, 115, 104, 47, 115, 97, 115, 104, 108, 97, 119, 48, 56, 46, 76, 101, 97, 115, 116, 83, 117, 109, 115].map Char.ofNat,
  [115, 97, 115, 104, 47, 115, 97, 115, 104, 108, 97, 119, 48, 53, 46, 67, 101, 108, 108, 70, 105, 110, 100, 115].map Char.ofNat,
  [115, 97, 115, 104, 47, 115, 97, 115, 104, 108, 97, 119, 48, 56, 46, 76, 101, 97, 115, 116, 73, 115].map Char.ofNat,
  [115, 97, 115, 104, 47, 115, 97, 115, 104, 108, 97, 119, 48, 56, 46, 76, 101, 97, 115, 116, 70, 105, 116, 115].map Char.ofNat,
  [115, 97, 115, 104, 47, 115, 97, 115, 104, 108, 97, 119, 48, 56, 46, 76, 101, 97, 115, 116, 80, 97, 116, 104, 115].map Char.ofNat,
  [115, 97, 115, 104, 47, 115, 97, 115, 104, 108, 97, 119, 48, 53, 46, 67, 101, 108, 108, 80, 117, 116, 115].map Char.ofNat,
  [115, 97, 115, 104, 47, 115, 97, 115, 104, 108, 97, 119, 49, 50, 46, 83, 112, 108, 105, 116, 83, 105, 122, 101, 115].map Char.ofNat,
  [115, 97, 115, 104, 47, 115, 97, 115, 104, 108, 97, 119, 49, 54, 46, 83, 112, 114, 101, 97, 100, 65, 108, 108].map Char.ofNat,
  [115, 97, 115, 104, 47, 115, 97, 115, 104, 108, 97, 119, 49, 54, 46, 83, 112, 114, 101, 97, 100, 65, 116].map Char.ofNat,
  [115, 97, 115, 104, 47, 115, 97, 115, 104, 108, 97, 119, 49, 52, 46, 80, 117, 115, 104, 73, 115].map Char.ofNat,
  [115, 97, 115, 104, 47, 115, 97, 115, 104, 108, 97, 119, 49, 52, 46, 80, 117, 115, 104, 79, 110, 101].map Char.ofNat,
  [115, 97, 115, 104, 47, 115, 97, 115, 104, 108, 97, 119, 49, 52, 46, 80, 117, 115, 104, 70, 114, 97, 109, 101, 115].map Char.ofNat,
  [115, 97, 115, 104, 47, 115, 97, 115, 104, 108, 97, 119, 49, 52, 46, 80, 117, 115, 104, 67, 97, 110].map Char.ofNat,
  [115, 97, 115, 104, 47, 115, 97, 115, 104, 108, 97, 119, 49, 50, 46, 83, 112, 108, 105, 116, 73, 115].map Char.ofNat,
  [115, 97, 115, 104, 47, 115, 97, 115, 104, 108, 97, 119, 49, 50, 46, 83, 112, 108, 105, 116, 67, 97, 110].map Char.ofNat]
theorem head_list : Try.prog.initOrder.toList = headSigns := by
  have e : Try.prog.initOrder = String.ofList headSigns := by kernel_rfl
  rw [e, String.toList_ofList]
theorem head_words : wordsSigns Try.prog.initOrder.toList = headWords := by
  rw [head_list]
  kernel_rfl
def headRest : List (List Char) := headWords.drop 3
theorem head_behind : behindMainWord (wordsSigns Try.prog.initOrder.toList) = ([99, 117, 116].map Char.ofNat) :: headRest := by
  rw [head_words]
  kernel_rfl
theorem cut_eq : ([99, 117, 116].map Char.ofNat : List Char) = "cut".toList := by decide +kernel
theorem head_behind' : behindMainWord (wordsSigns Try.prog.initOrder.toList) = "cut".toList :: headRest := head_behind.trans (congrArg (fun c => c :: headRest) cut_eq)
theorem strip_none (rest : List (List Char)) : stripLifts liftWords ("cut".toList :: rest) = ([], "cut".toList :: rest) := by
  have key : ∀ (l : List String), (l.all fun o => !("cut".toList == o.toList)) = true → stripLifts l ("cut".toList :: rest) = ([], "cut".toList :: rest) := by
    intro l
    induction l with
    | nil => intro _; rfl
    | cons o l ih =>
      intro h
      simp only [List.all_cons, Bool.and_eq_true] at h
      unfold stripLifts
      rw [if_neg (by simpa using h.1)]
      exact ih h.2
  exact key _ (by decide +kernel)
theorem make_of (P : Program) (rest : List (List Char)) (h : behindMainWord (wordsSigns P.initOrder.toList) = "cut".toList :: rest) : P.make = some .cut := by
  unfold Program.make
  rw [h]
  simp only
  have h1 : ("cut".toList == "gc".toList) = false := by decide +kernel
  have h2 : ("cut".toList == "spec".toList) = false := by decide +kernel
  rw [h1, h2, if_neg (by simp), if_pos (by simp)]
theorem lifts_of (P : Program) (rest : List (List Char)) (h : behindMainWord (wordsSigns P.initOrder.toList) = "cut".toList :: rest) : P.headLifts = [] := by
  unfold Program.headLifts
  simp only [h, strip_none]
  simp
theorem final_of (P : Program) (rest : List (List Char)) (h : behindMainWord (wordsSigns P.initOrder.toList) = "cut".toList :: rest) : P.liftsFinal = false := by
  have h1 : (some "cut".toList == some "carried".toList) = false := by decide +kernel
  unfold Program.liftsFinal
  simp only [h, lifts_of P rest h, List.head?_cons, h1, Bool.false_and, List.contains_nil, Bool.or_false]
theorem enter_of (P : Program) (rest : List (List Char)) (h : behindMainWord (wordsSigns P.initOrder.toList) = "cut".toList :: rest) (h1 : P.laysLater = false) (h2 : P.bearsReflect = false) (h3 : P.doorFits [] = true) : P.mayEnter = true := by
  unfold Program.mayEnter
  rw [h]
  simp only [strip_none]
  rw [h1, h2, h3]
  simp
theorem head_make : Try.prog.make = some .cut := make_of Try.prog headRest head_behind'
theorem head_final : Try.prog.liftsFinal = false := final_of Try.prog headRest head_behind'
theorem head_later : Try.prog.laysLater = false := by kernel_rfl
theorem head_reflect : Try.prog.bearsReflect = false := by kernel_rfl
theorem head_door : Try.prog.doorFits [] = true := by kernel_rfl
theorem head_enter : Try.prog.mayEnter = true := enter_of Try.prog headRest head_behind' head_later head_reflect head_door
theorem head_keys : (true == Try.prog.plainKeys) = true := by kernel_rfl
theorem head_heard : Try.prog.stopsHeard = true := by kernel_rfl
end Go.Proofs.Ytfdmfgaiblfbhaa.P
/- joinedFacts out of its parts, over any program. -/
namespace Go.Proofs.Ytfdmfgaiblfbhaa.P
open Go.RowKit
theorem joined_mk {P : Program} {f : FuncId} {fn : Func} {s : ChangeSpec} {c : OpenClaim}
    (h0 : (c.wf (OpenSpec.ofChange s)) = true)
    (h1 : (laidOutB P) = true)
    (h2 : (mapsRowed P) = true)
    (h3 : (fn.params.all (P.readableRec ·)) = true)
    (h4 : (namedTie P c.named s.vars) = true)
    (h5 : ((c.stops == [])) = true)
    (h6 : ((P.stops == [])) = true)
    (h7 : ((c.knobs == [])) = true)
    (h8 : ((P.stopKnobs == [])) = true)
    (h9 : ((c.inPlace == P.inPlace f)) = true)
    (h10 : ((c.unfollowed == P.unfollowed f)) = true)
    (h11 : ((c.recurses == P.recurses f)) = true)
    (h12 : ((c.named == P.varsNamed f)) = true)
    (h13 : ((c.maps == (fn.params.toList ++ s.plain.varTypes P).any (P.mapsRec ·))) = true)
    (h14 : ((c.ifaces == (fn.params.toList ++ s.plain.varTypes P).any (P.ifacesRec ·))) = true)
    (h15 : ((c.mapsOut == P.mapsAmong fn.resultTypes.toList)) = true)
    (h16 : ((c.loops == (fn.params.toList ++ s.plain.varTypes P).any (P.loopsFrom ·))) = true)
    (h17 : ((c.wideKeys == (fn.params.toList ++ s.plain.varTypes P ++ fn.resultTypes.toList).any (P.wideKeysFrom ·))) = true)
    (h18 : (s.vars.all (P.varReadable ·)) = true)
    (h19 : (fn.resultTypes.all (fun t => P.readableRec t && decide (t < P.types.size))) = true)
    (h20 : ((c.ifacesOut == fn.resultTypes.toList.any (P.ifacesRec ·))) = true)
    (h21 : ((c.loopsOut == fn.resultTypes.toList.any (P.loopsFrom ·))) = true)
    (h22 : ((c.plainKeys == P.plainKeys)) = true)
    (h23 : (c.shortTexts.isNone) = true)
    (h24 : (P.stopsHeard) = true)
    (h25 : (P.mayEnter) = true)
    (h26 : ((c.lifted == P.liftsFinal)) = true)
    (h27 : ((P.make == some c.make)) = true)
    (hd : c.domain.isEmpty = true) (hk : c.kinds = [])
    (h29 : ((c.pinned == c.pinnedBy)) = true)
    (h30 : ((c.veiled == (fn.params.toList ++ s.plain.varTypes P ++ fn.resultTypes.toList).any (P.veiledRec ·))) = true)
    (h31 : (c.veiledFits P fn.params.toList (fn.params.toList ++ s.plain.varTypes P ++ fn.resultTypes.toList)) = true)
    : joinedFacts P f fn s c = true := by
  unfold joinedFacts
  rw [h0, h1, h2, h3, h4, h5, h6, h7, h8, h9, h10, h11, h12, h13, h14, h15, h16, h17, h18, h19, h20, h21, h22, h23, h24, h25, h26, h27, if_pos hd, hk, h29, h30, h31]
  rfl
end Go.Proofs.Ytfdmfgaiblfbhaa.P
/- How a law's arguments read, with their bulk: a tree has no more cells than its reading has bulk. -/
namespace Go.Proofs.Ytfdmfgaiblfbhaa.P
open Go.RowKit Go.Proofs.YtfdmfgaiblfbhaaW.PrintWords Go.Proofs.YtfdmfgaiblfbhaaW.PrintLast Go.Proofs.YtfdmfgaiblfbhaaW.PrintMore
open Go.ChangeShapes Go.WideShapes Go.ChangeAt Go.Joins Go.Deep

section
variable {H : Type} {enc : TypeId × Value → H} {P : Program} {w : World} {base : Nat} {spare : Nat → Bool} {held : Bool}
theorem bulk_pos (d : DataW H) : 1 ≤ Rows.uptoBulk d := by
  cases d with
  | lit l => cases l <;> simp [Rows.uptoBulk]
  | _ => simp [Rows.uptoBulk]
theorem bulk_len (l : List (DataW H)) : l.length ≤ Rows.uptoBulkAll l := by
  induction l with
  | nil => simp
  | cons x xs ih =>
    have := bulk_pos x
    simp only [Rows.uptoBulkAll, List.length_cons]
    omega
theorem bulk_sum {α : Type} (m : α → Nat) : ∀ (l : List α) (es : List (DataW H)), l.length = es.length → (∀ (i : Nat) (p : α) (e : DataW H), l[i]? = some p → es[i]? = some e → m p ≤ Rows.uptoBulk e) → (l.map m).sum ≤ Rows.uptoBulkAll es := by
  intro l
  induction l with
  | nil => intro es _ _; simp
  | cons x xs ih =>
    intro es hl h
    cases es with
    | nil => simp at hl
    | cons e es =>
      have h0 := h 0 x e rfl rfl
      have h1 := ih es (by simpa using hl) (fun i p e hp he => h (i + 1) p e (by simpa using hp) (by simpa using he))
      simp only [List.map_cons, List.sum_cons, Rows.uptoBulkAll]
      omega
theorem trod_struct4z {t : TypeId} {f0 f1 f2 f3 : Field} {fuel : Nat} {cs : List Value} {x : DataW H × List MemPlace} (ht : P.underlying t = some (.struct #[f0, f1, f2, f3])) (h : DataW.trod enc P w base spare held fuel t cs = some x) :
    ∃ y0 y1 y2 y3 n, fuel = n + 1 ∧ x.1 = .agg [y0.1, y1.1, y2.1, y3.1] ∧ cs.length = P.cellsOf t ∧ DataW.trod enc P w base spare held n f0.type ((cs.drop f0.offset).take (P.cellsOf f0.type)) = some y0 ∧
      DataW.trod enc P w base spare held n f1.type ((cs.drop f1.offset).take (P.cellsOf f1.type)) = some y1 ∧ DataW.trod enc P w base spare held n f2.type ((cs.drop f2.offset).take (P.cellsOf f2.type)) = some y2 ∧
      DataW.trod enc P w base spare held n f3.type ((cs.drop f3.offset).take (P.cellsOf f3.type)) = some y3 := by
  obtain ⟨xs, n, hn, rfl, hl, hlen, hf⟩ := DataW.trod_struct ht h
  match xs, hlen with
  | [y0, y1, y2, y3], _ => exact ⟨y0, y1, y2, y3, n, hn, rfl, hl, by simpa using hf 0 f0 rfl, by simpa using hf 1 f1 rfl, by simpa using hf 2 f2 rfl, by simpa using hf 3 f3 rfl⟩
/-- A row whose elements read: so many, and of such a bulk. -/
theorem open_rowz {α : Type} {k : Kd α} {ok : α → Prop} (m : α → Nat) {t e : TypeId} {fuel : Nat} {cs : List Value} {x : DataW H × List MemPlace} (ht : P.underlying t = some (.slice e)) (hs : k.sz = P.cellsOf e)
    (hE : ∀ n, n < fuel → ∀ cs y, DataW.trod enc P w base spare held n e cs = some y → ∃ p, k.K w p cs ∧ ok p ∧ m p ≤ Rows.uptoBulk y.1) (h : DataW.trod enc P w base spare held fuel t cs = some x) :
    ∃ A c l, cs = [.slice A (l : List α).length c] ∧ l.length ≤ c ∧ k.C w A l.length l ∧ (∀ p, p ∈ l → ok p) ∧ (l.map m).sum < Rows.uptoBulk x.1 ∧ l.length < Rows.uptoBulk x.1 := by
  rcases DataW.trod_slice ht h with ⟨rfl, rfl⟩ | ⟨a, len, cap, elems, rest, n, hn, rfl, rfl, hb, hl, hm, hlen, hel, hsp, hns⟩
  · exact ⟨none, 0, [], rfl, Nat.le_refl _, ⟨rfl, by simp, fun h => absurd h (by simp)⟩, (fun p hp => by cases hp), (by simp [Rows.uptoBulk]), (by simp [Rows.uptoBulk])⟩
  · obtain ⟨l, hl2, hq⟩ := row_of (α := α) (Q := fun i p => ok p ∧ (∃ c, c.length = k.sz ∧ k.K w p c ∧ ∀ j u, c[j]? = some u → w.cell? (a.add (i * k.sz + j)) = some u) ∧ ∀ e, elems[i]? = some e → m p ≤ Rows.uptoBulk e.1) len (fun i hi => by
      have key := hel i hi
      rw [List.getElem?_eq_getElem (by omega)] at key
      obtain ⟨cs', h1, h2⟩ := Option.bind_eq_some_iff.1 key
      obtain ⟨p, hp, hok, hm⟩ := hE n (by omega) cs' _ h2
      obtain ⟨h3, h4⟩ := cells_at h1
      refine ⟨p, hok, ⟨cs', by rw [h3, hs], hp, fun j u hj => ?_⟩, fun e he => ?_⟩
      · rw [hs, ← Deep.add_add]
        exact h4 j u hj
      · rw [List.getElem?_eq_getElem (by omega)] at he
        cases he
        exact hm)
    subst hl2
    refine ⟨some a, cap, l, rfl, hl, ⟨rfl, by unfold maxLen at hm; omega, fun _ => ⟨a, rfl, fun j p hj => ?_⟩⟩, fun p hp => ?_, ?_, ?_⟩
    · obtain ⟨_, ⟨c, h1, h2, h3⟩, _⟩ := hq j p hj
      exact ⟨c, h1, h2, h3⟩
    · obtain ⟨i, hi, rfl⟩ := List.getElem_of_mem hp
      exact (hq i _ (List.getElem?_eq_getElem hi)).1
    · have := bulk_sum m l (elems.map (·.1)) (by simp [hlen]) (fun i p e hp he => by
        rw [List.getElem?_map] at he
        obtain ⟨e', he', rfl⟩ := Option.map_eq_some_iff.1 he
        exact (hq i p hp).2.2 e' he')
      simp only [Rows.uptoBulk]
      omega
    · have := bulk_len (elems.map (·.1))
      simp only [List.length_map] at this
      simp only [Rows.uptoBulk]
      omega
end
section
variable {H : Type} {enc : TypeId × Value → H} {w : World} {base : Nat} {spare : Nat → Bool} {held : Bool}
set_option maxRecDepth 100000 in
theorem read26nz : ∀ (fuel : Nat) {cs : List Value} {x : DataW H × List MemPlace} (_ : DataW.trod enc Try.prog w base spare held fuel 26 cs = some x), ∃ r : S26, (Kd.upto F26 7 [26] fuel).K w r cs ∧ wfn26 fuel r ∧ sz r ≤ Rows.uptoBulk x.1 := by
  intro fuel
  induction fuel using Nat.strongRecOn with
  | _ fuel ih =>
  intro cs x h
  cases fuel with
  | zero => simp [DataW.trod] at h
  | succ fuel =>
    obtain ⟨y0, y1, y2, y3, m, hm, hx, hl, h0, h1, h2, h3⟩ := trod_struct4z Try.underlying26 h
    obtain rfl : fuel = m := by omega
    rw [cells26] at hl
    match cs, hl with
    | [c0, c1, c2, c3, c4, c5, c6], _ =>
        simp only [cells3, cells5, cells23, cells24, List.drop_zero, List.take_succ_cons, List.take_zero, List.drop_succ_cons] at h0 h1 h2 h3
        obtain ⟨n0, e0, _, w0⟩ := DataW.trod_int Try.underlying5 h0
        obtain ⟨n2, e2, _, w2⟩ := DataW.trod_int Try.underlying3 h2
        simp only [List.cons.injEq, and_true] at e0 e2
        subst e0 e2
        obtain ⟨r, hr, hw⟩ := read23 h1
        obtain e1 := k23_open hr
        simp only [List.cons.injEq, and_true] at e1
        obtain ⟨rfl, rfl, rfl, rfl⟩ := e1
        obtain ⟨A, c, l, e3, hlc, hC, hok, hsum, _⟩ := open_rowz (k := Kd.upto F26 7 [26] fuel) (ok := wfn26 fuel) sz Try.underlying24 (by rw [sz26, cells26]) (fun n hn cs y hy => by
          obtain ⟨p, hp, hok, hz⟩ := ih n (by omega) hy
          exact ⟨p, Kd.upto_K_le mono26 sz26 (by omega) hp, wfn26_le (by omega) hok, hz⟩) h3
        simp only [List.cons.injEq, and_true] at e3
        subst e3
        have hlen9 : l.length ≤ 9223372036854775807 := hC.2.1
        refine ⟨⟨n0, r, n2, l⟩, ?_, ⟨u8_of w0, hw, i64_of w2, hlen9, hok⟩, ?_⟩
        · exact ⟨[.int .u8 n0], [.int .i64 r.f0, .int .i64 r.f1, .int .i64 r.f2, .int .i64 r.f3, .int .i64 n2, .slice A l.length c], rfl, rfl, [.int .i64 r.f0, .int .i64 r.f1, .int .i64 r.f2, .int .i64 r.f3], [.int .i64 n2, .slice A l.length c], rfl, k23_mk w r, [.int .i64 n2], [.slice A l.length c], rfl, rfl, A, c, rfl, hlc, hC⟩
        · rw [hx, sz_eq]
          have := szL_sum l
          simp only [Rows.uptoBulk, Rows.uptoBulkAll]
          have h3 := bulk_pos y0.1
          omega
theorem read26z {fuel : Nat} {cs : List Value} {x : DataW H × List MemPlace} (h : DataW.trod enc Try.prog w base spare held fuel 26 cs = some x) : ∃ r : S26, k26.K w r cs ∧ wf26 r ∧ sz r ≤ Rows.uptoBulk x.1 := by
  obtain ⟨r, hr, hw, hz⟩ := read26nz fuel h
  exact ⟨r, ⟨fuel, hr⟩, ⟨fuel, hw⟩, hz⟩
end
end Go.Proofs.Ytfdmfgaiblfbhaa.P
/- The row of the law FlatNames, second form (what it reads is of bulk at most 1048576), out of its plain law and its walk. -/
namespace Go.Proofs.Ytfdmfgaiblfbhaa.flatNamesUpto
open Go.ChangeShapes Go.WideShapes Go.ChangeAt Go.RowKit Go.Proofs.Ytfdmfgaiblfbhaa.P Go.Proofs.YtfdmfgaiblfbhaaW.PrintWords
open Go.ChangeMaps (open_string shut_string)
theorem own : ownKnob Try.prog.godebug = none := by kernel_rfl
theorem laidOut : laidOutB Try.prog = true := by kernel_rfl
set_option maxRecDepth 100000 in
theorem lifted (os : Os) (started : os.Started) (H : Type) (enc : TypeId × Value → H) (F : Stop.Interp) :
    ReturnsInHanded {} Try.checked os 11 .any ((Rows.OpenSpec.upto Rows.flatNamesSpec).pre6 enc Try.prog Try.f11 Rows.flatNamesUptoRow.domain false) (((Rows.OpenSpec.upto Rows.flatNamesSpec).at F).post enc Try.prog Try.f11 false true false false) := by
  refine returnsInHanded_of_cond (C := Try.checked) (s := Rows.OpenSpec.upto Rows.flatNamesSpec) (k := Rows.uptoSmall) rfl own started (by kernel_rfl) Try.func11
    (OpenSpec.witness (enc := enc) (C := Try.checked) (s := Rows.OpenSpec.upto Rows.flatNamesSpec) (k := Rows.uptoSmall) rfl false ⟨#[], #[.agg #[.int .u8 0, .int .i64 0, .int .i64 0, .int .i64 0, .int .i64 0, .int .i64 0, .slice none 0 0], .slice none 0 0], []⟩ 8 (by kernel_rfl) (by kernel_rfl) (by kernel_rfl)
      (x := ([.agg [.lit (.int .u8 0), .agg [.lit (.int .i64 0), .lit (.int .i64 0), .lit (.int .i64 0), .lit (.int .i64 0)], .lit (.int .i64 0), .nil], .nil], [], [])) (by kernel_rfl) rfl (by kernel_rfl)) ?_
  intro W base args ds gs before hval0 hW hcnd hk0 _
  have hval : ∀ (j : Nat) t v, Try.f11.params[j]? = some t → args[j]? = some v → Value.okWide Try.prog W .any base t v := hval0
  have hW' := hW
  obtain ⟨p, q, hA0, hV, rfl, hfz, hnd⟩ := hW
  have hA : DataW.TrodAll enc Try.prog W 0 (fun _ => true) true Try.f11.params.toList args.toList ds p := hA0
  rw [Try.params11] at hA hval
  obtain ⟨v0, vs0, d0, ds0, p0, q0, hargs, rfl, rfl, h0, r0⟩ := trodAll_cons hA
  obtain ⟨v1, vs1, d1, ds1, p1, q1, rfl, rfl, rfl, h1, r1⟩ := trodAll_cons r0
  obtain ⟨rfl, rfl, rfl⟩ := trodAll_nil r1
  obtain rfl : args = #[v0, v1] := by cases args; simp_all
  obtain ⟨rfl, rfl⟩ := trodVars_none hV
  have hB := of_decide_eq_true hk0
  simp only [List.cons_append, List.nil_append, List.append_nil, Rows.uptoBulkAll] at hB
  have z0 : Rows.uptoBulk d0 ≤ 1048576 := by omega
  have z1 : Rows.uptoBulk d1 ≤ 1048576 := by omega
  have k0 := h0
  have lt0 : ∀ x ∈ p0, x.block < W.heap.size := by obtain ⟨m, hm⟩ := k0; exact DataW.trod_lt m _ _ _ hm
  obtain ⟨fuel0, hf0⟩ := h0
  obtain ⟨cs0, rfl, _⟩ := okWide_struct Try.underlying26 (hval 0 26 v0 rfl rfl)
  obtain ⟨a0, b0, w0, y0⟩ := read26z hf0
  obtain ⟨A0, c0, e0, hc0, hr0⟩ := k26_open b0
  obtain rfl := agg_of e0
  have k1 := h1
  have lt1 : ∀ x ∈ p1, x.block < W.heap.size := by obtain ⟨m, hm⟩ := k1; exact DataW.trod_lt m _ _ _ hm
  obtain ⟨fuel1, hf1⟩ := h1
  obtain ⟨A1, len1, cap1, rfl⟩ := okWide_slice Try.underlying41 (hval 1 41 v1 rfl rfl)
  obtain ⟨B1, c1, a1, e1, hc1, hr1, w1, _, y1⟩ := open_rowz (k := Kd.int .i64) (ok := I64) (fun _ => 0) Try.underlying41 (by kernel_rfl) (fun n _ cs y hy => by obtain ⟨x, rfl, _, hw⟩ := DataW.trod_int Try.underlying3 hy; exact ⟨x, rfl, i64_of hw, Nat.zero_le _⟩) hf1
  simp only [Value.cells, List.cons.injEq, Value.slice.injEq, and_true] at e1
  obtain ⟨rfl, rfl, rfl⟩ := e1
  have hP := Pure.FlatNames a0 a1 w0 (Nat.le_trans y0 z0) (Nat.le_trans (Nat.le_of_lt y1) z1) w1
  refine (sashlaw07_FlatNames.calls a0.f0 a0.f1.f0 a0.f1.f1 a0.f1.f2 a0.f1.f3 a0.f2 _ _ a0.f3 _ _ a1 true W hr0 hc0 hr1 hc1 hP).mono fun e W' ⟨he, bel0⟩ => ?_
  have bel : Below W.heap.size W W' := bel0
  subst he
  exact ⟨_, rfl, _, _, _, [], _, [], hW', trodAll_mk1 (shut_bool Try.underlying4 _), (trodAll_cons_mk (Below.trod laidOut (by kernel_rfl) (of_decide_eq_true (by kernel_rfl)) k0 bel lt0) (trodAll_cons_mk (Below.trod laidOut (by kernel_rfl) (of_decide_eq_true (by kernel_rfl)) k1 bel lt1) trodAll_mk0)), rfl, bel.frame _, fun h => by cases h⟩
theorem j0 : (Rows.flatNamesUptoRow.wf (OpenSpec.ofChange (Rows.OpenSpec.upto Rows.flatNamesSpec).bare)) = true := by kernel_rfl
theorem j1 : (laidOutB Try.prog) = true := by kernel_rfl
theorem j2 : (mapsRowed Try.prog) = true := by kernel_rfl
theorem j3 : (Try.f11.params.all (Try.prog.readableRec ·)) = true := by kernel_rfl
theorem j4 : (namedTie Try.prog Rows.flatNamesUptoRow.named (Rows.OpenSpec.upto Rows.flatNamesSpec).bare.vars) = true := by kernel_rfl
theorem j5 : ((Rows.flatNamesUptoRow.stops == [])) = true := by kernel_rfl
theorem j6 : ((Try.prog.stops == [])) = true := by kernel_rfl
theorem j7 : ((Rows.flatNamesUptoRow.knobs == [])) = true := by kernel_rfl
theorem j8 : ((Try.prog.stopKnobs == [])) = true := by kernel_rfl
theorem j9 : ((Rows.flatNamesUptoRow.inPlace == Try.prog.inPlace 11)) = true := by kernel_rfl
theorem j10 : ((Rows.flatNamesUptoRow.unfollowed == Try.prog.unfollowed 11)) = true := by kernel_rfl
theorem j11 : ((Rows.flatNamesUptoRow.recurses == Try.prog.recurses 11)) = true := by kernel_rfl
theorem j12 : ((Rows.flatNamesUptoRow.named == Try.prog.varsNamed 11)) = true := by kernel_rfl
theorem j13 : ((Rows.flatNamesUptoRow.maps == (Try.f11.params.toList ++ (Rows.OpenSpec.upto Rows.flatNamesSpec).bare.plain.varTypes Try.prog).any (Try.prog.mapsRec ·))) = true := by kernel_rfl
theorem j14 : ((Rows.flatNamesUptoRow.ifaces == (Try.f11.params.toList ++ (Rows.OpenSpec.upto Rows.flatNamesSpec).bare.plain.varTypes Try.prog).any (Try.prog.ifacesRec ·))) = true := by kernel_rfl
theorem j15 : ((Rows.flatNamesUptoRow.mapsOut == Try.prog.mapsAmong Try.f11.resultTypes.toList)) = true := by kernel_rfl
theorem j16 : ((Rows.flatNamesUptoRow.loops == (Try.f11.params.toList ++ (Rows.OpenSpec.upto Rows.flatNamesSpec).bare.plain.varTypes Try.prog).any (Try.prog.loopsFrom ·))) = true := by kernel_rfl
theorem j17 : ((Rows.flatNamesUptoRow.wideKeys == (Try.f11.params.toList ++ (Rows.OpenSpec.upto Rows.flatNamesSpec).bare.plain.varTypes Try.prog ++ Try.f11.resultTypes.toList).any (Try.prog.wideKeysFrom ·))) = true := by kernel_rfl
theorem j18 : ((Rows.OpenSpec.upto Rows.flatNamesSpec).bare.vars.all (Try.prog.varReadable ·)) = true := by kernel_rfl
theorem j19 : (Try.f11.resultTypes.all (fun t => Try.prog.readableRec t && decide (t < Try.prog.types.size))) = true := by kernel_rfl
theorem j20 : ((Rows.flatNamesUptoRow.ifacesOut == Try.f11.resultTypes.toList.any (Try.prog.ifacesRec ·))) = true := by kernel_rfl
theorem j21 : ((Rows.flatNamesUptoRow.loopsOut == Try.f11.resultTypes.toList.any (Try.prog.loopsFrom ·))) = true := by kernel_rfl
theorem j23 : (Rows.flatNamesUptoRow.shortTexts.isNone) = true := by kernel_rfl
theorem j29 : ((Rows.flatNamesUptoRow.pinned == Rows.flatNamesUptoRow.pinnedBy)) = true := by kernel_rfl
theorem j30 : ((Rows.flatNamesUptoRow.veiled == (Try.f11.params.toList ++ (Rows.OpenSpec.upto Rows.flatNamesSpec).bare.plain.varTypes Try.prog ++ Try.f11.resultTypes.toList).any (Try.prog.veiledRec ·))) = true := by kernel_rfl
theorem j31 : (Rows.flatNamesUptoRow.veiledFits Try.prog Try.f11.params.toList (Try.f11.params.toList ++ (Rows.OpenSpec.upto Rows.flatNamesSpec).bare.plain.varTypes Try.prog ++ Try.f11.resultTypes.toList)) = true := by kernel_rfl
theorem closed : joinedFacts Try.prog 11 Try.f11 (Rows.OpenSpec.upto Rows.flatNamesSpec).bare Rows.flatNamesUptoRow = true := P.joined_mk j0 j1 j2 j3 j4 j5 j6 j7 j8 j9 j10 j11 j12 j13 j14 j15 j16 j17 j18 j19 j20 j21 P.head_keys j23 P.head_heard P.head_enter (by rw [P.head_final]; rfl) (by rw [P.head_make]; rfl) rfl rfl j29 j30 j31
theorem over : Rows.flatNamesUptoRow.holds Try.pinned (Rows.OpenSpec.upto Rows.flatNamesSpec) :=
  OpenClaim.holds_of_cond 11 Try.f11 rfl rfl rfl rfl rfl rfl rfl ⟨rfl, rfl, rfl, rfl, rfl⟩ rfl rfl rfl rfl rfl (by kernel_rfl) Try.func11 closed
    (of_decide_eq_true (by kernel_rfl)) (by unfold Func.isWrapper; first | (rw [if_pos (by decide +kernel)]; kernel_rfl) | (rw [if_neg (by decide +kernel)]; exact ⟨rfl, rfl⟩))
    (fun os started H enc _ F => lifted os started H enc F)
theorem proved : Rows.FlatNamesUptoSaid := over
#print axioms proved
end Go.Proofs.Ytfdmfgaiblfbhaa.flatNamesUpto
namespace Go.Proofs.Ytfdmfgaiblfbhaa
/-- The row, under a short name, for the claim. -/
theorem flatNamesUpto_holds : Rows.FlatNamesUptoSaid := flatNamesUpto.proved
end Go.Proofs.Ytfdmfgaiblfbhaa
