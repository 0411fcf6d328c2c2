/- Texts put together: LawWireOps. -/
import Derived.Test.YtoomcdgnnibjlaaMob
/- The law WireOps, walked. -/
namespace Go.Proofs.Ytoomcdgnnibjlaa.Wr
open Go.RowKit Go.Proofs.YtoomcdgnnibjlaaW.PrintWords Go.Proofs.YtoomcdgnnibjlaaW.PrintLast
set_option linter.unusedVariables false
set_option linter.unusedSimpArgs false


set_option maxRecDepth 100000 in
set_option maxHeartbeats 16000000 in
theorem law_WireOps (x : TOp) (A9 : Option Addr) (c9 : Nat) (A12 : Option Addr) (c12 : Nat) (w : World) (h9 : kColumn.C w A9 x.2.2.2.1.2.2.2.2.2.2.1.length x.2.2.2.1.2.2.2.2.2.2.1) (h12 : Kd.string.C w A12 x.2.2.2.1.2.2.2.2.2.2.2.1.2.2.1.length x.2.2.2.1.2.2.2.2.2.2.2.1.2.2.1) (hm : wOp x < 140737488355328) : Calls Try.prog 4 #[.agg #[.int .i64 x.1, .int .i64 x.2.1, .int .i64 x.2.2.1, .int .i64 x.2.2.2.1.1, .string x.2.2.2.1.2.1, .string x.2.2.2.1.2.2.1, .string x.2.2.2.1.2.2.2.1, .string x.2.2.2.1.2.2.2.2.1, .string x.2.2.2.1.2.2.2.2.2.1, .slice A9 x.2.2.2.1.2.2.2.2.2.2.1.length c9, .string x.2.2.2.1.2.2.2.2.2.2.2.1.1, .int .i64 x.2.2.2.1.2.2.2.2.2.2.2.1.2.1, .slice A12 x.2.2.2.1.2.2.2.2.2.2.2.1.2.2.1.length c12, .int .i64 x.2.2.2.1.2.2.2.2.2.2.2.1.2.2.2.1, .int .i64 x.2.2.2.1.2.2.2.2.2.2.2.1.2.2.2.2.1, .string x.2.2.2.1.2.2.2.2.2.2.2.1.2.2.2.2.2.1, .string x.2.2.2.1.2.2.2.2.2.2.2.1.2.2.2.2.2.2.1, .string x.2.2.2.1.2.2.2.2.2.2.2.1.2.2.2.2.2.2.2, .int .i64 x.2.2.2.1.2.2.2.2.2.2.2.2.1, .bool x.2.2.2.1.2.2.2.2.2.2.2.2.2, .int .i64 x.2.2.2.2.1, .int .i64 x.2.2.2.2.2.1, .int .i64 x.2.2.2.2.2.2]] w fun e w' => e = .returned (.bool true) ∧ Below w.heap.size w w' := by
  obtain ⟨W, hW⟩ : ∃ W, w.alloc (.cells #[.int .i64 x.1, .int .i64 x.2.1, .int .i64 x.2.2.1, .int .i64 x.2.2.2.1.1, .string x.2.2.2.1.2.1, .string x.2.2.2.1.2.2.1, .string x.2.2.2.1.2.2.2.1, .string x.2.2.2.1.2.2.2.2.1, .string x.2.2.2.1.2.2.2.2.2.1, .slice A9 x.2.2.2.1.2.2.2.2.2.2.1.length c9, .string x.2.2.2.1.2.2.2.2.2.2.2.1.1, .int .i64 x.2.2.2.1.2.2.2.2.2.2.2.1.2.1, .slice A12 x.2.2.2.1.2.2.2.2.2.2.2.1.2.2.1.length c12, .int .i64 x.2.2.2.1.2.2.2.2.2.2.2.1.2.2.2.1, .int .i64 x.2.2.2.1.2.2.2.2.2.2.2.1.2.2.2.2.1, .string x.2.2.2.1.2.2.2.2.2.2.2.1.2.2.2.2.2.1, .string x.2.2.2.1.2.2.2.2.2.2.2.1.2.2.2.2.2.2.1, .string x.2.2.2.1.2.2.2.2.2.2.2.1.2.2.2.2.2.2.2, .int .i64 x.2.2.2.1.2.2.2.2.2.2.2.2.1, .bool x.2.2.2.1.2.2.2.2.2.2.2.2.2, .int .i64 x.2.2.2.2.1, .int .i64 x.2.2.2.2.2.1, .int .i64 x.2.2.2.2.2.2] 51) = W := ⟨_, rfl⟩
  have hb0 : Below w.heap.size w W := by rw [← hW]; exact (Below.refl _ _).alloc (Nat.le_refl _) _
  have hx0 : W.heap[w.heap.size]? = some (.cells #[.int .i64 x.1, .int .i64 x.2.1, .int .i64 x.2.2.1, .int .i64 x.2.2.2.1.1, .string x.2.2.2.1.2.1, .string x.2.2.2.1.2.2.1, .string x.2.2.2.1.2.2.2.1, .string x.2.2.2.1.2.2.2.2.1, .string x.2.2.2.1.2.2.2.2.2.1, .slice A9 x.2.2.2.1.2.2.2.2.2.2.1.length c9, .string x.2.2.2.1.2.2.2.2.2.2.2.1.1, .int .i64 x.2.2.2.1.2.2.2.2.2.2.2.1.2.1, .slice A12 x.2.2.2.1.2.2.2.2.2.2.2.1.2.2.1.length c12, .int .i64 x.2.2.2.1.2.2.2.2.2.2.2.1.2.2.2.1, .int .i64 x.2.2.2.1.2.2.2.2.2.2.2.1.2.2.2.2.1, .string x.2.2.2.1.2.2.2.2.2.2.2.1.2.2.2.2.2.1, .string x.2.2.2.1.2.2.2.2.2.2.2.1.2.2.2.2.2.2.1, .string x.2.2.2.1.2.2.2.2.2.2.2.1.2.2.2.2.2.2.2, .int .i64 x.2.2.2.1.2.2.2.2.2.2.2.2.1, .bool x.2.2.2.1.2.2.2.2.2.2.2.2.2, .int .i64 x.2.2.2.2.1, .int .i64 x.2.2.2.2.2.1, .int .i64 x.2.2.2.2.2.2] 51 (0, 0)) := by rw [← hW]; exact blk_new w _
  have C1 := Lib.hid (ref_PutOp x A9 c9 A12 c12 W (Kd.C_below h9 hb0) (Kd.C_below h12 hb0) hm)
  have HR := Lib.hid (range_blk [] [.int .i64 x.1, .int .i64 x.2.1, .int .i64 x.2.2.1, .int .i64 x.2.2.2.1.1, .string x.2.2.2.1.2.1, .string x.2.2.2.1.2.2.1, .string x.2.2.2.1.2.2.2.1, .string x.2.2.2.1.2.2.2.2.1, .string x.2.2.2.1.2.2.2.2.2.1, .slice A9 x.2.2.2.1.2.2.2.2.2.2.1.length c9, .string x.2.2.2.1.2.2.2.2.2.2.2.1.1, .int .i64 x.2.2.2.1.2.2.2.2.2.2.2.1.2.1, .slice A12 x.2.2.2.1.2.2.2.2.2.2.2.1.2.2.1.length c12, .int .i64 x.2.2.2.1.2.2.2.2.2.2.2.1.2.2.2.1, .int .i64 x.2.2.2.1.2.2.2.2.2.2.2.1.2.2.2.2.1, .string x.2.2.2.1.2.2.2.2.2.2.2.1.2.2.2.2.2.1, .string x.2.2.2.1.2.2.2.2.2.2.2.1.2.2.2.2.2.2.1, .string x.2.2.2.1.2.2.2.2.2.2.2.1.2.2.2.2.2.2.2, .int .i64 x.2.2.2.1.2.2.2.2.2.2.2.2.1, .bool x.2.2.2.1.2.2.2.2.2.2.2.2.2, .int .i64 x.2.2.2.2.1, .int .i64 x.2.2.2.2.2.1, .int .i64 x.2.2.2.2.2.2] [] hx0)
  have HX := Lib.hid hx0
  have HB0 := Lib.hid hb0
  have HW := Lib.hid hW
  clear hb0 hx0 hW
  go_enter Try.func4, Try.ntmps4
  go_wp2_with (((with_reducible refine gate_load (t := 51) rfl ?_); refine wpList_load_mid rfl 51 _ rfl w.heap.size 0 rfl [.int .i64 x.1, .int .i64 x.2.1, .int .i64 x.2.2.1, .int .i64 x.2.2.2.1.1, .string x.2.2.2.1.2.1, .string x.2.2.2.1.2.2.1, .string x.2.2.2.1.2.2.2.1, .string x.2.2.2.1.2.2.2.2.1, .string x.2.2.2.1.2.2.2.2.2.1, .slice A9 x.2.2.2.1.2.2.2.2.2.2.1.length c9, .string x.2.2.2.1.2.2.2.2.2.2.2.1.1, .int .i64 x.2.2.2.1.2.2.2.2.2.2.2.1.2.1, .slice A12 x.2.2.2.1.2.2.2.2.2.2.2.1.2.2.1.length c12, .int .i64 x.2.2.2.1.2.2.2.2.2.2.2.1.2.2.2.1, .int .i64 x.2.2.2.1.2.2.2.2.2.2.2.1.2.2.2.2.1, .string x.2.2.2.1.2.2.2.2.2.2.2.1.2.2.2.2.2.1, .string x.2.2.2.1.2.2.2.2.2.2.2.1.2.2.2.2.2.2.1, .string x.2.2.2.1.2.2.2.2.2.2.2.1.2.2.2.2.2.2.2, .int .i64 x.2.2.2.1.2.2.2.2.2.2.2.2.1, .bool x.2.2.2.1.2.2.2.2.2.2.2.2.2, .int .i64 x.2.2.2.2.1, .int .i64 x.2.2.2.2.2.1, .int .i64 x.2.2.2.2.2.2] _ (by rw [HW.out]; exact HR.out) Try.underlying51 rfl (by kernel_rfl) ?_))
  rw [HW.out]
  refine C1.out.mono ?_
  rintro e w1 ⟨v1, rfl, R1', hb1⟩
  obtain ⟨B1, d1, rfl, _, hC1⟩ := Kd.R_reads R1'
  have hx1 := (hb1.block _ (blk_lt HX.out)).trans HX.out
  have hb1' := HB0.out.trans (hb1.mono HB0.out.size)
  clear HR HW C1
  have HR := Lib.hid (range_blk [] [.int .i64 x.1, .int .i64 x.2.1, .int .i64 x.2.2.1, .int .i64 x.2.2.2.1.1, .string x.2.2.2.1.2.1, .string x.2.2.2.1.2.2.1, .string x.2.2.2.1.2.2.2.1, .string x.2.2.2.1.2.2.2.2.1, .string x.2.2.2.1.2.2.2.2.2.1, .slice A9 x.2.2.2.1.2.2.2.2.2.2.1.length c9, .string x.2.2.2.1.2.2.2.2.2.2.2.1.1, .int .i64 x.2.2.2.1.2.2.2.2.2.2.2.1.2.1, .slice A12 x.2.2.2.1.2.2.2.2.2.2.2.1.2.2.1.length c12, .int .i64 x.2.2.2.1.2.2.2.2.2.2.2.1.2.2.2.1, .int .i64 x.2.2.2.1.2.2.2.2.2.2.2.1.2.2.2.2.1, .string x.2.2.2.1.2.2.2.2.2.2.2.1.2.2.2.2.2.1, .string x.2.2.2.1.2.2.2.2.2.2.2.1.2.2.2.2.2.2.1, .string x.2.2.2.1.2.2.2.2.2.2.2.1.2.2.2.2.2.2.2, .int .i64 x.2.2.2.1.2.2.2.2.2.2.2.2.1, .bool x.2.2.2.1.2.2.2.2.2.2.2.2.2, .int .i64 x.2.2.2.2.1, .int .i64 x.2.2.2.2.2.1, .int .i64 x.2.2.2.2.2.2] [] hx1)
  by_cases hbig : 262144 < (resB (eOp x)).length
  · have hbig' : (262144 : Int) < ((resB (eOp x)).length : Int) := by omega
    have HB := Lib.hid hb1'
    clear hC1 R1' hb1 hb1' hx1 hbig h9 h12
    go_wp2
    refine bodyPost_ret (v := .bool true) (by rw [results_tmp Try.results4]; rfl) rfl ⟨rfl, HB.out⟩
  · have hdec : decide ((262144 : Int) < ((resB (eOp x)).length : Int)) = false := decide_eq_false (by omega)
    have C2 := Lib.hid (wire_PutOp x A9 c9 A12 c12 w1 (Kd.C_below h9 hb1') (Kd.C_below h12 hb1') hm)
    have HC1 := Lib.hid hC1
    have HB1 := Lib.hid hb1'
    have HX1 := Lib.hid hx1
    clear hC1 R1' hb1 hb1' hx1 hbig HB0 HX
    go_upto_region 4 with (fail)
    clear hdec
    go_wp2_with (((with_reducible refine gate_load (t := 51) rfl ?_); refine wpList_load_mid rfl 51 _ rfl w.heap.size 0 rfl [.int .i64 x.1, .int .i64 x.2.1, .int .i64 x.2.2.1, .int .i64 x.2.2.2.1.1, .string x.2.2.2.1.2.1, .string x.2.2.2.1.2.2.1, .string x.2.2.2.1.2.2.2.1, .string x.2.2.2.1.2.2.2.2.1, .string x.2.2.2.1.2.2.2.2.2.1, .slice A9 x.2.2.2.1.2.2.2.2.2.2.1.length c9, .string x.2.2.2.1.2.2.2.2.2.2.2.1.1, .int .i64 x.2.2.2.1.2.2.2.2.2.2.2.1.2.1, .slice A12 x.2.2.2.1.2.2.2.2.2.2.2.1.2.2.1.length c12, .int .i64 x.2.2.2.1.2.2.2.2.2.2.2.1.2.2.2.1, .int .i64 x.2.2.2.1.2.2.2.2.2.2.2.1.2.2.2.2.1, .string x.2.2.2.1.2.2.2.2.2.2.2.1.2.2.2.2.2.1, .string x.2.2.2.1.2.2.2.2.2.2.2.1.2.2.2.2.2.2.1, .string x.2.2.2.1.2.2.2.2.2.2.2.1.2.2.2.2.2.2.2, .int .i64 x.2.2.2.1.2.2.2.2.2.2.2.2.1, .bool x.2.2.2.1.2.2.2.2.2.2.2.2.2, .int .i64 x.2.2.2.2.1, .int .i64 x.2.2.2.2.2.1, .int .i64 x.2.2.2.2.2.2] _ HR.out Try.underlying51 rfl (by kernel_rfl) ?_))
    refine C2.out.mono ?_
    rintro e w2 ⟨v2, rfl, R2', hb2⟩
    obtain ⟨B2, d2, rfl, _, hC2⟩ := Kd.R_reads R2'
    have hx2 := (hb2.block _ (blk_lt HX1.out)).trans HX1.out
    have hb2' := HB1.out.trans (hb2.mono HB1.out.size)
    have hC1 := Kd.C_below HC1.out hb2
    have C3 := Lib.hid (ref_PutOp x A9 c9 A12 c12 w2 (Kd.C_below h9 hb2') (Kd.C_below h12 hb2') hm)
    clear HR C2 HC1 HX1
    have HR := Lib.hid (range_blk [] [.int .i64 x.1, .int .i64 x.2.1, .int .i64 x.2.2.1, .int .i64 x.2.2.2.1.1, .string x.2.2.2.1.2.1, .string x.2.2.2.1.2.2.1, .string x.2.2.2.1.2.2.2.1, .string x.2.2.2.1.2.2.2.2.1, .string x.2.2.2.1.2.2.2.2.2.1, .slice A9 x.2.2.2.1.2.2.2.2.2.2.1.length c9, .string x.2.2.2.1.2.2.2.2.2.2.2.1.1, .int .i64 x.2.2.2.1.2.2.2.2.2.2.2.1.2.1, .slice A12 x.2.2.2.1.2.2.2.2.2.2.2.1.2.2.1.length c12, .int .i64 x.2.2.2.1.2.2.2.2.2.2.2.1.2.2.2.1, .int .i64 x.2.2.2.1.2.2.2.2.2.2.2.1.2.2.2.2.1, .string x.2.2.2.1.2.2.2.2.2.2.2.1.2.2.2.2.2.1, .string x.2.2.2.1.2.2.2.2.2.2.2.1.2.2.2.2.2.2.1, .string x.2.2.2.1.2.2.2.2.2.2.2.1.2.2.2.2.2.2.2, .int .i64 x.2.2.2.1.2.2.2.2.2.2.2.2.1, .bool x.2.2.2.1.2.2.2.2.2.2.2.2.2, .int .i64 x.2.2.2.2.1, .int .i64 x.2.2.2.2.2.1, .int .i64 x.2.2.2.2.2.2] [] hx2)
    have HC1 := Lib.hid hC1
    have HC2 := Lib.hid hC2
    have HB2 := Lib.hid hb2'
    clear hC1 hC2 R2' hb2 hb2' hx2 HB1
    go_wp2_with (((with_reducible refine gate_load (t := 51) rfl ?_); refine wpList_load_mid rfl 51 _ rfl w.heap.size 0 rfl [.int .i64 x.1, .int .i64 x.2.1, .int .i64 x.2.2.1, .int .i64 x.2.2.2.1.1, .string x.2.2.2.1.2.1, .string x.2.2.2.1.2.2.1, .string x.2.2.2.1.2.2.2.1, .string x.2.2.2.1.2.2.2.2.1, .string x.2.2.2.1.2.2.2.2.2.1, .slice A9 x.2.2.2.1.2.2.2.2.2.2.1.length c9, .string x.2.2.2.1.2.2.2.2.2.2.2.1.1, .int .i64 x.2.2.2.1.2.2.2.2.2.2.2.1.2.1, .slice A12 x.2.2.2.1.2.2.2.2.2.2.2.1.2.2.1.length c12, .int .i64 x.2.2.2.1.2.2.2.2.2.2.2.1.2.2.2.1, .int .i64 x.2.2.2.1.2.2.2.2.2.2.2.1.2.2.2.2.1, .string x.2.2.2.1.2.2.2.2.2.2.2.1.2.2.2.2.2.1, .string x.2.2.2.1.2.2.2.2.2.2.2.1.2.2.2.2.2.2.1, .string x.2.2.2.1.2.2.2.2.2.2.2.1.2.2.2.2.2.2.2, .int .i64 x.2.2.2.1.2.2.2.2.2.2.2.2.1, .bool x.2.2.2.1.2.2.2.2.2.2.2.2.2, .int .i64 x.2.2.2.2.1, .int .i64 x.2.2.2.2.2.1, .int .i64 x.2.2.2.2.2.2] _ HR.out Try.underlying51 rfl (by kernel_rfl) ?_))
    refine C3.out.mono ?_
    rintro e w3 ⟨v3, rfl, R3', hb3⟩
    obtain ⟨B3, d3, rfl, _, hC3⟩ := Kd.R_reads R3'
    have hb3' := HB2.out.trans (hb3.mono HB2.out.size)
    have hC1 := Kd.C_below HC1.out hb3
    have hC2 := Kd.C_below HC2.out hb3
    have C4 := Lib.hid (awake_true w3)
    clear HR C3 HC1 HC2
    have HC1 := Lib.hid hC1
    have HC2 := Lib.hid hC2
    have HC3 := Lib.hid hC3
    have HB3 := Lib.hid hb3'
    clear hC1 hC2 hC3 R3' hb3 hb3' HB2
    go_wp2_with fail
    refine C4.out.mono ?_
    rintro e w4 ⟨rfl, hb4⟩
    have s1 := Kd.C_string (c := d1) Try.underlying34 Try.underlying5 Try.underlying9 (Kd.C_below HC1.out hb4)
    have s2 := Kd.C_string (c := d2) Try.underlying34 Try.underlying5 Try.underlying9 (Kd.C_below HC2.out hb4)
    have s3 := Kd.C_string (c := d3) Try.underlying34 Try.underlying5 Try.underlying9 (Kd.C_below HC3.out hb4)
    have HB4 := Lib.hid (HB3.out.trans (hb4.mono HB3.out.size))
    clear HC1 HC2 HC3 HB3 hb4 C4 h9 h12 hm
    go_wp2
    refine bodyPost_ret (v := .bool true) (by rw [results_tmp Try.results4]; simp) rfl ⟨rfl, HB4.out⟩
end Go.Proofs.Ytoomcdgnnibjlaa.Wr
