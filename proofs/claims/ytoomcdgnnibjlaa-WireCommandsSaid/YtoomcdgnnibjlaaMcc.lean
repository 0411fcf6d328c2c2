/- Texts put together: LawWireCommands. -/
import Derived.Test.YtoomcdgnnibjlaaMcb
/- The law WireCommands, walked. -/
namespace Go.Proofs.Ytoomcdgnnibjlaa.Wr
open Go.RowKit Go.Proofs.YtoomcdgnnibjlaaW.PrintWords Go.Proofs.YtoomcdgnnibjlaaW.PrintLast
set_option linter.unusedVariables false
set_option linter.unusedSimpArgs false


set_option maxRecDepth 100000 in
set_option maxHeartbeats 16000000 in
theorem law_WireCommands (x : TCommand) (A6 : Option Addr) (c6 : Nat) (A9 : Option Addr) (c9 : Nat) (w : World) (h6 : kColumn.C w A6 x.2.2.2.2.2.2.1.length x.2.2.2.2.2.2.1) (h9 : Kd.string.C w A9 x.2.2.2.2.2.2.2.1.2.2.1.length x.2.2.2.2.2.2.2.1.2.2.1) (hm : wCommand x < 140737488355328) : Calls Try.prog 6 #[.agg #[.int .i64 x.1, .string x.2.1, .string x.2.2.1, .string x.2.2.2.1, .string x.2.2.2.2.1, .string x.2.2.2.2.2.1, .slice A6 x.2.2.2.2.2.2.1.length c6, .string x.2.2.2.2.2.2.2.1.1, .int .i64 x.2.2.2.2.2.2.2.1.2.1, .slice A9 x.2.2.2.2.2.2.2.1.2.2.1.length c9, .int .i64 x.2.2.2.2.2.2.2.1.2.2.2.1, .int .i64 x.2.2.2.2.2.2.2.1.2.2.2.2.1, .string x.2.2.2.2.2.2.2.1.2.2.2.2.2.1, .string x.2.2.2.2.2.2.2.1.2.2.2.2.2.2.1, .string x.2.2.2.2.2.2.2.1.2.2.2.2.2.2.2, .int .i64 x.2.2.2.2.2.2.2.2.1, .bool x.2.2.2.2.2.2.2.2.2]] w fun e w' => e = .returned (.bool true) ∧ Below w.heap.size w w' := by
  obtain ⟨W, hW⟩ : ∃ W, w.alloc (.cells #[.int .i64 x.1, .string x.2.1, .string x.2.2.1, .string x.2.2.2.1, .string x.2.2.2.2.1, .string x.2.2.2.2.2.1, .slice A6 x.2.2.2.2.2.2.1.length c6, .string x.2.2.2.2.2.2.2.1.1, .int .i64 x.2.2.2.2.2.2.2.1.2.1, .slice A9 x.2.2.2.2.2.2.2.1.2.2.1.length c9, .int .i64 x.2.2.2.2.2.2.2.1.2.2.2.1, .int .i64 x.2.2.2.2.2.2.2.1.2.2.2.2.1, .string x.2.2.2.2.2.2.2.1.2.2.2.2.2.1, .string x.2.2.2.2.2.2.2.1.2.2.2.2.2.2.1, .string x.2.2.2.2.2.2.2.1.2.2.2.2.2.2.2, .int .i64 x.2.2.2.2.2.2.2.2.1, .bool x.2.2.2.2.2.2.2.2.2] 49) = W := ⟨_, rfl⟩
  have hb0 : Below w.heap.size w W := by rw [← hW]; exact (Below.refl _ _).alloc (Nat.le_refl _) _
  have hx0 : W.heap[w.heap.size]? = some (.cells #[.int .i64 x.1, .string x.2.1, .string x.2.2.1, .string x.2.2.2.1, .string x.2.2.2.2.1, .string x.2.2.2.2.2.1, .slice A6 x.2.2.2.2.2.2.1.length c6, .string x.2.2.2.2.2.2.2.1.1, .int .i64 x.2.2.2.2.2.2.2.1.2.1, .slice A9 x.2.2.2.2.2.2.2.1.2.2.1.length c9, .int .i64 x.2.2.2.2.2.2.2.1.2.2.2.1, .int .i64 x.2.2.2.2.2.2.2.1.2.2.2.2.1, .string x.2.2.2.2.2.2.2.1.2.2.2.2.2.1, .string x.2.2.2.2.2.2.2.1.2.2.2.2.2.2.1, .string x.2.2.2.2.2.2.2.1.2.2.2.2.2.2.2, .int .i64 x.2.2.2.2.2.2.2.2.1, .bool x.2.2.2.2.2.2.2.2.2] 49 (0, 0)) := by rw [← hW]; exact blk_new w _
  have C1 := Lib.hid (ref_PutCommand x A6 c6 A9 c9 W (Kd.C_below h6 hb0) (Kd.C_below h9 hb0) hm)
  have HR := Lib.hid (range_blk [] [.int .i64 x.1, .string x.2.1, .string x.2.2.1, .string x.2.2.2.1, .string x.2.2.2.2.1, .string x.2.2.2.2.2.1, .slice A6 x.2.2.2.2.2.2.1.length c6, .string x.2.2.2.2.2.2.2.1.1, .int .i64 x.2.2.2.2.2.2.2.1.2.1, .slice A9 x.2.2.2.2.2.2.2.1.2.2.1.length c9, .int .i64 x.2.2.2.2.2.2.2.1.2.2.2.1, .int .i64 x.2.2.2.2.2.2.2.1.2.2.2.2.1, .string x.2.2.2.2.2.2.2.1.2.2.2.2.2.1, .string x.2.2.2.2.2.2.2.1.2.2.2.2.2.2.1, .string x.2.2.2.2.2.2.2.1.2.2.2.2.2.2.2, .int .i64 x.2.2.2.2.2.2.2.2.1, .bool x.2.2.2.2.2.2.2.2.2] [] hx0)
  have HX := Lib.hid hx0
  have HB0 := Lib.hid hb0
  have HW := Lib.hid hW
  clear hb0 hx0 hW
  go_enter Try.func6, Try.ntmps6
  go_wp2_with (((with_reducible refine gate_load (t := 49) rfl ?_); refine wpList_load_mid rfl 49 _ rfl w.heap.size 0 rfl [.int .i64 x.1, .string x.2.1, .string x.2.2.1, .string x.2.2.2.1, .string x.2.2.2.2.1, .string x.2.2.2.2.2.1, .slice A6 x.2.2.2.2.2.2.1.length c6, .string x.2.2.2.2.2.2.2.1.1, .int .i64 x.2.2.2.2.2.2.2.1.2.1, .slice A9 x.2.2.2.2.2.2.2.1.2.2.1.length c9, .int .i64 x.2.2.2.2.2.2.2.1.2.2.2.1, .int .i64 x.2.2.2.2.2.2.2.1.2.2.2.2.1, .string x.2.2.2.2.2.2.2.1.2.2.2.2.2.1, .string x.2.2.2.2.2.2.2.1.2.2.2.2.2.2.1, .string x.2.2.2.2.2.2.2.1.2.2.2.2.2.2.2, .int .i64 x.2.2.2.2.2.2.2.2.1, .bool x.2.2.2.2.2.2.2.2.2] _ (by rw [HW.out]; exact HR.out) Try.underlying49 rfl (by kernel_rfl) ?_))
  rw [HW.out]
  refine C1.out.mono ?_
  rintro e w1 ⟨v1, rfl, R1', hb1⟩
  obtain ⟨B1, d1, rfl, _, hC1⟩ := Kd.R_reads R1'
  have hx1 := (hb1.block _ (blk_lt HX.out)).trans HX.out
  have hb1' := HB0.out.trans (hb1.mono HB0.out.size)
  clear HR HW C1
  have HR := Lib.hid (range_blk [] [.int .i64 x.1, .string x.2.1, .string x.2.2.1, .string x.2.2.2.1, .string x.2.2.2.2.1, .string x.2.2.2.2.2.1, .slice A6 x.2.2.2.2.2.2.1.length c6, .string x.2.2.2.2.2.2.2.1.1, .int .i64 x.2.2.2.2.2.2.2.1.2.1, .slice A9 x.2.2.2.2.2.2.2.1.2.2.1.length c9, .int .i64 x.2.2.2.2.2.2.2.1.2.2.2.1, .int .i64 x.2.2.2.2.2.2.2.1.2.2.2.2.1, .string x.2.2.2.2.2.2.2.1.2.2.2.2.2.1, .string x.2.2.2.2.2.2.2.1.2.2.2.2.2.2.1, .string x.2.2.2.2.2.2.2.1.2.2.2.2.2.2.2, .int .i64 x.2.2.2.2.2.2.2.2.1, .bool x.2.2.2.2.2.2.2.2.2] [] hx1)
  by_cases hbig : 262144 < (resB (eCommand x)).length
  · have hbig' : (262144 : Int) < ((resB (eCommand x)).length : Int) := by omega
    have HB := Lib.hid hb1'
    clear hC1 R1' hb1 hb1' hx1 hbig h6 h9
    go_wp2
    refine bodyPost_ret (v := .bool true) (by rw [results_tmp Try.results6]; rfl) rfl ⟨rfl, HB.out⟩
  · have hdec : decide ((262144 : Int) < ((resB (eCommand x)).length : Int)) = false := decide_eq_false (by omega)
    have C2 := Lib.hid (wire_PutCommand x A6 c6 A9 c9 w1 (Kd.C_below h6 hb1') (Kd.C_below h9 hb1') hm)
    have HC1 := Lib.hid hC1
    have HB1 := Lib.hid hb1'
    have HX1 := Lib.hid hx1
    clear hC1 R1' hb1 hb1' hx1 hbig HB0 HX
    go_upto_region 4 with (fail)
    clear hdec
    go_wp2_with (((with_reducible refine gate_load (t := 49) rfl ?_); refine wpList_load_mid rfl 49 _ rfl w.heap.size 0 rfl [.int .i64 x.1, .string x.2.1, .string x.2.2.1, .string x.2.2.2.1, .string x.2.2.2.2.1, .string x.2.2.2.2.2.1, .slice A6 x.2.2.2.2.2.2.1.length c6, .string x.2.2.2.2.2.2.2.1.1, .int .i64 x.2.2.2.2.2.2.2.1.2.1, .slice A9 x.2.2.2.2.2.2.2.1.2.2.1.length c9, .int .i64 x.2.2.2.2.2.2.2.1.2.2.2.1, .int .i64 x.2.2.2.2.2.2.2.1.2.2.2.2.1, .string x.2.2.2.2.2.2.2.1.2.2.2.2.2.1, .string x.2.2.2.2.2.2.2.1.2.2.2.2.2.2.1, .string x.2.2.2.2.2.2.2.1.2.2.2.2.2.2.2, .int .i64 x.2.2.2.2.2.2.2.2.1, .bool x.2.2.2.2.2.2.2.2.2] _ HR.out Try.underlying49 rfl (by kernel_rfl) ?_))
    refine C2.out.mono ?_
    rintro e w2 ⟨v2, rfl, R2', hb2⟩
    obtain ⟨B2, d2, rfl, _, hC2⟩ := Kd.R_reads R2'
    have hx2 := (hb2.block _ (blk_lt HX1.out)).trans HX1.out
    have hb2' := HB1.out.trans (hb2.mono HB1.out.size)
    have hC1 := Kd.C_below HC1.out hb2
    have C3 := Lib.hid (ref_PutCommand x A6 c6 A9 c9 w2 (Kd.C_below h6 hb2') (Kd.C_below h9 hb2') hm)
    clear HR C2 HC1 HX1
    have HR := Lib.hid (range_blk [] [.int .i64 x.1, .string x.2.1, .string x.2.2.1, .string x.2.2.2.1, .string x.2.2.2.2.1, .string x.2.2.2.2.2.1, .slice A6 x.2.2.2.2.2.2.1.length c6, .string x.2.2.2.2.2.2.2.1.1, .int .i64 x.2.2.2.2.2.2.2.1.2.1, .slice A9 x.2.2.2.2.2.2.2.1.2.2.1.length c9, .int .i64 x.2.2.2.2.2.2.2.1.2.2.2.1, .int .i64 x.2.2.2.2.2.2.2.1.2.2.2.2.1, .string x.2.2.2.2.2.2.2.1.2.2.2.2.2.1, .string x.2.2.2.2.2.2.2.1.2.2.2.2.2.2.1, .string x.2.2.2.2.2.2.2.1.2.2.2.2.2.2.2, .int .i64 x.2.2.2.2.2.2.2.2.1, .bool x.2.2.2.2.2.2.2.2.2] [] hx2)
    have HC1 := Lib.hid hC1
    have HC2 := Lib.hid hC2
    have HB2 := Lib.hid hb2'
    clear hC1 hC2 R2' hb2 hb2' hx2 HB1
    go_wp2_with (((with_reducible refine gate_load (t := 49) rfl ?_); refine wpList_load_mid rfl 49 _ rfl w.heap.size 0 rfl [.int .i64 x.1, .string x.2.1, .string x.2.2.1, .string x.2.2.2.1, .string x.2.2.2.2.1, .string x.2.2.2.2.2.1, .slice A6 x.2.2.2.2.2.2.1.length c6, .string x.2.2.2.2.2.2.2.1.1, .int .i64 x.2.2.2.2.2.2.2.1.2.1, .slice A9 x.2.2.2.2.2.2.2.1.2.2.1.length c9, .int .i64 x.2.2.2.2.2.2.2.1.2.2.2.1, .int .i64 x.2.2.2.2.2.2.2.1.2.2.2.2.1, .string x.2.2.2.2.2.2.2.1.2.2.2.2.2.1, .string x.2.2.2.2.2.2.2.1.2.2.2.2.2.2.1, .string x.2.2.2.2.2.2.2.1.2.2.2.2.2.2.2, .int .i64 x.2.2.2.2.2.2.2.2.1, .bool x.2.2.2.2.2.2.2.2.2] _ HR.out Try.underlying49 rfl (by kernel_rfl) ?_))
    refine C3.out.mono ?_
    rintro e w3 ⟨v3, rfl, R3', hb3⟩
    obtain ⟨B3, d3, rfl, _, hC3⟩ := Kd.R_reads R3'
    have hb3' := HB2.out.trans (hb3.mono HB2.out.size)
    have hC1 := Kd.C_below HC1.out hb3
    have hC2 := Kd.C_below HC2.out hb3
    have C4 := Lib.hid (awake_true w3)
    clear HR C3 HC1 HC2
    have HC1 := Lib.hid hC1
    have HC2 := Lib.hid hC2
    have HC3 := Lib.hid hC3
    have HB3 := Lib.hid hb3'
    clear hC1 hC2 hC3 R3' hb3 hb3' HB2
    go_wp2_with fail
    refine C4.out.mono ?_
    rintro e w4 ⟨rfl, hb4⟩
    have s1 := Kd.C_string (c := d1) Try.underlying34 Try.underlying5 Try.underlying9 (Kd.C_below HC1.out hb4)
    have s2 := Kd.C_string (c := d2) Try.underlying34 Try.underlying5 Try.underlying9 (Kd.C_below HC2.out hb4)
    have s3 := Kd.C_string (c := d3) Try.underlying34 Try.underlying5 Try.underlying9 (Kd.C_below HC3.out hb4)
    have HB4 := Lib.hid (HB3.out.trans (hb4.mono HB3.out.size))
    clear HC1 HC2 HC3 HB3 hb4 C4 h6 h9 hm
    go_wp2
    refine bodyPost_ret (v := .bool true) (by rw [results_tmp Try.results6]; simp) rfl ⟨rfl, HB4.out⟩
end Go.Proofs.Ytoomcdgnnibjlaa.Wr
