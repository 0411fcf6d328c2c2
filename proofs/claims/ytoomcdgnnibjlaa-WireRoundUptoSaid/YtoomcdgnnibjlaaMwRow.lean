/- For every op, record and catalog that can be read, of bulk at most 1048576 together, the law WireRound (what is written and read comes back the same) answers true and leaves its arguments as they were. The bulk is the one condition. -/
import Derived.Test.YtoomcdgnnibjlaaRows
import Derived.Test.YtoomcdgnnibjlaaMwa
import Derived.Test.YtoomcdgnnibjlaaMwc
import Derived.ProofKit
import Derived.OpenShut
import Derived.ShutString
import Derived.ChangeOld
import Derived.JoinedOf
import Derived.JoinedAt
import Derived.JoinedCond
namespace Go.Proofs.Ytoomcdgnnibjlaa.wireRoundUpto
open Go.ChangeShapes Go.WideShapes Go.ChangeAt Go.RowKit
theorem own : ownKnob Try.prog.godebug = none := by kernel_rfl
theorem laidOut : laidOutB Try.prog = true := by kernel_rfl
set_option maxHeartbeats 1600000 in
set_option maxRecDepth 100000 in
theorem lifted (os : Os) (started : os.Started) (H : Type) (enc : TypeId × Value → H) (F0 : Stop.Interp) :
    ReturnsInHanded {} Try.checked os 12 .any ((Rows.OpenSpec.upto Rows.wireRoundSpec).pre6 enc Try.prog Try.f12 Rows.wireRoundUptoRow.domain false) (((Rows.OpenSpec.upto Rows.wireRoundSpec).at F0).post enc Try.prog Try.f12 false true false false) := by
  refine returnsInHanded_of_cond (C := Try.checked) (s := (Rows.OpenSpec.upto Rows.wireRoundSpec)) (k := Rows.uptoSmall) rfl own started (by kernel_rfl) Try.func12
    (OpenSpec.witness (enc := enc) (C := Try.checked) (s := (Rows.OpenSpec.upto Rows.wireRoundSpec)) (k := Rows.uptoSmall) rfl false ⟨#[], #[.agg #[.int .i64 0, .int .i64 0, .int .i64 0, .int .i64 0, .string ByteArray.empty, .string ByteArray.empty, .string ByteArray.empty, .string ByteArray.empty, .string ByteArray.empty, .slice none 0 0, .string ByteArray.empty, .int .i64 0, .slice none 0 0, .int .i64 0, .int .i64 0, .string ByteArray.empty, .string ByteArray.empty, .string ByteArray.empty, .int .i64 0, .bool false, .int .i64 0, .int .i64 0, .int .i64 0], .agg #[.int .i64 0, .int .i64 0, .int .i64 0, .int .i64 0, .int .i64 0, .int .i64 0, .slice none 0 0, .slice none 0 0, .string ByteArray.empty, .int .i64 0, .int .i64 0, .int .i64 0, .slice none 0 0, .slice none 0 0, .string ByteArray.empty], .agg #[.int .i64 0, .int .i64 0, .slice none 0 0, .slice none 0 0, .slice none 0 0, .slice none 0 0, .slice none 0 0]], []⟩ 8 (by kernel_rfl) (by kernel_rfl) (by kernel_rfl) (x := ([.agg [.lit (.int .i64 0), .lit (.int .i64 0), .lit (.int .i64 0), .agg [.lit (.int .i64 0), .lit (.string []), .lit (.string []), .lit (.string []), .lit (.string []), .lit (.string []), .nil, .agg [.lit (.string []), .lit (.int .i64 0), .nil, .lit (.int .i64 0), .lit (.int .i64 0), .lit (.string []), .lit (.string []), .lit (.string [])], .lit (.int .i64 0), .lit (.bool false)], .lit (.int .i64 0), .lit (.int .i64 0), .lit (.int .i64 0)], .agg [.lit (.int .i64 0), .lit (.int .i64 0), .lit (.int .i64 0), .agg [.lit (.int .i64 0), .lit (.int .i64 0), .lit (.int .i64 0), .agg [.nil, .nil], .lit (.string [])], .lit (.int .i64 0), .agg [.lit (.int .i64 0), .lit (.int .i64 0), .agg [.nil, .nil], .lit (.string [])]], .agg [.lit (.int .i64 0), .lit (.int .i64 0), .agg [.nil, .nil], .agg [.nil, .nil], .nil]], [], [])) (by kernel_rfl) (by kernel_rfl) (by kernel_rfl)) ?_
  intro W base args ds gs before hval0 hW _ hk0 _
  have hval : ∀ (j : Nat) t v, Try.f12.params[j]? = some t → args[j]? = some v → Value.okWide Try.prog W .any base t v := hval0
  have hW' := hW
  obtain ⟨p, q, hA0, hV, rfl, hfz, hnd⟩ := hW
  have hA : DataW.TrodAll enc Try.prog W 0 (fun _ => true) true Try.f12.params.toList args.toList ds p := hA0
  rw [Try.params12] at hA hval
  obtain ⟨v0, vs0, d0, ds0, p0, q0, hargs, rfl, rfl, h0, r0⟩ := trodAll_cons hA
  obtain ⟨v1, vs1, d1, ds1, p1, q1, rfl, rfl, rfl, h1, r1⟩ := trodAll_cons r0
  obtain ⟨v2, vs2, d2, ds2, p2, q2, rfl, rfl, rfl, h2, r2⟩ := trodAll_cons r1
  obtain ⟨rfl, rfl, rfl⟩ := trodAll_nil r2
  obtain rfl : args = #[v0, v1, v2] := by cases args; simp_all
  obtain ⟨rfl, rfl⟩ := trodVars_none hV
  have hk1 : Rows.uptoBulkAll [d0, d1, d2] ≤ 1048576 := of_decide_eq_true (by simpa [Rows.uptoSmall] using hk0)
  simp only [Rows.uptoBulkAll, Nat.add_zero] at hk1
  have k0 := h0
  have lt0 : ∀ x ∈ p0, x.block < W.heap.size := by obtain ⟨m, hm⟩ := k0; exact DataW.trod_lt m _ _ _ hm
  obtain ⟨x1, A1_9, c1_9, A1_12, c1_12, rfl, hV1, l1_9, h1_9, l1_12, h1_12⟩ := Wr.argOp (hval 0 51 v0 rfl rfl) h0
  have k1 := h1
  have lt1 : ∀ x ∈ p1, x.block < W.heap.size := by obtain ⟨m, hm⟩ := k1; exact DataW.trod_lt m _ _ _ hm
  obtain ⟨x2, A2_6, c2_6, A2_7, c2_7, A2_12, c2_12, A2_13, c2_13, rfl, hV2, l2_6, h2_6, l2_7, h2_7, l2_12, h2_12, l2_13, h2_13⟩ := Wr.argRecord (hval 1 33 v1 rfl rfl) h1
  have k2 := h2
  have lt2 : ∀ x ∈ p2, x.block < W.heap.size := by obtain ⟨m, hm⟩ := k2; exact DataW.trod_lt m _ _ _ hm
  obtain ⟨x3, A3_2, c3_2, A3_3, c3_3, A3_4, c3_4, A3_5, c3_5, A3_6, c3_6, rfl, hV3, hw, l3_2, h3_2, l3_3, h3_3, l3_4, h3_4, l3_5, h3_5, l3_6, h3_6⟩ := Wr.argwCatalog (hval 2 74 v2 rfl rfl) h2
  clear hA0 hval0 hk0
  have hm : Wr.wCatalog x3 < 140737488355328 := by omega
  refine (Wr.law_WireRound x1 x2 x3 A1_9 c1_9 A1_12 c1_12 A2_6 c2_6 A2_7 c2_7 A2_12 c2_12 A2_13 c2_13 A3_2 c3_2 A3_3 c3_3 A3_4 c3_4 A3_5 c3_5 A3_6 c3_6 W h1_9 h1_12 h2_6 h2_7 h2_12 h2_13 h3_2 h3_3 h3_4 h3_5 h3_6 hV1 hV2 hV3 hm).mono fun e W' ⟨he, bel⟩ => ?_
  subst he
  exact ⟨_, rfl, _, _, _, [], _, [], hW', trodAll_mk1 (shut_bool Try.underlying4 _), (trodAll_cons_mk (Below.trod laidOut (by kernel_rfl) (of_decide_eq_true (by kernel_rfl)) k0 bel lt0) (trodAll_cons_mk (Below.trod laidOut (by kernel_rfl) (of_decide_eq_true (by kernel_rfl)) k1 bel lt1) (trodAll_cons_mk (Below.trod laidOut (by kernel_rfl) (of_decide_eq_true (by kernel_rfl)) k2 bel lt2) trodAll_mk0))), rfl, bel.frame _, fun h => by cases h⟩
theorem over : Rows.wireRoundUptoRow.holds Try.pinned (Rows.OpenSpec.upto Rows.wireRoundSpec) :=
  OpenClaim.holds_of_cond 12 Try.f12 rfl rfl rfl rfl rfl rfl rfl ⟨rfl, rfl, rfl, rfl, rfl⟩ rfl rfl rfl rfl rfl (by kernel_rfl) Try.func12 (by kernel_rfl)
    (of_decide_eq_true (by kernel_rfl)) (by unfold Func.isWrapper; first | (rw [if_pos (by decide +kernel)]; kernel_rfl) | (rw [if_neg (by decide +kernel)]; exact ⟨rfl, rfl⟩))
    (fun os started H enc _ F0 => lifted os started H enc F0)
theorem proved : Rows.WireRoundUptoSaid := over
#print axioms proved
end Go.Proofs.Ytoomcdgnnibjlaa.wireRoundUpto
namespace Go.Proofs.Ytoomcdgnnibjlaa
/-- The row, under a short name, for the claim. -/
theorem wireRoundUpto_holds : Rows.WireRoundUptoSaid := wireRoundUpto.proved
end Go.Proofs.Ytoomcdgnnibjlaa
