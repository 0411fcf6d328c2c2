/- For every machine that can be read, of bulk at most 1048576, the law WireMachines (the program's bytes and fault are the document's) answers true and leaves its argument as it was. The bulk is the one condition. -/
import Derived.Test.YtoomcdgnnibjlaaRows
import Derived.Test.YtoomcdgnnibjlaaMma
import Derived.Test.YtoomcdgnnibjlaaMmc
import Derived.ProofKit
import Derived.OpenShut
import Derived.ShutString
import Derived.ChangeOld
import Derived.JoinedOf
import Derived.JoinedAt
import Derived.JoinedCond
namespace Go.Proofs.Ytoomcdgnnibjlaa.wireMachinesUpto
open Go.ChangeShapes Go.WideShapes Go.ChangeAt Go.RowKit
theorem own : ownKnob Try.prog.godebug = none := by kernel_rfl
theorem laidOut : laidOutB Try.prog = true := by kernel_rfl
set_option maxHeartbeats 1600000 in
set_option maxRecDepth 100000 in
theorem lifted (os : Os) (started : os.Started) (H : Type) (enc : TypeId × Value → H) (F0 : Stop.Interp) :
    ReturnsInHanded {} Try.checked os 11 .any ((Rows.OpenSpec.upto Rows.wireMachinesSpec).pre6 enc Try.prog Try.f11 Rows.wireMachinesUptoRow.domain false) (((Rows.OpenSpec.upto Rows.wireMachinesSpec).at F0).post enc Try.prog Try.f11 false true false false) := by
  refine returnsInHanded_of_cond (C := Try.checked) (s := (Rows.OpenSpec.upto Rows.wireMachinesSpec)) (k := Rows.uptoSmall) rfl own started (by kernel_rfl) Try.func11
    (OpenSpec.witness (enc := enc) (C := Try.checked) (s := (Rows.OpenSpec.upto Rows.wireMachinesSpec)) (k := Rows.uptoSmall) rfl false ⟨#[], #[.agg #[.int .i64 0, .int .i64 0, .slice none 0 0, .slice none 0 0, .slice none 0 0, .slice none 0 0, .slice none 0 0, .slice none 0 0, .slice none 0 0, .int .i64 0]], []⟩ 8 (by kernel_rfl) (by kernel_rfl) (by kernel_rfl) (x := ([.agg [.agg [.lit (.int .i64 0), .lit (.int .i64 0), .agg [.nil, .nil], .agg [.nil, .nil], .nil], .nil, .nil, .lit (.int .i64 0)]], [], [])) (by kernel_rfl) (by kernel_rfl) (by kernel_rfl)) ?_
  intro W base args ds gs before hval0 hW _ hk0 _
  have hval : ∀ (j : Nat) t v, Try.f11.params[j]? = some t → args[j]? = some v → Value.okWide Try.prog W .any base t v := hval0
  have hW' := hW
  obtain ⟨p, q, hA0, hV, rfl, hfz, hnd⟩ := hW
  have hA : DataW.TrodAll enc Try.prog W 0 (fun _ => true) true Try.f11.params.toList args.toList ds p := hA0
  rw [Try.params11] at hA hval
  obtain ⟨v0, vs0, d0, ds0, p0, q0, hargs, rfl, rfl, h0, r0⟩ := trodAll_cons hA
  obtain ⟨rfl, rfl, rfl⟩ := trodAll_nil r0
  obtain rfl : args = #[v0] := by cases args; simp_all
  obtain ⟨rfl, rfl⟩ := trodVars_none hV
  have hk1 : Rows.uptoBulkAll [d0] ≤ 1048576 := of_decide_eq_true (by simpa [Rows.uptoSmall] using hk0)
  simp only [Rows.uptoBulkAll, Nat.add_zero] at hk1
  have k0 := h0
  have lt0 : ∀ x ∈ p0, x.block < W.heap.size := by obtain ⟨m, hm⟩ := k0; exact DataW.trod_lt m _ _ _ hm
  obtain ⟨x, A2, c2, A3, c3, A4, c4, A5, c5, A6, c6, A7, c7, A8, c8, rfl, hV, hw, l2, h2, l3, h3, l4, h4, l5, h5, l6, h6, l7, h7, l8, h8⟩ := Wr.argwMachine (hval 0 82 v0 rfl rfl) h0
  clear hA0 hval0 hk0
  have hm : Wr.wMachine x < 140737488355328 := by omega
  refine (Wr.law_WireMachines x A2 c2 A3 c3 A4 c4 A5 c5 A6 c6 A7 c7 A8 c8 W h2 h3 h4 h5 h6 h7 h8 hm).mono fun e W' ⟨he, bel⟩ => ?_
  subst he
  exact ⟨_, rfl, _, _, _, [], _, [], hW', trodAll_mk1 (shut_bool Try.underlying4 _), (trodAll_cons_mk (Below.trod laidOut (by kernel_rfl) (of_decide_eq_true (by kernel_rfl)) k0 bel lt0) trodAll_mk0), rfl, bel.frame _, fun h => by cases h⟩
theorem over : Rows.wireMachinesUptoRow.holds Try.pinned (Rows.OpenSpec.upto Rows.wireMachinesSpec) :=
  OpenClaim.holds_of_cond 11 Try.f11 rfl rfl rfl rfl rfl rfl rfl ⟨rfl, rfl, rfl, rfl, rfl⟩ rfl rfl rfl rfl rfl (by kernel_rfl) Try.func11 (by kernel_rfl)
    (of_decide_eq_true (by kernel_rfl)) (by unfold Func.isWrapper; first | (rw [if_pos (by decide +kernel)]; kernel_rfl) | (rw [if_neg (by decide +kernel)]; exact ⟨rfl, rfl⟩))
    (fun os started H enc _ F0 => lifted os started H enc F0)
theorem proved : Rows.WireMachinesUptoSaid := over
#print axioms proved
end Go.Proofs.Ytoomcdgnnibjlaa.wireMachinesUpto
namespace Go.Proofs.Ytoomcdgnnibjlaa
/-- The row, under a short name, for the claim. -/
theorem wireMachinesUpto_holds : Rows.WireMachinesUptoSaid := wireMachinesUpto.proved
end Go.Proofs.Ytoomcdgnnibjlaa
