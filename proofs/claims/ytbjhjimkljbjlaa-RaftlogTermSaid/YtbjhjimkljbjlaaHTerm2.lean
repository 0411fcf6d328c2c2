/- RaftlogTerm: for every log and number the call returns true. -/
import Derived.Test.YtbjhjimkljbjlaaHPureTerm
import Derived.Test.YtbjhjimkljbjlaaPAx10
namespace Go.Proofs.Ytbjhjimkljbjlaa.PA
open Go.RowKit Go.Proofs.YtbjhjimkljbjlaaW.PrintWords Go.Proofs.YtbjhjimkljbjlaaW.PrintLast

theorem law4 (t v si st : Int) (A4 : Option Addr) (c4 : Nat) (l4 : List Int) (A5 : Option Addr) (c5 : Nat) (l5 : List Int) (da : ByteArray) (A7 : Option Addr) (c7 : Nat) (l7 : List S54) (a1 : Int) (w : World) (hL : LogIs w A4 c4 l4 A5 c5 l5 A7 c7 l7) (hw : ∀ e ∈ l7, entWf e) :
    Calls Try.prog 4 #[.agg #[.int .i64 t, .int .i64 v, .int .i64 si, .int .i64 st, .slice A4 l4.length c4, .slice A5 l5.length c5, .string da, .slice A7 l7.length c7], .int .i64 a1] w fun e w' => e = .returned (.bool true) ∧ Below w.heap.size w w' := by
  have hs : l7.length ≤ 9223372036854775807 := hL.r7.2.1
  obtain ⟨b, hb⟩ := large_some (l7.length + 5) t v si st l4 l5 da l7 [] hs (by simp) (by simp)
  have h : folkmootlaw16_RaftlogTerm.f (l7.length + 5) t v si st l4 l5 da l7 a1 = some true := by
    simp only [folkmootlaw16_RaftlogTerm.f, hb, Option.bind_some, raftlog_Term.f, refTerm_eq (l7.length + 5) t v si st l4 l5 da l7 a1 (by omega) hs hw, terms_true, if_true]
    cases b <;> simp
  exact folkmootlaw16_RaftlogTerm.calls _ _ _ _ _ _ _ _ _ _ _ _ _ _ _ _ true w hL.r4 hL.h4 hL.r5 hL.h5 hL.r7 hL.h7 h
end Go.Proofs.Ytbjhjimkljbjlaa.PA
