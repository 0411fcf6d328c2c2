/- RaftlogNewer: for every log and numbers the call returns true. -/
import Derived.Test.YtbjhjimkljbjlaaHPure
import Derived.Test.YtbjhjimkljbjlaaHBox
import Derived.Test.YtbjhjimkljbjlaaPAx14
namespace Go.Proofs.Ytbjhjimkljbjlaa.PA
open Go.RowKit Go.Proofs.YtbjhjimkljbjlaaW.PrintWords Go.Proofs.YtbjhjimkljbjlaaW.PrintLast

theorem newer_true (k : Nat) (hk : 5 ≤ k) : folkmootlaw16_newer.f k = some true := by
  simp only [folkmootlaw16_newer.f, folkmootlaw16_one.f, Option.bind_some, raftlog_Newer.f, raftlog_Last.f, chk_one, if_true, lastP, List.getLast?_cons_cons, List.getLast?_singleton]
  rw [check_eq k _ _ _ _ _ _ _ _ (by simpa using hk), chk_one]
  simp

theorem law5 (t v si st : Int) (A4 : Option Addr) (c4 : Nat) (l4 : List Int) (A5 : Option Addr) (c5 : Nat) (l5 : List Int) (da : ByteArray) (A7 : Option Addr) (c7 : Nat) (l7 : List S54) (a1 a2 : Int) (w : World) (hL : LogIs w A4 c4 l4 A5 c5 l5 A7 c7 l7) :
    Calls Try.prog 5 #[.agg #[.int .i64 t, .int .i64 v, .int .i64 si, .int .i64 st, .slice A4 l4.length c4, .slice A5 l5.length c5, .string da, .slice A7 l7.length c7], .int .i64 a1, .int .i64 a2] w fun e w' => e = .returned (.bool true) ∧ Below w.heap.size w w' := by
  have hs : l7.length ≤ 9223372036854775807 := hL.r7.2.1
  obtain ⟨b, hb⟩ := large_some (l7.length + 5) t v si st l4 l5 da l7 [] hs (by simp) (by simp)
  have h : folkmootlaw16_RaftlogNewer.f (l7.length + 5) t v si st l4 l5 da l7 a1 a2 = some true := by
    simp only [folkmootlaw16_RaftlogNewer.f, hb, Option.bind_some, newer_true (l7.length + 5) (by omega), raftlog_Newer.f, raftlog_Last.f, folkmootref16_Newer.f, check_eq (l7.length + 5) t v si st l4 l5 da l7 (by omega),
      refLast_eq (l7.length + 5) t v si st l4 l5 da l7 (by omega) hs, on_eq (l7.length + 5) t v si st l4 l5 da l7 (by omega), if_true]
    cases b
    · cases chk si l7
      · simp
      · simp only [if_true, Bool.false_eq_true, if_false]
        split
        · simp
        · split <;> simp
    · simp
  exact folkmootlaw16_RaftlogNewer.calls _ _ _ _ _ _ _ _ _ _ _ _ _ _ _ _ _ true w hL.r4 hL.h4 hL.r5 hL.h5 hL.r7 hL.h7 h
end Go.Proofs.Ytbjhjimkljbjlaa.PA
