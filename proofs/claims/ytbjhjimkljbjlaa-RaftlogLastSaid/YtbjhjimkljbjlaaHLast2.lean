/- RaftlogLast: for every log that is read the call returns true. -/
import Derived.Test.YtbjhjimkljbjlaaHPure
import Derived.Test.YtbjhjimkljbjlaaHLawLast
namespace Go.Proofs.Ytbjhjimkljbjlaa.PA
open Go.RowKit Go.Proofs.YtbjhjimkljbjlaaW.PrintWords Go.Proofs.YtbjhjimkljbjlaaW.PrintLast

theorem lasts_true (k : Nat) (hk : 5 ≤ k) : folkmootlaw16_lasts.f k = some true := by
  simp only [folkmootlaw16_lasts.f, folkmootlaw16_one.f, Option.bind_some, raftlog_Last.f, chk_one, if_true, lastP, List.getLast?_cons_cons, List.getLast?_singleton]
  rw [check_eq k _ _ _ _ _ _ _ _ (by simpa using hk), chk_one]
  rfl

theorem law3 (t v si st : Int) (A4 : Option Addr) (c4 : Nat) (l4 : List Int) (A5 : Option Addr) (c5 : Nat) (l5 : List Int) (da : ByteArray) (A7 : Option Addr) (c7 : Nat) (l7 : List S54) (w : World) (hL : LogIs w A4 c4 l4 A5 c5 l5 A7 c7 l7) :
    Calls Try.prog 3 #[.agg #[.int .i64 t, .int .i64 v, .int .i64 si, .int .i64 st, .slice A4 l4.length c4, .slice A5 l5.length c5, .string da, .slice A7 l7.length c7]] w fun e w' => e = .returned (.bool true) ∧ Below w.heap.size w w' := by
  have hs : l7.length ≤ 9223372036854775807 := hL.r7.2.1
  obtain ⟨b, hb⟩ := large_some (l7.length + 5) t v si st l4 l5 da l7 [] hs (by simp) (by simp)
  cases b with
  | true => exact lawLast_large t v si st A4 c4 l4 A5 c5 l5 da A7 c7 l7 w hL _ hb
  | false =>
    have h4 := check_eq (l7.length + 5) t v si st l4 l5 da l7 (by omega)
    have h6 := on_eq (l7.length + 5) t v si st l4 l5 da l7 (by omega)
    have h3 := refLast_eq (l7.length + 5) t v si st l4 l5 da l7 (by omega) hs
    refine lawLast_small t v si st A4 c4 l4 A5 c5 l5 da A7 c7 l7 w hL _ (if chk si l7 = true then lastP si st l7 else (0, 0)).1 (if chk si l7 = true then lastP si st l7 else (0, 0)).2 _ _ hb rfl h3 h4 (lasts_true _ (by omega)) h6 ?_
    cases chk si l7 <;> simp
end Go.Proofs.Ytbjhjimkljbjlaa.PA
