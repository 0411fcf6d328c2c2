/- Small words: a boxed log's cells. -/
import Derived.Test.YtbjhjimkljbjlaaHChk
import Derived.Test.YtbjhjimkljbjlaaHIter
import Derived.Lib.Hide
namespace Go.Proofs.Ytbjhjimkljbjlaa.PA
open Go.RowKit Go.Proofs.YtbjhjimkljbjlaaW.PrintWords Go.Proofs.YtbjhjimkljbjlaaW.PrintLast

theorem cells8 {w : World} {g t : Nat} {v0 v1 v2 v3 v4 v5 v6 v7 : Value} (h : w.heap[g]? = some (.cells #[v0, v1, v2, v3, v4, v5, v6, v7] t (0, 0))) :
    w.cell? ⟨g, 0, none⟩ = some v0 ∧ w.cell? ⟨g, 1, none⟩ = some v1 ∧ w.cell? ⟨g, 2, none⟩ = some v2 ∧ w.cell? ⟨g, 3, none⟩ = some v3 ∧ w.cell? ⟨g, 4, none⟩ = some v4 ∧ w.cell? ⟨g, 5, none⟩ = some v5 ∧ w.cell? ⟨g, 6, none⟩ = some v6 ∧ w.cell? ⟨g, 7, none⟩ = some v7 := by
  simp [World.cell?, h]

/-- A log as an argument: its value, and that it reads as this. -/
def logV (t v si st : Int) (A4 : Option Addr) (n4 c4 : Nat) (A5 : Option Addr) (n5 c5 : Nat) (da : ByteArray) (A7 : Option Addr) (n7 c7 : Nat) : Array Value :=
  #[.int .i64 t, .int .i64 v, .int .i64 si, .int .i64 st, .slice A4 n4 c4, .slice A5 n5 c5, .string da, .slice A7 n7 c7]
structure LogIs (w : World) (A4 : Option Addr) (c4 : Nat) (l4 : List Int) (A5 : Option Addr) (c5 : Nat) (l5 : List Int) (A7 : Option Addr) (c7 : Nat) (l7 : List S54) : Prop where
  r4 : Kd.C (Kd.int .i64) w A4 l4.length l4
  h4 : l4.length ≤ c4
  r5 : Kd.C (Kd.int .i64) w A5 l5.length l5
  h5 : l5.length ≤ c5
  r7 : Kd.C k54 w A7 l7.length l7
  h7 : l7.length ≤ c7
theorem LogIs.below {w W : World} {A4 : Option Addr} {c4 : Nat} {l4 : List Int} {A5 : Option Addr} {c5 : Nat} {l5 : List Int} {A7 : Option Addr} {c7 : Nat} {l7 : List S54}
    (h : LogIs w A4 c4 l4 A5 c5 l5 A7 c7 l7) (hb : Below w.heap.size w W) : LogIs W A4 c4 l4 A5 c5 l5 A7 c7 l7 :=
  ⟨Kd.C_below h.r4 hb, h.h4, Kd.C_below h.r5 hb, h.h5, Kd.C_below h.r7 hb, h.h7⟩
end Go.Proofs.Ytbjhjimkljbjlaa.PA
