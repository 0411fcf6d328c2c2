/- The law RaftlogLast, walked. -/
import Derived.Test.YtbjhjimkljbjlaaHBox
import Derived.Test.YtbjhjimkljbjlaaHLast
import Derived.Test.YtbjhjimkljbjlaaPAx1
import Derived.Test.YtbjhjimkljbjlaaPAx4
import Derived.Test.YtbjhjimkljbjlaaPAx6
namespace Go.Proofs.Ytbjhjimkljbjlaa.PA
open Go.RowKit Go.Proofs.YtbjhjimkljbjlaaW.PrintWords Go.Proofs.YtbjhjimkljbjlaaW.PrintLast

set_option maxRecDepth 100000 in
set_option maxHeartbeats 4000000 in
theorem lawLast_large (t v si st : Int) (A4 : Option Addr) (c4 : Nat) (l4 : List Int) (A5 : Option Addr) (c5 : Nat) (l5 : List Int) (da : ByteArray) (A7 : Option Addr) (c7 : Nat) (l7 : List S54) (w : World) (hL : LogIs w A4 c4 l4 A5 c5 l5 A7 c7 l7)
    (k : Nat) (h1 : folkmootlaw16_large.f k t v si st l4 l5 da l7 [] = some true) :
    Calls Try.prog 3 #[.agg #[.int .i64 t, .int .i64 v, .int .i64 si, .int .i64 st, .slice A4 l4.length c4, .slice A5 l5.length c5, .string da, .slice A7 l7.length c7]] w fun e w' => e = .returned (.bool true) ∧ Below w.heap.size w w' := by
  have cc1 : ∀ W, Below w.heap.size w W → Calls Try.prog 9 #[.agg #[.int .i64 t, .int .i64 v, .int .i64 si, .int .i64 st, .slice A4 l4.length c4, .slice A5 l5.length c5, .string da, .slice A7 l7.length c7], .slice none 0 0] W fun e w' => e = .returned (.bool true) ∧ Below W.heap.size W w' := fun W hb =>
    let H := hL.below hb
    folkmootlaw16_large.calls k _ _ _ _ _ _ _ _ _ _ _ _ _ _ none 0 [] true W H.r4 H.h4 H.r5 H.h5 H.r7 H.h7 ⟨rfl, by simp, fun h => absurd h (by simp)⟩ (by simp) h1
  have C1 := Lib.hid cc1
  clear cc1 h1
  go_enter Try.func3, Try.ntmps3
  go_wp2_with fail
  have b1 : Below w.heap.size w (w.alloc (.cells #[.int .i64 t, .int .i64 v, .int .i64 si, .int .i64 st, .slice A4 l4.length c4, .slice A5 l5.length c5, .string da, .slice A7 l7.length c7] 30)) := (Below.refl _ _).alloc (Nat.le_refl _) _
  refine (C1.out _ b1).mono ?_
  rintro e w1 ⟨rfl, hb1⟩
  have b2 := b1.trans (hb1.mono (by simp))
  clear hb1 b1
  go_wp2
  go_ret
  exact ⟨rfl, b2⟩

set_option maxRecDepth 100000 in
set_option maxHeartbeats 4000000 in
theorem lawLast_small (t v si st : Int) (A4 : Option Addr) (c4 : Nat) (l4 : List Int) (A5 : Option Addr) (c5 : Nat) (l5 : List Int) (da : ByteArray) (A7 : Option Addr) (c7 : Nat) (l7 : List S54) (w : World) (hL : LogIs w A4 c4 l4 A5 c5 l5 A7 c7 l7)
    (k : Nat) (n u e0 : Int) (on : Bool) (h1 : folkmootlaw16_large.f k t v si st l4 l5 da l7 [] = some false) (h2 : raftlog_Last.f t v si st l4 l5 da l7 = some (n, u)) (h3 : folkmootref16_Last.f k t v si st l4 l5 da l7 = some (n, u))
    (h4 : raftlog_Check.f k t v si st l4 l5 da l7 = some e0) (h5 : folkmootlaw16_lasts.f k = some true) (h6 : folkmootref16_On.f k t v si st l4 l5 da l7 = some on) (hon : (e0 = 0 ∧ on = true) ∨ (e0 = 1 ∧ on = false)) :
    Calls Try.prog 3 #[.agg #[.int .i64 t, .int .i64 v, .int .i64 si, .int .i64 st, .slice A4 l4.length c4, .slice A5 l5.length c5, .string da, .slice A7 l7.length c7]] w fun e w' => e = .returned (.bool true) ∧ Below w.heap.size w w' := by
  have cc1 : ∀ W, Below w.heap.size w W → Calls Try.prog 9 #[.agg #[.int .i64 t, .int .i64 v, .int .i64 si, .int .i64 st, .slice A4 l4.length c4, .slice A5 l5.length c5, .string da, .slice A7 l7.length c7], .slice none 0 0] W fun e w' => e = .returned (.bool false) ∧ Below W.heap.size W w' := fun W hb =>
    let H := hL.below hb
    folkmootlaw16_large.calls k _ _ _ _ _ _ _ _ _ _ _ _ _ _ none 0 [] false W H.r4 H.h4 H.r5 H.h5 H.r7 H.h7 ⟨rfl, by simp, fun h => absurd h (by simp)⟩ (by simp) h1
  have cc2 : ∀ W, Below w.heap.size w W → Calls Try.prog 10 #[.agg #[.int .i64 t, .int .i64 v, .int .i64 si, .int .i64 st, .slice A4 l4.length c4, .slice A5 l5.length c5, .string da, .slice A7 l7.length c7]] W fun e w' => e = .returned (.tuple #[.int .i64 n, .int .i64 u]) ∧ Below W.heap.size W w' := fun W hb =>
    let H := hL.below hb
    raftlog_Last.calls _ _ _ _ _ _ _ _ _ _ _ _ _ _ n u W H.r4 H.h4 H.r5 H.h5 H.r7 H.h7 h2
  have cc3 : ∀ W, Below w.heap.size w W → Calls Try.prog 11 #[.agg #[.int .i64 t, .int .i64 v, .int .i64 si, .int .i64 st, .slice A4 l4.length c4, .slice A5 l5.length c5, .string da, .slice A7 l7.length c7]] W fun e w' => e = .returned (.tuple #[.int .i64 n, .int .i64 u]) ∧ Below W.heap.size W w' := fun W hb =>
    let H := hL.below hb
    folkmootref16_Last.calls k _ _ _ _ _ _ _ _ _ _ _ _ _ _ n u W H.r4 H.h4 H.r5 H.h5 H.r7 H.h7 h3
  have cc4 : ∀ W, Below w.heap.size w W → Calls Try.prog 12 #[.agg #[.int .i64 t, .int .i64 v, .int .i64 si, .int .i64 st, .slice A4 l4.length c4, .slice A5 l5.length c5, .string da, .slice A7 l7.length c7]] W fun e w' => e = .returned (.int .i64 e0) ∧ Below W.heap.size W w' := fun W hb =>
    let H := hL.below hb
    raftlog_Check.calls k _ _ _ _ _ _ _ _ _ _ _ _ _ _ e0 W H.r4 H.h4 H.r5 H.h5 H.r7 H.h7 h4
  have cc5 : ∀ W, Calls Try.prog 13 #[] W fun e w' => e = .returned (.bool true) ∧ Below W.heap.size W w' := fun W =>
    folkmootlaw16_lasts.calls k true W h5
  have cc6 : ∀ W, Below w.heap.size w W → Calls Try.prog 14 #[.agg #[.int .i64 t, .int .i64 v, .int .i64 si, .int .i64 st, .slice A4 l4.length c4, .slice A5 l5.length c5, .string da, .slice A7 l7.length c7]] W fun e w' => e = .returned (.bool on) ∧ Below W.heap.size W w' := fun W hb =>
    let H := hL.below hb
    folkmootref16_On.calls k _ _ _ _ _ _ _ _ _ _ _ _ _ _ on W H.r4 H.h4 H.r5 H.h5 H.r7 H.h7 h6
  have C1 := Lib.hid cc1
  have C2 := Lib.hid cc2
  have C3 := Lib.hid cc3
  have C4 := Lib.hid cc4
  have C5 := Lib.hid cc5
  have C6 := Lib.hid cc6
  clear cc1 h1 cc2 h2 cc3 h3 cc4 h4 cc5 h5 cc6 h6
  rcases hon with ⟨rfl, rfl⟩ | ⟨rfl, rfl⟩
  all_goals
    go_enter Try.func3, Try.ntmps3
    go_wp2_with fail
    have b1 : Below w.heap.size w (w.alloc (.cells #[.int .i64 t, .int .i64 v, .int .i64 si, .int .i64 st, .slice A4 l4.length c4, .slice A5 l5.length c5, .string da, .slice A7 l7.length c7] 30)) := (Below.refl _ _).alloc (Nat.le_refl _) _
    have k1 : (w.alloc (.cells #[.int .i64 t, .int .i64 v, .int .i64 si, .int .i64 st, .slice A4 l4.length c4, .slice A5 l5.length c5, .string da, .slice A7 l7.length c7] 30)).heap[w.heap.size]? = some (.cells #[.int .i64 t, .int .i64 v, .int .i64 si, .int .i64 st, .slice A4 l4.length c4, .slice A5 l5.length c5, .string da, .slice A7 l7.length c7] 30) := World.alloc_heap_new w _
    refine (C1.out _ b1).mono ?_
    rintro e w1 ⟨rfl, hb1⟩
    have b2 := b1.trans (hb1.mono (by simp))
    have k2 := (hb1.block _ (by simp)).trans k1
    clear hb1 b1 k1
    obtain ⟨q0, q1, q2, q3, q4, q5, q6, q7⟩ := cells8 k2
    go_wp2_with fail
    refine (C2.out _ b2).mono ?_
    rintro e w2 ⟨rfl, hb1⟩
    have b3 := b2.trans (hb1.mono b2.size)
    have k3 := (hb1.block _ (blk_lt k2)).trans k2
    clear q0 q1 q2 q3 q4 q5 q6 q7 hb1 b2 k2
    obtain ⟨q0, q1, q2, q3, q4, q5, q6, q7⟩ := cells8 k3
    go_wp2_with fail
    refine (C3.out _ b3).mono ?_
    rintro e w3 ⟨rfl, hb1⟩
    have b4 := b3.trans (hb1.mono b3.size)
    have k4 := (hb1.block _ (blk_lt k3)).trans k3
    clear q0 q1 q2 q3 q4 q5 q6 q7 hb1 b3 k3
    obtain ⟨q0, q1, q2, q3, q4, q5, q6, q7⟩ := cells8 k4
    go_wp2_with fail
    refine (C4.out _ b4).mono ?_
    rintro e w4 ⟨rfl, hb1⟩
    have b5 := b4.trans (hb1.mono b4.size)
    have k5 := (hb1.block _ (blk_lt k4)).trans k4
    clear q0 q1 q2 q3 q4 q5 q6 q7 hb1 b4 k4
    go_wp2_with fail
    refine (C5.out _).mono ?_
    rintro e w5 ⟨rfl, hb1⟩
    have b6 := b5.trans (hb1.mono b5.size)
    have k6 := (hb1.block _ (blk_lt k5)).trans k5
    clear hb1 b5 k5
    obtain ⟨q0, q1, q2, q3, q4, q5, q6, q7⟩ := cells8 k6
    go_wp2_with fail
    refine (C6.out _ b6).mono ?_
    rintro e w6 ⟨rfl, hb1⟩
    have b7 := b6.trans (hb1.mono b6.size)
    clear q0 q1 q2 q3 q4 q5 q6 q7 hb1 b6 k6
    go_wp2
    go_ret
    exact ⟨rfl, b7⟩
end Go.Proofs.Ytbjhjimkljbjlaa.PA
