-- WRITTEN BY hookprint.py (a program of this session, over the kit's print.py): not typed by hand
import Derived.Test.YtbjhjimkljbjlaaProg
import Derived.Below
import Derived.Deep.Draws
import Derived.Deep.AppendLies
import Derived.Maps.AppendAt
import Derived.OwnWalk
import Derived.Laws.BytesArg
import Derived.Laws.MakeOwn
import Derived.Laws.OwnMore
import Derived.Deep.OwnRows
import Derived.Tactics
import Derived.Lib.ConvBytes
import Derived.Laws.Slices
import Derived.WalkKit
import Derived.KernelRfl
import Derived.RowKit3
import Derived.Deep.LoopGhost
import Derived.Deep.QuietTactic
import Derived.BigQuiet
import Derived.WideLaws
import Derived.Deep.DeepCutAuto
import Derived.Deep.CutBlock
import Derived.Deep.RegionHeld3
import Derived.Laws.Rows
import Derived.Lib.AppendStr
import Derived.ArgAppend
import Derived.Laws.IdiomCopy
import Derived.OrdersHeld
import Derived.Laws.BitsLemmas
import Derived.RowKit
import Derived.Test.YtbjhjimkljbjlaaWWords
import Derived.Test.YtbjhjimkljbjlaaWLast
import Derived.Test.YtbjhjimkljbjlaaWTab
import Derived.Test.YtbjhjimkljbjlaaWFour
import Derived.Test.YtbjhjimkljbjlaaWQPut
import Derived.Test.YtbjhjimkljbjlaaWApart
import Derived.Test.YtbjhjimkljbjlaaWArr
import Derived.Test.YtbjhjimkljbjlaaWZeros
import Derived.Test.YtbjhjimkljbjlaaWFoot
import Derived.Test.YtbjhjimkljbjlaaWKept
import Derived.Test.YtbjhjimkljbjlaaWShare
import Derived.Test.YtbjhjimkljbjlaaWN
import Derived.Test.YtbjhjimkljbjlaaWFootNe
import Derived.Test.YtbjhjimkljbjlaaWAt
import Derived.Test.YtbjhjimkljbjlaaWEqStruct
import Derived.Test.YtbjhjimkljbjlaaWRepsOne
import Derived.Test.YtbjhjimkljbjlaaWInv
import Derived.Test.YtbjhjimkljbjlaaWInvWords
import Derived.Test.YtbjhjimkljbjlaaWGuard
import Derived.Test.YtbjhjimkljbjlaaWNEv
import Derived.Test.YtbjhjimkljbjlaaWMore
namespace Go.Proofs.Ytbjhjimkljbjlaa.PA
open Go.RowKit Go.Proofs.YtbjhjimkljbjlaaW.PrintWords Go.Proofs.YtbjhjimkljbjlaaW.PrintLast Go.Proofs.YtbjhjimkljbjlaaW.PrintMore
attribute [local go_sem] max2_int min2_int max_two min_two max_three min_three max_four min_four   -- for this text's walks alone
set_option linter.unusedVariables false
set_option linter.unusedSimpArgs false



def errW : Option Int → Value
  | none => .nilIface
  | some c => .iface 0 (.int .i64 c)
theorem errW_none : errW none = .nilIface := rfl
theorem errW_some (c : Int) : errW (some c) = .iface 0 (.int .i64 c) := rfl

theorem info3 : (Try.prog.info? 3).map (fun i => (i.zero, i.size, i.bytes)) = some (some (.int .i64 0), 1, 8) := by kernel_rfl
theorem info5 : (Try.prog.info? 5).map (fun i => (i.zero, i.size, i.bytes)) = some (some (.int .u8 0), 1, 1) := by kernel_rfl
theorem info54 : (Try.prog.info? 54).map (fun i => (i.zero, i.size, i.bytes)) = some (some (.agg #[(.int .i64 0), (.int .i64 0), (.int .i64 0), (.slice none 0 0), (.slice none 0 0), (.string ⟨#[]⟩)]), 6, 88) := by kernel_rfl
theorem info57 : (Try.prog.info? 57).map (fun i => (i.zero, i.size, i.bytes)) = some (some (.agg #[(.int .i64 0), (.int .i64 0), (.int .i64 0), (.int .i64 0), (.int .i64 0), (.int .i64 0), (.slice none 0 0), (.slice none 0 0), (.string ⟨#[]⟩), (.int .i64 0), (.int .i64 0), (.int .i64 0), (.slice none 0 0), (.slice none 0 0), (.string ⟨#[]⟩)]), 15, 200) := by kernel_rfl
-- the values' own types
def rd_L1 (xs : List (List Int)) (i : Int) : (List Int) := xs.getD i.toNat ([] : List Int)
theorem at_L1 {w : World} {A : Option Addr} {n : Nat} {xs : List (List Int)} (h : Kd.C (Kd.slice 3 (Kd.int .i64)) w A n xs) (i : Int) (h0 : 0 ≤ i) (h1 : i < n) : ∃ ad A0 c0, A = some ad ∧ w.cell? (ad.add i.toNat) = some (.slice A0 (rd_L1 xs i).length c0) ∧ (rd_L1 xs i).length ≤ c0 ∧ (Kd.int .i64).C w A0 (rd_L1 xs i).length (rd_L1 xs i) := by
  obtain ⟨ad, c, e, _, hK, hc0⟩ := Kd.C_get h ([] : List Int) i h0 h1
  have hc : ∀ j u, c[j]? = some u → w.cell? (ad.add (i.toNat * 1 + j)) = some u := hc0
  obtain ⟨A0, c0, rfl, l0, g0⟩ := hK
  exact ⟨ad, A0, c0, e, by have hq := hc 0 _ rfl; rwa [Nat.mul_one, Nat.add_zero] at hq, l0, g0⟩

/-! #### struct type 25 -/
structure S25 where
  f0 : (List Int)
  f1 : (List Int)
def z25 : S25 := ⟨([] : List Int), ([] : List Int)⟩
def k25 : Kd S25 := Kd.iso (Kd.pair (Kd.slice 3 (Kd.int .i64)) (Kd.slice 3 (Kd.int .i64))) (fun x : S25 => (x.f0, x.f1))
theorem k25_open {w : World} {x : S25} {cs : List Value} (h : k25.K w x cs) : ∃ A0 c0 A1 c1, cs = [.slice A0 x.f0.length c0, .slice A1 x.f1.length c1] ∧ x.f0.length ≤ c0 ∧ (Kd.int .i64).C w A0 x.f0.length x.f0 ∧ x.f1.length ≤ c1 ∧ (Kd.int .i64).C w A1 x.f1.length x.f1 := by
  obtain ⟨_, _, rfl, ⟨A0, c0, rfl, l0, g0⟩, ⟨A1, c1, rfl, l1, g1⟩⟩ := h
  exact ⟨A0, c0, A1, c1, rfl, l0, g0, l1, g1⟩
theorem k25_openM {w : World} {base : Nat} {ok : Nat → Prop} {x : S25} {cs : List Value} (h : k25.M w base ok x cs) : ∃ v0 v1, cs = [v0, v1] ∧ (Kd.int .i64).R 3 w base ok v0 x.f0 ∧ (Kd.int .i64).R 3 w base ok v1 x.f1 := by
  obtain ⟨_, _, rfl, ⟨v0, rfl, g0⟩, ⟨v1, rfl, g1⟩⟩ := h
  exact ⟨v0, v1, rfl, g0, g1⟩
theorem k25_mk (w : World) (x : S25) {A0 : Option Addr} {c0 : Nat} (l0 : x.f0.length ≤ c0) (g0 : (Kd.int .i64).C w A0 x.f0.length x.f0) {A1 : Option Addr} {c1 : Nat} (l1 : x.f1.length ≤ c1) (g1 : (Kd.int .i64).C w A1 x.f1.length x.f1) : k25.K w x [.slice A0 x.f0.length c0, .slice A1 x.f1.length c1] := ⟨[.slice A0 x.f0.length c0], [.slice A1 x.f1.length c1], rfl, ⟨A0, c0, rfl, l0, g0⟩, ⟨A1, c1, rfl, l1, g1⟩⟩
theorem k25_mkM (w : World) (base : Nat) (ok : Nat → Prop) (x : S25) {v0 : Value} (g0 : (Kd.int .i64).R 3 w base ok v0 x.f0) {v1 : Value} (g1 : (Kd.int .i64).R 3 w base ok v1 x.f1) : k25.M w base ok x [v0, v1] := ⟨[v0], [v1], rfl, ⟨v0, rfl, g0⟩, ⟨v1, rfl, g1⟩⟩
def rd_T25 (xs : List S25) (i : Int) : S25 := xs.getD i.toNat z25
theorem at_T25 {w : World} {A : Option Addr} {n : Nat} {xs : List S25} (h : Kd.C k25 w A n xs) (i : Int) (h0 : 0 ≤ i) (h1 : i < n) : ∃ ad A0 c0 A1 c1, A = some ad ∧ w.cell? (ad.add (i.toNat * 2)) = some (.slice A0 (rd_T25 xs i).f0.length c0) ∧ w.cell? ⟨(ad.add (i.toNat * 2)).block, (ad.add (i.toNat * 2)).off + 1, none⟩ = some (.slice A1 (rd_T25 xs i).f1.length c1) ∧ (rd_T25 xs i).f0.length ≤ c0 ∧ (Kd.int .i64).C w A0 (rd_T25 xs i).f0.length (rd_T25 xs i).f0 ∧ (rd_T25 xs i).f1.length ≤ c1 ∧ (Kd.int .i64).C w A1 (rd_T25 xs i).f1.length (rd_T25 xs i).f1 := by
  obtain ⟨ad, c, e, _, hK, hc0⟩ := Kd.C_get h z25 i h0 h1
  have hc : ∀ j u, c[j]? = some u → w.cell? (ad.add (i.toNat * 2 + j)) = some u := hc0
  obtain ⟨A0, c0, A1, c1, rfl, l0, g0, l1, g1⟩ := k25_open hK
  exact ⟨ad, A0, c0, A1, c1, e, hc 0 _ rfl, by rw [← add_field _ _ 1 (by omega)]; exact hc 1 _ rfl, l0, g0, l1, g1⟩

/-! #### struct type 54 -/
structure S54 where
  f0 : Int
  f1 : Int
  f2 : Int
  f3 : S25
  f4 : ByteArray
def z54 : S54 := ⟨(0 : Int), (0 : Int), (0 : Int), z25, (⟨#[]⟩ : ByteArray)⟩
def k54 : Kd S54 := Kd.iso (Kd.pair (Kd.int .i64) (Kd.pair (Kd.int .i64) (Kd.pair (Kd.int .i64) (Kd.pair k25 Kd.string)))) (fun x : S54 => (x.f0, x.f1, x.f2, x.f3, x.f4))
theorem k54_open {w : World} {x : S54} {cs : List Value} (h : k54.K w x cs) : ∃ A3 c3 A4 c4, cs = [.int .i64 x.f0, .int .i64 x.f1, .int .i64 x.f2, .slice A3 x.f3.f0.length c3, .slice A4 x.f3.f1.length c4, .string x.f4] ∧ x.f3.f0.length ≤ c3 ∧ (Kd.int .i64).C w A3 x.f3.f0.length x.f3.f0 ∧ x.f3.f1.length ≤ c4 ∧ (Kd.int .i64).C w A4 x.f3.f1.length x.f3.f1 := by
  obtain ⟨_, _, rfl, rfl, ⟨_, _, rfl, rfl, ⟨_, _, rfl, rfl, ⟨_, _, rfl, s3, rfl⟩⟩⟩⟩ := h
  obtain ⟨A3, c3, A4, c4, rfl, l3, g3, l4, g4⟩ := k25_open s3
  exact ⟨A3, c3, A4, c4, rfl, l3, g3, l4, g4⟩
theorem k54_openM {w : World} {base : Nat} {ok : Nat → Prop} {x : S54} {cs : List Value} (h : k54.M w base ok x cs) : ∃ v3 v4, cs = [.int .i64 x.f0, .int .i64 x.f1, .int .i64 x.f2, v3, v4, .string x.f4] ∧ (Kd.int .i64).R 3 w base ok v3 x.f3.f0 ∧ (Kd.int .i64).R 3 w base ok v4 x.f3.f1 := by
  obtain ⟨_, _, rfl, rfl, ⟨_, _, rfl, rfl, ⟨_, _, rfl, rfl, ⟨_, _, rfl, s3, rfl⟩⟩⟩⟩ := h
  obtain ⟨v3, v4, rfl, g3, g4⟩ := k25_openM s3
  exact ⟨v3, v4, rfl, g3, g4⟩
theorem k54_mk (w : World) (x : S54) {A3 : Option Addr} {c3 : Nat} (l3 : x.f3.f0.length ≤ c3) (g3 : (Kd.int .i64).C w A3 x.f3.f0.length x.f3.f0) {A4 : Option Addr} {c4 : Nat} (l4 : x.f3.f1.length ≤ c4) (g4 : (Kd.int .i64).C w A4 x.f3.f1.length x.f3.f1) : k54.K w x [.int .i64 x.f0, .int .i64 x.f1, .int .i64 x.f2, .slice A3 x.f3.f0.length c3, .slice A4 x.f3.f1.length c4, .string x.f4] := ⟨[.int .i64 x.f0], [.int .i64 x.f1, .int .i64 x.f2, .slice A3 x.f3.f0.length c3, .slice A4 x.f3.f1.length c4, .string x.f4], rfl, rfl, ⟨[.int .i64 x.f1], [.int .i64 x.f2, .slice A3 x.f3.f0.length c3, .slice A4 x.f3.f1.length c4, .string x.f4], rfl, rfl, ⟨[.int .i64 x.f2], [.slice A3 x.f3.f0.length c3, .slice A4 x.f3.f1.length c4, .string x.f4], rfl, rfl, ⟨[.slice A3 x.f3.f0.length c3, .slice A4 x.f3.f1.length c4], [.string x.f4], rfl, (k25_mk w x.f3 l3 g3 l4 g4), rfl⟩⟩⟩⟩
theorem k54_mkM (w : World) (base : Nat) (ok : Nat → Prop) (x : S54) {v3 : Value} (g3 : (Kd.int .i64).R 3 w base ok v3 x.f3.f0) {v4 : Value} (g4 : (Kd.int .i64).R 3 w base ok v4 x.f3.f1) : k54.M w base ok x [.int .i64 x.f0, .int .i64 x.f1, .int .i64 x.f2, v3, v4, .string x.f4] := ⟨[.int .i64 x.f0], [.int .i64 x.f1, .int .i64 x.f2, v3, v4, .string x.f4], rfl, rfl, ⟨[.int .i64 x.f1], [.int .i64 x.f2, v3, v4, .string x.f4], rfl, rfl, ⟨[.int .i64 x.f2], [v3, v4, .string x.f4], rfl, rfl, ⟨[v3, v4], [.string x.f4], rfl, (k25_mkM w base ok x.f3 g3 g4), rfl⟩⟩⟩⟩
def rd_T54 (xs : List S54) (i : Int) : S54 := xs.getD i.toNat z54
theorem at_T54 {w : World} {A : Option Addr} {n : Nat} {xs : List S54} (h : Kd.C k54 w A n xs) (i : Int) (h0 : 0 ≤ i) (h1 : i < n) : ∃ ad A3 c3 A4 c4, A = some ad ∧ w.cell? (ad.add (i.toNat * 6)) = some (.int .i64 (rd_T54 xs i).f0) ∧ w.cell? ⟨(ad.add (i.toNat * 6)).block, (ad.add (i.toNat * 6)).off + 1, none⟩ = some (.int .i64 (rd_T54 xs i).f1) ∧ w.cell? ⟨(ad.add (i.toNat * 6)).block, (ad.add (i.toNat * 6)).off + 2, none⟩ = some (.int .i64 (rd_T54 xs i).f2) ∧ w.cell? ⟨(ad.add (i.toNat * 6)).block, (ad.add (i.toNat * 6)).off + 3, none⟩ = some (.slice A3 (rd_T54 xs i).f3.f0.length c3) ∧ w.cell? ⟨(ad.add (i.toNat * 6)).block, (ad.add (i.toNat * 6)).off + 4, none⟩ = some (.slice A4 (rd_T54 xs i).f3.f1.length c4) ∧ w.cell? ⟨(ad.add (i.toNat * 6)).block, (ad.add (i.toNat * 6)).off + 5, none⟩ = some (.string (rd_T54 xs i).f4) ∧ (rd_T54 xs i).f3.f0.length ≤ c3 ∧ (Kd.int .i64).C w A3 (rd_T54 xs i).f3.f0.length (rd_T54 xs i).f3.f0 ∧ (rd_T54 xs i).f3.f1.length ≤ c4 ∧ (Kd.int .i64).C w A4 (rd_T54 xs i).f3.f1.length (rd_T54 xs i).f3.f1 := by
  obtain ⟨ad, c, e, _, hK, hc0⟩ := Kd.C_get h z54 i h0 h1
  have hc : ∀ j u, c[j]? = some u → w.cell? (ad.add (i.toNat * 6 + j)) = some u := hc0
  obtain ⟨A3, c3, A4, c4, rfl, l3, g3, l4, g4⟩ := k54_open hK
  exact ⟨ad, A3, c3, A4, c4, e, hc 0 _ rfl, by rw [← add_field _ _ 1 (by omega)]; exact hc 1 _ rfl, by rw [← add_field _ _ 2 (by omega)]; exact hc 2 _ rfl, by rw [← add_field _ _ 3 (by omega)]; exact hc 3 _ rfl, by rw [← add_field _ _ 4 (by omega)]; exact hc 4 _ rfl, by rw [← add_field _ _ 5 (by omega)]; exact hc 5 _ rfl, l3, g3, l4, g4⟩

def rd_L5 (xs : List (List S54)) (i : Int) : (List S54) := xs.getD i.toNat ([] : List S54)
theorem at_L5 {w : World} {A : Option Addr} {n : Nat} {xs : List (List S54)} (h : Kd.C (Kd.slice 54 k54) w A n xs) (i : Int) (h0 : 0 ≤ i) (h1 : i < n) : ∃ ad A0 c0, A = some ad ∧ w.cell? (ad.add i.toNat) = some (.slice A0 (rd_L5 xs i).length c0) ∧ (rd_L5 xs i).length ≤ c0 ∧ k54.C w A0 (rd_L5 xs i).length (rd_L5 xs i) := by
  obtain ⟨ad, c, e, _, hK, hc0⟩ := Kd.C_get h ([] : List S54) i h0 h1
  have hc : ∀ j u, c[j]? = some u → w.cell? (ad.add (i.toNat * 1 + j)) = some u := hc0
  obtain ⟨A0, c0, rfl, l0, g0⟩ := hK
  exact ⟨ad, A0, c0, e, by have hq := hc 0 _ rfl; rwa [Nat.mul_one, Nat.add_zero] at hq, l0, g0⟩

/-! #### struct type 27 -/
structure S27 where
  f0 : Int
  f1 : Int
  f2 : S25
  f3 : ByteArray
def z27 : S27 := ⟨(0 : Int), (0 : Int), z25, (⟨#[]⟩ : ByteArray)⟩
def k27 : Kd S27 := Kd.iso (Kd.pair (Kd.int .i64) (Kd.pair (Kd.int .i64) (Kd.pair k25 Kd.string))) (fun x : S27 => (x.f0, x.f1, x.f2, x.f3))
theorem k27_open {w : World} {x : S27} {cs : List Value} (h : k27.K w x cs) : ∃ A2 c2 A3 c3, cs = [.int .i64 x.f0, .int .i64 x.f1, .slice A2 x.f2.f0.length c2, .slice A3 x.f2.f1.length c3, .string x.f3] ∧ x.f2.f0.length ≤ c2 ∧ (Kd.int .i64).C w A2 x.f2.f0.length x.f2.f0 ∧ x.f2.f1.length ≤ c3 ∧ (Kd.int .i64).C w A3 x.f2.f1.length x.f2.f1 := by
  obtain ⟨_, _, rfl, rfl, ⟨_, _, rfl, rfl, ⟨_, _, rfl, s2, rfl⟩⟩⟩ := h
  obtain ⟨A2, c2, A3, c3, rfl, l2, g2, l3, g3⟩ := k25_open s2
  exact ⟨A2, c2, A3, c3, rfl, l2, g2, l3, g3⟩
theorem k27_openM {w : World} {base : Nat} {ok : Nat → Prop} {x : S27} {cs : List Value} (h : k27.M w base ok x cs) : ∃ v2 v3, cs = [.int .i64 x.f0, .int .i64 x.f1, v2, v3, .string x.f3] ∧ (Kd.int .i64).R 3 w base ok v2 x.f2.f0 ∧ (Kd.int .i64).R 3 w base ok v3 x.f2.f1 := by
  obtain ⟨_, _, rfl, rfl, ⟨_, _, rfl, rfl, ⟨_, _, rfl, s2, rfl⟩⟩⟩ := h
  obtain ⟨v2, v3, rfl, g2, g3⟩ := k25_openM s2
  exact ⟨v2, v3, rfl, g2, g3⟩
theorem k27_mk (w : World) (x : S27) {A2 : Option Addr} {c2 : Nat} (l2 : x.f2.f0.length ≤ c2) (g2 : (Kd.int .i64).C w A2 x.f2.f0.length x.f2.f0) {A3 : Option Addr} {c3 : Nat} (l3 : x.f2.f1.length ≤ c3) (g3 : (Kd.int .i64).C w A3 x.f2.f1.length x.f2.f1) : k27.K w x [.int .i64 x.f0, .int .i64 x.f1, .slice A2 x.f2.f0.length c2, .slice A3 x.f2.f1.length c3, .string x.f3] := ⟨[.int .i64 x.f0], [.int .i64 x.f1, .slice A2 x.f2.f0.length c2, .slice A3 x.f2.f1.length c3, .string x.f3], rfl, rfl, ⟨[.int .i64 x.f1], [.slice A2 x.f2.f0.length c2, .slice A3 x.f2.f1.length c3, .string x.f3], rfl, rfl, ⟨[.slice A2 x.f2.f0.length c2, .slice A3 x.f2.f1.length c3], [.string x.f3], rfl, (k25_mk w x.f2 l2 g2 l3 g3), rfl⟩⟩⟩
theorem k27_mkM (w : World) (base : Nat) (ok : Nat → Prop) (x : S27) {v2 : Value} (g2 : (Kd.int .i64).R 3 w base ok v2 x.f2.f0) {v3 : Value} (g3 : (Kd.int .i64).R 3 w base ok v3 x.f2.f1) : k27.M w base ok x [.int .i64 x.f0, .int .i64 x.f1, v2, v3, .string x.f3] := ⟨[.int .i64 x.f0], [.int .i64 x.f1, v2, v3, .string x.f3], rfl, rfl, ⟨[.int .i64 x.f1], [v2, v3, .string x.f3], rfl, rfl, ⟨[v2, v3], [.string x.f3], rfl, (k25_mkM w base ok x.f2 g2 g3), rfl⟩⟩⟩
def rd_T27 (xs : List S27) (i : Int) : S27 := xs.getD i.toNat z27
theorem at_T27 {w : World} {A : Option Addr} {n : Nat} {xs : List S27} (h : Kd.C k27 w A n xs) (i : Int) (h0 : 0 ≤ i) (h1 : i < n) : ∃ ad A2 c2 A3 c3, A = some ad ∧ w.cell? (ad.add (i.toNat * 5)) = some (.int .i64 (rd_T27 xs i).f0) ∧ w.cell? ⟨(ad.add (i.toNat * 5)).block, (ad.add (i.toNat * 5)).off + 1, none⟩ = some (.int .i64 (rd_T27 xs i).f1) ∧ w.cell? ⟨(ad.add (i.toNat * 5)).block, (ad.add (i.toNat * 5)).off + 2, none⟩ = some (.slice A2 (rd_T27 xs i).f2.f0.length c2) ∧ w.cell? ⟨(ad.add (i.toNat * 5)).block, (ad.add (i.toNat * 5)).off + 3, none⟩ = some (.slice A3 (rd_T27 xs i).f2.f1.length c3) ∧ w.cell? ⟨(ad.add (i.toNat * 5)).block, (ad.add (i.toNat * 5)).off + 4, none⟩ = some (.string (rd_T27 xs i).f3) ∧ (rd_T27 xs i).f2.f0.length ≤ c2 ∧ (Kd.int .i64).C w A2 (rd_T27 xs i).f2.f0.length (rd_T27 xs i).f2.f0 ∧ (rd_T27 xs i).f2.f1.length ≤ c3 ∧ (Kd.int .i64).C w A3 (rd_T27 xs i).f2.f1.length (rd_T27 xs i).f2.f1 := by
  obtain ⟨ad, c, e, _, hK, hc0⟩ := Kd.C_get h z27 i h0 h1
  have hc : ∀ j u, c[j]? = some u → w.cell? (ad.add (i.toNat * 5 + j)) = some u := hc0
  obtain ⟨A2, c2, A3, c3, rfl, l2, g2, l3, g3⟩ := k27_open hK
  exact ⟨ad, A2, c2, A3, c3, e, hc 0 _ rfl, by rw [← add_field _ _ 1 (by omega)]; exact hc 1 _ rfl, by rw [← add_field _ _ 2 (by omega)]; exact hc 2 _ rfl, by rw [← add_field _ _ 3 (by omega)]; exact hc 3 _ rfl, by rw [← add_field _ _ 4 (by omega)]; exact hc 4 _ rfl, l2, g2, l3, g3⟩

/-! #### struct type 30 -/
structure S30 where
  f0 : Int
  f1 : Int
  f2 : S27
  f3 : (List S54)
def z30 : S30 := ⟨(0 : Int), (0 : Int), z27, ([] : List S54)⟩
def k30 : Kd S30 := Kd.iso (Kd.pair (Kd.int .i64) (Kd.pair (Kd.int .i64) (Kd.pair k27 (Kd.slice 54 k54)))) (fun x : S30 => (x.f0, x.f1, x.f2, x.f3))
theorem k30_open {w : World} {x : S30} {cs : List Value} (h : k30.K w x cs) : ∃ A4 c4 A5 c5 A7 c7, cs = [.int .i64 x.f0, .int .i64 x.f1, .int .i64 x.f2.f0, .int .i64 x.f2.f1, .slice A4 x.f2.f2.f0.length c4, .slice A5 x.f2.f2.f1.length c5, .string x.f2.f3, .slice A7 x.f3.length c7] ∧ x.f2.f2.f0.length ≤ c4 ∧ (Kd.int .i64).C w A4 x.f2.f2.f0.length x.f2.f2.f0 ∧ x.f2.f2.f1.length ≤ c5 ∧ (Kd.int .i64).C w A5 x.f2.f2.f1.length x.f2.f2.f1 ∧ x.f3.length ≤ c7 ∧ k54.C w A7 x.f3.length x.f3 := by
  obtain ⟨_, _, rfl, rfl, ⟨_, _, rfl, rfl, ⟨_, _, rfl, s2, ⟨A7, c7, rfl, l7, g7⟩⟩⟩⟩ := h
  obtain ⟨A4, c4, A5, c5, rfl, l4, g4, l5, g5⟩ := k27_open s2
  exact ⟨A4, c4, A5, c5, A7, c7, rfl, l4, g4, l5, g5, l7, g7⟩
theorem k30_openM {w : World} {base : Nat} {ok : Nat → Prop} {x : S30} {cs : List Value} (h : k30.M w base ok x cs) : ∃ v4 v5 v7, cs = [.int .i64 x.f0, .int .i64 x.f1, .int .i64 x.f2.f0, .int .i64 x.f2.f1, v4, v5, .string x.f2.f3, v7] ∧ (Kd.int .i64).R 3 w base ok v4 x.f2.f2.f0 ∧ (Kd.int .i64).R 3 w base ok v5 x.f2.f2.f1 ∧ k54.R 54 w base ok v7 x.f3 := by
  obtain ⟨_, _, rfl, rfl, ⟨_, _, rfl, rfl, ⟨_, _, rfl, s2, ⟨v7, rfl, g7⟩⟩⟩⟩ := h
  obtain ⟨v4, v5, rfl, g4, g5⟩ := k27_openM s2
  exact ⟨v4, v5, v7, rfl, g4, g5, g7⟩
theorem k30_mk (w : World) (x : S30) {A4 : Option Addr} {c4 : Nat} (l4 : x.f2.f2.f0.length ≤ c4) (g4 : (Kd.int .i64).C w A4 x.f2.f2.f0.length x.f2.f2.f0) {A5 : Option Addr} {c5 : Nat} (l5 : x.f2.f2.f1.length ≤ c5) (g5 : (Kd.int .i64).C w A5 x.f2.f2.f1.length x.f2.f2.f1) {A7 : Option Addr} {c7 : Nat} (l7 : x.f3.length ≤ c7) (g7 : k54.C w A7 x.f3.length x.f3) : k30.K w x [.int .i64 x.f0, .int .i64 x.f1, .int .i64 x.f2.f0, .int .i64 x.f2.f1, .slice A4 x.f2.f2.f0.length c4, .slice A5 x.f2.f2.f1.length c5, .string x.f2.f3, .slice A7 x.f3.length c7] := ⟨[.int .i64 x.f0], [.int .i64 x.f1, .int .i64 x.f2.f0, .int .i64 x.f2.f1, .slice A4 x.f2.f2.f0.length c4, .slice A5 x.f2.f2.f1.length c5, .string x.f2.f3, .slice A7 x.f3.length c7], rfl, rfl, ⟨[.int .i64 x.f1], [.int .i64 x.f2.f0, .int .i64 x.f2.f1, .slice A4 x.f2.f2.f0.length c4, .slice A5 x.f2.f2.f1.length c5, .string x.f2.f3, .slice A7 x.f3.length c7], rfl, rfl, ⟨[.int .i64 x.f2.f0, .int .i64 x.f2.f1, .slice A4 x.f2.f2.f0.length c4, .slice A5 x.f2.f2.f1.length c5, .string x.f2.f3], [.slice A7 x.f3.length c7], rfl, (k27_mk w x.f2 l4 g4 l5 g5), ⟨A7, c7, rfl, l7, g7⟩⟩⟩⟩
theorem k30_mkM (w : World) (base : Nat) (ok : Nat → Prop) (x : S30) {v4 : Value} (g4 : (Kd.int .i64).R 3 w base ok v4 x.f2.f2.f0) {v5 : Value} (g5 : (Kd.int .i64).R 3 w base ok v5 x.f2.f2.f1) {v7 : Value} (g7 : k54.R 54 w base ok v7 x.f3) : k30.M w base ok x [.int .i64 x.f0, .int .i64 x.f1, .int .i64 x.f2.f0, .int .i64 x.f2.f1, v4, v5, .string x.f2.f3, v7] := ⟨[.int .i64 x.f0], [.int .i64 x.f1, .int .i64 x.f2.f0, .int .i64 x.f2.f1, v4, v5, .string x.f2.f3, v7], rfl, rfl, ⟨[.int .i64 x.f1], [.int .i64 x.f2.f0, .int .i64 x.f2.f1, v4, v5, .string x.f2.f3, v7], rfl, rfl, ⟨[.int .i64 x.f2.f0, .int .i64 x.f2.f1, v4, v5, .string x.f2.f3], [v7], rfl, (k27_mkM w base ok x.f2 g4 g5), ⟨v7, rfl, g7⟩⟩⟩⟩
def rd_T30 (xs : List S30) (i : Int) : S30 := xs.getD i.toNat z30
theorem at_T30 {w : World} {A : Option Addr} {n : Nat} {xs : List S30} (h : Kd.C k30 w A n xs) (i : Int) (h0 : 0 ≤ i) (h1 : i < n) : ∃ ad A4 c4 A5 c5 A7 c7, A = some ad ∧ w.cell? (ad.add (i.toNat * 8)) = some (.int .i64 (rd_T30 xs i).f0) ∧ w.cell? ⟨(ad.add (i.toNat * 8)).block, (ad.add (i.toNat * 8)).off + 1, none⟩ = some (.int .i64 (rd_T30 xs i).f1) ∧ w.cell? ⟨(ad.add (i.toNat * 8)).block, (ad.add (i.toNat * 8)).off + 2, none⟩ = some (.int .i64 (rd_T30 xs i).f2.f0) ∧ w.cell? ⟨(ad.add (i.toNat * 8)).block, (ad.add (i.toNat * 8)).off + 3, none⟩ = some (.int .i64 (rd_T30 xs i).f2.f1) ∧ w.cell? ⟨(ad.add (i.toNat * 8)).block, (ad.add (i.toNat * 8)).off + 4, none⟩ = some (.slice A4 (rd_T30 xs i).f2.f2.f0.length c4) ∧ w.cell? ⟨(ad.add (i.toNat * 8)).block, (ad.add (i.toNat * 8)).off + 5, none⟩ = some (.slice A5 (rd_T30 xs i).f2.f2.f1.length c5) ∧ w.cell? ⟨(ad.add (i.toNat * 8)).block, (ad.add (i.toNat * 8)).off + 6, none⟩ = some (.string (rd_T30 xs i).f2.f3) ∧ w.cell? ⟨(ad.add (i.toNat * 8)).block, (ad.add (i.toNat * 8)).off + 7, none⟩ = some (.slice A7 (rd_T30 xs i).f3.length c7) ∧ (rd_T30 xs i).f2.f2.f0.length ≤ c4 ∧ (Kd.int .i64).C w A4 (rd_T30 xs i).f2.f2.f0.length (rd_T30 xs i).f2.f2.f0 ∧ (rd_T30 xs i).f2.f2.f1.length ≤ c5 ∧ (Kd.int .i64).C w A5 (rd_T30 xs i).f2.f2.f1.length (rd_T30 xs i).f2.f2.f1 ∧ (rd_T30 xs i).f3.length ≤ c7 ∧ k54.C w A7 (rd_T30 xs i).f3.length (rd_T30 xs i).f3 := by
  obtain ⟨ad, c, e, _, hK, hc0⟩ := Kd.C_get h z30 i h0 h1
  have hc : ∀ j u, c[j]? = some u → w.cell? (ad.add (i.toNat * 8 + j)) = some u := hc0
  obtain ⟨A4, c4, A5, c5, A7, c7, rfl, l4, g4, l5, g5, l7, g7⟩ := k30_open hK
  exact ⟨ad, A4, c4, A5, c5, A7, c7, e, hc 0 _ rfl, by rw [← add_field _ _ 1 (by omega)]; exact hc 1 _ rfl, by rw [← add_field _ _ 2 (by omega)]; exact hc 2 _ rfl, by rw [← add_field _ _ 3 (by omega)]; exact hc 3 _ rfl, by rw [← add_field _ _ 4 (by omega)]; exact hc 4 _ rfl, by rw [← add_field _ _ 5 (by omega)]; exact hc 5 _ rfl, by rw [← add_field _ _ 6 (by omega)]; exact hc 6 _ rfl, by rw [← add_field _ _ 7 (by omega)]; exact hc 7 _ rfl, l4, g4, l5, g5, l7, g7⟩

/-! #### struct type 57 -/
structure S57 where
  f0 : Int
  f1 : Int
  f2 : Int
  f3 : S54
  f4 : Int
  f5 : S27
def z57 : S57 := ⟨(0 : Int), (0 : Int), (0 : Int), z54, (0 : Int), z27⟩
def k57 : Kd S57 := Kd.iso (Kd.pair (Kd.int .i64) (Kd.pair (Kd.int .i64) (Kd.pair (Kd.int .i64) (Kd.pair k54 (Kd.pair (Kd.int .i64) k27))))) (fun x : S57 => (x.f0, x.f1, x.f2, x.f3, x.f4, x.f5))
theorem k57_open {w : World} {x : S57} {cs : List Value} (h : k57.K w x cs) : ∃ A6 c6 A7 c7 A12 c12 A13 c13, cs = [.int .i64 x.f0, .int .i64 x.f1, .int .i64 x.f2, .int .i64 x.f3.f0, .int .i64 x.f3.f1, .int .i64 x.f3.f2, .slice A6 x.f3.f3.f0.length c6, .slice A7 x.f3.f3.f1.length c7, .string x.f3.f4, .int .i64 x.f4, .int .i64 x.f5.f0, .int .i64 x.f5.f1, .slice A12 x.f5.f2.f0.length c12, .slice A13 x.f5.f2.f1.length c13, .string x.f5.f3] ∧ x.f3.f3.f0.length ≤ c6 ∧ (Kd.int .i64).C w A6 x.f3.f3.f0.length x.f3.f3.f0 ∧ x.f3.f3.f1.length ≤ c7 ∧ (Kd.int .i64).C w A7 x.f3.f3.f1.length x.f3.f3.f1 ∧ x.f5.f2.f0.length ≤ c12 ∧ (Kd.int .i64).C w A12 x.f5.f2.f0.length x.f5.f2.f0 ∧ x.f5.f2.f1.length ≤ c13 ∧ (Kd.int .i64).C w A13 x.f5.f2.f1.length x.f5.f2.f1 := by
  obtain ⟨_, _, rfl, rfl, ⟨_, _, rfl, rfl, ⟨_, _, rfl, rfl, ⟨_, _, rfl, s3, ⟨_, _, rfl, rfl, s10⟩⟩⟩⟩⟩ := h
  obtain ⟨A6, c6, A7, c7, rfl, l6, g6, l7, g7⟩ := k54_open s3
  obtain ⟨A12, c12, A13, c13, rfl, l12, g12, l13, g13⟩ := k27_open s10
  exact ⟨A6, c6, A7, c7, A12, c12, A13, c13, rfl, l6, g6, l7, g7, l12, g12, l13, g13⟩
theorem k57_openM {w : World} {base : Nat} {ok : Nat → Prop} {x : S57} {cs : List Value} (h : k57.M w base ok x cs) : ∃ v6 v7 v12 v13, cs = [.int .i64 x.f0, .int .i64 x.f1, .int .i64 x.f2, .int .i64 x.f3.f0, .int .i64 x.f3.f1, .int .i64 x.f3.f2, v6, v7, .string x.f3.f4, .int .i64 x.f4, .int .i64 x.f5.f0, .int .i64 x.f5.f1, v12, v13, .string x.f5.f3] ∧ (Kd.int .i64).R 3 w base ok v6 x.f3.f3.f0 ∧ (Kd.int .i64).R 3 w base ok v7 x.f3.f3.f1 ∧ (Kd.int .i64).R 3 w base ok v12 x.f5.f2.f0 ∧ (Kd.int .i64).R 3 w base ok v13 x.f5.f2.f1 := by
  obtain ⟨_, _, rfl, rfl, ⟨_, _, rfl, rfl, ⟨_, _, rfl, rfl, ⟨_, _, rfl, s3, ⟨_, _, rfl, rfl, s10⟩⟩⟩⟩⟩ := h
  obtain ⟨v6, v7, rfl, g6, g7⟩ := k54_openM s3
  obtain ⟨v12, v13, rfl, g12, g13⟩ := k27_openM s10
  exact ⟨v6, v7, v12, v13, rfl, g6, g7, g12, g13⟩
theorem k57_mk (w : World) (x : S57) {A6 : Option Addr} {c6 : Nat} (l6 : x.f3.f3.f0.length ≤ c6) (g6 : (Kd.int .i64).C w A6 x.f3.f3.f0.length x.f3.f3.f0) {A7 : Option Addr} {c7 : Nat} (l7 : x.f3.f3.f1.length ≤ c7) (g7 : (Kd.int .i64).C w A7 x.f3.f3.f1.length x.f3.f3.f1) {A12 : Option Addr} {c12 : Nat} (l12 : x.f5.f2.f0.length ≤ c12) (g12 : (Kd.int .i64).C w A12 x.f5.f2.f0.length x.f5.f2.f0) {A13 : Option Addr} {c13 : Nat} (l13 : x.f5.f2.f1.length ≤ c13) (g13 : (Kd.int .i64).C w A13 x.f5.f2.f1.length x.f5.f2.f1) : k57.K w x [.int .i64 x.f0, .int .i64 x.f1, .int .i64 x.f2, .int .i64 x.f3.f0, .int .i64 x.f3.f1, .int .i64 x.f3.f2, .slice A6 x.f3.f3.f0.length c6, .slice A7 x.f3.f3.f1.length c7, .string x.f3.f4, .int .i64 x.f4, .int .i64 x.f5.f0, .int .i64 x.f5.f1, .slice A12 x.f5.f2.f0.length c12, .slice A13 x.f5.f2.f1.length c13, .string x.f5.f3] := ⟨[.int .i64 x.f0], [.int .i64 x.f1, .int .i64 x.f2, .int .i64 x.f3.f0, .int .i64 x.f3.f1, .int .i64 x.f3.f2, .slice A6 x.f3.f3.f0.length c6, .slice A7 x.f3.f3.f1.length c7, .string x.f3.f4, .int .i64 x.f4, .int .i64 x.f5.f0, .int .i64 x.f5.f1, .slice A12 x.f5.f2.f0.length c12, .slice A13 x.f5.f2.f1.length c13, .string x.f5.f3], rfl, rfl, ⟨[.int .i64 x.f1], [.int .i64 x.f2, .int .i64 x.f3.f0, .int .i64 x.f3.f1, .int .i64 x.f3.f2, .slice A6 x.f3.f3.f0.length c6, .slice A7 x.f3.f3.f1.length c7, .string x.f3.f4, .int .i64 x.f4, .int .i64 x.f5.f0, .int .i64 x.f5.f1, .slice A12 x.f5.f2.f0.length c12, .slice A13 x.f5.f2.f1.length c13, .string x.f5.f3], rfl, rfl, ⟨[.int .i64 x.f2], [.int .i64 x.f3.f0, .int .i64 x.f3.f1, .int .i64 x.f3.f2, .slice A6 x.f3.f3.f0.length c6, .slice A7 x.f3.f3.f1.length c7, .string x.f3.f4, .int .i64 x.f4, .int .i64 x.f5.f0, .int .i64 x.f5.f1, .slice A12 x.f5.f2.f0.length c12, .slice A13 x.f5.f2.f1.length c13, .string x.f5.f3], rfl, rfl, ⟨[.int .i64 x.f3.f0, .int .i64 x.f3.f1, .int .i64 x.f3.f2, .slice A6 x.f3.f3.f0.length c6, .slice A7 x.f3.f3.f1.length c7, .string x.f3.f4], [.int .i64 x.f4, .int .i64 x.f5.f0, .int .i64 x.f5.f1, .slice A12 x.f5.f2.f0.length c12, .slice A13 x.f5.f2.f1.length c13, .string x.f5.f3], rfl, (k54_mk w x.f3 l6 g6 l7 g7), ⟨[.int .i64 x.f4], [.int .i64 x.f5.f0, .int .i64 x.f5.f1, .slice A12 x.f5.f2.f0.length c12, .slice A13 x.f5.f2.f1.length c13, .string x.f5.f3], rfl, rfl, (k27_mk w x.f5 l12 g12 l13 g13)⟩⟩⟩⟩⟩
theorem k57_mkM (w : World) (base : Nat) (ok : Nat → Prop) (x : S57) {v6 : Value} (g6 : (Kd.int .i64).R 3 w base ok v6 x.f3.f3.f0) {v7 : Value} (g7 : (Kd.int .i64).R 3 w base ok v7 x.f3.f3.f1) {v12 : Value} (g12 : (Kd.int .i64).R 3 w base ok v12 x.f5.f2.f0) {v13 : Value} (g13 : (Kd.int .i64).R 3 w base ok v13 x.f5.f2.f1) : k57.M w base ok x [.int .i64 x.f0, .int .i64 x.f1, .int .i64 x.f2, .int .i64 x.f3.f0, .int .i64 x.f3.f1, .int .i64 x.f3.f2, v6, v7, .string x.f3.f4, .int .i64 x.f4, .int .i64 x.f5.f0, .int .i64 x.f5.f1, v12, v13, .string x.f5.f3] := ⟨[.int .i64 x.f0], [.int .i64 x.f1, .int .i64 x.f2, .int .i64 x.f3.f0, .int .i64 x.f3.f1, .int .i64 x.f3.f2, v6, v7, .string x.f3.f4, .int .i64 x.f4, .int .i64 x.f5.f0, .int .i64 x.f5.f1, v12, v13, .string x.f5.f3], rfl, rfl, ⟨[.int .i64 x.f1], [.int .i64 x.f2, .int .i64 x.f3.f0, .int .i64 x.f3.f1, .int .i64 x.f3.f2, v6, v7, .string x.f3.f4, .int .i64 x.f4, .int .i64 x.f5.f0, .int .i64 x.f5.f1, v12, v13, .string x.f5.f3], rfl, rfl, ⟨[.int .i64 x.f2], [.int .i64 x.f3.f0, .int .i64 x.f3.f1, .int .i64 x.f3.f2, v6, v7, .string x.f3.f4, .int .i64 x.f4, .int .i64 x.f5.f0, .int .i64 x.f5.f1, v12, v13, .string x.f5.f3], rfl, rfl, ⟨[.int .i64 x.f3.f0, .int .i64 x.f3.f1, .int .i64 x.f3.f2, v6, v7, .string x.f3.f4], [.int .i64 x.f4, .int .i64 x.f5.f0, .int .i64 x.f5.f1, v12, v13, .string x.f5.f3], rfl, (k54_mkM w base ok x.f3 g6 g7), ⟨[.int .i64 x.f4], [.int .i64 x.f5.f0, .int .i64 x.f5.f1, v12, v13, .string x.f5.f3], rfl, rfl, (k27_mkM w base ok x.f5 g12 g13)⟩⟩⟩⟩⟩
def rd_T57 (xs : List S57) (i : Int) : S57 := xs.getD i.toNat z57
theorem at_T57 {w : World} {A : Option Addr} {n : Nat} {xs : List S57} (h : Kd.C k57 w A n xs) (i : Int) (h0 : 0 ≤ i) (h1 : i < n) : ∃ ad A6 c6 A7 c7 A12 c12 A13 c13, A = some ad ∧ w.cell? (ad.add (i.toNat * 15)) = some (.int .i64 (rd_T57 xs i).f0) ∧ w.cell? ⟨(ad.add (i.toNat * 15)).block, (ad.add (i.toNat * 15)).off + 1, none⟩ = some (.int .i64 (rd_T57 xs i).f1) ∧ w.cell? ⟨(ad.add (i.toNat * 15)).block, (ad.add (i.toNat * 15)).off + 2, none⟩ = some (.int .i64 (rd_T57 xs i).f2) ∧ w.cell? ⟨(ad.add (i.toNat * 15)).block, (ad.add (i.toNat * 15)).off + 3, none⟩ = some (.int .i64 (rd_T57 xs i).f3.f0) ∧ w.cell? ⟨(ad.add (i.toNat * 15)).block, (ad.add (i.toNat * 15)).off + 4, none⟩ = some (.int .i64 (rd_T57 xs i).f3.f1) ∧ w.cell? ⟨(ad.add (i.toNat * 15)).block, (ad.add (i.toNat * 15)).off + 5, none⟩ = some (.int .i64 (rd_T57 xs i).f3.f2) ∧ w.cell? ⟨(ad.add (i.toNat * 15)).block, (ad.add (i.toNat * 15)).off + 6, none⟩ = some (.slice A6 (rd_T57 xs i).f3.f3.f0.length c6) ∧ w.cell? ⟨(ad.add (i.toNat * 15)).block, (ad.add (i.toNat * 15)).off + 7, none⟩ = some (.slice A7 (rd_T57 xs i).f3.f3.f1.length c7) ∧ w.cell? ⟨(ad.add (i.toNat * 15)).block, (ad.add (i.toNat * 15)).off + 8, none⟩ = some (.string (rd_T57 xs i).f3.f4) ∧ w.cell? ⟨(ad.add (i.toNat * 15)).block, (ad.add (i.toNat * 15)).off + 9, none⟩ = some (.int .i64 (rd_T57 xs i).f4) ∧ w.cell? ⟨(ad.add (i.toNat * 15)).block, (ad.add (i.toNat * 15)).off + 10, none⟩ = some (.int .i64 (rd_T57 xs i).f5.f0) ∧ w.cell? ⟨(ad.add (i.toNat * 15)).block, (ad.add (i.toNat * 15)).off + 11, none⟩ = some (.int .i64 (rd_T57 xs i).f5.f1) ∧ w.cell? ⟨(ad.add (i.toNat * 15)).block, (ad.add (i.toNat * 15)).off + 12, none⟩ = some (.slice A12 (rd_T57 xs i).f5.f2.f0.length c12) ∧ w.cell? ⟨(ad.add (i.toNat * 15)).block, (ad.add (i.toNat * 15)).off + 13, none⟩ = some (.slice A13 (rd_T57 xs i).f5.f2.f1.length c13) ∧ w.cell? ⟨(ad.add (i.toNat * 15)).block, (ad.add (i.toNat * 15)).off + 14, none⟩ = some (.string (rd_T57 xs i).f5.f3) ∧ (rd_T57 xs i).f3.f3.f0.length ≤ c6 ∧ (Kd.int .i64).C w A6 (rd_T57 xs i).f3.f3.f0.length (rd_T57 xs i).f3.f3.f0 ∧ (rd_T57 xs i).f3.f3.f1.length ≤ c7 ∧ (Kd.int .i64).C w A7 (rd_T57 xs i).f3.f3.f1.length (rd_T57 xs i).f3.f3.f1 ∧ (rd_T57 xs i).f5.f2.f0.length ≤ c12 ∧ (Kd.int .i64).C w A12 (rd_T57 xs i).f5.f2.f0.length (rd_T57 xs i).f5.f2.f0 ∧ (rd_T57 xs i).f5.f2.f1.length ≤ c13 ∧ (Kd.int .i64).C w A13 (rd_T57 xs i).f5.f2.f1.length (rd_T57 xs i).f5.f2.f1 := by
  obtain ⟨ad, c, e, _, hK, hc0⟩ := Kd.C_get h z57 i h0 h1
  have hc : ∀ j u, c[j]? = some u → w.cell? (ad.add (i.toNat * 15 + j)) = some u := hc0
  obtain ⟨A6, c6, A7, c7, A12, c12, A13, c13, rfl, l6, g6, l7, g7, l12, g12, l13, g13⟩ := k57_open hK
  exact ⟨ad, A6, c6, A7, c7, A12, c12, A13, c13, e, hc 0 _ rfl, by rw [← add_field _ _ 1 (by omega)]; exact hc 1 _ rfl, by rw [← add_field _ _ 2 (by omega)]; exact hc 2 _ rfl, by rw [← add_field _ _ 3 (by omega)]; exact hc 3 _ rfl, by rw [← add_field _ _ 4 (by omega)]; exact hc 4 _ rfl, by rw [← add_field _ _ 5 (by omega)]; exact hc 5 _ rfl, by rw [← add_field _ _ 6 (by omega)]; exact hc 6 _ rfl, by rw [← add_field _ _ 7 (by omega)]; exact hc 7 _ rfl, by rw [← add_field _ _ 8 (by omega)]; exact hc 8 _ rfl, by rw [← add_field _ _ 9 (by omega)]; exact hc 9 _ rfl, by rw [← add_field _ _ 10 (by omega)]; exact hc 10 _ rfl, by rw [← add_field _ _ 11 (by omega)]; exact hc 11 _ rfl, by rw [← add_field _ _ 12 (by omega)]; exact hc 12 _ rfl, by rw [← add_field _ _ 13 (by omega)]; exact hc 13 _ rfl, by rw [← add_field _ _ 14 (by omega)]; exact hc 14 _ rfl, l6, g6, l7, g7, l12, g12, l13, g13⟩

def rd_L9 (xs : List (List S57)) (i : Int) : (List S57) := xs.getD i.toNat ([] : List S57)
theorem at_L9 {w : World} {A : Option Addr} {n : Nat} {xs : List (List S57)} (h : Kd.C (Kd.slice 57 k57) w A n xs) (i : Int) (h0 : 0 ≤ i) (h1 : i < n) : ∃ ad A0 c0, A = some ad ∧ w.cell? (ad.add i.toNat) = some (.slice A0 (rd_L9 xs i).length c0) ∧ (rd_L9 xs i).length ≤ c0 ∧ k57.C w A0 (rd_L9 xs i).length (rd_L9 xs i) := by
  obtain ⟨ad, c, e, _, hK, hc0⟩ := Kd.C_get h ([] : List S57) i h0 h1
  have hc : ∀ j u, c[j]? = some u → w.cell? (ad.add (i.toNat * 1 + j)) = some u := hc0
  obtain ⟨A0, c0, rfl, l0, g0⟩ := hK
  exact ⟨ad, A0, c0, e, by have hq := hc 0 _ rfl; rwa [Nat.mul_one, Nat.add_zero] at hq, l0, g0⟩

end Go.Proofs.Ytbjhjimkljbjlaa.PA
