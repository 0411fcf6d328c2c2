/- slices.Backward over a row of entries: its iterator's contract, over the row's raw cells. -/
import Derived.Test.YtbjhjimkljbjlaaPAx0
import Derived.Test.YtbjhjimkljbjlaaHIter
import Derived.Outline
namespace Go.Proofs.YtbjhjimkljbjlaaI
open Go Go.RowKit Go.Proofs.Ytbjhjimkljbjlaa Go.Proofs.YtbjhjimkljbjlaaW.PrintWords
attribute [local go_sem] Oper.semAt_some

def upto {α : Type} (f : Nat → α) (k : Nat) : List α := (List.range k).map f
theorem upto_succ {α : Type} (f : Nat → α) (k : Nat) : upto f (k + 1) = upto f k ++ [f k] := by simp [upto, List.range_succ]
theorem upto_length {α : Type} (f : Nat → α) (k : Nat) : (upto f k).length = k := by simp [upto]

set_option maxRecDepth 100000 in
set_option maxHeartbeats 2000000 in
theorem back_loop (F : Fence) (n : Nat) (h58 : F.fn 58) (hro : F.round = none) (hn : 1 ≤ n) (l B Bs len cap : Nat) (p : Nat → Prop) (ad : Addr) (cs : Nat → List Value) (hm : len ≤ 9223372036854775807) (hc6 : ∀ j, j < len → (cs j).length = 6)
    (J Jx : List Nat → World → Prop) (had : p ad.block) (hBs : p Bs)
    (W : World) (hB : B = W.heap.size)
    (hY : ∀ pre x W1, x < len → J pre W1 → pre.length < len → B ≤ W1.heap.size → YieldAt F (n - 1) Try.prog l #[.int .i64 (x : Nat), .agg (cs x).toArray] W1 fun e W' =>
      Mid p B W1 W' ∧ ((e = .returned (.bool true) ∧ J (pre ++ [x]) W') ∨ (e = .returned (.bool false) ∧ Jx (pre ++ [x]) W')))
    (hcB : W.cell? ⟨Bs, 0, none⟩ = some (.slice (some ad) len cap)) (hc : ∀ j, j < len → ∀ i u, (cs j)[i]? = some u → W.cell? (ad.add (j * 6 + i)) = some u) (h0 : J [] W) :
    CallsIn F n Try.prog 58 #[.func (.yield l) #[] #[], .pointer (some ⟨Bs, 0, none⟩)] W fun e W' => (∃ v, e = .returned v) ∧ W.heap.size ≤ W'.heap.size ∧
      ((∃ xs, xs = upto (fun k => len - 1 - k) len ∧ J xs W') ∨ (∃ pre, (∃ k, k ≤ len ∧ pre = upto (fun k => len - 1 - k) k) ∧ Jx pre W')) := by
  refine callsIn_of_wp Try.func58 rfl h58 ?_ hro
  simp only [Try.ntmps58, List.size_toArray, List.length_cons, List.length_nil, Nat.reduceAdd, Nat.reduceSub, Array.replicate_succ, Array.replicate_zero, List.push_toArray, List.append_toArray, List.nil_append, List.cons_append]
  gi_wp2
  gi_loopw [3] (fun i wr => ∃ r : Nat, r ≤ len ∧ i = .int .i64 ((r : Int) - 1) ∧ J (upto (fun k => len - 1 - k) (len - r)) wr ∧ Mid p B W wr)
    (fun i _ => (intOf i + 1).toNat)
  case atStart => exact ⟨len, Nat.le_refl _, rfl, by rw [Nat.sub_self]; exact h0, Mid.refl _ _ _⟩
  case round =>
    obtain ⟨r, hr, rfl, hJs, hmid⟩ := hrel
    cases r with
    | zero =>
      gi_wp2
      go_end0
      exact ⟨⟨_, rfl⟩, hmid.size, .inl ⟨_, rfl, by simpa using hJs⟩⟩
    | succ j =>
      have ej : (((j + 1 : Nat) : Int) - 1) = (j : Int) := by omega
      rw [ej]
      have hlt : j < len := by omega
      have hj9 : j ≤ 9223372036854775807 := by omega
      obtain ⟨u0, u1, u2, u3, u4, u5, hcs⟩ : ∃ u0 u1 u2 u3 u4 u5, cs j = [u0, u1, u2, u3, u4, u5] := by
        have h6 := hc6 j hlt
        match hh : cs j, h6 with
        | [a, b, c, d, e, f], _ => exact ⟨a, b, c, d, e, f, rfl⟩
      have cell : ∀ i u, (cs j)[i]? = some u → wr.cell? (ad.add (j * 6 + i)) = some u := fun i u hu =>
        hmid.cell (q := ad.add (j * 6 + i)) (.inl (by unfold Addr.add; split <;> exact had)) (hc j hlt i u hu)
      rw [hcs] at cell
      have k0 := cell 0 u0 rfl
      have k1 := cell 1 u1 rfl
      have k2 := cell 2 u2 rfl
      have k3 := cell 3 u3 rfl
      have k4 := cell 4 u4 rfl
      have k5 := cell 5 u5 rfl
      rw [Nat.add_zero] at k0
      rw [add_field _ _ 1 (by omega)] at k1
      rw [add_field _ _ 2 (by omega)] at k2
      rw [add_field _ _ 3 (by omega)] at k3
      rw [add_field _ _ 4 (by omega)] at k4
      rw [add_field _ _ 5 (by omega)] at k5
      have hBw : wr.cell? ⟨Bs, 0, none⟩ = some (.slice (some ad) len cap) := by
        exact hmid.cell (q := ⟨Bs, 0, none⟩) (.inl hBs) hcB
      obtain ⟨fn, tmps, assign, body, hy, hR⟩ := hY _ j wr hlt hJs (by rw [upto_length]; omega) (by have := hmid.size; omega)
      rw [hcs] at hy
      gi_wp2
      refine hR.mono ?_
      rintro e W3 ⟨hm3, ⟨rfl, hJ3⟩ | ⟨rfl, hJx3⟩⟩
      · gi_wp2
        go_roundw
        case rel => exact ⟨j, by omega, by simp, by rw [show len - j = (len - (j + 1)) + 1 from by omega, upto_succ, show len - 1 - (len - (j + 1)) = j from by omega]; exact hJ3, hmid.trans hm3⟩
        case measure => simp [intOf]
      · gi_wp2
        refine bodyPost_ret (results_none rfl _ _ _) rfl ?_
        exact ⟨⟨_, rfl⟩, (hmid.trans hm3).size, .inr ⟨_, ⟨len - j, by omega, by rw [show len - j = (len - (j + 1)) + 1 from by omega, upto_succ, show len - 1 - (len - (j + 1)) = j from by omega]⟩, hJx3⟩⟩

set_option maxRecDepth 100000 in
set_option maxHeartbeats 2000000 in
/-- At a row without an element (a nil one, too). -/
theorem back_none (F : Fence) (n : Nat) (h58 : F.fn 58) (hro : F.round = none) (l Bs cap : Nat) (A : Option Addr)
    (J Jx : List Nat → World → Prop) (W : World) (hcB : W.cell? ⟨Bs, 0, none⟩ = some (.slice A 0 cap)) (h0 : J [] W) :
    CallsIn F n Try.prog 58 #[.func (.yield l) #[] #[], .pointer (some ⟨Bs, 0, none⟩)] W fun e W' => (∃ v, e = .returned v) ∧ W.heap.size ≤ W'.heap.size ∧
      ((∃ xs, xs = upto (fun k => 0 - 1 - k) 0 ∧ J xs W') ∨ (∃ pre, (∃ k, k ≤ 0 ∧ pre = upto (fun k => 0 - 1 - k) k) ∧ Jx pre W')) := by
  refine callsIn_of_wp Try.func58 rfl h58 ?_ hro
  simp only [Try.ntmps58, List.size_toArray, List.length_cons, List.length_nil, Nat.reduceAdd, Nat.reduceSub, Array.replicate_succ, Array.replicate_zero, List.push_toArray, List.append_toArray, List.nil_append, List.cons_append]
  gi_wp2
  gi_loopw [3] (fun i wr => i = .int .i64 (-1) ∧ J [] wr ∧ W.heap.size ≤ wr.heap.size) (fun _ _ => 0)
  case atStart => exact ⟨by simp, h0, Nat.le_refl _⟩
  case round =>
    obtain ⟨rfl, hJs, hs⟩ := hrel
    gi_wp2
    go_end0
    exact ⟨⟨_, rfl⟩, hs, .inl ⟨_, rfl, hJs⟩⟩

/-- slices.Backward(s): the row is boxed, the iterator captures the box. -/
theorem back_makes (F : Fence) (n : Nat) (h51 : F.fn 51) (hro : F.round = none) (A : Option Addr) (len cap : Nat) (w : World) :
    CallsIn F n Try.prog 51 #[.slice A len cap] w fun e w' => e = .returned (.func (.func 58) #[] #[.pointer (some ⟨w.heap.size, 0, none⟩)]) ∧ w' = w.alloc (.cells #[.slice A len cap] 28) := by
  refine callsIn_of_wp Try.func51 rfl h51 ?_ hro
  simp only [Try.ntmps51, List.size_toArray, List.length_cons, List.length_nil, Nat.reduceAdd, Nat.reduceSub, Array.replicate_succ, Array.replicate_zero, List.push_toArray, List.append_toArray, List.nil_append, List.cons_append]
  gi_wp2
  go_ret
  exact ⟨rfl, rfl⟩

/-- The raw cells of a row that is read. -/
theorem raw_cells {α : Type} {d : Kd α} {w : World} {A : Option Addr} {n : Nat} {xs : List α} (z : α) (h : d.C w A n xs) (hn : 0 < n) :
    ∃ (ad : Addr) (cs : Nat → List Value), A = some ad ∧ ∀ j, j < n → (cs j).length = d.sz ∧ d.K w (xs.getD j z) (cs j) ∧ ∀ i u, (cs j)[i]? = some u → w.cell? (ad.add (j * d.sz + i)) = some u := by
  obtain ⟨hl, _, hr⟩ := h
  obtain ⟨ad, hA, hc⟩ := hr hn
  have hc' : ∀ j : Nat, ∃ c : List Value, j < n → c.length = d.sz ∧ d.K w (xs.getD j z) c ∧ ∀ i u, c[i]? = some u → w.cell? (ad.add (j * d.sz + i)) = some u := by
    intro j
    by_cases hj : j < n
    · obtain ⟨c, h1, h2, h3⟩ := hc j (xs.getD j z) (by rw [List.getD_eq_getElem?_getD, List.getElem?_eq_getElem (by omega)]; rfl)
      exact ⟨c, fun _ => ⟨h1, h2, h3⟩⟩
    · exact ⟨[], fun h => absurd h hj⟩
  exact ⟨ad, fun j => Classical.choose (hc' j), hA, fun j hj => Classical.choose_spec (hc' j) hj⟩

/-- What the iterator hands out: a place and the entry's cells. -/
def cellsAt (cs : Nat → List Value) (x : Nat) : Array Value := #[.int .i64 (x : Nat), .agg (cs x).toArray]
def downTo (len k : Nat) : List Nat := upto (fun k => len - 1 - k) k

theorem back_iter (F : Fence) (n : Nat) (h58 : F.fn 58) (hro : F.round = none) (hn : 1 ≤ n) (Bs len cap : Nat) (A : Option Addr) (p : Nat → Prop) (cs : Nat → List Value) (w : World)
    (hBs : p Bs) (hm : len ≤ 9223372036854775807)
    (hA : 0 < len → ∃ ad, A = some ad ∧ p ad.block ∧ ∀ j, j < len → (cs j).length = 6 ∧ ∀ i u, (cs j)[i]? = some u → w.cell? (ad.add (j * 6 + i)) = some u)
    (hcB : w.cell? ⟨Bs, 0, none⟩ = some (.slice A len cap)) :
    Iter F n Try.prog 58 #[.pointer (some ⟨Bs, 0, none⟩)] (cellsAt cs) (· < len) p len (fun xs => xs = downTo len len) (fun pre => ∃ k, k ≤ len ∧ pre = downTo len k) w := by
  intro l B J Jx W hB hl hW hJ hJx hY h0
  have hcB' : W.cell? ⟨Bs, 0, none⟩ = some (.slice A len cap) := (hW.cell (p := ⟨Bs, 0, none⟩) (World.block_lt_of_cell? w _ hcB)).trans hcB
  cases len with
  | zero => exact back_none F n h58 hro l Bs cap A J Jx W hcB' h0
  | succ m =>
    obtain ⟨ad, rfl, had, hc⟩ := hA (by omega)
    refine back_loop F n h58 hro hn l B Bs (m + 1) cap p ad cs hm (fun j hj => (hc j hj).1) J Jx had hBs W hB hY hcB' (fun j hj i u hu => ?_) h0
    have := (hc j hj).2 i u hu
    exact (hW.cell (World.block_lt_of_cell? w _ this)).trans this
end Go.Proofs.YtbjhjimkljbjlaaI
