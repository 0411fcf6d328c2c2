/- raftlog.backwards: the numbers and terms of a log, from the last one on, then the snapshot's. -/
import Derived.Test.YtbjhjimkljbjlaaHBack
import Derived.Shelf.Abstract
namespace Go.Proofs.YtbjhjimkljbjlaaI
open Go Go.RowKit Go.Shelf Go.Proofs.Ytbjhjimkljbjlaa Go.Proofs.YtbjhjimkljbjlaaW.PrintWords
attribute [local go_sem] Oper.semAt_some

theorem backw_makes (F : Fence) (n : Nat) (h36 : F.fn 36) (hro : F.round = none) (c : Array Value) (w : World) :
    CallsIn F n Try.prog 36 #[.agg c] w fun e w' => e = .returned (.func (.func 50) #[] #[.pointer (some ⟨w.heap.size, 0, none⟩)]) ∧ w' = w.alloc (.cells c 30) := by
  refine callsIn_of_wp Try.func36 rfl h36 ?_ hro
  simp only [Try.ntmps36, List.size_toArray, List.length_cons, List.length_nil, Nat.reduceAdd, Nat.reduceSub, Array.replicate_succ, Array.replicate_zero, List.push_toArray, List.append_toArray, List.nil_append, List.cons_append]
  gi_wp2
  go_ret
  exact ⟨rfl, rfl⟩

/-- A number and a term, as yield is called with them. -/
def pairOf (x : Int × Int) : Array Value := #[.int .i64 x.1, .int .i64 x.2]
def backList (ix tm : Nat → Int) (si st : Int) (len : Nat) : List (Int × Int) := (downTo len len).map (fun j => (ix j, tm j)) ++ [(si, st)]

theorem downTo_prefix (ix tm : Nat → Int) (si st : Int) {len k : Nat} (hk : k ≤ len) : (downTo len k).map (fun j => (ix j, tm j)) <+: backList ix tm si st len := by
  obtain ⟨m, rfl⟩ := Nat.exists_eq_add_of_le hk
  refine ⟨(((List.range m).map fun i => (fun q => k + m - 1 - q) (k + i)).map fun j => (ix j, tm j)) ++ [(si, st)], ?_⟩
  simp [backList, downTo, upto, List.range_add, Function.comp_def]

/-- The entry's variable of a round. -/
def Ent (B : Nat) (cs : Nat → List Value) (fixed : Nat → Value → Act) (x : Nat) (a' : Act) (X : World) : Prop :=
  ∃ e, B + 2 ≤ e ∧ X.heap[e]? = some (.cells (cs x).toArray 54) ∧ a' = fixed x (.pointer (some ⟨e, 0, none⟩))

set_option maxRecDepth 100000 in
set_option maxHeartbeats 2000000 in
theorem backw_iter (F : Fence) (n : Nat) (h50 : F.fn 50) (h51 : F.fn 51) (h58 : F.fn 58) (hro : F.round = none) (hd : F.depth = none) (hn : 5 ≤ n) (bk len cap : Nat) (A : Option Addr) (p : Nat → Prop) (cs : Nat → List Value) (ix tm : Nat → Int)
    (t v si st : Int) (vo le da : Value) (w : World)
    (hbk : p bk) (hpw : ∀ k, p k → k < w.heap.size) (hm : len ≤ 9223372036854775807)
    (hA : 0 < len → ∃ ad, A = some ad ∧ p ad.block ∧ ∀ j, j < len → (cs j).length = 6 ∧ ∀ i u, (cs j)[i]? = some u → w.cell? (ad.add (j * 6 + i)) = some u)
    (hix : ∀ j, j < len → ∃ kd A3 n3 c3 A4 n4 c4 s, cs j = [.int .i64 (ix j), .int .i64 (tm j), .int .i64 kd, .slice A3 n3 c3, .slice A4 n4 c4, .string s])
    (hcK : w.heap[bk]? = some (.cells #[.int .i64 t, .int .i64 v, .int .i64 si, .int .i64 st, vo, le, da, .slice A len cap] 30)) :
    Iter F n Try.prog 50 #[.pointer (some ⟨bk, 0, none⟩)] pairOf (fun _ => True) p (len + 1) (fun xs => xs = backList ix tm si st len) (fun pre => pre <+: backList ix tm si st len) w := by
  intro l B J Jx W hB hl hW hJ hJx hY h0
  have h1 : 1 ≤ n := by omega
  have hK : W.heap[bk]? = some (.cells #[.int .i64 t, .int .i64 v, .int .i64 si, .int .i64 st, vo, le, da, .slice A len cap] 30) := (hW.block _ (hpw _ hbk)).trans hcK
  have hbW : bk < W.heap.size := by have := hpw _ hbk; have := hW.size; omega
  have c3 : ∀ o, (W.alloc o).cell? ⟨bk, 7, none⟩ = some (.slice A len cap) := fun o => by
    rw [World.cell?_of_block (w := W) (a := ⟨bk, 7, none⟩) (Below.heap_alloc W o bk hbW)]; simp [World.cell?, hK]
  refine callsIn_of_wp_marks Try.func50 rfl h50 ?_ hro
  simp only [Try.ntmps50, List.size_toArray, List.length_cons, List.length_nil, Nat.reduceAdd, Nat.reduceSub, Array.replicate_succ, Array.replicate_zero, List.push_toArray, List.append_toArray, List.nil_append, List.cons_append]
  gi_wp2_with (gi_at_call 51; refine (back_makes F (n - 1) h51 hro _ _ _ _).mono ?_; rintro e w' ⟨rfl, rfl⟩)
  obtain ⟨W2, hW2⟩ : ∃ W2, (W.alloc (.cells #[.func (.yield l) #[] #[]] 79)).alloc (.cells #[.slice A len cap] 28) = W2 := ⟨_, rfl⟩
  have hz2 : W2.heap.size = W.heap.size + 2 := by rw [← hW2]; simp
  have hb2 : Below W.heap.size W W2 := by rw [← hW2]; exact ((Below.refl _ _).alloc (Nat.le_refl _) _).alloc (by simp) _
  have hy2 : W2.heap[W.heap.size]? = some (.cells #[.func (.yield l) #[] #[]] 79) := by
    rw [← hW2]; exact (Below.heap_alloc _ _ _ (by simp)).trans (World.alloc_heap_new W _)
  have hs2 : W2.heap[W.heap.size + 1]? = some (.cells #[.slice A len cap] 28) := by
    rw [← hW2]; have := World.alloc_heap_new (W.alloc (.cells #[.func (.yield l) #[] #[]] 79)) (.cells #[.slice A len cap] 28); rwa [World.size_alloc] at this
  have hk2 : W2.heap[bk]? = some (.cells #[.int .i64 t, .int .i64 v, .int .i64 si, .int .i64 st, vo, le, da, .slice A len cap] 30) := (hb2.block _ hbW).trans hK
  rw [hW2]
  have hwW := hW.size
  refine wpIn_range hro h1 (gf := 58) (lb := #[.pointer (some ⟨W.heap.size + 1, 0, none⟩)]) rfl h58 (enters_of Try.func58 (by kernel_rfl) rfl)
    (back_iter F (n - 1) h58 hro (by omega) (W.heap.size + 1) len cap A (fun k => p k ∨ k = W.heap.size + 1) cs W2 (.inr rfl) hm
      (fun h => by
        obtain ⟨ad, e1, e2, e3⟩ := hA h
        refine ⟨ad, e1, .inl e2, fun j hj => ⟨(e3 j hj).1, fun i u hu => ?_⟩⟩
        have hc := (e3 j hj).2 i u hu
        exact ((hW.trans (hb2.mono hwW)).cell (World.block_lt_of_cell? w _ hc)).trans hc)
      (by simp [World.cell?, hs2]))
    (fun k hk => by rcases hk with hk | hk; have := hpw k hk; omega; omega) (fun _ => rfl)
    (fun pre X => J (pre.map fun j => (ix j, tm j)) X ∧ X.heap[W.heap.size]? = some (.cells #[.func (.yield l) #[] #[]] 79) ∧ X.heap[bk]? = some (.cells #[.int .i64 t, .int .i64 v, .int .i64 si, .int .i64 st, vo, le, da, .slice A len cap] 30) ∧ W.heap.size + 2 ≤ X.heap.size)
    (fun c pre X => c = .ret ∧ Jx (pre.map fun j => (ix j, tm j)) X ∧ W.heap.size ≤ X.heap.size)
    (fun s X Y hs hb => ⟨hJ _ _ _ hs.1 (hb.mono (by omega)), (hb.block _ (by omega)).trans hs.2.1, (hb.block _ (by omega)).trans hs.2.2.1, Nat.le_trans hs.2.2.2 hb.size⟩)
    (fun c s X Y hs hb => ⟨hs.1, hJx _ _ _ hs.2.1 (hb.mono (by omega)), Nat.le_trans hs.2.2 hb.size⟩)
    ⟨hJ _ _ _ h0 (hb2.mono (by omega)), hy2, hk2, by omega⟩
    (Ent W2.heap.size cs fun x e => { tmps := #[.func (.yield l) #[] #[], .pointer (some ⟨bk, 0, none⟩), .pointer (some ⟨W.heap.size, 0, none⟩), undef, e, .pointer (some ⟨bk, 7, none⟩), .slice A len cap, .func (.func 58) #[] #[.pointer (some ⟨W.heap.size + 1, 0, none⟩)], .int .i64 (x : Nat), .agg (cs x).toArray, undef, undef, undef, undef, undef, undef, undef, undef, undef, undef, undef, undef, undef, undef, undef], defers := [] })
    (fun x a' X o h => by obtain ⟨e, e1, e2, e3⟩ := h; exact ⟨e, e1, (World.putObj_heap_other (by omega)).trans e2, e3⟩)
    ?assign ?body ?done ?stop
  case assign =>
    rintro l2 pre x X K hx hX ⟨hj, hy, hk, hz⟩ hK'
    obtain ⟨kd, A3, n3, c3', A4, n4, c4, sd, hcs⟩ := hix x hx
    simp only [cellsAt, hcs]
    gi_wp2
    refine hK' _ _ ((Mid.refl _ _ _).alloc _) ⟨hJ _ _ _ hj ((Below.refl _ _).alloc (by omega) _), (Below.heap_alloc _ _ _ (by omega)).trans hy, (Below.heap_alloc _ _ _ (by omega)).trans hk, by simp; omega⟩ ⟨X.heap.size, hX, ?_, ?_⟩
    · rw [hcs]; exact World.alloc_heap_new X _
    · simp only [hcs]
  case body =>
    rintro l2 pre x a' X hx hX ⟨hj, hy, hk, hz⟩ ⟨e, e1, e2, rfl⟩ hlen
    obtain ⟨kd, A3, n3, c3', A4, n4, c4, sd, hcs⟩ := hix x hx
    rw [hcs] at e2
    have q0 : X.cell? ⟨e, 0, none⟩ = some (.int .i64 (ix x)) := by simp [World.cell?, e2]
    have q1 : X.cell? ⟨e, 1, none⟩ = some (.int .i64 (tm x)) := by simp [World.cell?, e2]
    have qy : X.cell? ⟨W.heap.size, 0, none⟩ = some (.func (.yield l) #[] #[]) := by simp [World.cell?, hy]
    obtain ⟨fn, tmps, assign, body, hyy, hR⟩ := hY (pre.map fun j => (ix j, tm j)) (ix x, tm x) X trivial hj (by simp; omega) (by omega)
    simp only [pairOf] at hyy
    have hR' := RoundIn.inRound l2 (round_any hd (m' := n - 1 - 1 - 1) hR)
    clear hR
    have hdd : (F.inRound l2).depth.isSome = true → 1 ≤ n - 1 - 1 := fun _ => by omega
    gi_wp2
    have hpB : ∀ k, p k → k < B := fun k hk => by have := hpw k hk; omega
    refine hR'.mono ?_
    rintro e' X3 ⟨hm3, ⟨rfl, hj3⟩ | ⟨rfl, hjx3⟩⟩
    · gi_wp2
      have hm4 : Mid (fun k => p k ∨ k = W.heap.size + 1) W2.heap.size X X3 := hm3.wider (fun k hk => by rcases hk with hk | hk; exact .inl hk; exact .inr (by omega)) (by omega)
      exact ⟨hm4, by rw [List.map_append]; exact hj3, hm3.at_ (by omega) hy, (hm3.block _ (by omega) (.inl hbk)).trans hk, Nat.le_trans hz hm3.size⟩
    · gi_wp2
      have hm4 : Mid (fun k => p k ∨ k = W.heap.size + 1) W2.heap.size X X3 := hm3.wider (fun k hk => by rcases hk with hk | hk; exact .inl hk; exact .inr (by omega)) (by omega)
      exact ⟨hm4, rfl, by rw [List.map_append]; exact hjx3, by have := hm3.size; omega⟩
  case done =>
    rintro D xs X hD rfl ⟨hj, hy, hk, hz⟩ hKD
    have qy : X.cell? ⟨W.heap.size, 0, none⟩ = some (.func (.yield l) #[] #[]) := by simp [World.cell?, hy]
    have q2 : X.cell? ⟨bk, 2, none⟩ = some (.int .i64 si) := by simp [World.cell?, hk]
    have q3 : X.cell? ⟨bk, 3, none⟩ = some (.int .i64 st) := by simp [World.cell?, hk]
    obtain ⟨fn, tmps, assign, body, hyy, hR⟩ := hY _ (si, st) X trivial hj (by simp [downTo, upto_length]) (by omega)
    simp only [pairOf] at hyy
    have hdd : F.depth.isSome = true → 1 ≤ n := fun _ => h1
    gi_wp2
    refine hR.mono ?_
    have hDX : D < X.heap.size := (Array.getElem?_eq_some_iff.1 hKD).1
    rintro e' X3 ⟨hm3, ⟨rfl, hj3⟩ | ⟨rfl, hjx3⟩⟩
    · gi_wp2
      have hKD3 := hm3.at_ (by omega) hKD
      refine ⟨by simp, .inl ⟨_, _, rfl, run_takeDeferred hKD3, ?_⟩⟩
      exact ⟨_, results_none rfl _ _ _, ⟨_, rfl⟩, by have := hm3.size; simp; omega, .inl ⟨_, rfl, hJ _ _ _ hj3 (below_putObj (Below.refl _ _) (by omega) _)⟩⟩
    · gi_wp2
      have hKD3 := hm3.at_ (by omega) hKD
      refine ⟨by simp, .inl ⟨_, _, rfl, run_takeDeferred hKD3, ?_⟩⟩
      exact ⟨_, results_none rfl _ _ _, ⟨_, rfl⟩, by have := hm3.size; simp; omega, .inr ⟨_, List.prefix_rfl, hJx _ _ _ hjx3 (below_putObj (Below.refl _ _) (by omega) _)⟩⟩
  case stop =>
    rintro D c pre X hD ⟨k, hk, rfl⟩ ⟨rfl, hjx, hz⟩ hKD
    gi_wp2
    refine ⟨by simp, .inl ⟨_, _, rfl, run_takeDeferred hKD, ?_⟩⟩
    exact ⟨_, results_none rfl _ _ _, ⟨_, rfl⟩, by simp; omega, .inr ⟨_, downTo_prefix ix tm si st hk, hJx _ _ _ hjx (below_putObj (Below.refl _ _) (by omega) _)⟩⟩
end Go.Proofs.YtbjhjimkljbjlaaI
