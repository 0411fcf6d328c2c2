/- The law of a range over a function whose iterator is itself written with a range over a function: what the two parties promise one another. -/
import Derived.RangeFuncNested
import Derived.RangeFuncBound
import Derived.RangeFuncCalls
import Derived.RangeFuncLeaves
import Derived.WalkKit
import Derived.OwnWalkIn
import Derived.TacticsInMore
import Derived.LoopNIn
import Derived.LoopIn
namespace Go.Proofs.YtbjhjimkljbjlaaI
open Go Go.RowKit

/-- What one round keeps: the blocks p (the iterator's data) and what the iterator itself has laid since its call (from B on). -/
structure Mid (p : Nat → Prop) (B : Nat) (W W' : World) : Prop where
  os : W'.os = W.os
  tape : W'.tape = W.tape
  output : W'.output = W.output
  size : W.heap.size ≤ W'.heap.size
  block : ∀ k, k < W.heap.size → (p k ∨ B ≤ k) → W'.heap[k]? = W.heap[k]?

theorem Mid.refl (p : Nat → Prop) (B : Nat) (W : World) : Mid p B W W := ⟨rfl, rfl, rfl, Nat.le_refl _, fun _ _ _ => rfl⟩
theorem Mid.trans {p : Nat → Prop} {B : Nat} {a b c : World} (h : Mid p B a b) (k : Mid p B b c) : Mid p B a c :=
  ⟨k.os.trans h.os, k.tape.trans h.tape, k.output.trans h.output, Nat.le_trans h.size k.size, fun i hi ho => (k.block i (Nat.lt_of_lt_of_le hi h.size) ho).trans (h.block i hi ho)⟩
theorem Mid.alloc {p : Nat → Prop} {B : Nat} {a w : World} (h : Mid p B a w) (o : Obj) : Mid p B a (w.alloc o) :=
  h.trans ⟨rfl, rfl, rfl, by simp, fun k hk _ => Below.heap_alloc _ _ _ hk⟩
theorem Mid.drew {p : Nat → Prop} {B : Nat} {a w : World} (h : Mid p B a w) : Mid p B a w.drew := ⟨h.os, h.tape, h.output, h.size, h.block⟩
theorem Mid.setCell {p : Nat → Prop} {B : Nat} {a w : World} (h : Mid p B a w) {q : Addr} (hp : ¬ p q.block) (hq : q.block < B) (u : Value) : Mid p B a (w.setCell q u) :=
  h.trans ⟨rfl, rfl, rfl, by simp [World.setCell], fun k _ ho => Below.heap_setCell _ _ _ _ (fun e => by subst e; rcases ho with ho | ho; exact hp ho; omega)⟩
theorem Mid.setNew {p : Nat → Prop} {B : Nat} {a w : World} (h : Mid p B a w) {q : Addr} (hq : a.heap.size ≤ q.block) (u : Value) : Mid p B a (w.setCell q u) :=
  ⟨h.os, h.tape, h.output, by simpa [World.setCell] using h.size, fun k hk ho => (Below.heap_setCell _ _ _ _ (by omega)).trans (h.block k hk ho)⟩
theorem Mid.putObj {p : Nat → Prop} {B : Nat} {a w : World} (h : Mid p B a w) {l : Nat} (hp : ¬ p l) (hq : l < B) (o : Obj) : Mid p B a (w.putObj l o) :=
  h.trans ⟨rfl, rfl, rfl, by simp, fun k _ ho => World.putObj_heap_other (fun e => by subst e; rcases ho with ho | ho; exact hp ho; omega)⟩
theorem Mid.wider {p p' : Nat → Prop} {B B' : Nat} {a w : World} (h : Mid p B a w) (hp : ∀ k, p' k → p k ∨ B ≤ k) (hB : B ≤ B') : Mid p' B' a w :=
  ⟨h.os, h.tape, h.output, h.size, fun k hk ho => h.block k hk (by rcases ho with ho | ho; exact hp k ho; exact .inr (by omega))⟩
/-- What lies from B on. -/
theorem Mid.at_ {p : Nat → Prop} {B : Nat} {a w : World} (h : Mid p B a w) {k : Nat} {o : Obj} (hk : B ≤ k) (ho : a.heap[k]? = some o) : w.heap[k]? = some o :=
  (h.block k (Array.getElem?_eq_some_iff.1 ho).1 (.inr hk)).trans ho
theorem Mid.cell {p : Nat → Prop} {B : Nat} {a w : World} (h : Mid p B a w) {q : Addr} {v : Value} (hq : p q.block ∨ B ≤ q.block) (ho : a.cell? q = some v) : w.cell? q = some v :=
  (World.cell?_of_block (w := a) (a := q) (h.block q.block (World.block_lt_of_cell? a q ho) hq)).trans ho

def Closed {β : Type} (B : Nat) (J : β → World → Prop) : Prop := ∀ s X Y, J s X → Below B X Y → J s Y

/-- An iterator's contract. -/
def Iter {α : Type} (F : Fence) (n : Nat) (P : Program) (g : Nat) (lb : Array Value) (encs : α → Array Value) (E : α → Prop) (p : Nat → Prop) (N : Nat) (S Sp : List α → Prop) (w : World) : Prop :=
  ∀ (l B : Nat) (J Jx : List α → World → Prop) (W : World), B = W.heap.size → l < B → Below w.heap.size w W → Closed B J → Closed B Jx →
    (∀ pre x W1, E x → J pre W1 → pre.length < N → B ≤ W1.heap.size → YieldAt F (n - 1) P l (encs x) W1 fun e W' =>
      Mid p B W1 W' ∧ ((e = .returned (.bool true) ∧ J (pre ++ [x]) W') ∨ (e = .returned (.bool false) ∧ Jx (pre ++ [x]) W'))) →
    J [] W →
    CallsIn F n P g (#[.func (.yield l) #[] #[]] ++ lb) W fun e W' => (∃ v, e = .returned v) ∧ W.heap.size ≤ W'.heap.size ∧
      ((∃ xs, S xs ∧ J xs W') ∨ (∃ pre, Sp pre ∧ Jx pre W'))

/-- What a loop's body owes. -/
def bodyPost {α : Type} (p : Nat → Prop) (B : Nat) (I : List α → World → Prop) (Ix : Code → List α → World → Prop) (xs : List α) (W : World) : Exit → Act → World → Prop
  | .normal, _, W' => Mid p B W W' ∧ I xs W'
  | .ret, _, W' => Mid p B W W' ∧ Ix .ret xs W'
  | .exit id, _, W' => Mid p B W W' ∧ Ix (.exit id) xs W'
  | .goto t, _, W' => Mid p B W W' ∧ Ix (.goto t) xs W'
  | .panic _, _, _ => False
  | .outgrown, _, _ => False

theorem below_putObj {B : Nat} {w W : World} (h : Below B w W) {l : Nat} (hl : B ≤ l) (o : Obj) : Below B w (W.putObj l o) :=
  h.trans ⟨rfl, rfl, rfl, by simp, fun k hk => World.putObj_heap_other (by omega)⟩

theorem round_any {F : Fence} (hd : F.depth = none) {m m' : Nat} {P : Program} {l : Nat} {f : FuncId} {tmps : Array Value} {assign body : Code} {w : World} {R : Ending → World → Prop}
    (h : RoundIn F m P l f tmps assign body w R) : RoundIn F m' P l f tmps assign body w R := ⟨h.1, fun c cs _ => h.2 c cs (fun d hd' => by rw [hd] at hd'; cases hd')⟩
theorem RoundIn.inRound {F : Fence} {m : Nat} {P : Program} {l : Nat} {f : FuncId} {tmps : Array Value} {assign body : Code} {w : World} {R : Ending → World → Prop} (l2 : Nat)
    (h : RoundIn F m P l f tmps assign body w R) : RoundIn (F.inRound l2) m P l f tmps assign body w R := h

variable {F : Fence} {n : Nat} {P : Program}

/-- The law. The body may turn what lies from n₀ on and below the loop's own beginning (its own cells); nothing that the iterator has laid. -/
theorem wpIn_range {α : Type} {g : Operand} {ps : Array Tmp} {assign body : Code} {Q : Exit → Act → World → Prop} {a : Act} {w : World}
    (hro : F.round = none) (h1 : 1 ≤ n) {gf : Nat} {lb : Array Value} (hg : a.eval g = .func (.func gf) #[] lb) (hFg : F.fn gf) (eg : ∀ args w, (callFunc gf args).run P w = .ok (.enter gf args) w)
    {encs : α → Array Value} {E : α → Prop} {p : Nat → Prop} {N : Nat} {S Sp : List α → Prop} (hit : Iter F (n - 1) P gf lb encs E p N S Sp w) (hp : ∀ k, p k → k < w.heap.size) (hps : ∀ x, (encs x).size = ps.size)
    (I : List α → World → Prop) (Ix : Code → List α → World → Prop) (hI : Closed w.heap.size I) (hIx : ∀ c, Closed w.heap.size (Ix c)) (h0 : I [] w) (Ax : α → Act → World → Prop) (hAx : ∀ x a' X o, Ax x a' X → Ax x a' (X.putObj (w.heap.size + 1) o))
    (hassign : ∀ (l : Nat) (pre : List α) (x : α) (W : World) (K : Act → World → Prop), E x → w.heap.size + 2 ≤ W.heap.size → I pre W → (∀ a' W', Mid p w.heap.size W W' → I pre W' → Ax x a' W' → K a' W') →
      assign.wpIn (F.inRound l) (n - 1 - 1) P (Exit.then K (fun _ _ _ => False)) { tmps := (ps.zip (encs x)).foldl (fun t (q, v) => t.setIfInBounds q v) a.tmps, defers := [] } W)
    (hbody : ∀ (l : Nat) (pre : List α) (x : α) (a' : Act) (W : World), E x → w.heap.size + 2 ≤ W.heap.size → I pre W → Ax x a' W → pre.length < N →
      body.wpIn (F.inRound l) (n - 1 - 1) P (bodyPost p w.heap.size I Ix (pre ++ [x]) W) a' W)
    (hdone : ∀ (D : Nat) (xs : List α) (W : World), w.heap.size ≤ D → S xs → I xs W → W.heap[D]? = some (.deferred (some [])) → Q .normal { a with defers := { target := .collected D, args := #[] } :: a.defers } W)
    (hstop : ∀ (D : Nat) (c : Code) (pre : List α) (W : World), w.heap.size ≤ D → Sp pre → Ix c pre W → W.heap[D]? = some (.deferred (some [])) → c.wpIn F n P Q { a with defers := { target := .collected D, args := #[] } :: a.defers } W) :
    (Code.rangeFunc g ps assign body).wpIn F n P Q a w := by
  refine wpIn_rangeFunc ?_
  intro fn hfn
  rw [hro]
  obtain ⟨rec, hrec⟩ : ∃ rec : LoopState → Option Code → Loop, rec = fun st pe => { state := st, pending := pe, fn, tmps := a.tmps, params := ps, assign, body, defers := w.heap.size } := ⟨_, rfl⟩
  obtain ⟨W1, hW1⟩ : ∃ W1, (w.alloc (.deferred (some []))).alloc (.loop (rec .ready none)) = W1 := ⟨_, rfl⟩
  have hz1 : W1.heap.size = w.heap.size + 2 := by rw [← hW1]; simp
  have hL1 : W1.heap[w.heap.size + 1]? = some (.loop (rec .ready none)) := by
    rw [← hW1]; have := World.alloc_heap_new (w.alloc (.deferred (some []))) (.loop (rec .ready none)); rwa [World.size_alloc] at this
  have hK1 : W1.heap[w.heap.size]? = some (.deferred (some [])) := by
    rw [← hW1]; exact (Below.heap_alloc _ _ _ (by simp)).trans (World.alloc_heap_new w _)
  have hb1 : Below w.heap.size w W1 := by rw [← hW1]; exact ((Below.refl _ w).alloc (Nat.le_refl _) _).alloc (by simp) _
  have hI1 : I [] W1 := hI _ _ _ h0 hb1
  refine ⟨w.heap.size + 1, [{ target := .collected w.heap.size, args := #[] }], W1, { target := .fn (.func gf) lb, args := #[.func (.yield (w.heap.size + 1)) #[] #[]] }, W1, gf,
    #[.func (.yield (w.heap.size + 1)) #[] #[]] ++ lb, W1, ?_, ?_, ?_, ?_, fun _ => h1, ?_⟩
  · rw [← hW1, hrec]; exact run_enterLoop_outer _ _ _ _ _
  · simp only [resolve, hg]
    simp [go_sem]
  · intro f' hf'; simp [Target.leads] at hf'; subst hf'; exact hFg
  · simp [invoke, go_sem, eg]
  · refine (hit (w.heap.size + 1) W1.heap.size
      (fun pre W => I pre W ∧ W.heap[w.heap.size + 1]? = some (.loop (rec .ready none)) ∧ W.heap[w.heap.size]? = some (.deferred (some [])))
      (fun pre W => ∃ c, Ix c pre W ∧ W.heap[w.heap.size + 1]? = some (.loop (rec .done (some c))) ∧ W.heap[w.heap.size]? = some (.deferred (some [])))
      W1 rfl (by omega) hb1
      (fun s A B hs hab => ⟨hI _ _ _ hs.1 (hab.mono (by omega)), (hab.block _ (by omega)).trans hs.2.1, (hab.block _ (by omega)).trans hs.2.2⟩)
      (fun s A B hs hab => by
        obtain ⟨c, hc, hl, hk⟩ := hs
        exact ⟨c, hIx c _ _ _ hc (hab.mono (by omega)), (hab.block _ (by omega)).trans hl, (hab.block _ (by omega)).trans hk⟩)
      ?_ ⟨hI1, hL1, hK1⟩).mono ?_
    · rintro pre x W hE ⟨hi, hl, hk⟩ hlen hBW
      have hlt : w.heap.size + 1 < W.heap.size := by omega
      have hy := run_yield (P := P) (args := encs x) hl (by rw [hrec]; exact hps x)
      rw [hrec] at hy
      refine ⟨fn, _, assign, body, hy, roundIn_of_wpIn hfn (hassign _ pre x W _ hE (by omega) hi (fun a' Wa hma hia hax => ⟨_, run_beginRound (hma.at_ (by omega) hl) (by rw [hrec]), ?_⟩))⟩
      have hla := hma.at_ (by omega) hl
      have hka := hma.at_ (Nat.le_refl _) hk
      have hlt' : w.heap.size + 1 < Wa.heap.size := Nat.lt_of_lt_of_le hlt hma.size
      have hl2 : (Wa.putObj (w.heap.size + 1) (.loop { rec .ready none with state := .busy })).heap[w.heap.size + 1]? = some (.loop { rec .ready none with state := .busy }) := World.putObj_heap_same hlt'
      have hk2 : (Wa.putObj (w.heap.size + 1) (.loop { rec .ready none with state := .busy })).heap[w.heap.size]? = some (.deferred (some [])) := (World.putObj_heap_other (by omega)).trans hka
      have hbW : Below w.heap.size Wa (Wa.putObj (w.heap.size + 1) (.loop { rec .ready none with state := .busy })) := below_putObj (Below.refl _ _) (by omega) _
      have hm0 : Mid p W1.heap.size W (Wa.putObj (w.heap.size + 1) (.loop { rec .ready none with state := .busy })) := (hma.wider (fun _ h => .inl h) (by omega)).putObj (fun h => by have := hp _ h; omega) (by omega) _
      refine wpIn_mono (hbody _ pre x _ _ hE (by simp; omega) (hI _ _ _ hia hbW) (hAx _ _ _ _ hax) hlen) ?_
      have fin : ∀ (jump : Option Code) (W3 : World), Mid p w.heap.size (Wa.putObj (w.heap.size + 1) (.loop { rec .ready none with state := .busy })) W3 →
          (Instr.endRound (w.heap.size + 1) jump).run P W3 = .ok (.bool jump.isNone) (W3.putObj (w.heap.size + 1) (.loop (rec (if jump.isNone then .ready else .done) jump))) ∧
          Mid p W1.heap.size W (W3.putObj (w.heap.size + 1) (.loop (rec (if jump.isNone then .ready else .done) jump))) ∧
          Below w.heap.size W3 (W3.putObj (w.heap.size + 1) (.loop (rec (if jump.isNone then .ready else .done) jump))) ∧
          (W3.putObj (w.heap.size + 1) (.loop (rec (if jump.isNone then .ready else .done) jump))).heap[w.heap.size + 1]? = some (.loop (rec (if jump.isNone then .ready else .done) jump)) ∧
          (W3.putObj (w.heap.size + 1) (.loop (rec (if jump.isNone then .ready else .done) jump))).heap[w.heap.size]? = some (.deferred (some [])) := fun jump W3 hk3 => by
        have hl3 := hk3.at_ (by omega) hl2
        have := run_endRound (P := P) jump hl3
        rw [hrec] at this ⊢
        refine ⟨this, ?_, below_putObj (Below.refl _ _) (by omega) _, World.putObj_heap_same (Array.getElem?_eq_some_iff.1 hl3).1, (World.putObj_heap_other (by omega)).trans (hk3.at_ (Nat.le_refl _) hk2)⟩
        rw [hrec] at hm0 hk3
        exact (hm0.trans (hk3.wider (fun _ h => .inl h) (by omega))).putObj (fun h => by have := hp _ h; omega) (by omega) _
      rintro e a3 W3 hpost
      cases e with
      | normal =>
        obtain ⟨hk3, hi3⟩ := hpost
        obtain ⟨hr, hm, hb, hl4, hk4⟩ := fin none W3 hk3
        exact ⟨_, _, hr, hm, .inl ⟨rfl, hI _ _ _ hi3 hb, hl4, hk4⟩⟩
      | ret =>
        obtain ⟨hk3, hi3⟩ := hpost
        obtain ⟨hr, hm, hb, hl4, hk4⟩ := fin (some .ret) W3 hk3
        exact ⟨_, _, hr, hm, .inr ⟨rfl, .ret, hIx _ _ _ _ hi3 hb, hl4, hk4⟩⟩
      | exit id =>
        obtain ⟨hk3, hi3⟩ := hpost
        obtain ⟨hr, hm, hb, hl4, hk4⟩ := fin (some (.exit id)) W3 hk3
        exact ⟨_, _, hr, hm, .inr ⟨rfl, .exit id, hIx _ _ _ _ hi3 hb, hl4, hk4⟩⟩
      | goto t =>
        obtain ⟨hk3, hi3⟩ := hpost
        obtain ⟨hr, hm, hb, hl4, hk4⟩ := fin (some (.goto t)) W3 hk3
        exact ⟨_, _, hr, hm, .inr ⟨rfl, .goto t, hIx _ _ _ _ hi3 hb, hl4, hk4⟩⟩
      | panic ch => exact hpost.elim
      | outgrown => exact hpost.elim
    · rintro e W2 ⟨⟨v, rfl⟩, hsz, (⟨xs, hS, hi, hl, hk⟩ | ⟨pre, hSp, c, hi, hl, hk⟩)⟩
      · exact ⟨none, _, by have := run_endLoop (P := P) hl (by rw [hrec]; simp); rw [hrec] at this; exact this, hdone _ xs _ (Nat.le_refl _) hS (hI _ _ _ hi (below_putObj (Below.refl _ _) (by omega) _)) ((World.putObj_heap_other (by omega)).trans hk)⟩
      · exact ⟨some c, _, by have := run_endLoop (P := P) hl (by rw [hrec]; simp); rw [hrec] at this; exact this, hstop _ c pre _ (Nat.le_refl _) hSp (hIx c _ _ _ hi (below_putObj (Below.refl _ _) (by omega) _)) ((World.putObj_heap_other (by omega)).trans hk)⟩

end Go.Proofs.YtbjhjimkljbjlaaI
