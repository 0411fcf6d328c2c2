/- Texts put together: Open2, Open, PAx0, PAx2, PAx3, HChk, HIter, HBox, HOpen, HOpen2, PAx1, PAx4, PAx5, HPure. -/
import Derived.Test.YtbjhjimkljbjlaaZWWords
import GoSem.ClaimChange
import GoSem.ClaimJoined
import Derived.WideShapes
import Derived.DataReads
import Derived.Below
import Derived.Test.YtbjhjimkljbjlaaProg
import Derived.Deep.Draws
import Derived.Deep.AppendLies
import Derived.Maps.AppendAt
import Derived.OwnWalk
import Derived.Laws.BytesArg
import Derived.Laws.MakeOwn
import Derived.Laws.OwnMore
import Derived.Deep.OwnRows
import Derived.Tactics
import Derived.Lib.ConvBytes
import Derived.Laws.Slices
import Derived.WalkKit
import Derived.KernelRfl
import Derived.RowKit3
import Derived.Deep.LoopGhost
import Derived.Deep.QuietTactic
import Derived.BigQuiet
import Derived.WideLaws
import Derived.Deep.DeepCutAuto
import Derived.Deep.CutBlock
import Derived.Deep.RegionHeld3
import Derived.Laws.Rows
import Derived.Lib.AppendStr
import Derived.ArgAppend
import Derived.Laws.IdiomCopy
import Derived.OrdersHeld
import Derived.Laws.BitsLemmas
import Derived.RowKit
import Derived.Test.YtbjhjimkljbjlaaZWLast
import Derived.Test.YtbjhjimkljbjlaaZWTab
import Derived.Test.YtbjhjimkljbjlaaZWFour
import Derived.Test.YtbjhjimkljbjlaaZWQPut
import Derived.Test.YtbjhjimkljbjlaaZWApart
import Derived.Test.YtbjhjimkljbjlaaZWArr
import Derived.Test.YtbjhjimkljbjlaaZWZeros
import Derived.Test.YtbjhjimkljbjlaaZWFoot
import Derived.Test.YtbjhjimkljbjlaaZWKept
import Derived.Test.YtbjhjimkljbjlaaZWShare
import Derived.Test.YtbjhjimkljbjlaaZWN
import Derived.Test.YtbjhjimkljbjlaaZWFootNe
import Derived.Test.YtbjhjimkljbjlaaZWAt
import Derived.Test.YtbjhjimkljbjlaaZWEqStruct
import Derived.Test.YtbjhjimkljbjlaaZWRepsOne
import Derived.Test.YtbjhjimkljbjlaaZWInv
import Derived.Test.YtbjhjimkljbjlaaZWInvWords
import Derived.Test.YtbjhjimkljbjlaaZWGuard
import Derived.Test.YtbjhjimkljbjlaaZWNEv
import Derived.Test.YtbjhjimkljbjlaaZWMore
import Derived.RangeFuncNested
import Derived.RangeFuncBound
import Derived.RangeFuncCalls
import Derived.RangeFuncLeaves
import Derived.OwnWalkIn
import Derived.TacticsInMore
import Derived.LoopNIn
import Derived.LoopIn
import Derived.Lib.Hide
import Derived.ProofKit
/- What is read as data, told by its kind: whole numbers, bools, texts, rows, structs. -/
namespace Go.Proofs.YtbjhjimkljbjlaaOpen2
open Go Go.RowKit Go.Proofs.YtbjhjimkljbjlaaW.PrintWords

/-- What is read at type t is of kind d, V holds of it, and R, where it lies within the reach. -/
structure Opens {α : Type} (P : Program) (t : TypeId) (d : Kd α) (V R : α → Prop) : Prop where
  out : ∀ (H : Type) (enc : TypeId × Value → H) (w : World) (fuel : Nat) (cs : List Value) (x : DataW H) (ps : List MemPlace),
    DataW.trod enc P w 0 (fun _ => true) true fuel t cs = some (x, ps) → ∃ a, d.K w a cs ∧ V a ∧ ((DataW.weights P t x).all (· ≤ reachBytes) = true → R a)

variable {P : Program}

theorem opens_imp {α : Type} {t : TypeId} {d : Kd α} {V V' R R' : α → Prop} (h : Opens P t d V R) (hv : ∀ a, V a → V' a) (hr : ∀ a, R a → R' a) : Opens P t d V' R' :=
  ⟨fun H enc w fuel cs x ps hx => by
    obtain ⟨a, hk, ha, hra⟩ := h.out H enc w fuel cs x ps hx
    exact ⟨a, hk, hv a ha, fun hw => hr a (hra hw)⟩⟩

theorem opens_int {t : TypeId} {k : IntKind} (ht : P.underlying t = some (.int k)) : Opens P t (Kd.int k) (fun n => (Lit.int k n).wf = true) (fun _ => True) := by
  constructor
  intro H enc w fuel cs x ps h
  cases fuel with
  | zero => simp [DataW.trod] at h
  | succ fuel =>
    unfold DataW.trod at h
    rw [ht] at h
    split at h <;> try (simp at *; done)
    next k0 k' n h1 =>
      cases h1
      split at h
      · next hc =>
        obtain ⟨rfl, hw⟩ := hc
        exact ⟨n, rfl, hw, fun _ => trivial⟩
      · cases h

theorem opens_string {t : TypeId} (ht : P.underlying t = some .string) : Opens P t Kd.string (fun s => s.size ≤ maxLen) (fun s => s.size ≤ reachBytes) := by
  constructor
  intro H enc w fuel cs x ps h
  cases fuel with
  | zero => simp [DataW.trod] at h
  | succ fuel =>
    unfold DataW.trod at h
    rw [ht] at h
    split at h <;> try (simp at *; done)
    next s h1 =>
      split at h
      · next hc =>
        simp only [Option.some.injEq, Prod.mk.injEq] at h
        obtain ⟨rfl, _⟩ := h
        exact ⟨s, rfl, hc, fun hw => by
          simp only [DataW.weights, List.all_cons, List.all_nil, Bool.and_true, decide_eq_true_eq, Array.length_toList] at hw
          exact hw⟩
      · cases h

theorem mapM_range {β : Type} {f : Nat → Option β} : ∀ {n : Nat} {l : List β}, (List.range n).mapM f = some l → l.length = n ∧ ∀ i, i < n → ∃ b, f i = some b := by
  intro n
  induction n with
  | zero => intro l h; simp at h; subst h; exact ⟨rfl, fun i hi => absurd hi (by omega)⟩
  | succ n ih =>
    intro l h
    rw [List.range_succ, List.mapM_append] at h
    simp only [Option.bind_eq_bind, Option.bind_eq_some_iff, List.mapM_cons, List.mapM_nil, Option.pure_def, Option.some.injEq] at h
    obtain ⟨l1, h1, l2, ⟨b, hb, _, rfl, rfl⟩, rfl⟩ := h
    obtain ⟨e1, e2⟩ := ih h1
    refine ⟨by simp [e1], fun i hi => ?_⟩
    rcases Nat.lt_or_ge i n with hlt | hge
    · exact e2 i hlt
    · obtain rfl : i = n := by omega
      exact ⟨b, hb⟩

theorem cells_at {w : World} {a : Addr} {n : Nat} {cs : List Value} (h : w.cells? 0 a n = some cs) : cs.length = n ∧ ∀ i u, cs[i]? = some u → w.cell? (a.add i) = some u := by
  unfold World.cells? at h
  rw [if_pos (Nat.zero_le _)] at h
  have hl := (mapM_range h).1
  refine ⟨hl, fun i u hu => ?_⟩
  have hi : i < n := by have := (List.getElem?_eq_some_iff.1 hu).1; omega
  have key : ∀ (m : Nat) (l : List Value), (List.range m).mapM (fun i => w.cell? (a.add i)) = some l → ∀ j, j < m → ∃ v, l[j]? = some v ∧ w.cell? (a.add j) = some v := by
    intro m
    induction m with
    | zero => intro l _ j hj; omega
    | succ m ih =>
      intro l hl j hj
      rw [List.range_succ, List.mapM_append] at hl
      simp only [Option.bind_eq_bind, Option.bind_eq_some_iff, List.mapM_cons, List.mapM_nil, Option.pure_def, Option.some.injEq] at hl
      obtain ⟨l1, h1, l2, ⟨b, hb, _, rfl, rfl⟩, rfl⟩ := hl
      have e1 := (mapM_range h1).1
      rcases Nat.lt_or_ge j m with hlt | hge
      · obtain ⟨v, hv, hc⟩ := ih l1 h1 j hlt
        exact ⟨v, by rw [List.getElem?_append_left (by omega)]; exact hv, hc⟩
      · obtain rfl : j = m := by omega
        exact ⟨b, by rw [List.getElem?_append_right (by omega), e1]; simp, hb⟩
  obtain ⟨v, hv, hc⟩ := key n cs h i hi
  rw [hv] at hu
  cases hu
  exact hc

theorem add_add (a : Addr) (m i : Nat) : (a.add m).add i = a.add (m + i) := by
  unfold Addr.add
  by_cases hm : m = 0 <;> by_cases hi : i = 0 <;> simp [hm, hi, Nat.add_assoc]

theorem mapM_get {β : Type} {f : Nat → Option β} : ∀ {n : Nat} {l : List β}, (List.range n).mapM f = some l → ∀ i, i < n → ∃ b, f i = some b ∧ l[i]? = some b := by
  intro n
  induction n with
  | zero => intro l h i hi; omega
  | succ n ih =>
    intro l h i hi
    rw [List.range_succ, List.mapM_append] at h
    simp only [Option.bind_eq_bind, Option.bind_eq_some_iff, List.mapM_cons, List.mapM_nil, Option.pure_def, Option.some.injEq] at h
    obtain ⟨l1, h1, l2, ⟨b, hb, _, rfl, rfl⟩, rfl⟩ := h
    have e1 := (mapM_range h1).1
    rcases Nat.lt_or_ge i n with hlt | hge
    · obtain ⟨c, hc, hl⟩ := ih h1 i hlt
      exact ⟨c, hc, by rw [List.getElem?_append_left (by omega)]; exact hl⟩
    · obtain rfl : i = n := by omega
      exact ⟨b, hb, by rw [List.getElem?_append_right (by omega), e1]; simp⟩

theorem weightsAll_mem {H : Type} {e : TypeId} : ∀ {l : List (DataW H)} {d : DataW H}, d ∈ l → (DataW.weightsAll P e l).all (· ≤ reachBytes) = true → (DataW.weights P e d).all (· ≤ reachBytes) = true := by
  intro l
  induction l with
  | nil => intro d hd; cases hd
  | cons c l ih =>
    intro d hd h
    simp only [DataW.weightsAll, List.all_append, Bool.and_eq_true] at h
    rcases List.mem_cons.1 hd with rfl | hd
    · exact h.1
    · exact ih hd h.2

theorem opens_slice {α : Type} {t e : TypeId} {d : Kd α} {V R : α → Prop} (ht : P.underlying t = some (.slice e)) (hz : P.cellsOf e = d.sz) (hd : Opens P e d V R) :
    Opens P t (Kd.slice e d) (fun xs => ∀ x ∈ xs, V x) (fun xs => xs.length * P.bytesOf e ≤ reachBytes ∧ ∀ x ∈ xs, R x) := by
  constructor
  intro H enc w fuel cs x ps h
  cases fuel with
  | zero => simp [DataW.trod] at h
  | succ fuel =>
    unfold DataW.trod at h
    rw [ht] at h
    split at h <;> try (simp at *; done)
    next h1 => exact ⟨[], ⟨none, 0, rfl, Nat.le_refl _, rfl, by simp, fun hp => absurd hp (by simp)⟩, fun x hx => (by cases hx), fun _ => ⟨by simp, fun x hx => (by cases hx)⟩⟩
    next e' a len cap h1 =>
      cases h1
      dsimp only at h
      split at h
      · next hc =>
        obtain ⟨_, hlc, hcm⟩ := hc
        rw [Option.bind_eq_some_iff] at h
        obtain ⟨elems, hel, hrest⟩ := h
        rw [Option.map_eq_some_iff] at hrest
        obtain ⟨rest, _, hxe⟩ := hrest
        simp only [Prod.mk.injEq] at hxe
        obtain ⟨rfl, _⟩ := hxe
        have hlen := (mapM_range hel).1
        have hall := mapM_get hel
        have hx : ∀ j : Nat, ∃ q : Option (α × List Value), j < len → ∃ y c, q = some (y, c) ∧ c.length = d.sz ∧ d.K w y c ∧ V y ∧ ((DataW.weightsAll P e (elems.map (·.1))).all (· ≤ reachBytes) = true → R y) ∧ ∀ i u, c[i]? = some u → w.cell? (a.add (j * d.sz + i)) = some u := by
          intro j
          by_cases hj : j < len
          · obtain ⟨b, hb, hbl⟩ := hall j hj
            rw [Option.bind_eq_some_iff] at hb
            obtain ⟨c, hc1, hc2⟩ := hb
            obtain ⟨hl, hcell⟩ := cells_at hc1
            obtain ⟨y, hk, hv, hr⟩ := hd.out H enc w fuel c b.1 b.2 hc2
            refine ⟨some (y, c), fun _ => ⟨y, c, rfl, by rw [hl, hz], hk, hv, fun hw => hr (weightsAll_mem (List.mem_map.2 ⟨b, List.mem_of_getElem? hbl, rfl⟩) hw), fun i u hu => ?_⟩⟩
            have := hcell i u hu
            rwa [add_add, hz] at this
          · exact ⟨none, fun hp => absurd hp hj⟩
        have hwt : (DataW.weights P t (.slice (elems.map (·.1)) (rest.map (·.1)))).all (· ≤ reachBytes) = true → len * P.bytesOf e ≤ reachBytes ∧ (DataW.weightsAll P e (elems.map (·.1))).all (· ≤ reachBytes) = true := fun hw => by
          simp only [DataW.weights, ht, List.all_cons, List.all_append, Bool.and_eq_true, decide_eq_true_eq, List.length_map] at hw
          refine ⟨Nat.le_trans (Nat.mul_le_mul_right _ ?_) hw.1, hw.2.1⟩
          omega
        rcases Nat.eq_zero_or_pos len with h0 | h0
        · subst h0
          exact ⟨[], ⟨some a, cap, rfl, by simp, rfl, by simp, fun hp => absurd hp (by simp)⟩, fun x hx => (by cases hx), fun _ => ⟨by simp, fun x hx => (by cases hx)⟩⟩
        · obtain ⟨y0, _⟩ : ∃ y : α, True := by
            obtain ⟨y, c, _⟩ := Classical.choose_spec (hx 0) h0
            exact ⟨y, trivial⟩
          refine ⟨(List.range len).map fun j => ((Classical.choose (hx j)).map (·.1)).getD y0, ⟨some a, cap, by simp, by simpa using hlc, by simp, by simp [maxLen] at hcm ⊢; omega, fun _ => ⟨a, rfl, fun j p hj => ?_⟩⟩, fun y hy => ?_, fun hw => ⟨by simpa using (hwt hw).1, fun y hy => ?_⟩⟩
          · have hjl : j < len := by have := (List.getElem?_eq_some_iff.1 hj).1; simpa using this
            obtain ⟨y, c, hq, hl, hk, _, _, hcell⟩ := Classical.choose_spec (hx j) hjl
            have : p = y := by
              rw [List.getElem?_map, List.getElem?_range hjl] at hj
              simp only [Option.map_some, Option.some.injEq] at hj
              rw [← hj, hq]
              rfl
            subst this
            exact ⟨c, hl, hk, hcell⟩
          · rw [List.mem_map] at hy
            obtain ⟨j, hj, rfl⟩ := hy
            obtain ⟨y, c, hq, _, _, hv, _⟩ := Classical.choose_spec (hx j) (List.mem_range.1 hj)
            rw [hq]
            exact hv
          · rw [List.mem_map] at hy
            obtain ⟨j, hj, rfl⟩ := hy
            obtain ⟨y, c, hq, _, _, _, hr, _⟩ := Classical.choose_spec (hx j) (List.mem_range.1 hj)
            rw [hq]
            exact hr (hwt hw).2
      · cases h

/-- The fields of a struct, from an offset on. -/
structure OpensFs {α : Type} (P : Program) (fs : List Field) (o : Nat) (d : Kd α) (V R : α → Prop) : Prop where
  out : ∀ (H : Type) (enc : TypeId × Value → H) (w : World) (fuel : Nat) (cs : List Value) (xs : List (DataW H × List MemPlace)), cs.length = o + d.sz →
    fs.mapM (fun f => DataW.trod enc P w 0 (fun _ => true) true fuel f.type ((cs.drop f.offset).take (P.cellsOf f.type))) = some xs → ∃ a, d.K w a (cs.drop o) ∧ V a ∧ ((DataW.weightsEach P (fs.map (·.type)) (xs.map (·.1))).all (· ≤ reachBytes) = true → R a)

theorem opensFs_one {α : Type} {f : Field} {o : Nat} {d : Kd α} {V R : α → Prop} (ho : f.offset = o) (hz : P.cellsOf f.type = d.sz) (hd : Opens P f.type d V R) : OpensFs P [f] o d V R := by
  constructor
  intro H enc w fuel cs xs hl h
  simp only [List.mapM_cons, List.mapM_nil, Option.bind_eq_bind, Option.bind_eq_some_iff, Option.pure_def, Option.some.injEq] at h
  obtain ⟨b, hb, _, rfl, rfl⟩ := h
  rw [ho, hz, List.take_of_length_le (by simp; omega)] at hb
  obtain ⟨a, hk, hv, hr⟩ := hd.out H enc w fuel _ b.1 b.2 hb
  exact ⟨a, hk, hv, fun hw => hr (by simpa [DataW.weightsEach] using hw)⟩

theorem opensFs_cons {α β : Type} {f : Field} {fs : List Field} {o : Nat} {a : Kd α} {b : Kd β} {Va Ra : α → Prop} {Vb Rb : β → Prop} (ho : f.offset = o) (hz : P.cellsOf f.type = a.sz)
    (ha : Opens P f.type a Va Ra) (hb : OpensFs P fs (o + a.sz) b Vb Rb) : OpensFs P (f :: fs) o (Kd.pair a b) (fun x => Va x.1 ∧ Vb x.2) (fun x => Ra x.1 ∧ Rb x.2) := by
  constructor
  intro H enc w fuel cs xs hl h
  have hl' : cs.length = o + a.sz + b.sz := by have : (Kd.pair a b).sz = a.sz + b.sz := rfl; omega
  simp only [List.mapM_cons, Option.bind_eq_bind, Option.bind_eq_some_iff, Option.pure_def, Option.some.injEq] at h
  obtain ⟨y, hy, ys, hys, rfl⟩ := h
  rw [ho, hz] at hy
  obtain ⟨p, hp, vp, rp⟩ := ha.out H enc w fuel _ y.1 y.2 hy
  obtain ⟨q, hq, vq, rq⟩ := hb.out H enc w fuel cs ys hl' hys
  refine ⟨(p, q), ⟨(cs.drop o).take a.sz, cs.drop (o + a.sz), ?_, hp, hq⟩, ⟨vp, vq⟩, fun hw => ?_⟩
  · rw [← List.drop_drop, List.take_append_drop]
  · simp only [List.map_cons, DataW.weightsEach, List.all_append, Bool.and_eq_true] at hw
    exact ⟨rp hw.1, rq hw.2⟩

theorem opens_struct {α β : Type} {t : TypeId} {fs : Array Field} {d : Kd α} {V R : α → Prop} (f : β → α) (g : α → β) (hfg : ∀ a, f (g a) = a) (ht : P.underlying t = some (.struct fs)) (hz : P.cellsOf t = d.sz) (h : OpensFs P fs.toList 0 d V R) :
    Opens P t (Kd.iso d f) (fun x => V (f x)) (fun x => R (f x)) := by
  constructor
  intro H enc w fuel cs x ps hx
  cases fuel with
  | zero => simp [DataW.trod] at hx
  | succ fuel =>
    unfold DataW.trod at hx
    rw [ht] at hx
    simp only at hx
    split at hx
    · next hl =>
      rw [Option.map_eq_some_iff] at hx
      obtain ⟨xs, hm, hxe⟩ := hx
      simp only [Prod.mk.injEq] at hxe
      obtain ⟨rfl, _⟩ := hxe
      obtain ⟨a, hk, hv, hr⟩ := h.out H enc w fuel cs xs (by omega) hm
      refine ⟨g a, by show d.K w (f (g a)) cs; rw [hfg]; exact hk, by show V (f (g a)); rw [hfg]; exact hv, fun hw => ?_⟩
      show R (f (g a))
      rw [hfg]
      refine hr ?_
      simpa only [DataW.weights, ht] using hw
    · cases hx
end Go.Proofs.YtbjhjimkljbjlaaOpen2
/- What is read as data, told by its kind: whole numbers, bools, texts, rows, structs. -/
namespace Go.Proofs.YtbjhjimkljbjlaaOpen
open Go Go.RowKit Go.Proofs.YtbjhjimkljbjlaaW.PrintWords

/-- What is read at type t is of kind d, and V holds of it. -/
structure Opens {α : Type} (P : Program) (t : TypeId) (d : Kd α) (V : α → Prop) : Prop where
  out : ∀ (H : Type) (enc : TypeId × Value → H) (w : World) (fuel : Nat) (cs : List Value) (x : DataW H) (ps : List MemPlace),
    DataW.trod enc P w 0 (fun _ => true) true fuel t cs = some (x, ps) → ∃ a, d.K w a cs ∧ V a

variable {P : Program}

theorem opens_imp {α : Type} {t : TypeId} {d : Kd α} {V V' : α → Prop} (h : Opens P t d V) (hv : ∀ a, V a → V' a) : Opens P t d V' :=
  ⟨fun H enc w fuel cs x ps hx => by
    obtain ⟨a, hk, ha⟩ := h.out H enc w fuel cs x ps hx
    exact ⟨a, hk, hv a ha⟩⟩

theorem opens_int {t : TypeId} {k : IntKind} (ht : P.underlying t = some (.int k)) : Opens P t (Kd.int k) (fun n => (Lit.int k n).wf = true) := by
  constructor
  intro H enc w fuel cs x ps h
  cases fuel with
  | zero => simp [DataW.trod] at h
  | succ fuel =>
    unfold DataW.trod at h
    rw [ht] at h
    split at h <;> try (simp at *; done)
    next k0 k' n h1 =>
      cases h1
      split at h
      · next hc =>
        obtain ⟨rfl, hw⟩ := hc
        exact ⟨n, rfl, hw⟩
      · cases h

theorem opens_string {t : TypeId} (ht : P.underlying t = some .string) : Opens P t Kd.string (fun s => s.size ≤ maxLen) := by
  constructor
  intro H enc w fuel cs x ps h
  cases fuel with
  | zero => simp [DataW.trod] at h
  | succ fuel =>
    unfold DataW.trod at h
    rw [ht] at h
    split at h <;> try (simp at *; done)
    next s h1 =>
      split at h
      · next hc => exact ⟨s, rfl, hc⟩
      · cases h

theorem mapM_range {β : Type} {f : Nat → Option β} : ∀ {n : Nat} {l : List β}, (List.range n).mapM f = some l → l.length = n ∧ ∀ i, i < n → ∃ b, f i = some b := by
  intro n
  induction n with
  | zero => intro l h; simp at h; subst h; exact ⟨rfl, fun i hi => absurd hi (by omega)⟩
  | succ n ih =>
    intro l h
    rw [List.range_succ, List.mapM_append] at h
    simp only [Option.bind_eq_bind, Option.bind_eq_some_iff, List.mapM_cons, List.mapM_nil, Option.pure_def, Option.some.injEq] at h
    obtain ⟨l1, h1, l2, ⟨b, hb, _, rfl, rfl⟩, rfl⟩ := h
    obtain ⟨e1, e2⟩ := ih h1
    refine ⟨by simp [e1], fun i hi => ?_⟩
    rcases Nat.lt_or_ge i n with hlt | hge
    · exact e2 i hlt
    · obtain rfl : i = n := by omega
      exact ⟨b, hb⟩

theorem cells_at {w : World} {a : Addr} {n : Nat} {cs : List Value} (h : w.cells? 0 a n = some cs) : cs.length = n ∧ ∀ i u, cs[i]? = some u → w.cell? (a.add i) = some u := by
  unfold World.cells? at h
  rw [if_pos (Nat.zero_le _)] at h
  have hl := (mapM_range h).1
  refine ⟨hl, fun i u hu => ?_⟩
  have hi : i < n := by have := (List.getElem?_eq_some_iff.1 hu).1; omega
  have key : ∀ (m : Nat) (l : List Value), (List.range m).mapM (fun i => w.cell? (a.add i)) = some l → ∀ j, j < m → ∃ v, l[j]? = some v ∧ w.cell? (a.add j) = some v := by
    intro m
    induction m with
    | zero => intro l _ j hj; omega
    | succ m ih =>
      intro l hl j hj
      rw [List.range_succ, List.mapM_append] at hl
      simp only [Option.bind_eq_bind, Option.bind_eq_some_iff, List.mapM_cons, List.mapM_nil, Option.pure_def, Option.some.injEq] at hl
      obtain ⟨l1, h1, l2, ⟨b, hb, _, rfl, rfl⟩, rfl⟩ := hl
      have e1 := (mapM_range h1).1
      rcases Nat.lt_or_ge j m with hlt | hge
      · obtain ⟨v, hv, hc⟩ := ih l1 h1 j hlt
        exact ⟨v, by rw [List.getElem?_append_left (by omega)]; exact hv, hc⟩
      · obtain rfl : j = m := by omega
        exact ⟨b, by rw [List.getElem?_append_right (by omega), e1]; simp, hb⟩
  obtain ⟨v, hv, hc⟩ := key n cs h i hi
  rw [hv] at hu
  cases hu
  exact hc

theorem add_add (a : Addr) (m i : Nat) : (a.add m).add i = a.add (m + i) := by
  unfold Addr.add
  by_cases hm : m = 0 <;> by_cases hi : i = 0 <;> simp [hm, hi, Nat.add_assoc]

theorem opens_slice {α : Type} {t e : TypeId} {d : Kd α} {V : α → Prop} (ht : P.underlying t = some (.slice e)) (hz : P.cellsOf e = d.sz) (hd : Opens P e d V) :
    Opens P t (Kd.slice e d) (fun xs => ∀ x ∈ xs, V x) := by
  constructor
  intro H enc w fuel cs x ps h
  cases fuel with
  | zero => simp [DataW.trod] at h
  | succ fuel =>
    unfold DataW.trod at h
    rw [ht] at h
    split at h <;> try (simp at *; done)
    next h1 => exact ⟨[], ⟨none, 0, rfl, Nat.le_refl _, rfl, by simp, fun hp => absurd hp (by simp)⟩, fun x hx => by cases hx⟩
    next e' a len cap h1 =>
      cases h1
      dsimp only at h
      split at h
      · next hc =>
        obtain ⟨_, hlc, hcm⟩ := hc
        rw [Option.bind_eq_some_iff] at h
        obtain ⟨elems, hel, _⟩ := h
        have hall := (mapM_range hel).2
        have hx : ∀ j : Nat, ∃ q : Option (α × List Value), j < len → ∃ y c, q = some (y, c) ∧ c.length = d.sz ∧ d.K w y c ∧ V y ∧ ∀ i u, c[i]? = some u → w.cell? (a.add (j * d.sz + i)) = some u := by
          intro j
          by_cases hj : j < len
          · obtain ⟨b, hb⟩ := hall j hj
            rw [Option.bind_eq_some_iff] at hb
            obtain ⟨c, hc1, hc2⟩ := hb
            obtain ⟨hl, hcell⟩ := cells_at hc1
            obtain ⟨y, hk, hv⟩ := hd.out H enc w fuel c b.1 b.2 hc2
            refine ⟨some (y, c), fun _ => ⟨y, c, rfl, by rw [hl, hz], hk, hv, fun i u hu => ?_⟩⟩
            have := hcell i u hu
            rwa [add_add, hz] at this
          · exact ⟨none, fun hp => absurd hp hj⟩
        have hne : ∀ j, j < len → ((Classical.choose (hx j)).isSome = true) := fun j hj => by
          obtain ⟨y, c, hq, _⟩ := Classical.choose_spec (hx j) hj
          rw [hq]; rfl
        rcases Nat.eq_zero_or_pos len with h0 | h0
        · subst h0
          exact ⟨[], ⟨some a, cap, rfl, by simp, rfl, by simp, fun hp => absurd hp (by simp)⟩, fun x hx => by cases hx⟩
        · obtain ⟨y0, _⟩ : ∃ y : α, True := by
            obtain ⟨y, c, _⟩ := Classical.choose_spec (hx 0) h0
            exact ⟨y, trivial⟩
          refine ⟨(List.range len).map fun j => ((Classical.choose (hx j)).map (·.1)).getD y0, ⟨some a, cap, by simp, by simpa using hlc, by simp, by simp [maxLen] at hcm ⊢; omega, fun _ => ⟨a, rfl, fun j p hj => ?_⟩⟩, fun y hy => ?_⟩
          · have hjl : j < len := by have := (List.getElem?_eq_some_iff.1 hj).1; simpa using this
            obtain ⟨y, c, hq, hl, hk, _, hcell⟩ := Classical.choose_spec (hx j) hjl
            have : p = y := by
              rw [List.getElem?_map, List.getElem?_range hjl] at hj
              simp only [Option.map_some, Option.some.injEq] at hj
              rw [← hj, hq]
              rfl
            subst this
            exact ⟨c, hl, hk, hcell⟩
          · rw [List.mem_map] at hy
            obtain ⟨j, hj, rfl⟩ := hy
            obtain ⟨y, c, hq, _, _, hv, _⟩ := Classical.choose_spec (hx j) (List.mem_range.1 hj)
            rw [hq]
            exact hv
      · cases h

/-- The fields of a struct, from an offset on. -/
structure OpensFs {α : Type} (P : Program) (fs : List Field) (o : Nat) (d : Kd α) (V : α → Prop) : Prop where
  out : ∀ (H : Type) (enc : TypeId × Value → H) (w : World) (fuel : Nat) (cs : List Value) (xs : List (DataW H × List MemPlace)), cs.length = o + d.sz →
    fs.mapM (fun f => DataW.trod enc P w 0 (fun _ => true) true fuel f.type ((cs.drop f.offset).take (P.cellsOf f.type))) = some xs → ∃ a, d.K w a (cs.drop o) ∧ V a

theorem opensFs_one {α : Type} {f : Field} {o : Nat} {d : Kd α} {V : α → Prop} (ho : f.offset = o) (hz : P.cellsOf f.type = d.sz) (hd : Opens P f.type d V) : OpensFs P [f] o d V := by
  constructor
  intro H enc w fuel cs xs hl h
  simp only [List.mapM_cons, List.mapM_nil, Option.bind_eq_bind, Option.bind_eq_some_iff, Option.pure_def] at h
  obtain ⟨b, hb, _⟩ := h
  rw [ho, hz, List.take_of_length_le (by simp; omega)] at hb
  exact hd.out H enc w fuel _ b.1 b.2 hb

theorem opensFs_cons {α β : Type} {f : Field} {fs : List Field} {o : Nat} {a : Kd α} {b : Kd β} {Va : α → Prop} {Vb : β → Prop} (ho : f.offset = o) (hz : P.cellsOf f.type = a.sz)
    (ha : Opens P f.type a Va) (hb : OpensFs P fs (o + a.sz) b Vb) : OpensFs P (f :: fs) o (Kd.pair a b) (fun x => Va x.1 ∧ Vb x.2) := by
  constructor
  intro H enc w fuel cs xs hl h
  have hl' : cs.length = o + a.sz + b.sz := by have : (Kd.pair a b).sz = a.sz + b.sz := rfl; omega
  simp only [List.mapM_cons, Option.bind_eq_bind, Option.bind_eq_some_iff, Option.pure_def] at h
  obtain ⟨y, hy, ys, hys, _⟩ := h
  rw [ho, hz] at hy
  obtain ⟨p, hp, vp⟩ := ha.out H enc w fuel _ y.1 y.2 hy
  obtain ⟨q, hq, vq⟩ := hb.out H enc w fuel cs ys hl' hys
  refine ⟨(p, q), ⟨(cs.drop o).take a.sz, cs.drop (o + a.sz), ?_, hp, hq⟩, vp, vq⟩
  rw [← List.drop_drop, List.take_append_drop]

theorem opens_struct {α β : Type} {t : TypeId} {fs : Array Field} {d : Kd α} {V : α → Prop} (f : β → α) (g : α → β) (hfg : ∀ a, f (g a) = a) (ht : P.underlying t = some (.struct fs)) (hz : P.cellsOf t = d.sz) (h : OpensFs P fs.toList 0 d V) :
    Opens P t (Kd.iso d f) (fun x => V (f x)) := by
  constructor
  intro H enc w fuel cs x ps hx
  cases fuel with
  | zero => simp [DataW.trod] at hx
  | succ fuel =>
    unfold DataW.trod at hx
    rw [ht] at hx
    simp only at hx
    split at hx
    · next hl =>
      rw [Option.map_eq_some_iff] at hx
      obtain ⟨xs, hm, _⟩ := hx
      obtain ⟨a, hk, hv⟩ := h.out H enc w fuel cs xs (by omega) hm
      exact ⟨g a, by show d.K w (f (g a)) cs; rw [hfg]; exact hk, by show V (f (g a)); rw [hfg]; exact hv⟩
    · cases hx
end Go.Proofs.YtbjhjimkljbjlaaOpen
-- WRITTEN BY hookprint.py (a program of this session, over the kit's print.py): not typed by hand
namespace Go.Proofs.Ytbjhjimkljbjlaa.PA
open Go.RowKit Go.Proofs.YtbjhjimkljbjlaaW.PrintWords Go.Proofs.YtbjhjimkljbjlaaW.PrintLast Go.Proofs.YtbjhjimkljbjlaaW.PrintMore
attribute [local go_sem] max2_int min2_int max_two min_two max_three min_three max_four min_four   -- for this text's walks alone
set_option linter.unusedVariables false
set_option linter.unusedSimpArgs false



def errW : Option Int → Value
  | none => .nilIface
  | some c => .iface 0 (.int .i64 c)
theorem errW_none : errW none = .nilIface := rfl
theorem errW_some (c : Int) : errW (some c) = .iface 0 (.int .i64 c) := rfl

theorem info3 : (Try.prog.info? 3).map (fun i => (i.zero, i.size, i.bytes)) = some (some (.int .i64 0), 1, 8) := by kernel_rfl
theorem info54 : (Try.prog.info? 54).map (fun i => (i.zero, i.size, i.bytes)) = some (some (.agg #[(.int .i64 0), (.int .i64 0), (.int .i64 0), (.slice none 0 0), (.slice none 0 0), (.string ⟨#[]⟩)]), 6, 88) := by kernel_rfl
theorem info57 : (Try.prog.info? 57).map (fun i => (i.zero, i.size, i.bytes)) = some (some (.agg #[(.int .i64 0), (.int .i64 0), (.int .i64 0), (.int .i64 0), (.int .i64 0), (.int .i64 0), (.slice none 0 0), (.slice none 0 0), (.string ⟨#[]⟩), (.int .i64 0), (.int .i64 0), (.int .i64 0), (.slice none 0 0), (.slice none 0 0), (.string ⟨#[]⟩)]), 15, 200) := by kernel_rfl
-- the values' own types
/-! #### struct type 25 -/
structure S25 where
  f0 : (List Int)
  f1 : (List Int)
def z25 : S25 := ⟨([] : List Int), ([] : List Int)⟩
def k25 : Kd S25 := Kd.iso (Kd.pair (Kd.slice 3 (Kd.int .i64)) (Kd.slice 3 (Kd.int .i64))) (fun x : S25 => (x.f0, x.f1))
theorem k25_open {w : World} {x : S25} {cs : List Value} (h : k25.K w x cs) : ∃ A0 c0 A1 c1, cs = [.slice A0 x.f0.length c0, .slice A1 x.f1.length c1] ∧ x.f0.length ≤ c0 ∧ (Kd.int .i64).C w A0 x.f0.length x.f0 ∧ x.f1.length ≤ c1 ∧ (Kd.int .i64).C w A1 x.f1.length x.f1 := by
  obtain ⟨_, _, rfl, ⟨A0, c0, rfl, l0, g0⟩, ⟨A1, c1, rfl, l1, g1⟩⟩ := h
  exact ⟨A0, c0, A1, c1, rfl, l0, g0, l1, g1⟩
theorem k25_openM {w : World} {base : Nat} {ok : Nat → Prop} {x : S25} {cs : List Value} (h : k25.M w base ok x cs) : ∃ v0 v1, cs = [v0, v1] ∧ (Kd.int .i64).R 3 w base ok v0 x.f0 ∧ (Kd.int .i64).R 3 w base ok v1 x.f1 := by
  obtain ⟨_, _, rfl, ⟨v0, rfl, g0⟩, ⟨v1, rfl, g1⟩⟩ := h
  exact ⟨v0, v1, rfl, g0, g1⟩
theorem k25_mk (w : World) (x : S25) {A0 : Option Addr} {c0 : Nat} (l0 : x.f0.length ≤ c0) (g0 : (Kd.int .i64).C w A0 x.f0.length x.f0) {A1 : Option Addr} {c1 : Nat} (l1 : x.f1.length ≤ c1) (g1 : (Kd.int .i64).C w A1 x.f1.length x.f1) : k25.K w x [.slice A0 x.f0.length c0, .slice A1 x.f1.length c1] := ⟨[.slice A0 x.f0.length c0], [.slice A1 x.f1.length c1], rfl, ⟨A0, c0, rfl, l0, g0⟩, ⟨A1, c1, rfl, l1, g1⟩⟩
theorem k25_mkM (w : World) (base : Nat) (ok : Nat → Prop) (x : S25) {v0 : Value} (g0 : (Kd.int .i64).R 3 w base ok v0 x.f0) {v1 : Value} (g1 : (Kd.int .i64).R 3 w base ok v1 x.f1) : k25.M w base ok x [v0, v1] := ⟨[v0], [v1], rfl, ⟨v0, rfl, g0⟩, ⟨v1, rfl, g1⟩⟩
/-! #### struct type 54 -/
structure S54 where
  f0 : Int
  f1 : Int
  f2 : Int
  f3 : S25
  f4 : ByteArray
def z54 : S54 := ⟨(0 : Int), (0 : Int), (0 : Int), z25, (⟨#[]⟩ : ByteArray)⟩
def k54 : Kd S54 := Kd.iso (Kd.pair (Kd.int .i64) (Kd.pair (Kd.int .i64) (Kd.pair (Kd.int .i64) (Kd.pair k25 Kd.string)))) (fun x : S54 => (x.f0, x.f1, x.f2, x.f3, x.f4))
theorem k54_open {w : World} {x : S54} {cs : List Value} (h : k54.K w x cs) : ∃ A3 c3 A4 c4, cs = [.int .i64 x.f0, .int .i64 x.f1, .int .i64 x.f2, .slice A3 x.f3.f0.length c3, .slice A4 x.f3.f1.length c4, .string x.f4] ∧ x.f3.f0.length ≤ c3 ∧ (Kd.int .i64).C w A3 x.f3.f0.length x.f3.f0 ∧ x.f3.f1.length ≤ c4 ∧ (Kd.int .i64).C w A4 x.f3.f1.length x.f3.f1 := by
  obtain ⟨_, _, rfl, rfl, ⟨_, _, rfl, rfl, ⟨_, _, rfl, rfl, ⟨_, _, rfl, s3, rfl⟩⟩⟩⟩ := h
  obtain ⟨A3, c3, A4, c4, rfl, l3, g3, l4, g4⟩ := k25_open s3
  exact ⟨A3, c3, A4, c4, rfl, l3, g3, l4, g4⟩
theorem k54_openM {w : World} {base : Nat} {ok : Nat → Prop} {x : S54} {cs : List Value} (h : k54.M w base ok x cs) : ∃ v3 v4, cs = [.int .i64 x.f0, .int .i64 x.f1, .int .i64 x.f2, v3, v4, .string x.f4] ∧ (Kd.int .i64).R 3 w base ok v3 x.f3.f0 ∧ (Kd.int .i64).R 3 w base ok v4 x.f3.f1 := by
  obtain ⟨_, _, rfl, rfl, ⟨_, _, rfl, rfl, ⟨_, _, rfl, rfl, ⟨_, _, rfl, s3, rfl⟩⟩⟩⟩ := h
  obtain ⟨v3, v4, rfl, g3, g4⟩ := k25_openM s3
  exact ⟨v3, v4, rfl, g3, g4⟩
theorem k54_mk (w : World) (x : S54) {A3 : Option Addr} {c3 : Nat} (l3 : x.f3.f0.length ≤ c3) (g3 : (Kd.int .i64).C w A3 x.f3.f0.length x.f3.f0) {A4 : Option Addr} {c4 : Nat} (l4 : x.f3.f1.length ≤ c4) (g4 : (Kd.int .i64).C w A4 x.f3.f1.length x.f3.f1) : k54.K w x [.int .i64 x.f0, .int .i64 x.f1, .int .i64 x.f2, .slice A3 x.f3.f0.length c3, .slice A4 x.f3.f1.length c4, .string x.f4] := ⟨[.int .i64 x.f0], [.int .i64 x.f1, .int .i64 x.f2, .slice A3 x.f3.f0.length c3, .slice A4 x.f3.f1.length c4, .string x.f4], rfl, rfl, ⟨[.int .i64 x.f1], [.int .i64 x.f2, .slice A3 x.f3.f0.length c3, .slice A4 x.f3.f1.length c4, .string x.f4], rfl, rfl, ⟨[.int .i64 x.f2], [.slice A3 x.f3.f0.length c3, .slice A4 x.f3.f1.length c4, .string x.f4], rfl, rfl, ⟨[.slice A3 x.f3.f0.length c3, .slice A4 x.f3.f1.length c4], [.string x.f4], rfl, (k25_mk w x.f3 l3 g3 l4 g4), rfl⟩⟩⟩⟩
theorem k54_mkM (w : World) (base : Nat) (ok : Nat → Prop) (x : S54) {v3 : Value} (g3 : (Kd.int .i64).R 3 w base ok v3 x.f3.f0) {v4 : Value} (g4 : (Kd.int .i64).R 3 w base ok v4 x.f3.f1) : k54.M w base ok x [.int .i64 x.f0, .int .i64 x.f1, .int .i64 x.f2, v3, v4, .string x.f4] := ⟨[.int .i64 x.f0], [.int .i64 x.f1, .int .i64 x.f2, v3, v4, .string x.f4], rfl, rfl, ⟨[.int .i64 x.f1], [.int .i64 x.f2, v3, v4, .string x.f4], rfl, rfl, ⟨[.int .i64 x.f2], [v3, v4, .string x.f4], rfl, rfl, ⟨[v3, v4], [.string x.f4], rfl, (k25_mkM w base ok x.f3 g3 g4), rfl⟩⟩⟩⟩
def rd_T54 (xs : List S54) (i : Int) : S54 := xs.getD i.toNat z54
theorem at_T54 {w : World} {A : Option Addr} {n : Nat} {xs : List S54} (h : Kd.C k54 w A n xs) (i : Int) (h0 : 0 ≤ i) (h1 : i < n) : ∃ ad A3 c3 A4 c4, A = some ad ∧ w.cell? (ad.add (i.toNat * 6)) = some (.int .i64 (rd_T54 xs i).f0) ∧ w.cell? ⟨(ad.add (i.toNat * 6)).block, (ad.add (i.toNat * 6)).off + 1, none⟩ = some (.int .i64 (rd_T54 xs i).f1) ∧ w.cell? ⟨(ad.add (i.toNat * 6)).block, (ad.add (i.toNat * 6)).off + 2, none⟩ = some (.int .i64 (rd_T54 xs i).f2) ∧ w.cell? ⟨(ad.add (i.toNat * 6)).block, (ad.add (i.toNat * 6)).off + 3, none⟩ = some (.slice A3 (rd_T54 xs i).f3.f0.length c3) ∧ w.cell? ⟨(ad.add (i.toNat * 6)).block, (ad.add (i.toNat * 6)).off + 4, none⟩ = some (.slice A4 (rd_T54 xs i).f3.f1.length c4) ∧ w.cell? ⟨(ad.add (i.toNat * 6)).block, (ad.add (i.toNat * 6)).off + 5, none⟩ = some (.string (rd_T54 xs i).f4) ∧ (rd_T54 xs i).f3.f0.length ≤ c3 ∧ (Kd.int .i64).C w A3 (rd_T54 xs i).f3.f0.length (rd_T54 xs i).f3.f0 ∧ (rd_T54 xs i).f3.f1.length ≤ c4 ∧ (Kd.int .i64).C w A4 (rd_T54 xs i).f3.f1.length (rd_T54 xs i).f3.f1 := by
  obtain ⟨ad, c, e, _, hK, hc0⟩ := Kd.C_get h z54 i h0 h1
  have hc : ∀ j u, c[j]? = some u → w.cell? (ad.add (i.toNat * 6 + j)) = some u := hc0
  obtain ⟨A3, c3, A4, c4, rfl, l3, g3, l4, g4⟩ := k54_open hK
  exact ⟨ad, A3, c3, A4, c4, e, hc 0 _ rfl, by rw [← add_field _ _ 1 (by omega)]; exact hc 1 _ rfl, by rw [← add_field _ _ 2 (by omega)]; exact hc 2 _ rfl, by rw [← add_field _ _ 3 (by omega)]; exact hc 3 _ rfl, by rw [← add_field _ _ 4 (by omega)]; exact hc 4 _ rfl, by rw [← add_field _ _ 5 (by omega)]; exact hc 5 _ rfl, l3, g3, l4, g4⟩

/-! #### struct type 27 -/
structure S27 where
  f0 : Int
  f1 : Int
  f2 : S25
  f3 : ByteArray
def z27 : S27 := ⟨(0 : Int), (0 : Int), z25, (⟨#[]⟩ : ByteArray)⟩
def k27 : Kd S27 := Kd.iso (Kd.pair (Kd.int .i64) (Kd.pair (Kd.int .i64) (Kd.pair k25 Kd.string))) (fun x : S27 => (x.f0, x.f1, x.f2, x.f3))
theorem k27_open {w : World} {x : S27} {cs : List Value} (h : k27.K w x cs) : ∃ A2 c2 A3 c3, cs = [.int .i64 x.f0, .int .i64 x.f1, .slice A2 x.f2.f0.length c2, .slice A3 x.f2.f1.length c3, .string x.f3] ∧ x.f2.f0.length ≤ c2 ∧ (Kd.int .i64).C w A2 x.f2.f0.length x.f2.f0 ∧ x.f2.f1.length ≤ c3 ∧ (Kd.int .i64).C w A3 x.f2.f1.length x.f2.f1 := by
  obtain ⟨_, _, rfl, rfl, ⟨_, _, rfl, rfl, ⟨_, _, rfl, s2, rfl⟩⟩⟩ := h
  obtain ⟨A2, c2, A3, c3, rfl, l2, g2, l3, g3⟩ := k25_open s2
  exact ⟨A2, c2, A3, c3, rfl, l2, g2, l3, g3⟩
theorem k27_openM {w : World} {base : Nat} {ok : Nat → Prop} {x : S27} {cs : List Value} (h : k27.M w base ok x cs) : ∃ v2 v3, cs = [.int .i64 x.f0, .int .i64 x.f1, v2, v3, .string x.f3] ∧ (Kd.int .i64).R 3 w base ok v2 x.f2.f0 ∧ (Kd.int .i64).R 3 w base ok v3 x.f2.f1 := by
  obtain ⟨_, _, rfl, rfl, ⟨_, _, rfl, rfl, ⟨_, _, rfl, s2, rfl⟩⟩⟩ := h
  obtain ⟨v2, v3, rfl, g2, g3⟩ := k25_openM s2
  exact ⟨v2, v3, rfl, g2, g3⟩
theorem k27_mkM (w : World) (base : Nat) (ok : Nat → Prop) (x : S27) {v2 : Value} (g2 : (Kd.int .i64).R 3 w base ok v2 x.f2.f0) {v3 : Value} (g3 : (Kd.int .i64).R 3 w base ok v3 x.f2.f1) : k27.M w base ok x [.int .i64 x.f0, .int .i64 x.f1, v2, v3, .string x.f3] := ⟨[.int .i64 x.f0], [.int .i64 x.f1, v2, v3, .string x.f3], rfl, rfl, ⟨[.int .i64 x.f1], [v2, v3, .string x.f3], rfl, rfl, ⟨[v2, v3], [.string x.f3], rfl, (k25_mkM w base ok x.f2 g2 g3), rfl⟩⟩⟩
/-! #### struct type 30 -/
structure S30 where
  f0 : Int
  f1 : Int
  f2 : S27
  f3 : (List S54)
/-! #### struct type 57 -/
structure S57 where
  f0 : Int
  f1 : Int
  f2 : Int
  f3 : S54
  f4 : Int
  f5 : S27
def z57 : S57 := ⟨(0 : Int), (0 : Int), (0 : Int), z54, (0 : Int), z27⟩
def k57 : Kd S57 := Kd.iso (Kd.pair (Kd.int .i64) (Kd.pair (Kd.int .i64) (Kd.pair (Kd.int .i64) (Kd.pair k54 (Kd.pair (Kd.int .i64) k27))))) (fun x : S57 => (x.f0, x.f1, x.f2, x.f3, x.f4, x.f5))
theorem k57_open {w : World} {x : S57} {cs : List Value} (h : k57.K w x cs) : ∃ A6 c6 A7 c7 A12 c12 A13 c13, cs = [.int .i64 x.f0, .int .i64 x.f1, .int .i64 x.f2, .int .i64 x.f3.f0, .int .i64 x.f3.f1, .int .i64 x.f3.f2, .slice A6 x.f3.f3.f0.length c6, .slice A7 x.f3.f3.f1.length c7, .string x.f3.f4, .int .i64 x.f4, .int .i64 x.f5.f0, .int .i64 x.f5.f1, .slice A12 x.f5.f2.f0.length c12, .slice A13 x.f5.f2.f1.length c13, .string x.f5.f3] ∧ x.f3.f3.f0.length ≤ c6 ∧ (Kd.int .i64).C w A6 x.f3.f3.f0.length x.f3.f3.f0 ∧ x.f3.f3.f1.length ≤ c7 ∧ (Kd.int .i64).C w A7 x.f3.f3.f1.length x.f3.f3.f1 ∧ x.f5.f2.f0.length ≤ c12 ∧ (Kd.int .i64).C w A12 x.f5.f2.f0.length x.f5.f2.f0 ∧ x.f5.f2.f1.length ≤ c13 ∧ (Kd.int .i64).C w A13 x.f5.f2.f1.length x.f5.f2.f1 := by
  obtain ⟨_, _, rfl, rfl, ⟨_, _, rfl, rfl, ⟨_, _, rfl, rfl, ⟨_, _, rfl, s3, ⟨_, _, rfl, rfl, s10⟩⟩⟩⟩⟩ := h
  obtain ⟨A6, c6, A7, c7, rfl, l6, g6, l7, g7⟩ := k54_open s3
  obtain ⟨A12, c12, A13, c13, rfl, l12, g12, l13, g13⟩ := k27_open s10
  exact ⟨A6, c6, A7, c7, A12, c12, A13, c13, rfl, l6, g6, l7, g7, l12, g12, l13, g13⟩
theorem k57_openM {w : World} {base : Nat} {ok : Nat → Prop} {x : S57} {cs : List Value} (h : k57.M w base ok x cs) : ∃ v6 v7 v12 v13, cs = [.int .i64 x.f0, .int .i64 x.f1, .int .i64 x.f2, .int .i64 x.f3.f0, .int .i64 x.f3.f1, .int .i64 x.f3.f2, v6, v7, .string x.f3.f4, .int .i64 x.f4, .int .i64 x.f5.f0, .int .i64 x.f5.f1, v12, v13, .string x.f5.f3] ∧ (Kd.int .i64).R 3 w base ok v6 x.f3.f3.f0 ∧ (Kd.int .i64).R 3 w base ok v7 x.f3.f3.f1 ∧ (Kd.int .i64).R 3 w base ok v12 x.f5.f2.f0 ∧ (Kd.int .i64).R 3 w base ok v13 x.f5.f2.f1 := by
  obtain ⟨_, _, rfl, rfl, ⟨_, _, rfl, rfl, ⟨_, _, rfl, rfl, ⟨_, _, rfl, s3, ⟨_, _, rfl, rfl, s10⟩⟩⟩⟩⟩ := h
  obtain ⟨v6, v7, rfl, g6, g7⟩ := k54_openM s3
  obtain ⟨v12, v13, rfl, g12, g13⟩ := k27_openM s10
  exact ⟨v6, v7, v12, v13, rfl, g6, g7, g12, g13⟩
theorem k57_mkM (w : World) (base : Nat) (ok : Nat → Prop) (x : S57) {v6 : Value} (g6 : (Kd.int .i64).R 3 w base ok v6 x.f3.f3.f0) {v7 : Value} (g7 : (Kd.int .i64).R 3 w base ok v7 x.f3.f3.f1) {v12 : Value} (g12 : (Kd.int .i64).R 3 w base ok v12 x.f5.f2.f0) {v13 : Value} (g13 : (Kd.int .i64).R 3 w base ok v13 x.f5.f2.f1) : k57.M w base ok x [.int .i64 x.f0, .int .i64 x.f1, .int .i64 x.f2, .int .i64 x.f3.f0, .int .i64 x.f3.f1, .int .i64 x.f3.f2, v6, v7, .string x.f3.f4, .int .i64 x.f4, .int .i64 x.f5.f0, .int .i64 x.f5.f1, v12, v13, .string x.f5.f3] := ⟨[.int .i64 x.f0], [.int .i64 x.f1, .int .i64 x.f2, .int .i64 x.f3.f0, .int .i64 x.f3.f1, .int .i64 x.f3.f2, v6, v7, .string x.f3.f4, .int .i64 x.f4, .int .i64 x.f5.f0, .int .i64 x.f5.f1, v12, v13, .string x.f5.f3], rfl, rfl, ⟨[.int .i64 x.f1], [.int .i64 x.f2, .int .i64 x.f3.f0, .int .i64 x.f3.f1, .int .i64 x.f3.f2, v6, v7, .string x.f3.f4, .int .i64 x.f4, .int .i64 x.f5.f0, .int .i64 x.f5.f1, v12, v13, .string x.f5.f3], rfl, rfl, ⟨[.int .i64 x.f2], [.int .i64 x.f3.f0, .int .i64 x.f3.f1, .int .i64 x.f3.f2, v6, v7, .string x.f3.f4, .int .i64 x.f4, .int .i64 x.f5.f0, .int .i64 x.f5.f1, v12, v13, .string x.f5.f3], rfl, rfl, ⟨[.int .i64 x.f3.f0, .int .i64 x.f3.f1, .int .i64 x.f3.f2, v6, v7, .string x.f3.f4], [.int .i64 x.f4, .int .i64 x.f5.f0, .int .i64 x.f5.f1, v12, v13, .string x.f5.f3], rfl, (k54_mkM w base ok x.f3 g6 g7), ⟨[.int .i64 x.f4], [.int .i64 x.f5.f0, .int .i64 x.f5.f1, v12, v13, .string x.f5.f3], rfl, rfl, (k27_mkM w base ok x.f5 g12 g13)⟩⟩⟩⟩⟩
def rd_T57 (xs : List S57) (i : Int) : S57 := xs.getD i.toNat z57
theorem at_T57 {w : World} {A : Option Addr} {n : Nat} {xs : List S57} (h : Kd.C k57 w A n xs) (i : Int) (h0 : 0 ≤ i) (h1 : i < n) : ∃ ad A6 c6 A7 c7 A12 c12 A13 c13, A = some ad ∧ w.cell? (ad.add (i.toNat * 15)) = some (.int .i64 (rd_T57 xs i).f0) ∧ w.cell? ⟨(ad.add (i.toNat * 15)).block, (ad.add (i.toNat * 15)).off + 1, none⟩ = some (.int .i64 (rd_T57 xs i).f1) ∧ w.cell? ⟨(ad.add (i.toNat * 15)).block, (ad.add (i.toNat * 15)).off + 2, none⟩ = some (.int .i64 (rd_T57 xs i).f2) ∧ w.cell? ⟨(ad.add (i.toNat * 15)).block, (ad.add (i.toNat * 15)).off + 3, none⟩ = some (.int .i64 (rd_T57 xs i).f3.f0) ∧ w.cell? ⟨(ad.add (i.toNat * 15)).block, (ad.add (i.toNat * 15)).off + 4, none⟩ = some (.int .i64 (rd_T57 xs i).f3.f1) ∧ w.cell? ⟨(ad.add (i.toNat * 15)).block, (ad.add (i.toNat * 15)).off + 5, none⟩ = some (.int .i64 (rd_T57 xs i).f3.f2) ∧ w.cell? ⟨(ad.add (i.toNat * 15)).block, (ad.add (i.toNat * 15)).off + 6, none⟩ = some (.slice A6 (rd_T57 xs i).f3.f3.f0.length c6) ∧ w.cell? ⟨(ad.add (i.toNat * 15)).block, (ad.add (i.toNat * 15)).off + 7, none⟩ = some (.slice A7 (rd_T57 xs i).f3.f3.f1.length c7) ∧ w.cell? ⟨(ad.add (i.toNat * 15)).block, (ad.add (i.toNat * 15)).off + 8, none⟩ = some (.string (rd_T57 xs i).f3.f4) ∧ w.cell? ⟨(ad.add (i.toNat * 15)).block, (ad.add (i.toNat * 15)).off + 9, none⟩ = some (.int .i64 (rd_T57 xs i).f4) ∧ w.cell? ⟨(ad.add (i.toNat * 15)).block, (ad.add (i.toNat * 15)).off + 10, none⟩ = some (.int .i64 (rd_T57 xs i).f5.f0) ∧ w.cell? ⟨(ad.add (i.toNat * 15)).block, (ad.add (i.toNat * 15)).off + 11, none⟩ = some (.int .i64 (rd_T57 xs i).f5.f1) ∧ w.cell? ⟨(ad.add (i.toNat * 15)).block, (ad.add (i.toNat * 15)).off + 12, none⟩ = some (.slice A12 (rd_T57 xs i).f5.f2.f0.length c12) ∧ w.cell? ⟨(ad.add (i.toNat * 15)).block, (ad.add (i.toNat * 15)).off + 13, none⟩ = some (.slice A13 (rd_T57 xs i).f5.f2.f1.length c13) ∧ w.cell? ⟨(ad.add (i.toNat * 15)).block, (ad.add (i.toNat * 15)).off + 14, none⟩ = some (.string (rd_T57 xs i).f5.f3) ∧ (rd_T57 xs i).f3.f3.f0.length ≤ c6 ∧ (Kd.int .i64).C w A6 (rd_T57 xs i).f3.f3.f0.length (rd_T57 xs i).f3.f3.f0 ∧ (rd_T57 xs i).f3.f3.f1.length ≤ c7 ∧ (Kd.int .i64).C w A7 (rd_T57 xs i).f3.f3.f1.length (rd_T57 xs i).f3.f3.f1 ∧ (rd_T57 xs i).f5.f2.f0.length ≤ c12 ∧ (Kd.int .i64).C w A12 (rd_T57 xs i).f5.f2.f0.length (rd_T57 xs i).f5.f2.f0 ∧ (rd_T57 xs i).f5.f2.f1.length ≤ c13 ∧ (Kd.int .i64).C w A13 (rd_T57 xs i).f5.f2.f1.length (rd_T57 xs i).f5.f2.f1 := by
  obtain ⟨ad, c, e, _, hK, hc0⟩ := Kd.C_get h z57 i h0 h1
  have hc : ∀ j u, c[j]? = some u → w.cell? (ad.add (i.toNat * 15 + j)) = some u := hc0
  obtain ⟨A6, c6, A7, c7, A12, c12, A13, c13, rfl, l6, g6, l7, g7, l12, g12, l13, g13⟩ := k57_open hK
  exact ⟨ad, A6, c6, A7, c7, A12, c12, A13, c13, e, hc 0 _ rfl, by rw [← add_field _ _ 1 (by omega)]; exact hc 1 _ rfl, by rw [← add_field _ _ 2 (by omega)]; exact hc 2 _ rfl, by rw [← add_field _ _ 3 (by omega)]; exact hc 3 _ rfl, by rw [← add_field _ _ 4 (by omega)]; exact hc 4 _ rfl, by rw [← add_field _ _ 5 (by omega)]; exact hc 5 _ rfl, by rw [← add_field _ _ 6 (by omega)]; exact hc 6 _ rfl, by rw [← add_field _ _ 7 (by omega)]; exact hc 7 _ rfl, by rw [← add_field _ _ 8 (by omega)]; exact hc 8 _ rfl, by rw [← add_field _ _ 9 (by omega)]; exact hc 9 _ rfl, by rw [← add_field _ _ 10 (by omega)]; exact hc 10 _ rfl, by rw [← add_field _ _ 11 (by omega)]; exact hc 11 _ rfl, by rw [← add_field _ _ 12 (by omega)]; exact hc 12 _ rfl, by rw [← add_field _ _ 13 (by omega)]; exact hc 13 _ rfl, by rw [← add_field _ _ 14 (by omega)]; exact hc 14 _ rfl, l6, g6, l7, g7, l12, g12, l13, g13⟩

end Go.Proofs.Ytbjhjimkljbjlaa.PA
-- WRITTEN BY hookprint.py (a program of this session, over the kit's print.py): not typed by hand
namespace Go.Proofs.Ytbjhjimkljbjlaa.PA
open Go.RowKit Go.Proofs.YtbjhjimkljbjlaaW.PrintWords Go.Proofs.YtbjhjimkljbjlaaW.PrintLast Go.Proofs.YtbjhjimkljbjlaaW.PrintMore
attribute [local go_sem] max2_int min2_int max_two min_two max_three min_three max_four min_four   -- for this text's walks alone
set_option linter.unusedVariables false
set_option linter.unusedSimpArgs false

/-! ### raftlog_Check: function 12 -/
mutual
def raftlog_Check.j0 : Nat → Bool → Int → Int → Int → Int → List Int → List Int → ByteArray → List (S54) → Option (Int)
  | 0, _, _, _, _, _, _, _, _, _ => none
  | k + 1, x14, x107000, x107001, x107002, x107003, x107004, x107005, x107006, x107007 => if x14 = true then (some 1) else (raftlog_Check.l0 k x107007 (x107007.length : Int) 0 x107000 x107001 x107002 x107003 x107004 x107005 x107006 x107007)
def raftlog_Check.l0 : Nat → List (S54) → Int → Int → Int → Int → Int → Int → List Int → List Int → ByteArray → List (S54) → Option (Int)
  | 0, _, _, _, _, _, _, _, _, _, _, _ => none
  | k + 1, x16, x17, x18, x107000, x107001, x107002, x107003, x107004, x107005, x107006, x107007 => if x18 < x17 then (if 0 ≤ x18 then (if x18 < (x16.length : Int) then (if ((rd_T54 x16 x18).f0) < 1 then (some 1) else (if (wrap64 ((wrap64 (((rd_T54 x16 x18).f0) - 1)) - x18)) = x107002 then (raftlog_Check.l0 k x16 x17 (wrap64 (x18 + 1)) x107000 x107001 x107002 x107003 x107004 x107005 x107006 x107007) else (some 1))) else (none)) else (none)) else (some 0)
end
def raftlog_Check.f (k : Nat) (a0_0 : Int) (a0_1 : Int) (a0_2 : Int) (a0_3 : Int) (l0_4 : List Int) (l0_5 : List Int) (a0_6 : ByteArray) (l0_7 : List (S54)) : Option (Int) := if a0_2 < 0 then (raftlog_Check.j0 k true a0_0 a0_1 a0_2 a0_3 l0_4 l0_5 a0_6 l0_7) else (raftlog_Check.j0 k (decide ((l0_7.length : Int) > 10000)) a0_0 a0_1 a0_2 a0_3 l0_4 l0_5 a0_6 l0_7)
set_option maxHeartbeats 8000000 in
set_option maxRecDepth 100000 in
theorem raftlog_Check.calls (k : Nat) (a0_0 : Int) (a0_1 : Int) (a0_2 : Int) (a0_3 : Int) (A0_4 : Option Addr) (c0_4 : Nat) (l0_4 : List Int) (A0_5 : Option Addr) (c0_5 : Nat) (l0_5 : List Int) (a0_6 : ByteArray) (A0_7 : Option Addr) (c0_7 : Nat) (l0_7 : List (S54)) (r : Int) (w : World) (hr0_4 : Kd.C (Kd.int .i64) w A0_4 l0_4.length l0_4) (hc0_4 : l0_4.length ≤ c0_4) (hr0_5 : Kd.C (Kd.int .i64) w A0_5 l0_5.length l0_5) (hc0_5 : l0_5.length ≤ c0_5) (hr0_7 : Kd.C k54 w A0_7 l0_7.length l0_7) (hc0_7 : l0_7.length ≤ c0_7) (h : raftlog_Check.f k a0_0 a0_1 a0_2 a0_3 l0_4 l0_5 a0_6 l0_7 = some r) :
    Calls Try.prog 12 #[.agg #[.int .i64 a0_0, .int .i64 a0_1, .int .i64 a0_2, .int .i64 a0_3, .slice A0_4 l0_4.length c0_4, .slice A0_5 l0_5.length c0_5, .string a0_6, .slice A0_7 l0_7.length c0_7]] w fun e w' => e = .returned (.int .i64 r) ∧ Below w.heap.size w w' := by
  have hu30 := Try.underlying30
  have hu54 := Try.underlying54
  have HR0_4 := Aside0.mk hr0_4
  have HC0_4 := Aside0.mk hc0_4
  clear hr0_4 hc0_4
  have HR0_5 := Aside0.mk hr0_5
  have HC0_5 := Aside0.mk hc0_5
  clear hr0_5 hc0_5
  have HR0_7 := Aside0.mk hr0_7
  have HC0_7 := Aside0.mk hc0_7
  clear hr0_7 hc0_7
  have HB := Aside0.mk (Below.refl w.heap.size w)
  have H : (if a0_2 < 0 then (raftlog_Check.j0 k true a0_0 a0_1 a0_2 a0_3 l0_4 l0_5 a0_6 l0_7) else (raftlog_Check.j0 k (decide ((l0_7.length : Int) > 10000)) a0_0 a0_1 a0_2 a0_3 l0_4 l0_5 a0_6 l0_7)) = some r := h
  clear h
  have HC2 := Aside0.mk H
  clear H
  go_enter Try.func12, Try.ntmps12
  go_upto_region 1 with (first | ((with_reducible refine gate_dst (N := 1) rfl ?_); (try (refine gate_guard (by rfl) ?_; dsimp only)); refine box_event ?hg (N := 1) ?hd (cs := #[.int .i64 a0_0, .int .i64 a0_1, .int .i64 a0_2, .int .i64 a0_3, .slice A0_4 l0_4.length c0_4, .slice A0_5 l0_5.length c0_5, .string a0_6, .slice A0_7 l0_7.length c0_7]) (t := 30) ?hr ?_; (case hd => rfl); (case hg => rfl); (case hr => first | (go_simp; done) | (go_simp; rfl)); intro gb106 hg w3 hbox hb; have n0_ := Aside0.mk (below_step (by repeat (first | (with_reducible first | exact HB.out | apply below_alloc | apply pw_below_drewN | apply below_drew1) | exact HB.out)) hb); have n1_ := Aside0.mk (hbox); have n2_ := Aside0.mk ((by rw [hg]; exact (below_size (by repeat (first | (with_reducible first | exact HB.out | apply below_alloc | apply pw_below_drewN | apply below_drew1) | exact HB.out))) : w.heap.size ≤ gb106)); have n3_ := Aside0.mk ((by rw [hg]; exact (below_size (by repeat (first | (with_reducible first | exact HB.out | apply below_alloc | apply pw_below_drewN | apply below_drew1) | exact HB.out))) : w.heap.size ≤ gb106)); clear HB; have HB := n0_; have BK106 := n1_; have GW106 := n2_; have GE106 := n3_; clear n0_ n1_ n2_ n3_; clear hb hbox hg))
  (try simp only [Act.put, List.setIfInBounds_toArray, List.set_cons_zero, List.set_cons_succ])
  go_cut [14] (fun v14 wc => ∃ (kq : Nat) (x14_1 : Bool), v14 = .bool x14_1 ∧ Aside0 (raftlog_Check.j0 kq x14_1 a0_0 a0_1 a0_2 a0_3 l0_4 l0_5 a0_6 l0_7 = some r) ∧ Aside0 (kq ≤ k) ∧ Aside0 (wc.heap[gb106]? = some (.cells #[.int .i64 a0_0, .int .i64 a0_1, .int .i64 a0_2, .int .i64 a0_3, (.slice A0_4 l0_4.length c0_4), (.slice A0_5 l0_5.length c0_5), .string a0_6, (.slice A0_7 l0_7.length c0_7)] 30 (0, 0))) ∧ Aside0 (Below w.heap.size w wc))
  case first =>
    have H := HC2.out
    clear HC2
    by_cases c4 : a0_2 < 0
    · rw [if_pos c4] at H
      have c4b0 : decide (a0_2 < 0) = true := decide_eq_true c4
      clear c4
      (first | rw [c4b0] | (simp only [i64_w, i32_w]; rw [c4b0]) | skip)
      have H' := Aside0.mk H
      clear H
      have hcz5_0 : w3.cell? ⟨gb106, 0, none⟩ = some (.int .i64 a0_0) := (blk_cell BK106.out 0).trans rfl
      have hcz5_1 : w3.cell? ⟨gb106, 1, none⟩ = some (.int .i64 a0_1) := (blk_cell BK106.out 1).trans rfl
      have hcz5_2 : w3.cell? ⟨gb106, 2, none⟩ = some (.int .i64 a0_2) := (blk_cell BK106.out 2).trans rfl
      have hcz5_3 : w3.cell? ⟨gb106, 3, none⟩ = some (.int .i64 a0_3) := (blk_cell BK106.out 3).trans rfl
      have hcz5_4 : w3.cell? ⟨gb106, 4, none⟩ = some (.slice A0_4 l0_4.length c0_4) := (blk_cell BK106.out 4).trans rfl
      have hcz5_5 : w3.cell? ⟨gb106, 5, none⟩ = some (.slice A0_5 l0_5.length c0_5) := (blk_cell BK106.out 5).trans rfl
      have hcz5_6 : w3.cell? ⟨gb106, 6, none⟩ = some (.string a0_6) := (blk_cell BK106.out 6).trans rfl
      have hcz5_7 : w3.cell? ⟨gb106, 7, none⟩ = some (.slice A0_7 l0_7.length c0_7) := (blk_cell BK106.out 7).trans rfl
      have hfz5_0 := blk_frozen BK106.out 0
      have hfz5_1 := blk_frozen BK106.out 1
      have hfz5_2 := blk_frozen BK106.out 2
      have hfz5_3 := blk_frozen BK106.out 3
      have hfz5_4 := blk_frozen BK106.out 4
      have hfz5_5 := blk_frozen BK106.out 5
      have hfz5_6 := blk_frozen BK106.out 6
      have hfz5_7 := blk_frozen BK106.out 7
      go_wp2
      go_meet
      case rel => exact ⟨_, (true), (by first | rfl | (simp; done) | (simp [*]; done)), H', ⟨by first | omega | exact Nat.le_refl _⟩, ⟨by (with_reducible repeat (first | refine blk_drewN ?_ _ | refine blk_drew ?_ | refine blk_alloc ?_ _)); exact BK106.out⟩, ⟨by repeat (first | (with_reducible first | exact HB.out | apply below_alloc | apply pw_below_drewN | apply below_drew1 | refine below_set ?_ GE106.out) | exact HB.out)⟩⟩
    · rw [if_neg c4] at H
      have c4b0 : decide (a0_2 < 0) = false := decide_eq_false c4
      clear c4
      (first | rw [c4b0] | (simp only [i64_w, i32_w]; rw [c4b0]) | skip)
      have H' := Aside0.mk H
      clear H
      have hcz6_0 : w3.cell? ⟨gb106, 0, none⟩ = some (.int .i64 a0_0) := (blk_cell BK106.out 0).trans rfl
      have hcz6_1 : w3.cell? ⟨gb106, 1, none⟩ = some (.int .i64 a0_1) := (blk_cell BK106.out 1).trans rfl
      have hcz6_2 : w3.cell? ⟨gb106, 2, none⟩ = some (.int .i64 a0_2) := (blk_cell BK106.out 2).trans rfl
      have hcz6_3 : w3.cell? ⟨gb106, 3, none⟩ = some (.int .i64 a0_3) := (blk_cell BK106.out 3).trans rfl
      have hcz6_4 : w3.cell? ⟨gb106, 4, none⟩ = some (.slice A0_4 l0_4.length c0_4) := (blk_cell BK106.out 4).trans rfl
      have hcz6_5 : w3.cell? ⟨gb106, 5, none⟩ = some (.slice A0_5 l0_5.length c0_5) := (blk_cell BK106.out 5).trans rfl
      have hcz6_6 : w3.cell? ⟨gb106, 6, none⟩ = some (.string a0_6) := (blk_cell BK106.out 6).trans rfl
      have hcz6_7 : w3.cell? ⟨gb106, 7, none⟩ = some (.slice A0_7 l0_7.length c0_7) := (blk_cell BK106.out 7).trans rfl
      have hfz6_0 := blk_frozen BK106.out 0
      have hfz6_1 := blk_frozen BK106.out 1
      have hfz6_2 := blk_frozen BK106.out 2
      have hfz6_3 := blk_frozen BK106.out 3
      have hfz6_4 := blk_frozen BK106.out 4
      have hfz6_5 := blk_frozen BK106.out 5
      have hfz6_6 := blk_frozen BK106.out 6
      have hfz6_7 := blk_frozen BK106.out 7
      go_wp2
      go_meet
      case rel => exact ⟨_, (decide ((l0_7.length : Int) > 10000)), (by first | rfl | (simp; done) | (simp [*]; done)), H', ⟨by first | omega | exact Nat.le_refl _⟩, ⟨by (with_reducible repeat (first | refine blk_drewN ?_ _ | refine blk_drew ?_ | refine blk_alloc ?_ _)); exact BK106.out⟩, ⟨by repeat (first | (with_reducible first | exact HB.out | apply below_alloc | apply pw_below_drewN | apply below_drew1 | refine below_set ?_ GE106.out) | exact HB.out)⟩⟩
  case rest =>
    clear HC2
    try clear c1
    try clear p2
    try clear c4
    try clear c4b0
    try clear hcz5_0
    try clear hcz5_1
    try clear hcz5_2
    try clear hcz5_3
    try clear hcz5_4
    try clear hcz5_5
    try clear hcz5_6
    try clear hcz5_7
    try clear hcz6_0
    try clear hcz6_1
    try clear hcz6_2
    try clear hcz6_3
    try clear hcz6_4
    try clear hcz6_5
    try clear hcz6_6
    try clear hcz6_7
    try clear hfz5_0
    try clear hfz5_1
    try clear hfz5_2
    try clear hfz5_3
    try clear hfz5_4
    try clear hfz5_5
    try clear hfz5_6
    try clear hfz5_7
    try clear hfz6_0
    try clear hfz6_1
    try clear hfz6_2
    try clear hfz6_3
    try clear hfz6_4
    try clear hfz6_5
    try clear hfz6_6
    try clear hfz6_7
    obtain ⟨kq, x14_1, rfl, HA, HJ1, BK106, HB⟩ := hcut
    cases kq with
    | zero => exact absurd HA.out (by simp [raftlog_Check.j0])
    | succ kj1 =>
      have H := HA.out
      clear HA
      simp only [raftlog_Check.j0] at H
      by_cases c7 : x14_1 = true
      · subst c7
        have H1 : (some 1) = some r := by rw [if_pos rfl] at H; exact H
        clear H
        have H := H1
        clear H1
        obtain rfl := Option.some.inj H
        go_wp2
        go_ret
        exact ⟨by first | rfl | (simp [errW_none, errW_some] <;> rfl) | (simp [*, errW_none, errW_some] <;> rfl), by repeat (first | (with_reducible first | exact HB.out | apply below_alloc | apply pw_below_drewN | apply below_drew1 | refine below_set ?_ GE106.out) | exact HB.out)⟩
      · replace c7 := Bool.eq_false_iff.mpr c7
        subst c7
        have H1 : (raftlog_Check.l0 kj1 l0_7 (l0_7.length : Int) 0 a0_0 a0_1 a0_2 a0_3 l0_4 l0_5 a0_6 l0_7) = some r := by rw [if_neg (show ¬ (false = true) by decide)] at H; exact H
        clear H
        have H := H1
        clear H1
        have H' := Aside0.mk H
        clear H
        have hcz8_0 : wc.cell? ⟨gb106, 0, none⟩ = some (.int .i64 a0_0) := (blk_cell BK106.out 0).trans rfl
        have hcz8_1 : wc.cell? ⟨gb106, 1, none⟩ = some (.int .i64 a0_1) := (blk_cell BK106.out 1).trans rfl
        have hcz8_2 : wc.cell? ⟨gb106, 2, none⟩ = some (.int .i64 a0_2) := (blk_cell BK106.out 2).trans rfl
        have hcz8_3 : wc.cell? ⟨gb106, 3, none⟩ = some (.int .i64 a0_3) := (blk_cell BK106.out 3).trans rfl
        have hcz8_4 : wc.cell? ⟨gb106, 4, none⟩ = some (.slice A0_4 l0_4.length c0_4) := (blk_cell BK106.out 4).trans rfl
        have hcz8_5 : wc.cell? ⟨gb106, 5, none⟩ = some (.slice A0_5 l0_5.length c0_5) := (blk_cell BK106.out 5).trans rfl
        have hcz8_6 : wc.cell? ⟨gb106, 6, none⟩ = some (.string a0_6) := (blk_cell BK106.out 6).trans rfl
        have hcz8_7 : wc.cell? ⟨gb106, 7, none⟩ = some (.slice A0_7 l0_7.length c0_7) := (blk_cell BK106.out 7).trans rfl
        have hfz8_0 := blk_frozen BK106.out 0
        have hfz8_1 := blk_frozen BK106.out 1
        have hfz8_2 := blk_frozen BK106.out 2
        have hfz8_3 := blk_frozen BK106.out 3
        have hfz8_4 := blk_frozen BK106.out 4
        have hfz8_5 := blk_frozen BK106.out 5
        have hfz8_6 := blk_frozen BK106.out 6
        have hfz8_7 := blk_frozen BK106.out 7
        go_wp2
        go_loopg [18] kj1 (fun kq v18 w' => ∃ (x18_2 : Int), v18 = .int .i64 x18_2 ∧ Aside0 (raftlog_Check.l0 kq l0_7 (l0_7.length : Int) x18_2 a0_0 a0_1 a0_2 a0_3 l0_4 l0_5 a0_6 l0_7 = some r) ∧ Aside0 (kq ≤ kj1) ∧ Aside0 (w'.heap[gb106]? = some (.cells #[.int .i64 a0_0, .int .i64 a0_1, .int .i64 a0_2, .int .i64 a0_3, (.slice A0_4 l0_4.length c0_4), (.slice A0_5 l0_5.length c0_5), .string a0_6, (.slice A0_7 l0_7.length c0_7)] 30 (0, 0))) ∧ Aside0 (Below w.heap.size w w'))
        case atStart => exact ⟨(0), (by first | rfl | (simp; done) | (simp [*]; done)), H', ⟨Nat.le_refl _⟩, ⟨by (with_reducible repeat (first | refine blk_drewN ?_ _ | refine blk_drew ?_ | refine blk_alloc ?_ _)); exact BK106.out⟩, ⟨by repeat (first | (with_reducible first | exact HB.out | apply below_alloc | apply pw_below_drewN | apply below_drew1 | refine below_set ?_ GE106.out) | exact HB.out)⟩⟩
        case round =>
          clear H'
          try clear c1
          try clear p2
          try clear c4
          try clear c4b0
          try clear c7
          try clear hcz5_0
          try clear hcz5_1
          try clear hcz5_2
          try clear hcz5_3
          try clear hcz5_4
          try clear hcz5_5
          try clear hcz5_6
          try clear hcz5_7
          try clear hcz6_0
          try clear hcz6_1
          try clear hcz6_2
          try clear hcz6_3
          try clear hcz6_4
          try clear hcz6_5
          try clear hcz6_6
          try clear hcz6_7
          try clear hcz8_0
          try clear hcz8_1
          try clear hcz8_2
          try clear hcz8_3
          try clear hcz8_4
          try clear hcz8_5
          try clear hcz8_6
          try clear hcz8_7
          try clear hfz5_0
          try clear hfz5_1
          try clear hfz5_2
          try clear hfz5_3
          try clear hfz5_4
          try clear hfz5_5
          try clear hfz5_6
          try clear hfz5_7
          try clear hfz6_0
          try clear hfz6_1
          try clear hfz6_2
          try clear hfz6_3
          try clear hfz6_4
          try clear hfz6_5
          try clear hfz6_6
          try clear hfz6_7
          try clear hfz8_0
          try clear hfz8_1
          try clear hfz8_2
          try clear hfz8_3
          try clear hfz8_4
          try clear hfz8_5
          try clear hfz8_6
          try clear hfz8_7
          try clear p2
          obtain ⟨x18_2, rfl, HA, HK2, BK106, HB⟩ := hrel
          cases gk with
          | zero => exact absurd HA.out (by simp [raftlog_Check.l0])
          | succ k2 =>
            have H := HA.out
            clear HA
            simp only [raftlog_Check.l0] at H
            by_cases c9 : x18_2 < (l0_7.length : Int)
            · rw [if_pos c9] at H
              have c9b0 : decide (x18_2 < (l0_7.length : Int)) = true := decide_eq_true c9
              clear c9
              by_cases c10 : 0 ≤ x18_2
              · rw [if_pos c10] at H
                have c10b0 : decide (0 ≤ x18_2) = true := decide_eq_true c10
                clear c10
                by_cases c11 : x18_2 < (l0_7.length : Int)
                · rw [if_pos c11] at H
                  have c11b0 : decide (x18_2 < (l0_7.length : Int)) = true := decide_eq_true c11
                  clear c11
                  by_cases c12 : ((rd_T54 l0_7 x18_2).f0) < 1
                  · rw [if_pos c12] at H
                    have c12b0 : decide (((rd_T54 l0_7 x18_2).f0) < 1) = true := decide_eq_true c12
                    clear c12
                    obtain rfl := Option.some.inj H
                    have p107 : 0 ≤ (x18_2 : Int) := of_decide_eq_true (by first | (with_reducible assumption) | assumption)
                    have q107 : x18_2 < (l0_7.length : Int) := of_decide_eq_true (by first | (with_reducible assumption) | assumption)
                    obtain ⟨ad107, A107_3, c107_3, A107_4, c107_4, e107, hx107_0, hx107_1, hx107_2, hx107_3, hx107_4, hx107_5, hl107_3, hi107_3, hl107_4, hi107_4⟩ := at_T54 HR0_7.out x18_2 p107 q107
                    cases e107
                    replace hx107_0 := (HB.out.cell (World.block_lt_of_cell? w _ hx107_0)).trans hx107_0
                    replace hx107_1 := (HB.out.cell (World.block_lt_of_cell? w _ hx107_1)).trans hx107_1
                    replace hx107_2 := (HB.out.cell (World.block_lt_of_cell? w _ hx107_2)).trans hx107_2
                    replace hx107_3 := (HB.out.cell (World.block_lt_of_cell? w _ hx107_3)).trans hx107_3
                    replace hx107_4 := (HB.out.cell (World.block_lt_of_cell? w _ hx107_4)).trans hx107_4
                    replace hx107_5 := (HB.out.cell (World.block_lt_of_cell? w _ hx107_5)).trans hx107_5
                    have HR107_3 := Aside0.mk hi107_3
                    have HC107_3 := Aside0.mk hl107_3
                    clear hi107_3 hl107_3
                    have HR107_4 := Aside0.mk hi107_4
                    have HC107_4 := Aside0.mk hl107_4
                    clear hi107_4 hl107_4
                    replace p107 := eq_true p107
                    replace q107 := eq_true q107
                    go_wp2_with (first | ((with_reducible refine gate_dst (N := 4) rfl ?_); (try (refine gate_guard (by rfl) ?_; dsimp only)); refine box_event ?hg (N := 4) ?hd (cs := #[.int .i64 0, .int .i64 0, .int .i64 0, .slice none 0 0, .slice none 0 0, .string (⟨#[]⟩ : ByteArray)]) (t := 54) ?hr ?_; (case hd => rfl); (case hg => rfl); (case hr => first | (go_simp; done) | (go_simp; rfl)); intro gb108 hg w13 hbox hb; have n0_ := Aside0.mk (blk_below (g := gb106) (o := .cells #[.int .i64 a0_0, .int .i64 a0_1, .int .i64 a0_2, .int .i64 a0_3, .slice A0_4 l0_4.length c0_4, .slice A0_5 l0_5.length c0_5, .string a0_6, .slice (some ad107) l0_7.length c0_7] 30 (0, 0)) (by (with_reducible repeat (first | refine blk_drewN ?_ _ | refine blk_drew ?_ | refine blk_alloc ?_ _)); exact BK106.out) hb); have n1_ := Aside0.mk (below_step (by repeat (first | (with_reducible first | exact HB.out | apply below_alloc | apply pw_below_drewN | apply below_drew1 | refine below_set ?_ GE106.out) | exact HB.out)) hb); have n2_ := Aside0.mk (hbox); have n3_ := Aside0.mk ((by rw [hg]; exact (below_size (by repeat (first | (with_reducible first | exact HB.out | apply below_alloc | apply pw_below_drewN | apply below_drew1 | refine below_set ?_ GE106.out) | exact HB.out))) : w.heap.size ≤ gb108)); have n4_ := Aside0.mk ((by rw [hg]; exact (below_size (by repeat (first | (with_reducible first | exact HB.out | apply below_alloc | apply pw_below_drewN | apply below_drew1 | refine below_set ?_ GE106.out) | exact HB.out))) : w.heap.size ≤ gb108)); have n5_ := Aside0.mk ((by rw [hg]; exact Nat.ne_of_lt (blk_lt (g := gb106) (o := .cells #[.int .i64 a0_0, .int .i64 a0_1, .int .i64 a0_2, .int .i64 a0_3, .slice A0_4 l0_4.length c0_4, .slice A0_5 l0_5.length c0_5, .string a0_6, .slice (some ad107) l0_7.length c0_7] 30 (0, 0)) (by (with_reducible repeat (first | refine blk_drewN ?_ _ | refine blk_drew ?_ | refine blk_alloc ?_ _)); exact BK106.out)) : gb106 ≠ gb108)); have n6_ := Aside0.mk ((by rw [hg]; exact Nat.ne_of_gt (blk_lt (g := gb106) (o := .cells #[.int .i64 a0_0, .int .i64 a0_1, .int .i64 a0_2, .int .i64 a0_3, .slice A0_4 l0_4.length c0_4, .slice A0_5 l0_5.length c0_5, .string a0_6, .slice (some ad107) l0_7.length c0_7] 30 (0, 0)) (by (with_reducible repeat (first | refine blk_drewN ?_ _ | refine blk_drew ?_ | refine blk_alloc ?_ _)); exact BK106.out)) : gb108 ≠ gb106)); clear BK106; clear HB; have BK106 := n0_; have HB := n1_; have BK108 := n2_; have GW108 := n3_; have GE108 := n4_; have NB106_108 := n5_; have NB108_106 := n6_; clear n0_ n1_ n2_ n3_ n4_ n5_ n6_; clear hb hbox hg; have hnb14 := NB108_106.out; have hnc14 := NB106_108.out; have hcz15_0 : w13.cell? ⟨gb108, 0, none⟩ = some (.int .i64 0) := (blk_cell BK108.out 0).trans rfl; have hcz15_1 : w13.cell? ⟨gb108, 1, none⟩ = some (.int .i64 0) := (blk_cell BK108.out 1).trans rfl; have hcz15_2 : w13.cell? ⟨gb108, 2, none⟩ = some (.int .i64 0) := (blk_cell BK108.out 2).trans rfl; have hcz15_3 : w13.cell? ⟨gb108, 3, none⟩ = some (.slice none 0 0) := (blk_cell BK108.out 3).trans rfl; have hcz15_4 : w13.cell? ⟨gb108, 4, none⟩ = some (.slice none 0 0) := (blk_cell BK108.out 4).trans rfl; have hcz15_5 : w13.cell? ⟨gb108, 5, none⟩ = some (.string (⟨#[]⟩ : ByteArray)) := (blk_cell BK108.out 5).trans rfl; have hfz15_0 := blk_frozen BK108.out 0; have hfz15_1 := blk_frozen BK108.out 1; have hfz15_2 := blk_frozen BK108.out 2; have hfz15_3 := blk_frozen BK108.out 3; have hfz15_4 := blk_frozen BK108.out 4; have hfz15_5 := blk_frozen BK108.out 5))
                    go_ret
                    exact ⟨by first | rfl | (simp [errW_none, errW_some] <;> rfl) | (simp [*, errW_none, errW_some] <;> rfl), by repeat (first | (with_reducible first | exact HB.out | apply below_alloc | apply pw_below_drewN | apply below_drew1 | refine below_set ?_ GE106.out | refine below_set ?_ GE108.out) | exact HB.out)⟩
                  · rw [if_neg c12] at H
                    have c12b0 : decide (((rd_T54 l0_7 x18_2).f0) < 1) = false := decide_eq_false c12
                    clear c12
                    by_cases c16 : (wrap64 ((wrap64 (((rd_T54 l0_7 x18_2).f0) - 1)) - x18_2)) = a0_2
                    · rw [if_pos c16] at H
                      have c16b0 : ((wrap64 ((wrap64 (((rd_T54 l0_7 x18_2).f0) - 1)) - x18_2)) == a0_2) = true := beq_iff_eq.mpr c16
                      have c16b1 : ((wrap64 ((wrap64 (((rd_T54 l0_7 x18_2).f0) - 1)) - x18_2)) != a0_2) = false := bne_eq_false_iff_eq.mpr c16
                      clear c16
                      have H' := Aside0.mk H
                      clear H
                      have p107 : 0 ≤ (x18_2 : Int) := of_decide_eq_true (by first | (with_reducible assumption) | assumption)
                      have q107 : x18_2 < (l0_7.length : Int) := of_decide_eq_true (by first | (with_reducible assumption) | assumption)
                      obtain ⟨ad107, A107_3, c107_3, A107_4, c107_4, e107, hx107_0, hx107_1, hx107_2, hx107_3, hx107_4, hx107_5, hl107_3, hi107_3, hl107_4, hi107_4⟩ := at_T54 HR0_7.out x18_2 p107 q107
                      cases e107
                      replace hx107_0 := (HB.out.cell (World.block_lt_of_cell? w _ hx107_0)).trans hx107_0
                      replace hx107_1 := (HB.out.cell (World.block_lt_of_cell? w _ hx107_1)).trans hx107_1
                      replace hx107_2 := (HB.out.cell (World.block_lt_of_cell? w _ hx107_2)).trans hx107_2
                      replace hx107_3 := (HB.out.cell (World.block_lt_of_cell? w _ hx107_3)).trans hx107_3
                      replace hx107_4 := (HB.out.cell (World.block_lt_of_cell? w _ hx107_4)).trans hx107_4
                      replace hx107_5 := (HB.out.cell (World.block_lt_of_cell? w _ hx107_5)).trans hx107_5
                      have HR107_3 := Aside0.mk hi107_3
                      have HC107_3 := Aside0.mk hl107_3
                      clear hi107_3 hl107_3
                      have HR107_4 := Aside0.mk hi107_4
                      have HC107_4 := Aside0.mk hl107_4
                      clear hi107_4 hl107_4
                      replace p107 := eq_true p107
                      replace q107 := eq_true q107
                      go_wp2_with (first | ((with_reducible refine gate_dst (N := 4) rfl ?_); (try (refine gate_guard (by rfl) ?_; dsimp only)); refine box_event ?hg (N := 4) ?hd (cs := #[.int .i64 0, .int .i64 0, .int .i64 0, .slice none 0 0, .slice none 0 0, .string (⟨#[]⟩ : ByteArray)]) (t := 54) ?hr ?_; (case hd => rfl); (case hg => rfl); (case hr => first | (go_simp; done) | (go_simp; rfl)); intro gb108 hg w17 hbox hb; have n0_ := Aside0.mk (blk_below (g := gb106) (o := .cells #[.int .i64 a0_0, .int .i64 a0_1, .int .i64 a0_2, .int .i64 a0_3, .slice A0_4 l0_4.length c0_4, .slice A0_5 l0_5.length c0_5, .string a0_6, .slice (some ad107) l0_7.length c0_7] 30 (0, 0)) (by (with_reducible repeat (first | refine blk_drewN ?_ _ | refine blk_drew ?_ | refine blk_alloc ?_ _)); exact BK106.out) hb); have n1_ := Aside0.mk (below_step (by repeat (first | (with_reducible first | exact HB.out | apply below_alloc | apply pw_below_drewN | apply below_drew1 | refine below_set ?_ GE106.out) | exact HB.out)) hb); have n2_ := Aside0.mk (hbox); have n3_ := Aside0.mk ((by rw [hg]; exact (below_size (by repeat (first | (with_reducible first | exact HB.out | apply below_alloc | apply pw_below_drewN | apply below_drew1 | refine below_set ?_ GE106.out) | exact HB.out))) : w.heap.size ≤ gb108)); have n4_ := Aside0.mk ((by rw [hg]; exact (below_size (by repeat (first | (with_reducible first | exact HB.out | apply below_alloc | apply pw_below_drewN | apply below_drew1 | refine below_set ?_ GE106.out) | exact HB.out))) : w.heap.size ≤ gb108)); have n5_ := Aside0.mk ((by rw [hg]; exact Nat.ne_of_lt (blk_lt (g := gb106) (o := .cells #[.int .i64 a0_0, .int .i64 a0_1, .int .i64 a0_2, .int .i64 a0_3, .slice A0_4 l0_4.length c0_4, .slice A0_5 l0_5.length c0_5, .string a0_6, .slice (some ad107) l0_7.length c0_7] 30 (0, 0)) (by (with_reducible repeat (first | refine blk_drewN ?_ _ | refine blk_drew ?_ | refine blk_alloc ?_ _)); exact BK106.out)) : gb106 ≠ gb108)); have n6_ := Aside0.mk ((by rw [hg]; exact Nat.ne_of_gt (blk_lt (g := gb106) (o := .cells #[.int .i64 a0_0, .int .i64 a0_1, .int .i64 a0_2, .int .i64 a0_3, .slice A0_4 l0_4.length c0_4, .slice A0_5 l0_5.length c0_5, .string a0_6, .slice (some ad107) l0_7.length c0_7] 30 (0, 0)) (by (with_reducible repeat (first | refine blk_drewN ?_ _ | refine blk_drew ?_ | refine blk_alloc ?_ _)); exact BK106.out)) : gb108 ≠ gb106)); clear BK106; clear HB; have BK106 := n0_; have HB := n1_; have BK108 := n2_; have GW108 := n3_; have GE108 := n4_; have NB106_108 := n5_; have NB108_106 := n6_; clear n0_ n1_ n2_ n3_ n4_ n5_ n6_; clear hb hbox hg; have hnb18 := NB108_106.out; have hnc18 := NB106_108.out; have hcz19_0 : w17.cell? ⟨gb108, 0, none⟩ = some (.int .i64 0) := (blk_cell BK108.out 0).trans rfl; have hcz19_1 : w17.cell? ⟨gb108, 1, none⟩ = some (.int .i64 0) := (blk_cell BK108.out 1).trans rfl; have hcz19_2 : w17.cell? ⟨gb108, 2, none⟩ = some (.int .i64 0) := (blk_cell BK108.out 2).trans rfl; have hcz19_3 : w17.cell? ⟨gb108, 3, none⟩ = some (.slice none 0 0) := (blk_cell BK108.out 3).trans rfl; have hcz19_4 : w17.cell? ⟨gb108, 4, none⟩ = some (.slice none 0 0) := (blk_cell BK108.out 4).trans rfl; have hcz19_5 : w17.cell? ⟨gb108, 5, none⟩ = some (.string (⟨#[]⟩ : ByteArray)) := (blk_cell BK108.out 5).trans rfl; have hfz19_0 := blk_frozen BK108.out 0; have hfz19_1 := blk_frozen BK108.out 1; have hfz19_2 := blk_frozen BK108.out 2; have hfz19_3 := blk_frozen BK108.out 3; have hfz19_4 := blk_frozen BK108.out 4; have hfz19_5 := blk_frozen BK108.out 5; have hcz20_0 : w17.cell? ⟨gb106, 0, none⟩ = some (.int .i64 a0_0) := (blk_cell BK106.out 0).trans rfl; have hcz20_1 : w17.cell? ⟨gb106, 1, none⟩ = some (.int .i64 a0_1) := (blk_cell BK106.out 1).trans rfl; have hcz20_2 : w17.cell? ⟨gb106, 2, none⟩ = some (.int .i64 a0_2) := (blk_cell BK106.out 2).trans rfl; have hcz20_3 : w17.cell? ⟨gb106, 3, none⟩ = some (.int .i64 a0_3) := (blk_cell BK106.out 3).trans rfl; have hcz20_4 : w17.cell? ⟨gb106, 4, none⟩ = some (.slice A0_4 l0_4.length c0_4) := (blk_cell BK106.out 4).trans rfl; have hcz20_5 : w17.cell? ⟨gb106, 5, none⟩ = some (.slice A0_5 l0_5.length c0_5) := (blk_cell BK106.out 5).trans rfl; have hcz20_6 : w17.cell? ⟨gb106, 6, none⟩ = some (.string a0_6) := (blk_cell BK106.out 6).trans rfl; have hcz20_7 : w17.cell? ⟨gb106, 7, none⟩ = some (.slice (some ad107) l0_7.length c0_7) := (blk_cell BK106.out 7).trans rfl; have hfz20_0 := blk_frozen BK106.out 0; have hfz20_1 := blk_frozen BK106.out 1; have hfz20_2 := blk_frozen BK106.out 2; have hfz20_3 := blk_frozen BK106.out 3; have hfz20_4 := blk_frozen BK106.out 4; have hfz20_5 := blk_frozen BK106.out 5; have hfz20_6 := blk_frozen BK106.out 6; have hfz20_7 := blk_frozen BK106.out 7))
                      go_roundg k2
                      case measure => have := HJ1.out; have := HK2.out; omega
                      case rel => exact ⟨(wrap64 (x18_2 + 1)), (by first | rfl | (simp; done) | (simp [*]; done)), H', ⟨by have := HJ1.out; have := HK2.out; omega⟩, ⟨by (with_reducible repeat (first | refine blk_drewN ?_ _ | refine blk_drew ?_ | refine blk_alloc ?_ _)); refine blk_far ?_ NB106_108.out _; (with_reducible repeat (first | refine blk_drewN ?_ _ | refine blk_drew ?_ | refine blk_alloc ?_ _)); refine blk_far ?_ NB106_108.out _; (with_reducible repeat (first | refine blk_drewN ?_ _ | refine blk_drew ?_ | refine blk_alloc ?_ _)); refine blk_far ?_ NB106_108.out _; (with_reducible repeat (first | refine blk_drewN ?_ _ | refine blk_drew ?_ | refine blk_alloc ?_ _)); refine blk_far ?_ NB106_108.out _; (with_reducible repeat (first | refine blk_drewN ?_ _ | refine blk_drew ?_ | refine blk_alloc ?_ _)); refine blk_far ?_ NB106_108.out _; (with_reducible repeat (first | refine blk_drewN ?_ _ | refine blk_drew ?_ | refine blk_alloc ?_ _)); refine blk_far ?_ NB106_108.out _; (with_reducible repeat (first | refine blk_drewN ?_ _ | refine blk_drew ?_ | refine blk_alloc ?_ _)); exact BK106.out⟩, ⟨by repeat (first | (with_reducible first | exact HB.out | apply below_alloc | apply pw_below_drewN | apply below_drew1 | refine below_set ?_ GE106.out | refine below_set ?_ GE108.out) | exact HB.out)⟩⟩
                    · rw [if_neg c16] at H
                      have c16b0 : ((wrap64 ((wrap64 (((rd_T54 l0_7 x18_2).f0) - 1)) - x18_2)) == a0_2) = false := beq_eq_false_iff_ne.mpr c16
                      have c16b1 : ((wrap64 ((wrap64 (((rd_T54 l0_7 x18_2).f0) - 1)) - x18_2)) != a0_2) = true := bne_iff_ne.mpr c16
                      obtain rfl := Option.some.inj H
                      have p107 : 0 ≤ (x18_2 : Int) := of_decide_eq_true (by first | (with_reducible assumption) | assumption)
                      have q107 : x18_2 < (l0_7.length : Int) := of_decide_eq_true (by first | (with_reducible assumption) | assumption)
                      obtain ⟨ad107, A107_3, c107_3, A107_4, c107_4, e107, hx107_0, hx107_1, hx107_2, hx107_3, hx107_4, hx107_5, hl107_3, hi107_3, hl107_4, hi107_4⟩ := at_T54 HR0_7.out x18_2 p107 q107
                      cases e107
                      replace hx107_0 := (HB.out.cell (World.block_lt_of_cell? w _ hx107_0)).trans hx107_0
                      replace hx107_1 := (HB.out.cell (World.block_lt_of_cell? w _ hx107_1)).trans hx107_1
                      replace hx107_2 := (HB.out.cell (World.block_lt_of_cell? w _ hx107_2)).trans hx107_2
                      replace hx107_3 := (HB.out.cell (World.block_lt_of_cell? w _ hx107_3)).trans hx107_3
                      replace hx107_4 := (HB.out.cell (World.block_lt_of_cell? w _ hx107_4)).trans hx107_4
                      replace hx107_5 := (HB.out.cell (World.block_lt_of_cell? w _ hx107_5)).trans hx107_5
                      have HR107_3 := Aside0.mk hi107_3
                      have HC107_3 := Aside0.mk hl107_3
                      clear hi107_3 hl107_3
                      have HR107_4 := Aside0.mk hi107_4
                      have HC107_4 := Aside0.mk hl107_4
                      clear hi107_4 hl107_4
                      replace p107 := eq_true p107
                      replace q107 := eq_true q107
                      go_wp2_with (first | ((with_reducible refine gate_dst (N := 4) rfl ?_); (try (refine gate_guard (by rfl) ?_; dsimp only)); refine box_event ?hg (N := 4) ?hd (cs := #[.int .i64 0, .int .i64 0, .int .i64 0, .slice none 0 0, .slice none 0 0, .string (⟨#[]⟩ : ByteArray)]) (t := 54) ?hr ?_; (case hd => rfl); (case hg => rfl); (case hr => first | (go_simp; done) | (go_simp; rfl)); intro gb108 hg w21 hbox hb; have n0_ := Aside0.mk (blk_below (g := gb106) (o := .cells #[.int .i64 a0_0, .int .i64 a0_1, .int .i64 a0_2, .int .i64 a0_3, .slice A0_4 l0_4.length c0_4, .slice A0_5 l0_5.length c0_5, .string a0_6, .slice (some ad107) l0_7.length c0_7] 30 (0, 0)) (by (with_reducible repeat (first | refine blk_drewN ?_ _ | refine blk_drew ?_ | refine blk_alloc ?_ _)); exact BK106.out) hb); have n1_ := Aside0.mk (below_step (by repeat (first | (with_reducible first | exact HB.out | apply below_alloc | apply pw_below_drewN | apply below_drew1 | refine below_set ?_ GE106.out) | exact HB.out)) hb); have n2_ := Aside0.mk (hbox); have n3_ := Aside0.mk ((by rw [hg]; exact (below_size (by repeat (first | (with_reducible first | exact HB.out | apply below_alloc | apply pw_below_drewN | apply below_drew1 | refine below_set ?_ GE106.out) | exact HB.out))) : w.heap.size ≤ gb108)); have n4_ := Aside0.mk ((by rw [hg]; exact (below_size (by repeat (first | (with_reducible first | exact HB.out | apply below_alloc | apply pw_below_drewN | apply below_drew1 | refine below_set ?_ GE106.out) | exact HB.out))) : w.heap.size ≤ gb108)); have n5_ := Aside0.mk ((by rw [hg]; exact Nat.ne_of_lt (blk_lt (g := gb106) (o := .cells #[.int .i64 a0_0, .int .i64 a0_1, .int .i64 a0_2, .int .i64 a0_3, .slice A0_4 l0_4.length c0_4, .slice A0_5 l0_5.length c0_5, .string a0_6, .slice (some ad107) l0_7.length c0_7] 30 (0, 0)) (by (with_reducible repeat (first | refine blk_drewN ?_ _ | refine blk_drew ?_ | refine blk_alloc ?_ _)); exact BK106.out)) : gb106 ≠ gb108)); have n6_ := Aside0.mk ((by rw [hg]; exact Nat.ne_of_gt (blk_lt (g := gb106) (o := .cells #[.int .i64 a0_0, .int .i64 a0_1, .int .i64 a0_2, .int .i64 a0_3, .slice A0_4 l0_4.length c0_4, .slice A0_5 l0_5.length c0_5, .string a0_6, .slice (some ad107) l0_7.length c0_7] 30 (0, 0)) (by (with_reducible repeat (first | refine blk_drewN ?_ _ | refine blk_drew ?_ | refine blk_alloc ?_ _)); exact BK106.out)) : gb108 ≠ gb106)); clear BK106; clear HB; have BK106 := n0_; have HB := n1_; have BK108 := n2_; have GW108 := n3_; have GE108 := n4_; have NB106_108 := n5_; have NB108_106 := n6_; clear n0_ n1_ n2_ n3_ n4_ n5_ n6_; clear hb hbox hg; have hnb22 := NB108_106.out; have hnc22 := NB106_108.out; have hcz23_0 : w21.cell? ⟨gb108, 0, none⟩ = some (.int .i64 0) := (blk_cell BK108.out 0).trans rfl; have hcz23_1 : w21.cell? ⟨gb108, 1, none⟩ = some (.int .i64 0) := (blk_cell BK108.out 1).trans rfl; have hcz23_2 : w21.cell? ⟨gb108, 2, none⟩ = some (.int .i64 0) := (blk_cell BK108.out 2).trans rfl; have hcz23_3 : w21.cell? ⟨gb108, 3, none⟩ = some (.slice none 0 0) := (blk_cell BK108.out 3).trans rfl; have hcz23_4 : w21.cell? ⟨gb108, 4, none⟩ = some (.slice none 0 0) := (blk_cell BK108.out 4).trans rfl; have hcz23_5 : w21.cell? ⟨gb108, 5, none⟩ = some (.string (⟨#[]⟩ : ByteArray)) := (blk_cell BK108.out 5).trans rfl; have hfz23_0 := blk_frozen BK108.out 0; have hfz23_1 := blk_frozen BK108.out 1; have hfz23_2 := blk_frozen BK108.out 2; have hfz23_3 := blk_frozen BK108.out 3; have hfz23_4 := blk_frozen BK108.out 4; have hfz23_5 := blk_frozen BK108.out 5; have hcz24_0 : w21.cell? ⟨gb106, 0, none⟩ = some (.int .i64 a0_0) := (blk_cell BK106.out 0).trans rfl; have hcz24_1 : w21.cell? ⟨gb106, 1, none⟩ = some (.int .i64 a0_1) := (blk_cell BK106.out 1).trans rfl; have hcz24_2 : w21.cell? ⟨gb106, 2, none⟩ = some (.int .i64 a0_2) := (blk_cell BK106.out 2).trans rfl; have hcz24_3 : w21.cell? ⟨gb106, 3, none⟩ = some (.int .i64 a0_3) := (blk_cell BK106.out 3).trans rfl; have hcz24_4 : w21.cell? ⟨gb106, 4, none⟩ = some (.slice A0_4 l0_4.length c0_4) := (blk_cell BK106.out 4).trans rfl; have hcz24_5 : w21.cell? ⟨gb106, 5, none⟩ = some (.slice A0_5 l0_5.length c0_5) := (blk_cell BK106.out 5).trans rfl; have hcz24_6 : w21.cell? ⟨gb106, 6, none⟩ = some (.string a0_6) := (blk_cell BK106.out 6).trans rfl; have hcz24_7 : w21.cell? ⟨gb106, 7, none⟩ = some (.slice (some ad107) l0_7.length c0_7) := (blk_cell BK106.out 7).trans rfl; have hfz24_0 := blk_frozen BK106.out 0; have hfz24_1 := blk_frozen BK106.out 1; have hfz24_2 := blk_frozen BK106.out 2; have hfz24_3 := blk_frozen BK106.out 3; have hfz24_4 := blk_frozen BK106.out 4; have hfz24_5 := blk_frozen BK106.out 5; have hfz24_6 := blk_frozen BK106.out 6; have hfz24_7 := blk_frozen BK106.out 7))
                      go_ret
                      exact ⟨by first | rfl | (simp [errW_none, errW_some] <;> rfl) | (simp [*, errW_none, errW_some] <;> rfl), by repeat (first | (with_reducible first | exact HB.out | apply below_alloc | apply pw_below_drewN | apply below_drew1 | refine below_set ?_ GE106.out | refine below_set ?_ GE108.out) | exact HB.out)⟩
                · rw [if_neg c11] at H
                  exact absurd H (by simp)
              · rw [if_neg c10] at H
                exact absurd H (by simp)
            · rw [if_neg c9] at H
              have c9b0 : decide (x18_2 < (l0_7.length : Int)) = false := decide_eq_false c9
              clear c9
              obtain rfl := Option.some.inj H
              go_wp2
              go_ret
              exact ⟨by first | rfl | (simp [errW_none, errW_some] <;> rfl) | (simp [*, errW_none, errW_some] <;> rfl), by repeat (first | (with_reducible first | exact HB.out | apply below_alloc | apply pw_below_drewN | apply below_drew1 | refine below_set ?_ GE106.out) | exact HB.out)⟩

end Go.Proofs.Ytbjhjimkljbjlaa.PA
-- WRITTEN BY hookprint.py (a program of this session, over the kit's print.py): not typed by hand
namespace Go.Proofs.Ytbjhjimkljbjlaa.PA
open Go.RowKit Go.Proofs.YtbjhjimkljbjlaaW.PrintWords Go.Proofs.YtbjhjimkljbjlaaW.PrintLast Go.Proofs.YtbjhjimkljbjlaaW.PrintMore
attribute [local go_sem] max2_int min2_int max_two min_two max_three min_three max_four min_four   -- for this text's walks alone
set_option linter.unusedVariables false
set_option linter.unusedSimpArgs false

/-! ### folkmootref16_On: function 14 -/
mutual
def folkmootref16_On.j0 : Nat → Bool → Int → Int → Int → Int → List Int → List Int → ByteArray → List (S54) → Option (Bool)
  | 0, _, _, _, _, _, _, _, _, _ => none
  | k + 1, x13, x110000, x110001, x110002, x110003, x110004, x110005, x110006, x110007 => if x13 = true then (some false) else (folkmootref16_On.l0 k 0 x110000 x110001 x110002 x110003 x110004 x110005 x110006 x110007)
def folkmootref16_On.l0 : Nat → Int → Int → Int → Int → Int → List Int → List Int → ByteArray → List (S54) → Option (Bool)
  | 0, _, _, _, _, _, _, _, _, _ => none
  | k + 1, x3, x110000, x110001, x110002, x110003, x110004, x110005, x110006, x110007 => if x3 < (x110007.length : Int) then (if 0 ≤ x3 then (if ((rd_T54 x110007 x3).f0) < 1 then (some false) else (if (wrap64 ((wrap64 (((rd_T54 x110007 x3).f0) - 1)) - x3)) = x110002 then (folkmootref16_On.l0 k (wrap64 (x3 + 1)) x110000 x110001 x110002 x110003 x110004 x110005 x110006 x110007) else (some false))) else (none)) else (some true)
end
def folkmootref16_On.f (k : Nat) (a0_0 : Int) (a0_1 : Int) (a0_2 : Int) (a0_3 : Int) (l0_4 : List Int) (l0_5 : List Int) (a0_6 : ByteArray) (l0_7 : List (S54)) : Option (Bool) := if a0_2 < 0 then (folkmootref16_On.j0 k true a0_0 a0_1 a0_2 a0_3 l0_4 l0_5 a0_6 l0_7) else (folkmootref16_On.j0 k (decide ((l0_7.length : Int) > 10000)) a0_0 a0_1 a0_2 a0_3 l0_4 l0_5 a0_6 l0_7)
set_option maxHeartbeats 8000000 in
set_option maxRecDepth 100000 in
theorem folkmootref16_On.calls (k : Nat) (a0_0 : Int) (a0_1 : Int) (a0_2 : Int) (a0_3 : Int) (A0_4 : Option Addr) (c0_4 : Nat) (l0_4 : List Int) (A0_5 : Option Addr) (c0_5 : Nat) (l0_5 : List Int) (a0_6 : ByteArray) (A0_7 : Option Addr) (c0_7 : Nat) (l0_7 : List (S54)) (r : Bool) (w : World) (hr0_4 : Kd.C (Kd.int .i64) w A0_4 l0_4.length l0_4) (hc0_4 : l0_4.length ≤ c0_4) (hr0_5 : Kd.C (Kd.int .i64) w A0_5 l0_5.length l0_5) (hc0_5 : l0_5.length ≤ c0_5) (hr0_7 : Kd.C k54 w A0_7 l0_7.length l0_7) (hc0_7 : l0_7.length ≤ c0_7) (h : folkmootref16_On.f k a0_0 a0_1 a0_2 a0_3 l0_4 l0_5 a0_6 l0_7 = some r) :
    Calls Try.prog 14 #[.agg #[.int .i64 a0_0, .int .i64 a0_1, .int .i64 a0_2, .int .i64 a0_3, .slice A0_4 l0_4.length c0_4, .slice A0_5 l0_5.length c0_5, .string a0_6, .slice A0_7 l0_7.length c0_7]] w fun e w' => e = .returned (.bool r) ∧ Below w.heap.size w w' := by
  have hu30 := Try.underlying30
  have HR0_4 := Aside0.mk hr0_4
  have HC0_4 := Aside0.mk hc0_4
  clear hr0_4 hc0_4
  have HR0_5 := Aside0.mk hr0_5
  have HC0_5 := Aside0.mk hc0_5
  clear hr0_5 hc0_5
  have HR0_7 := Aside0.mk hr0_7
  have HC0_7 := Aside0.mk hc0_7
  clear hr0_7 hc0_7
  have HB := Aside0.mk (Below.refl w.heap.size w)
  have H : (if a0_2 < 0 then (folkmootref16_On.j0 k true a0_0 a0_1 a0_2 a0_3 l0_4 l0_5 a0_6 l0_7) else (folkmootref16_On.j0 k (decide ((l0_7.length : Int) > 10000)) a0_0 a0_1 a0_2 a0_3 l0_4 l0_5 a0_6 l0_7)) = some r := h
  clear h
  have HC2 := Aside0.mk H
  clear H
  go_enter Try.func14, Try.ntmps14
  go_upto_region 1 with (first | ((with_reducible refine gate_dst (N := 1) rfl ?_); (try (refine gate_guard (by rfl) ?_; dsimp only)); refine box_event ?hg (N := 1) ?hd (cs := #[.int .i64 a0_0, .int .i64 a0_1, .int .i64 a0_2, .int .i64 a0_3, .slice A0_4 l0_4.length c0_4, .slice A0_5 l0_5.length c0_5, .string a0_6, .slice A0_7 l0_7.length c0_7]) (t := 30) ?hr ?_; (case hd => rfl); (case hg => rfl); (case hr => first | (go_simp; done) | (go_simp; rfl)); intro gb109 hg w3 hbox hb; have n0_ := Aside0.mk (below_step (by repeat (first | (with_reducible first | exact HB.out | apply below_alloc | apply pw_below_drewN | apply below_drew1) | exact HB.out)) hb); have n1_ := Aside0.mk (hbox); have n2_ := Aside0.mk ((by rw [hg]; exact (below_size (by repeat (first | (with_reducible first | exact HB.out | apply below_alloc | apply pw_below_drewN | apply below_drew1) | exact HB.out))) : w.heap.size ≤ gb109)); have n3_ := Aside0.mk ((by rw [hg]; exact (below_size (by repeat (first | (with_reducible first | exact HB.out | apply below_alloc | apply pw_below_drewN | apply below_drew1) | exact HB.out))) : w.heap.size ≤ gb109)); clear HB; have HB := n0_; have BK109 := n1_; have GW109 := n2_; have GE109 := n3_; clear n0_ n1_ n2_ n3_; clear hb hbox hg))
  repeat (go_quiet (first | ((with_reducible refine gate_dst (N := 1) rfl ?_); (try (refine gate_guard (by rfl) ?_; dsimp only)); refine box_event ?hg (N := 1) ?hd (cs := #[.int .i64 a0_0, .int .i64 a0_1, .int .i64 a0_2, .int .i64 a0_3, .slice A0_4 l0_4.length c0_4, .slice A0_5 l0_5.length c0_5, .string a0_6, .slice A0_7 l0_7.length c0_7]) (t := 30) ?hr ?_; (case hd => rfl); (case hg => rfl); (case hr => first | (go_simp; done) | (go_simp; rfl)); intro gb109 hg w3 hbox hb; have n0_ := Aside0.mk (below_step (by repeat (first | (with_reducible first | exact HB.out | apply below_alloc | apply pw_below_drewN | apply below_drew1) | exact HB.out)) hb); have n1_ := Aside0.mk (hbox); have n2_ := Aside0.mk ((by rw [hg]; exact (below_size (by repeat (first | (with_reducible first | exact HB.out | apply below_alloc | apply pw_below_drewN | apply below_drew1) | exact HB.out))) : w.heap.size ≤ gb109)); have n3_ := Aside0.mk ((by rw [hg]; exact (below_size (by repeat (first | (with_reducible first | exact HB.out | apply below_alloc | apply pw_below_drewN | apply below_drew1) | exact HB.out))) : w.heap.size ≤ gb109)); clear HB; have HB := n0_; have BK109 := n1_; have GW109 := n2_; have GE109 := n3_; clear n0_ n1_ n2_ n3_; clear hb hbox hg)); go_upto_region 1 with (first | ((with_reducible refine gate_dst (N := 1) rfl ?_); (try (refine gate_guard (by rfl) ?_; dsimp only)); refine box_event ?hg (N := 1) ?hd (cs := #[.int .i64 a0_0, .int .i64 a0_1, .int .i64 a0_2, .int .i64 a0_3, .slice A0_4 l0_4.length c0_4, .slice A0_5 l0_5.length c0_5, .string a0_6, .slice A0_7 l0_7.length c0_7]) (t := 30) ?hr ?_; (case hd => rfl); (case hg => rfl); (case hr => first | (go_simp; done) | (go_simp; rfl)); intro gb109 hg w3 hbox hb; have n0_ := Aside0.mk (below_step (by repeat (first | (with_reducible first | exact HB.out | apply below_alloc | apply pw_below_drewN | apply below_drew1) | exact HB.out)) hb); have n1_ := Aside0.mk (hbox); have n2_ := Aside0.mk ((by rw [hg]; exact (below_size (by repeat (first | (with_reducible first | exact HB.out | apply below_alloc | apply pw_below_drewN | apply below_drew1) | exact HB.out))) : w.heap.size ≤ gb109)); have n3_ := Aside0.mk ((by rw [hg]; exact (below_size (by repeat (first | (with_reducible first | exact HB.out | apply below_alloc | apply pw_below_drewN | apply below_drew1) | exact HB.out))) : w.heap.size ≤ gb109)); clear HB; have HB := n0_; have BK109 := n1_; have GW109 := n2_; have GE109 := n3_; clear n0_ n1_ n2_ n3_; clear hb hbox hg)))
  (try simp only [Act.put, List.setIfInBounds_toArray, List.set_cons_zero, List.set_cons_succ])
  go_cut [13] (fun v13 wc => ∃ (kq : Nat) (x13_1 : Bool), v13 = .bool x13_1 ∧ Aside0 (folkmootref16_On.j0 kq x13_1 a0_0 a0_1 a0_2 a0_3 l0_4 l0_5 a0_6 l0_7 = some r) ∧ Aside0 (kq ≤ k) ∧ Aside0 (wc.heap[gb109]? = some (.cells #[.int .i64 a0_0, .int .i64 a0_1, .int .i64 a0_2, .int .i64 a0_3, (.slice A0_4 l0_4.length c0_4), (.slice A0_5 l0_5.length c0_5), .string a0_6, (.slice A0_7 l0_7.length c0_7)] 30 (0, 0))) ∧ Aside0 (Below w.heap.size w wc))
  case first =>
    have H := HC2.out
    clear HC2
    by_cases c4 : a0_2 < 0
    · rw [if_pos c4] at H
      have c4b0 : decide (a0_2 < 0) = true := decide_eq_true c4
      clear c4
      (first | rw [c4b0] | (simp only [i64_w, i32_w]; rw [c4b0]) | skip)
      have H' := Aside0.mk H
      clear H
      have hcz5_0 : w3.cell? ⟨gb109, 0, none⟩ = some (.int .i64 a0_0) := (blk_cell BK109.out 0).trans rfl
      have hcz5_1 : w3.cell? ⟨gb109, 1, none⟩ = some (.int .i64 a0_1) := (blk_cell BK109.out 1).trans rfl
      have hcz5_2 : w3.cell? ⟨gb109, 2, none⟩ = some (.int .i64 a0_2) := (blk_cell BK109.out 2).trans rfl
      have hcz5_3 : w3.cell? ⟨gb109, 3, none⟩ = some (.int .i64 a0_3) := (blk_cell BK109.out 3).trans rfl
      have hcz5_4 : w3.cell? ⟨gb109, 4, none⟩ = some (.slice A0_4 l0_4.length c0_4) := (blk_cell BK109.out 4).trans rfl
      have hcz5_5 : w3.cell? ⟨gb109, 5, none⟩ = some (.slice A0_5 l0_5.length c0_5) := (blk_cell BK109.out 5).trans rfl
      have hcz5_6 : w3.cell? ⟨gb109, 6, none⟩ = some (.string a0_6) := (blk_cell BK109.out 6).trans rfl
      have hcz5_7 : w3.cell? ⟨gb109, 7, none⟩ = some (.slice A0_7 l0_7.length c0_7) := (blk_cell BK109.out 7).trans rfl
      have hfz5_0 := blk_frozen BK109.out 0
      have hfz5_1 := blk_frozen BK109.out 1
      have hfz5_2 := blk_frozen BK109.out 2
      have hfz5_3 := blk_frozen BK109.out 3
      have hfz5_4 := blk_frozen BK109.out 4
      have hfz5_5 := blk_frozen BK109.out 5
      have hfz5_6 := blk_frozen BK109.out 6
      have hfz5_7 := blk_frozen BK109.out 7
      go_wp2
      repeat (go_quiet (fail); try go_wp2)
      go_meet
      case rel => exact ⟨_, (true), (by first | rfl | (simp; done) | (simp [*]; done)), H', ⟨by first | omega | exact Nat.le_refl _⟩, ⟨by (with_reducible repeat (first | refine blk_drewN ?_ _ | refine blk_drew ?_ | refine blk_alloc ?_ _)); exact BK109.out⟩, ⟨by repeat (first | (with_reducible first | exact HB.out | apply below_alloc | apply pw_below_drewN | apply below_drew1 | refine below_set ?_ GE109.out) | exact HB.out)⟩⟩
    · rw [if_neg c4] at H
      have c4b0 : decide (a0_2 < 0) = false := decide_eq_false c4
      clear c4
      (first | rw [c4b0] | (simp only [i64_w, i32_w]; rw [c4b0]) | skip)
      have H' := Aside0.mk H
      clear H
      have hcz6_0 : w3.cell? ⟨gb109, 0, none⟩ = some (.int .i64 a0_0) := (blk_cell BK109.out 0).trans rfl
      have hcz6_1 : w3.cell? ⟨gb109, 1, none⟩ = some (.int .i64 a0_1) := (blk_cell BK109.out 1).trans rfl
      have hcz6_2 : w3.cell? ⟨gb109, 2, none⟩ = some (.int .i64 a0_2) := (blk_cell BK109.out 2).trans rfl
      have hcz6_3 : w3.cell? ⟨gb109, 3, none⟩ = some (.int .i64 a0_3) := (blk_cell BK109.out 3).trans rfl
      have hcz6_4 : w3.cell? ⟨gb109, 4, none⟩ = some (.slice A0_4 l0_4.length c0_4) := (blk_cell BK109.out 4).trans rfl
      have hcz6_5 : w3.cell? ⟨gb109, 5, none⟩ = some (.slice A0_5 l0_5.length c0_5) := (blk_cell BK109.out 5).trans rfl
      have hcz6_6 : w3.cell? ⟨gb109, 6, none⟩ = some (.string a0_6) := (blk_cell BK109.out 6).trans rfl
      have hcz6_7 : w3.cell? ⟨gb109, 7, none⟩ = some (.slice A0_7 l0_7.length c0_7) := (blk_cell BK109.out 7).trans rfl
      have hfz6_0 := blk_frozen BK109.out 0
      have hfz6_1 := blk_frozen BK109.out 1
      have hfz6_2 := blk_frozen BK109.out 2
      have hfz6_3 := blk_frozen BK109.out 3
      have hfz6_4 := blk_frozen BK109.out 4
      have hfz6_5 := blk_frozen BK109.out 5
      have hfz6_6 := blk_frozen BK109.out 6
      have hfz6_7 := blk_frozen BK109.out 7
      go_wp2
      repeat (go_quiet (fail); try go_wp2)
      go_meet
      case rel => exact ⟨_, (decide ((l0_7.length : Int) > 10000)), (by first | rfl | (simp; done) | (simp [*]; done)), H', ⟨by first | omega | exact Nat.le_refl _⟩, ⟨by (with_reducible repeat (first | refine blk_drewN ?_ _ | refine blk_drew ?_ | refine blk_alloc ?_ _)); exact BK109.out⟩, ⟨by repeat (first | (with_reducible first | exact HB.out | apply below_alloc | apply pw_below_drewN | apply below_drew1 | refine below_set ?_ GE109.out) | exact HB.out)⟩⟩
  case rest =>
    clear HC2
    try clear c1
    try clear p2
    try clear c4
    try clear c4b0
    try clear hcz5_0
    try clear hcz5_1
    try clear hcz5_2
    try clear hcz5_3
    try clear hcz5_4
    try clear hcz5_5
    try clear hcz5_6
    try clear hcz5_7
    try clear hcz6_0
    try clear hcz6_1
    try clear hcz6_2
    try clear hcz6_3
    try clear hcz6_4
    try clear hcz6_5
    try clear hcz6_6
    try clear hcz6_7
    try clear hfz5_0
    try clear hfz5_1
    try clear hfz5_2
    try clear hfz5_3
    try clear hfz5_4
    try clear hfz5_5
    try clear hfz5_6
    try clear hfz5_7
    try clear hfz6_0
    try clear hfz6_1
    try clear hfz6_2
    try clear hfz6_3
    try clear hfz6_4
    try clear hfz6_5
    try clear hfz6_6
    try clear hfz6_7
    obtain ⟨kq, x13_1, rfl, HA, HJ1, BK109, HB⟩ := hcut
    cases kq with
    | zero => exact absurd HA.out (by simp [folkmootref16_On.j0])
    | succ kj1 =>
      have H := HA.out
      clear HA
      simp only [folkmootref16_On.j0] at H
      by_cases c7 : x13_1 = true
      · subst c7
        have H1 : (some false) = some r := by rw [if_pos rfl] at H; exact H
        clear H
        have H := H1
        clear H1
        obtain rfl := Option.some.inj H
        go_wp2
        repeat (go_quiet (fail); try go_wp2)
        go_ret
        exact ⟨by first | rfl | (simp [errW_none, errW_some] <;> rfl) | (simp [*, errW_none, errW_some] <;> rfl), by repeat (first | (with_reducible first | exact HB.out | apply below_alloc | apply pw_below_drewN | apply below_drew1 | refine below_set ?_ GE109.out) | exact HB.out)⟩
      · replace c7 := Bool.eq_false_iff.mpr c7
        subst c7
        have H1 : (folkmootref16_On.l0 kj1 0 a0_0 a0_1 a0_2 a0_3 l0_4 l0_5 a0_6 l0_7) = some r := by rw [if_neg (show ¬ (false = true) by decide)] at H; exact H
        clear H
        have H := H1
        clear H1
        have H' := Aside0.mk H
        clear H
        go_wp2
        repeat (go_quiet (fail); try go_wp2)
        go_loopg [3] kj1 (fun kq v3 w' => ∃ (x3_2 : Int), v3 = .int .i64 x3_2 ∧ Aside0 (folkmootref16_On.l0 kq x3_2 a0_0 a0_1 a0_2 a0_3 l0_4 l0_5 a0_6 l0_7 = some r) ∧ Aside0 (kq ≤ kj1) ∧ Aside0 (w'.heap[gb109]? = some (.cells #[.int .i64 a0_0, .int .i64 a0_1, .int .i64 a0_2, .int .i64 a0_3, (.slice A0_4 l0_4.length c0_4), (.slice A0_5 l0_5.length c0_5), .string a0_6, (.slice A0_7 l0_7.length c0_7)] 30 (0, 0))) ∧ Aside0 (Below w.heap.size w w'))
        case atStart => exact ⟨(0), (by first | rfl | (simp; done) | (simp [*]; done)), H', ⟨Nat.le_refl _⟩, ⟨by (with_reducible repeat (first | refine blk_drewN ?_ _ | refine blk_drew ?_ | refine blk_alloc ?_ _)); exact BK109.out⟩, ⟨by repeat (first | (with_reducible first | exact HB.out | apply below_alloc | apply pw_below_drewN | apply below_drew1 | refine below_set ?_ GE109.out) | exact HB.out)⟩⟩
        case round =>
          clear H'
          try clear c1
          try clear p2
          try clear c4
          try clear c4b0
          try clear c7
          try clear hcz5_0
          try clear hcz5_1
          try clear hcz5_2
          try clear hcz5_3
          try clear hcz5_4
          try clear hcz5_5
          try clear hcz5_6
          try clear hcz5_7
          try clear hcz6_0
          try clear hcz6_1
          try clear hcz6_2
          try clear hcz6_3
          try clear hcz6_4
          try clear hcz6_5
          try clear hcz6_6
          try clear hcz6_7
          try clear hfz5_0
          try clear hfz5_1
          try clear hfz5_2
          try clear hfz5_3
          try clear hfz5_4
          try clear hfz5_5
          try clear hfz5_6
          try clear hfz5_7
          try clear hfz6_0
          try clear hfz6_1
          try clear hfz6_2
          try clear hfz6_3
          try clear hfz6_4
          try clear hfz6_5
          try clear hfz6_6
          try clear hfz6_7
          try clear p2
          obtain ⟨x3_2, rfl, HA, HK2, BK109, HB⟩ := hrel
          cases gk with
          | zero => exact absurd HA.out (by simp [folkmootref16_On.l0])
          | succ k2 =>
            have H := HA.out
            clear HA
            simp only [folkmootref16_On.l0] at H
            by_cases c8 : x3_2 < (l0_7.length : Int)
            · rw [if_pos c8] at H
              have c8b0 : decide (x3_2 < (l0_7.length : Int)) = true := decide_eq_true c8
              clear c8
              by_cases c9 : 0 ≤ x3_2
              · rw [if_pos c9] at H
                have c9b0 : decide (0 ≤ x3_2) = true := decide_eq_true c9
                clear c9
                by_cases c10 : ((rd_T54 l0_7 x3_2).f0) < 1
                · rw [if_pos c10] at H
                  have c10b0 : decide (((rd_T54 l0_7 x3_2).f0) < 1) = true := decide_eq_true c10
                  clear c10
                  obtain rfl := Option.some.inj H
                  have hcz11_0 : wr.cell? ⟨gb109, 0, none⟩ = some (.int .i64 a0_0) := (blk_cell BK109.out 0).trans rfl
                  have hcz11_1 : wr.cell? ⟨gb109, 1, none⟩ = some (.int .i64 a0_1) := (blk_cell BK109.out 1).trans rfl
                  have hcz11_2 : wr.cell? ⟨gb109, 2, none⟩ = some (.int .i64 a0_2) := (blk_cell BK109.out 2).trans rfl
                  have hcz11_3 : wr.cell? ⟨gb109, 3, none⟩ = some (.int .i64 a0_3) := (blk_cell BK109.out 3).trans rfl
                  have hcz11_4 : wr.cell? ⟨gb109, 4, none⟩ = some (.slice A0_4 l0_4.length c0_4) := (blk_cell BK109.out 4).trans rfl
                  have hcz11_5 : wr.cell? ⟨gb109, 5, none⟩ = some (.slice A0_5 l0_5.length c0_5) := (blk_cell BK109.out 5).trans rfl
                  have hcz11_6 : wr.cell? ⟨gb109, 6, none⟩ = some (.string a0_6) := (blk_cell BK109.out 6).trans rfl
                  have hcz11_7 : wr.cell? ⟨gb109, 7, none⟩ = some (.slice A0_7 l0_7.length c0_7) := (blk_cell BK109.out 7).trans rfl
                  have hfz11_0 := blk_frozen BK109.out 0
                  have hfz11_1 := blk_frozen BK109.out 1
                  have hfz11_2 := blk_frozen BK109.out 2
                  have hfz11_3 := blk_frozen BK109.out 3
                  have hfz11_4 := blk_frozen BK109.out 4
                  have hfz11_5 := blk_frozen BK109.out 5
                  have hfz11_6 := blk_frozen BK109.out 6
                  have hfz11_7 := blk_frozen BK109.out 7
                  have p110 : 0 ≤ (x3_2 : Int) := of_decide_eq_true (by first | (with_reducible assumption) | assumption)
                  have q110 : x3_2 < (l0_7.length : Int) := of_decide_eq_true (by first | (with_reducible assumption) | assumption)
                  obtain ⟨ad110, A110_3, c110_3, A110_4, c110_4, e110, hx110_0, hx110_1, hx110_2, hx110_3, hx110_4, hx110_5, hl110_3, hi110_3, hl110_4, hi110_4⟩ := at_T54 HR0_7.out x3_2 p110 q110
                  cases e110
                  replace hx110_0 := (HB.out.cell (World.block_lt_of_cell? w _ hx110_0)).trans hx110_0
                  replace hx110_1 := (HB.out.cell (World.block_lt_of_cell? w _ hx110_1)).trans hx110_1
                  replace hx110_2 := (HB.out.cell (World.block_lt_of_cell? w _ hx110_2)).trans hx110_2
                  replace hx110_3 := (HB.out.cell (World.block_lt_of_cell? w _ hx110_3)).trans hx110_3
                  replace hx110_4 := (HB.out.cell (World.block_lt_of_cell? w _ hx110_4)).trans hx110_4
                  replace hx110_5 := (HB.out.cell (World.block_lt_of_cell? w _ hx110_5)).trans hx110_5
                  have HR110_3 := Aside0.mk hi110_3
                  have HC110_3 := Aside0.mk hl110_3
                  clear hi110_3 hl110_3
                  have HR110_4 := Aside0.mk hi110_4
                  have HC110_4 := Aside0.mk hl110_4
                  clear hi110_4 hl110_4
                  replace p110 := eq_true p110
                  replace q110 := eq_true q110
                  go_wp2
                  repeat (go_quiet (fail); try go_wp2)
                  go_ret
                  exact ⟨by first | rfl | (simp [errW_none, errW_some] <;> rfl) | (simp [*, errW_none, errW_some] <;> rfl), by repeat (first | (with_reducible first | exact HB.out | apply below_alloc | apply pw_below_drewN | apply below_drew1 | refine below_set ?_ GE109.out) | exact HB.out)⟩
                · rw [if_neg c10] at H
                  have c10b0 : decide (((rd_T54 l0_7 x3_2).f0) < 1) = false := decide_eq_false c10
                  clear c10
                  by_cases c12 : (wrap64 ((wrap64 (((rd_T54 l0_7 x3_2).f0) - 1)) - x3_2)) = a0_2
                  · rw [if_pos c12] at H
                    have c12b0 : ((wrap64 ((wrap64 (((rd_T54 l0_7 x3_2).f0) - 1)) - x3_2)) == a0_2) = true := beq_iff_eq.mpr c12
                    have c12b1 : ((wrap64 ((wrap64 (((rd_T54 l0_7 x3_2).f0) - 1)) - x3_2)) != a0_2) = false := bne_eq_false_iff_eq.mpr c12
                    clear c12
                    have H' := Aside0.mk H
                    clear H
                    have hcz13_0 : wr.cell? ⟨gb109, 0, none⟩ = some (.int .i64 a0_0) := (blk_cell BK109.out 0).trans rfl
                    have hcz13_1 : wr.cell? ⟨gb109, 1, none⟩ = some (.int .i64 a0_1) := (blk_cell BK109.out 1).trans rfl
                    have hcz13_2 : wr.cell? ⟨gb109, 2, none⟩ = some (.int .i64 a0_2) := (blk_cell BK109.out 2).trans rfl
                    have hcz13_3 : wr.cell? ⟨gb109, 3, none⟩ = some (.int .i64 a0_3) := (blk_cell BK109.out 3).trans rfl
                    have hcz13_4 : wr.cell? ⟨gb109, 4, none⟩ = some (.slice A0_4 l0_4.length c0_4) := (blk_cell BK109.out 4).trans rfl
                    have hcz13_5 : wr.cell? ⟨gb109, 5, none⟩ = some (.slice A0_5 l0_5.length c0_5) := (blk_cell BK109.out 5).trans rfl
                    have hcz13_6 : wr.cell? ⟨gb109, 6, none⟩ = some (.string a0_6) := (blk_cell BK109.out 6).trans rfl
                    have hcz13_7 : wr.cell? ⟨gb109, 7, none⟩ = some (.slice A0_7 l0_7.length c0_7) := (blk_cell BK109.out 7).trans rfl
                    have hfz13_0 := blk_frozen BK109.out 0
                    have hfz13_1 := blk_frozen BK109.out 1
                    have hfz13_2 := blk_frozen BK109.out 2
                    have hfz13_3 := blk_frozen BK109.out 3
                    have hfz13_4 := blk_frozen BK109.out 4
                    have hfz13_5 := blk_frozen BK109.out 5
                    have hfz13_6 := blk_frozen BK109.out 6
                    have hfz13_7 := blk_frozen BK109.out 7
                    have p110 : 0 ≤ (x3_2 : Int) := of_decide_eq_true (by first | (with_reducible assumption) | assumption)
                    have q110 : x3_2 < (l0_7.length : Int) := of_decide_eq_true (by first | (with_reducible assumption) | assumption)
                    obtain ⟨ad110, A110_3, c110_3, A110_4, c110_4, e110, hx110_0, hx110_1, hx110_2, hx110_3, hx110_4, hx110_5, hl110_3, hi110_3, hl110_4, hi110_4⟩ := at_T54 HR0_7.out x3_2 p110 q110
                    cases e110
                    replace hx110_0 := (HB.out.cell (World.block_lt_of_cell? w _ hx110_0)).trans hx110_0
                    replace hx110_1 := (HB.out.cell (World.block_lt_of_cell? w _ hx110_1)).trans hx110_1
                    replace hx110_2 := (HB.out.cell (World.block_lt_of_cell? w _ hx110_2)).trans hx110_2
                    replace hx110_3 := (HB.out.cell (World.block_lt_of_cell? w _ hx110_3)).trans hx110_3
                    replace hx110_4 := (HB.out.cell (World.block_lt_of_cell? w _ hx110_4)).trans hx110_4
                    replace hx110_5 := (HB.out.cell (World.block_lt_of_cell? w _ hx110_5)).trans hx110_5
                    have HR110_3 := Aside0.mk hi110_3
                    have HC110_3 := Aside0.mk hl110_3
                    clear hi110_3 hl110_3
                    have HR110_4 := Aside0.mk hi110_4
                    have HC110_4 := Aside0.mk hl110_4
                    clear hi110_4 hl110_4
                    replace p110 := eq_true p110
                    replace q110 := eq_true q110
                    have p111 : 0 ≤ (x3_2 : Int) := of_decide_eq_true (by first | (with_reducible assumption) | assumption)
                    have q111 : x3_2 < (l0_7.length : Int) := of_decide_eq_true (by first | (with_reducible assumption) | assumption)
                    obtain ⟨ad111, A111_3, c111_3, A111_4, c111_4, e111, hx111_0, hx111_1, hx111_2, hx111_3, hx111_4, hx111_5, hl111_3, hi111_3, hl111_4, hi111_4⟩ := at_T54 HR0_7.out x3_2 p111 q111
                    obtain rfl : ad110 = ad111 := (by injection e111)
                    replace hx111_0 := (HB.out.cell (World.block_lt_of_cell? w _ hx111_0)).trans hx111_0
                    replace hx111_1 := (HB.out.cell (World.block_lt_of_cell? w _ hx111_1)).trans hx111_1
                    replace hx111_2 := (HB.out.cell (World.block_lt_of_cell? w _ hx111_2)).trans hx111_2
                    replace hx111_3 := (HB.out.cell (World.block_lt_of_cell? w _ hx111_3)).trans hx111_3
                    replace hx111_4 := (HB.out.cell (World.block_lt_of_cell? w _ hx111_4)).trans hx111_4
                    replace hx111_5 := (HB.out.cell (World.block_lt_of_cell? w _ hx111_5)).trans hx111_5
                    have HR111_3 := Aside0.mk hi111_3
                    have HC111_3 := Aside0.mk hl111_3
                    clear hi111_3 hl111_3
                    have HR111_4 := Aside0.mk hi111_4
                    have HC111_4 := Aside0.mk hl111_4
                    clear hi111_4 hl111_4
                    replace p111 := eq_true p111
                    replace q111 := eq_true q111
                    have ea_ := Option.some.inj (hx110_3.symm.trans hx111_3)
                    injection ea_ with ea_ en_ ec_
                    subst ea_
                    subst ec_
                    clear en_
                    have ea_ := Option.some.inj (hx110_4.symm.trans hx111_4)
                    injection ea_ with ea_ en_ ec_
                    subst ea_
                    subst ec_
                    clear en_
                    go_wp2
                    repeat (go_quiet (fail); try go_wp2)
                    go_roundg k2
                    case measure => have := HJ1.out; have := HK2.out; omega
                    case rel => exact ⟨(wrap64 (x3_2 + 1)), (by first | rfl | (simp; done) | (simp [*]; done)), H', ⟨by have := HJ1.out; have := HK2.out; omega⟩, ⟨by (with_reducible repeat (first | refine blk_drewN ?_ _ | refine blk_drew ?_ | refine blk_alloc ?_ _)); exact BK109.out⟩, ⟨by repeat (first | (with_reducible first | exact HB.out | apply below_alloc | apply pw_below_drewN | apply below_drew1 | refine below_set ?_ GE109.out) | exact HB.out)⟩⟩
                  · rw [if_neg c12] at H
                    have c12b0 : ((wrap64 ((wrap64 (((rd_T54 l0_7 x3_2).f0) - 1)) - x3_2)) == a0_2) = false := beq_eq_false_iff_ne.mpr c12
                    have c12b1 : ((wrap64 ((wrap64 (((rd_T54 l0_7 x3_2).f0) - 1)) - x3_2)) != a0_2) = true := bne_iff_ne.mpr c12
                    obtain rfl := Option.some.inj H
                    have hcz14_0 : wr.cell? ⟨gb109, 0, none⟩ = some (.int .i64 a0_0) := (blk_cell BK109.out 0).trans rfl
                    have hcz14_1 : wr.cell? ⟨gb109, 1, none⟩ = some (.int .i64 a0_1) := (blk_cell BK109.out 1).trans rfl
                    have hcz14_2 : wr.cell? ⟨gb109, 2, none⟩ = some (.int .i64 a0_2) := (blk_cell BK109.out 2).trans rfl
                    have hcz14_3 : wr.cell? ⟨gb109, 3, none⟩ = some (.int .i64 a0_3) := (blk_cell BK109.out 3).trans rfl
                    have hcz14_4 : wr.cell? ⟨gb109, 4, none⟩ = some (.slice A0_4 l0_4.length c0_4) := (blk_cell BK109.out 4).trans rfl
                    have hcz14_5 : wr.cell? ⟨gb109, 5, none⟩ = some (.slice A0_5 l0_5.length c0_5) := (blk_cell BK109.out 5).trans rfl
                    have hcz14_6 : wr.cell? ⟨gb109, 6, none⟩ = some (.string a0_6) := (blk_cell BK109.out 6).trans rfl
                    have hcz14_7 : wr.cell? ⟨gb109, 7, none⟩ = some (.slice A0_7 l0_7.length c0_7) := (blk_cell BK109.out 7).trans rfl
                    have hfz14_0 := blk_frozen BK109.out 0
                    have hfz14_1 := blk_frozen BK109.out 1
                    have hfz14_2 := blk_frozen BK109.out 2
                    have hfz14_3 := blk_frozen BK109.out 3
                    have hfz14_4 := blk_frozen BK109.out 4
                    have hfz14_5 := blk_frozen BK109.out 5
                    have hfz14_6 := blk_frozen BK109.out 6
                    have hfz14_7 := blk_frozen BK109.out 7
                    have p110 : 0 ≤ (x3_2 : Int) := of_decide_eq_true (by first | (with_reducible assumption) | assumption)
                    have q110 : x3_2 < (l0_7.length : Int) := of_decide_eq_true (by first | (with_reducible assumption) | assumption)
                    obtain ⟨ad110, A110_3, c110_3, A110_4, c110_4, e110, hx110_0, hx110_1, hx110_2, hx110_3, hx110_4, hx110_5, hl110_3, hi110_3, hl110_4, hi110_4⟩ := at_T54 HR0_7.out x3_2 p110 q110
                    cases e110
                    replace hx110_0 := (HB.out.cell (World.block_lt_of_cell? w _ hx110_0)).trans hx110_0
                    replace hx110_1 := (HB.out.cell (World.block_lt_of_cell? w _ hx110_1)).trans hx110_1
                    replace hx110_2 := (HB.out.cell (World.block_lt_of_cell? w _ hx110_2)).trans hx110_2
                    replace hx110_3 := (HB.out.cell (World.block_lt_of_cell? w _ hx110_3)).trans hx110_3
                    replace hx110_4 := (HB.out.cell (World.block_lt_of_cell? w _ hx110_4)).trans hx110_4
                    replace hx110_5 := (HB.out.cell (World.block_lt_of_cell? w _ hx110_5)).trans hx110_5
                    have HR110_3 := Aside0.mk hi110_3
                    have HC110_3 := Aside0.mk hl110_3
                    clear hi110_3 hl110_3
                    have HR110_4 := Aside0.mk hi110_4
                    have HC110_4 := Aside0.mk hl110_4
                    clear hi110_4 hl110_4
                    replace p110 := eq_true p110
                    replace q110 := eq_true q110
                    have p111 : 0 ≤ (x3_2 : Int) := of_decide_eq_true (by first | (with_reducible assumption) | assumption)
                    have q111 : x3_2 < (l0_7.length : Int) := of_decide_eq_true (by first | (with_reducible assumption) | assumption)
                    obtain ⟨ad111, A111_3, c111_3, A111_4, c111_4, e111, hx111_0, hx111_1, hx111_2, hx111_3, hx111_4, hx111_5, hl111_3, hi111_3, hl111_4, hi111_4⟩ := at_T54 HR0_7.out x3_2 p111 q111
                    obtain rfl : ad110 = ad111 := (by injection e111)
                    replace hx111_0 := (HB.out.cell (World.block_lt_of_cell? w _ hx111_0)).trans hx111_0
                    replace hx111_1 := (HB.out.cell (World.block_lt_of_cell? w _ hx111_1)).trans hx111_1
                    replace hx111_2 := (HB.out.cell (World.block_lt_of_cell? w _ hx111_2)).trans hx111_2
                    replace hx111_3 := (HB.out.cell (World.block_lt_of_cell? w _ hx111_3)).trans hx111_3
                    replace hx111_4 := (HB.out.cell (World.block_lt_of_cell? w _ hx111_4)).trans hx111_4
                    replace hx111_5 := (HB.out.cell (World.block_lt_of_cell? w _ hx111_5)).trans hx111_5
                    have HR111_3 := Aside0.mk hi111_3
                    have HC111_3 := Aside0.mk hl111_3
                    clear hi111_3 hl111_3
                    have HR111_4 := Aside0.mk hi111_4
                    have HC111_4 := Aside0.mk hl111_4
                    clear hi111_4 hl111_4
                    replace p111 := eq_true p111
                    replace q111 := eq_true q111
                    have ea_ := Option.some.inj (hx110_3.symm.trans hx111_3)
                    injection ea_ with ea_ en_ ec_
                    subst ea_
                    subst ec_
                    clear en_
                    have ea_ := Option.some.inj (hx110_4.symm.trans hx111_4)
                    injection ea_ with ea_ en_ ec_
                    subst ea_
                    subst ec_
                    clear en_
                    go_wp2
                    repeat (go_quiet (fail); try go_wp2)
                    go_ret
                    exact ⟨by first | rfl | (simp [errW_none, errW_some] <;> rfl) | (simp [*, errW_none, errW_some] <;> rfl), by repeat (first | (with_reducible first | exact HB.out | apply below_alloc | apply pw_below_drewN | apply below_drew1 | refine below_set ?_ GE109.out) | exact HB.out)⟩
              · rw [if_neg c9] at H
                exact absurd H (by simp)
            · rw [if_neg c8] at H
              have c8b0 : decide (x3_2 < (l0_7.length : Int)) = false := decide_eq_false c8
              clear c8
              obtain rfl := Option.some.inj H
              have hcz15_0 : wr.cell? ⟨gb109, 0, none⟩ = some (.int .i64 a0_0) := (blk_cell BK109.out 0).trans rfl
              have hcz15_1 : wr.cell? ⟨gb109, 1, none⟩ = some (.int .i64 a0_1) := (blk_cell BK109.out 1).trans rfl
              have hcz15_2 : wr.cell? ⟨gb109, 2, none⟩ = some (.int .i64 a0_2) := (blk_cell BK109.out 2).trans rfl
              have hcz15_3 : wr.cell? ⟨gb109, 3, none⟩ = some (.int .i64 a0_3) := (blk_cell BK109.out 3).trans rfl
              have hcz15_4 : wr.cell? ⟨gb109, 4, none⟩ = some (.slice A0_4 l0_4.length c0_4) := (blk_cell BK109.out 4).trans rfl
              have hcz15_5 : wr.cell? ⟨gb109, 5, none⟩ = some (.slice A0_5 l0_5.length c0_5) := (blk_cell BK109.out 5).trans rfl
              have hcz15_6 : wr.cell? ⟨gb109, 6, none⟩ = some (.string a0_6) := (blk_cell BK109.out 6).trans rfl
              have hcz15_7 : wr.cell? ⟨gb109, 7, none⟩ = some (.slice A0_7 l0_7.length c0_7) := (blk_cell BK109.out 7).trans rfl
              have hfz15_0 := blk_frozen BK109.out 0
              have hfz15_1 := blk_frozen BK109.out 1
              have hfz15_2 := blk_frozen BK109.out 2
              have hfz15_3 := blk_frozen BK109.out 3
              have hfz15_4 := blk_frozen BK109.out 4
              have hfz15_5 := blk_frozen BK109.out 5
              have hfz15_6 := blk_frozen BK109.out 6
              have hfz15_7 := blk_frozen BK109.out 7
              go_wp2
              repeat (go_quiet (fail); try go_wp2)
              go_ret
              exact ⟨by first | rfl | (simp [errW_none, errW_some] <;> rfl) | (simp [*, errW_none, errW_some] <;> rfl), by repeat (first | (with_reducible first | exact HB.out | apply below_alloc | apply pw_below_drewN | apply below_drew1 | refine below_set ?_ GE109.out) | exact HB.out)⟩

end Go.Proofs.Ytbjhjimkljbjlaa.PA
/- Plain laws: what Check and On compute. -/
namespace Go.Proofs.Ytbjhjimkljbjlaa.PA
open Go.RowKit Go.Proofs.YtbjhjimkljbjlaaW.PrintWords Go.Proofs.YtbjhjimkljbjlaaW.PrintLast

def okAt (si : Int) (es : List S54) (i : Nat) : Bool := decide (1 ≤ (es.getD i z54).f0) && decide (wrap64 (wrap64 ((es.getD i z54).f0 - 1) - i) = si)
def okFrom (si : Int) (es : List S54) : Nat → Nat → Bool
  | 0, _ => true
  | d + 1, i => okAt si es i && okFrom si es d (i + 1)
def chk (si : Int) (es : List S54) : Bool := decide (0 ≤ si) && decide (es.length ≤ 10000) && okFrom si es es.length 0

theorem okFrom_all (si : Int) (es : List S54) : ∀ d i, okFrom si es d i = true → ∀ j, i ≤ j → j < i + d → okAt si es j = true := by
  intro d
  induction d with
  | zero => intro i _ j h1 h2; omega
  | succ d ih =>
    intro i h j h1 h2
    simp only [okFrom, Bool.and_eq_true] at h
    rcases Nat.eq_or_lt_of_le h1 with e | h3
    · subst e; exact h.1
    · exact ih (i + 1) h.2 j h3 (by omega)
theorem check_l (si : Int) (es : List S54) (hl : es.length ≤ 10000) (t v st : Int) (vo le : List Int) (da : ByteArray) : ∀ (d i k : Nat), i + d = es.length → d < k →
    raftlog_Check.l0 k es (es.length : Int) (i : Int) t v si st vo le da es = some (if okFrom si es d i = true then 0 else 1) := by
  intro d
  induction d with
  | zero =>
    intro i k h hk
    obtain ⟨k, rfl⟩ : ∃ m, k = m + 1 := ⟨k - 1, by omega⟩
    simp only [raftlog_Check.l0]
    rw [if_neg (by omega)]
    rfl
  | succ d ih =>
    intro i k h hk
    obtain ⟨k, rfl⟩ : ∃ m, k = m + 1 := ⟨k - 1, by omega⟩
    simp only [raftlog_Check.l0]
    rw [if_pos (by omega), if_pos (by omega), if_pos (by omega)]
    have hrd : rd_T54 es (i : Int) = es.getD i z54 := by simp [rd_T54]
    rw [hrd]
    have hw : wrap64 ((i : Int) + 1) = ((i + 1 : Nat) : Int) := by unfold wrap64; omega
    by_cases h1 : (es.getD i z54).f0 < 1
    · rw [if_pos h1]
      have : okAt si es i = false := by simp only [okAt, Bool.and_eq_false_iff, decide_eq_false_iff_not]; left; omega
      simp [okFrom, this]
    · rw [if_neg h1]
      by_cases h2 : wrap64 (wrap64 ((es.getD i z54).f0 - 1) - i) = si
      · rw [if_pos h2, hw, ih (i + 1) k (by omega) (by omega)]
        have : okAt si es i = true := by simp only [okAt, Bool.and_eq_true, decide_eq_true_eq]; exact ⟨by omega, h2⟩
        simp [okFrom, this]
      · rw [if_neg h2]
        have : okAt si es i = false := by simp only [okAt, Bool.and_eq_false_iff, decide_eq_false_iff_not]; right; exact h2
        simp [okFrom, this]

theorem check_eq (k : Nat) (t v si st : Int) (vo le : List Int) (da : ByteArray) (es : List S54) (hk : es.length + 3 ≤ k) :
    raftlog_Check.f k t v si st vo le da es = some (if chk si es = true then 0 else 1) := by
  obtain ⟨k, rfl⟩ : ∃ m, k = m + 1 := ⟨k - 1, by omega⟩
  simp only [raftlog_Check.f, raftlog_Check.j0]
  by_cases h1 : si < 0
  · rw [if_pos h1]
    have : chk si es = false := by simp [chk]; omega
    simp [this]
  · rw [if_neg h1]
    by_cases h2 : (es.length : Int) > 10000
    · have : chk si es = false := by simp [chk]; omega
      simp [this, h2]
    · have hl : es.length ≤ 10000 := by omega
      rw [if_neg (by simpa using h2)]
      have := check_l si es hl t v st vo le da es.length 0 k (by omega) (by omega)
      rw [show ((0 : Nat) : Int) = 0 from rfl] at this
      rw [this]
      have h3 : chk si es = okFrom si es es.length 0 := by simp [chk, hl]; omega
      rw [h3]

theorem on_l (si : Int) (es : List S54) (hl : es.length ≤ 10000) (t v st : Int) (vo le : List Int) (da : ByteArray) : ∀ (d i k : Nat), i + d = es.length → d < k →
    folkmootref16_On.l0 k (i : Int) t v si st vo le da es = some (okFrom si es d i) := by
  intro d
  induction d with
  | zero =>
    intro i k h hk
    obtain ⟨k, rfl⟩ : ∃ m, k = m + 1 := ⟨k - 1, by omega⟩
    simp only [folkmootref16_On.l0]
    rw [if_neg (by omega)]
    rfl
  | succ d ih =>
    intro i k h hk
    obtain ⟨k, rfl⟩ : ∃ m, k = m + 1 := ⟨k - 1, by omega⟩
    simp only [folkmootref16_On.l0]
    rw [if_pos (by omega), if_pos (by omega)]
    have hrd : rd_T54 es (i : Int) = es.getD i z54 := by simp [rd_T54]
    rw [hrd]
    have hw : wrap64 ((i : Int) + 1) = ((i + 1 : Nat) : Int) := by unfold wrap64; omega
    by_cases h1 : (es.getD i z54).f0 < 1
    · rw [if_pos h1]
      have : okAt si es i = false := by simp only [okAt, Bool.and_eq_false_iff, decide_eq_false_iff_not]; left; omega
      simp [okFrom, this]
    · rw [if_neg h1]
      by_cases h2 : wrap64 (wrap64 ((es.getD i z54).f0 - 1) - i) = si
      · rw [if_pos h2, hw, ih (i + 1) k (by omega) (by omega)]
        have : okAt si es i = true := by simp only [okAt, Bool.and_eq_true, decide_eq_true_eq]; exact ⟨by omega, h2⟩
        simp [okFrom, this]
      · rw [if_neg h2]
        have : okAt si es i = false := by simp only [okAt, Bool.and_eq_false_iff, decide_eq_false_iff_not]; right; exact h2
        simp [okFrom, this]

theorem on_eq (k : Nat) (t v si st : Int) (vo le : List Int) (da : ByteArray) (es : List S54) (hk : es.length + 3 ≤ k) :
    folkmootref16_On.f k t v si st vo le da es = some (chk si es) := by
  obtain ⟨k, rfl⟩ : ∃ m, k = m + 1 := ⟨k - 1, by omega⟩
  simp only [folkmootref16_On.f, folkmootref16_On.j0]
  by_cases h1 : si < 0
  · rw [if_pos h1]
    have : chk si es = false := by simp [chk]; omega
    simp [this]
  · rw [if_neg h1]
    by_cases h2 : (es.length : Int) > 10000
    · have : chk si es = false := by simp [chk]; omega
      simp [this, h2]
    · have hl : es.length ≤ 10000 := by omega
      rw [if_neg (by simpa using h2)]
      have := on_l si es hl t v st vo le da es.length 0 k (by omega) (by omega)
      rw [show ((0 : Nat) : Int) = 0 from rfl] at this
      rw [this]
      have h3 : chk si es = okFrom si es es.length 0 := by simp [chk, hl]; omega
      rw [h3]

/-- The last number and term. -/
def lastP (si st : Int) (es : List S54) : Int × Int := match es.getLast? with
  | some e => (e.f0, e.f1)
  | none => (si, st)
def raftlog_Last.f (_t _v si st : Int) (_vo _le : List Int) (_da : ByteArray) (es : List S54) : Option (Int × Int) := some (if chk si es = true then lastP si st es else (0, 0))
/-- The numbers and terms from the last one on, then the snapshot's; the term of a number. -/
def backL (si st : Int) (es : List S54) : List (Int × Int) := (es.reverse.map fun e => (e.f0, e.f1)) ++ [(si, st)]
def termR (si st : Int) (es : List S54) (index : Int) : Int × Int := match (backL si st es).find? (fun x => x.1 == index) with
  | some x => (x.2, 0)
  | none => (0, 150)
def raftlog_Term.f (_t _v si st : Int) (_vo _le : List Int) (_da : ByteArray) (es : List S54) (index : Int) : Option (Int × Int) :=
  some (if chk si es = true then termR si st es index else (0, 1))
end Go.Proofs.Ytbjhjimkljbjlaa.PA
/- The law of a range over a function whose iterator is itself written with a range over a function: what the two parties promise one another. -/
namespace Go.Proofs.YtbjhjimkljbjlaaI
open Go Go.RowKit

/-- What one round keeps: the blocks p (the iterator's data) and what the iterator itself has laid since its call (from B on). -/
structure Mid (p : Nat → Prop) (B : Nat) (W W' : World) : Prop where
  os : W'.os = W.os
  tape : W'.tape = W.tape
  output : W'.output = W.output
  size : W.heap.size ≤ W'.heap.size
  block : ∀ k, k < W.heap.size → (p k ∨ B ≤ k) → W'.heap[k]? = W.heap[k]?

theorem Mid.refl (p : Nat → Prop) (B : Nat) (W : World) : Mid p B W W := ⟨rfl, rfl, rfl, Nat.le_refl _, fun _ _ _ => rfl⟩
theorem Mid.trans {p : Nat → Prop} {B : Nat} {a b c : World} (h : Mid p B a b) (k : Mid p B b c) : Mid p B a c :=
  ⟨k.os.trans h.os, k.tape.trans h.tape, k.output.trans h.output, Nat.le_trans h.size k.size, fun i hi ho => (k.block i (Nat.lt_of_lt_of_le hi h.size) ho).trans (h.block i hi ho)⟩
theorem Mid.alloc {p : Nat → Prop} {B : Nat} {a w : World} (h : Mid p B a w) (o : Obj) : Mid p B a (w.alloc o) :=
  h.trans ⟨rfl, rfl, rfl, by simp, fun k hk _ => Below.heap_alloc _ _ _ hk⟩
theorem Mid.drew {p : Nat → Prop} {B : Nat} {a w : World} (h : Mid p B a w) : Mid p B a w.drew := ⟨h.os, h.tape, h.output, h.size, h.block⟩
theorem Mid.setCell {p : Nat → Prop} {B : Nat} {a w : World} (h : Mid p B a w) {q : Addr} (hp : ¬ p q.block) (hq : q.block < B) (u : Value) : Mid p B a (w.setCell q u) :=
  h.trans ⟨rfl, rfl, rfl, by simp [World.setCell], fun k _ ho => Below.heap_setCell _ _ _ _ (fun e => by subst e; rcases ho with ho | ho; exact hp ho; omega)⟩
theorem Mid.putObj {p : Nat → Prop} {B : Nat} {a w : World} (h : Mid p B a w) {l : Nat} (hp : ¬ p l) (hq : l < B) (o : Obj) : Mid p B a (w.putObj l o) :=
  h.trans ⟨rfl, rfl, rfl, by simp, fun k _ ho => World.putObj_heap_other (fun e => by subst e; rcases ho with ho | ho; exact hp ho; omega)⟩
theorem Mid.wider {p p' : Nat → Prop} {B B' : Nat} {a w : World} (h : Mid p B a w) (hp : ∀ k, p' k → p k ∨ B ≤ k) (hB : B ≤ B') : Mid p' B' a w :=
  ⟨h.os, h.tape, h.output, h.size, fun k hk ho => h.block k hk (by rcases ho with ho | ho; exact hp k ho; exact .inr (by omega))⟩
/-- What lies from B on. -/
theorem Mid.at_ {p : Nat → Prop} {B : Nat} {a w : World} (h : Mid p B a w) {k : Nat} {o : Obj} (hk : B ≤ k) (ho : a.heap[k]? = some o) : w.heap[k]? = some o :=
  (h.block k (Array.getElem?_eq_some_iff.1 ho).1 (.inr hk)).trans ho
theorem Mid.cell {p : Nat → Prop} {B : Nat} {a w : World} (h : Mid p B a w) {q : Addr} {v : Value} (hq : p q.block ∨ B ≤ q.block) (ho : a.cell? q = some v) : w.cell? q = some v :=
  (World.cell?_of_block (w := a) (a := q) (h.block q.block (World.block_lt_of_cell? a q ho) hq)).trans ho

def Closed {β : Type} (B : Nat) (J : β → World → Prop) : Prop := ∀ s X Y, J s X → Below B X Y → J s Y

/-- An iterator's contract. -/
def Iter {α : Type} (F : Fence) (n : Nat) (P : Program) (g : Nat) (lb : Array Value) (encs : α → Array Value) (E : α → Prop) (p : Nat → Prop) (N : Nat) (S Sp : List α → Prop) (w : World) : Prop :=
  ∀ (l B : Nat) (J Jx : List α → World → Prop) (W : World), B = W.heap.size → l < B → Below w.heap.size w W → Closed B J → Closed B Jx →
    (∀ pre x W1, E x → J pre W1 → pre.length < N → B ≤ W1.heap.size → YieldAt F (n - 1) P l (encs x) W1 fun e W' =>
      Mid p B W1 W' ∧ ((e = .returned (.bool true) ∧ J (pre ++ [x]) W') ∨ (e = .returned (.bool false) ∧ Jx (pre ++ [x]) W'))) →
    J [] W →
    CallsIn F n P g (#[.func (.yield l) #[] #[]] ++ lb) W fun e W' => (∃ v, e = .returned v) ∧ W.heap.size ≤ W'.heap.size ∧
      ((∃ xs, S xs ∧ J xs W') ∨ (∃ pre, Sp pre ∧ Jx pre W'))

/-- What a loop's body owes. -/
def bodyPost {α : Type} (p : Nat → Prop) (B : Nat) (I : List α → World → Prop) (Ix : Code → List α → World → Prop) (xs : List α) (W : World) : Exit → Act → World → Prop
  | .normal, _, W' => Mid p B W W' ∧ I xs W'
  | .ret, _, W' => Mid p B W W' ∧ Ix .ret xs W'
  | .exit id, _, W' => Mid p B W W' ∧ Ix (.exit id) xs W'
  | .goto t, _, W' => Mid p B W W' ∧ Ix (.goto t) xs W'
  | .panic _, _, _ => False
  | .outgrown, _, _ => False

theorem below_putObj {B : Nat} {w W : World} (h : Below B w W) {l : Nat} (hl : B ≤ l) (o : Obj) : Below B w (W.putObj l o) :=
  h.trans ⟨rfl, rfl, rfl, by simp, fun k hk => World.putObj_heap_other (by omega)⟩

theorem round_any {F : Fence} (hd : F.depth = none) {m m' : Nat} {P : Program} {l : Nat} {f : FuncId} {tmps : Array Value} {assign body : Code} {w : World} {R : Ending → World → Prop}
    (h : RoundIn F m P l f tmps assign body w R) : RoundIn F m' P l f tmps assign body w R := ⟨h.1, fun c cs _ => h.2 c cs (fun d hd' => by rw [hd] at hd'; cases hd')⟩
theorem RoundIn.inRound {F : Fence} {m : Nat} {P : Program} {l : Nat} {f : FuncId} {tmps : Array Value} {assign body : Code} {w : World} {R : Ending → World → Prop} (l2 : Nat)
    (h : RoundIn F m P l f tmps assign body w R) : RoundIn (F.inRound l2) m P l f tmps assign body w R := h

variable {F : Fence} {n : Nat} {P : Program}

/-- The law. The body may turn what lies from n₀ on and below the loop's own beginning (its own cells); nothing that the iterator has laid. -/
theorem wpIn_range {α : Type} {g : Operand} {ps : Array Tmp} {assign body : Code} {Q : Exit → Act → World → Prop} {a : Act} {w : World}
    (hro : F.round = none) (h1 : 1 ≤ n) {gf : Nat} {lb : Array Value} (hg : a.eval g = .func (.func gf) #[] lb) (hFg : F.fn gf) (eg : ∀ args w, (callFunc gf args).run P w = .ok (.enter gf args) w)
    {encs : α → Array Value} {E : α → Prop} {p : Nat → Prop} {N : Nat} {S Sp : List α → Prop} (hit : Iter F (n - 1) P gf lb encs E p N S Sp w) (hp : ∀ k, p k → k < w.heap.size) (hps : ∀ x, (encs x).size = ps.size)
    (I : List α → World → Prop) (Ix : Code → List α → World → Prop) (hI : Closed w.heap.size I) (hIx : ∀ c, Closed w.heap.size (Ix c)) (h0 : I [] w) (Ax : α → Act → World → Prop) (hAx : ∀ x a' X o, Ax x a' X → Ax x a' (X.putObj (w.heap.size + 1) o))
    (hassign : ∀ (l : Nat) (pre : List α) (x : α) (W : World) (K : Act → World → Prop), E x → w.heap.size + 2 ≤ W.heap.size → I pre W → (∀ a' W', Mid p w.heap.size W W' → I pre W' → Ax x a' W' → K a' W') →
      assign.wpIn (F.inRound l) (n - 1 - 1) P (Exit.then K (fun _ _ _ => False)) { tmps := (ps.zip (encs x)).foldl (fun t (q, v) => t.setIfInBounds q v) a.tmps, defers := [] } W)
    (hbody : ∀ (l : Nat) (pre : List α) (x : α) (a' : Act) (W : World), E x → w.heap.size + 2 ≤ W.heap.size → I pre W → Ax x a' W → pre.length < N →
      body.wpIn (F.inRound l) (n - 1 - 1) P (bodyPost p w.heap.size I Ix (pre ++ [x]) W) a' W)
    (hdone : ∀ (D : Nat) (xs : List α) (W : World), w.heap.size ≤ D → S xs → I xs W → W.heap[D]? = some (.deferred (some [])) → Q .normal { a with defers := { target := .collected D, args := #[] } :: a.defers } W)
    (hstop : ∀ (D : Nat) (c : Code) (pre : List α) (W : World), w.heap.size ≤ D → Sp pre → Ix c pre W → W.heap[D]? = some (.deferred (some [])) → c.wpIn F n P Q { a with defers := { target := .collected D, args := #[] } :: a.defers } W) :
    (Code.rangeFunc g ps assign body).wpIn F n P Q a w := by
  refine wpIn_rangeFunc ?_
  intro fn hfn
  rw [hro]
  obtain ⟨rec, hrec⟩ : ∃ rec : LoopState → Option Code → Loop, rec = fun st pe => { state := st, pending := pe, fn, tmps := a.tmps, params := ps, assign, body, defers := w.heap.size } := ⟨_, rfl⟩
  obtain ⟨W1, hW1⟩ : ∃ W1, (w.alloc (.deferred (some []))).alloc (.loop (rec .ready none)) = W1 := ⟨_, rfl⟩
  have hz1 : W1.heap.size = w.heap.size + 2 := by rw [← hW1]; simp
  have hL1 : W1.heap[w.heap.size + 1]? = some (.loop (rec .ready none)) := by
    rw [← hW1]; have := World.alloc_heap_new (w.alloc (.deferred (some []))) (.loop (rec .ready none)); rwa [World.size_alloc] at this
  have hK1 : W1.heap[w.heap.size]? = some (.deferred (some [])) := by
    rw [← hW1]; exact (Below.heap_alloc _ _ _ (by simp)).trans (World.alloc_heap_new w _)
  have hb1 : Below w.heap.size w W1 := by rw [← hW1]; exact ((Below.refl _ w).alloc (Nat.le_refl _) _).alloc (by simp) _
  have hI1 : I [] W1 := hI _ _ _ h0 hb1
  refine ⟨w.heap.size + 1, [{ target := .collected w.heap.size, args := #[] }], W1, { target := .fn (.func gf) lb, args := #[.func (.yield (w.heap.size + 1)) #[] #[]] }, W1, gf,
    #[.func (.yield (w.heap.size + 1)) #[] #[]] ++ lb, W1, ?_, ?_, ?_, ?_, fun _ => h1, ?_⟩
  · rw [← hW1, hrec]; exact run_enterLoop_outer _ _ _ _ _
  · simp only [resolve, hg]
    simp [go_sem]
  · intro f' hf'; simp [Target.leads] at hf'; subst hf'; exact hFg
  · simp [invoke, go_sem, eg]
  · refine (hit (w.heap.size + 1) W1.heap.size
      (fun pre W => I pre W ∧ W.heap[w.heap.size + 1]? = some (.loop (rec .ready none)) ∧ W.heap[w.heap.size]? = some (.deferred (some [])))
      (fun pre W => ∃ c, Ix c pre W ∧ W.heap[w.heap.size + 1]? = some (.loop (rec .done (some c))) ∧ W.heap[w.heap.size]? = some (.deferred (some [])))
      W1 rfl (by omega) hb1
      (fun s A B hs hab => ⟨hI _ _ _ hs.1 (hab.mono (by omega)), (hab.block _ (by omega)).trans hs.2.1, (hab.block _ (by omega)).trans hs.2.2⟩)
      (fun s A B hs hab => by
        obtain ⟨c, hc, hl, hk⟩ := hs
        exact ⟨c, hIx c _ _ _ hc (hab.mono (by omega)), (hab.block _ (by omega)).trans hl, (hab.block _ (by omega)).trans hk⟩)
      ?_ ⟨hI1, hL1, hK1⟩).mono ?_
    · rintro pre x W hE ⟨hi, hl, hk⟩ hlen hBW
      have hlt : w.heap.size + 1 < W.heap.size := by omega
      have hy := run_yield (P := P) (args := encs x) hl (by rw [hrec]; exact hps x)
      rw [hrec] at hy
      refine ⟨fn, _, assign, body, hy, roundIn_of_wpIn hfn (hassign _ pre x W _ hE (by omega) hi (fun a' Wa hma hia hax => ⟨_, run_beginRound (hma.at_ (by omega) hl) (by rw [hrec]), ?_⟩))⟩
      have hla := hma.at_ (by omega) hl
      have hka := hma.at_ (Nat.le_refl _) hk
      have hlt' : w.heap.size + 1 < Wa.heap.size := Nat.lt_of_lt_of_le hlt hma.size
      have hl2 : (Wa.putObj (w.heap.size + 1) (.loop { rec .ready none with state := .busy })).heap[w.heap.size + 1]? = some (.loop { rec .ready none with state := .busy }) := World.putObj_heap_same hlt'
      have hk2 : (Wa.putObj (w.heap.size + 1) (.loop { rec .ready none with state := .busy })).heap[w.heap.size]? = some (.deferred (some [])) := (World.putObj_heap_other (by omega)).trans hka
      have hbW : Below w.heap.size Wa (Wa.putObj (w.heap.size + 1) (.loop { rec .ready none with state := .busy })) := below_putObj (Below.refl _ _) (by omega) _
      have hm0 : Mid p W1.heap.size W (Wa.putObj (w.heap.size + 1) (.loop { rec .ready none with state := .busy })) := (hma.wider (fun _ h => .inl h) (by omega)).putObj (fun h => by have := hp _ h; omega) (by omega) _
      refine wpIn_mono (hbody _ pre x _ _ hE (by simp; omega) (hI _ _ _ hia hbW) (hAx _ _ _ _ hax) hlen) ?_
      have fin : ∀ (jump : Option Code) (W3 : World), Mid p w.heap.size (Wa.putObj (w.heap.size + 1) (.loop { rec .ready none with state := .busy })) W3 →
          (Instr.endRound (w.heap.size + 1) jump).run P W3 = .ok (.bool jump.isNone) (W3.putObj (w.heap.size + 1) (.loop (rec (if jump.isNone then .ready else .done) jump))) ∧
          Mid p W1.heap.size W (W3.putObj (w.heap.size + 1) (.loop (rec (if jump.isNone then .ready else .done) jump))) ∧
          Below w.heap.size W3 (W3.putObj (w.heap.size + 1) (.loop (rec (if jump.isNone then .ready else .done) jump))) ∧
          (W3.putObj (w.heap.size + 1) (.loop (rec (if jump.isNone then .ready else .done) jump))).heap[w.heap.size + 1]? = some (.loop (rec (if jump.isNone then .ready else .done) jump)) ∧
          (W3.putObj (w.heap.size + 1) (.loop (rec (if jump.isNone then .ready else .done) jump))).heap[w.heap.size]? = some (.deferred (some [])) := fun jump W3 hk3 => by
        have hl3 := hk3.at_ (by omega) hl2
        have := run_endRound (P := P) jump hl3
        rw [hrec] at this ⊢
        refine ⟨this, ?_, below_putObj (Below.refl _ _) (by omega) _, World.putObj_heap_same (Array.getElem?_eq_some_iff.1 hl3).1, (World.putObj_heap_other (by omega)).trans (hk3.at_ (Nat.le_refl _) hk2)⟩
        rw [hrec] at hm0 hk3
        exact (hm0.trans (hk3.wider (fun _ h => .inl h) (by omega))).putObj (fun h => by have := hp _ h; omega) (by omega) _
      rintro e a3 W3 hpost
      cases e with
      | normal =>
        obtain ⟨hk3, hi3⟩ := hpost
        obtain ⟨hr, hm, hb, hl4, hk4⟩ := fin none W3 hk3
        exact ⟨_, _, hr, hm, .inl ⟨rfl, hI _ _ _ hi3 hb, hl4, hk4⟩⟩
      | ret =>
        obtain ⟨hk3, hi3⟩ := hpost
        obtain ⟨hr, hm, hb, hl4, hk4⟩ := fin (some .ret) W3 hk3
        exact ⟨_, _, hr, hm, .inr ⟨rfl, .ret, hIx _ _ _ _ hi3 hb, hl4, hk4⟩⟩
      | exit id =>
        obtain ⟨hk3, hi3⟩ := hpost
        obtain ⟨hr, hm, hb, hl4, hk4⟩ := fin (some (.exit id)) W3 hk3
        exact ⟨_, _, hr, hm, .inr ⟨rfl, .exit id, hIx _ _ _ _ hi3 hb, hl4, hk4⟩⟩
      | goto t =>
        obtain ⟨hk3, hi3⟩ := hpost
        obtain ⟨hr, hm, hb, hl4, hk4⟩ := fin (some (.goto t)) W3 hk3
        exact ⟨_, _, hr, hm, .inr ⟨rfl, .goto t, hIx _ _ _ _ hi3 hb, hl4, hk4⟩⟩
      | panic ch => exact hpost.elim
      | outgrown => exact hpost.elim
    · rintro e W2 ⟨⟨v, rfl⟩, hsz, (⟨xs, hS, hi, hl, hk⟩ | ⟨pre, hSp, c, hi, hl, hk⟩)⟩
      · exact ⟨none, _, by have := run_endLoop (P := P) hl (by rw [hrec]; simp); rw [hrec] at this; exact this, hdone _ xs _ (Nat.le_refl _) hS (hI _ _ _ hi (below_putObj (Below.refl _ _) (by omega) _)) ((World.putObj_heap_other (by omega)).trans hk)⟩
      · exact ⟨some c, _, by have := run_endLoop (P := P) hl (by rw [hrec]; simp); rw [hrec] at this; exact this, hstop _ c pre _ (Nat.le_refl _) hSp (hIx c _ _ _ hi (below_putObj (Below.refl _ _) (by omega) _)) ((World.putObj_heap_other (by omega)).trans hk)⟩

end Go.Proofs.YtbjhjimkljbjlaaI
/- Small words: a boxed log's cells. -/
namespace Go.Proofs.Ytbjhjimkljbjlaa.PA
open Go.RowKit Go.Proofs.YtbjhjimkljbjlaaW.PrintWords Go.Proofs.YtbjhjimkljbjlaaW.PrintLast

theorem cells8 {w : World} {g t : Nat} {v0 v1 v2 v3 v4 v5 v6 v7 : Value} (h : w.heap[g]? = some (.cells #[v0, v1, v2, v3, v4, v5, v6, v7] t (0, 0))) :
    w.cell? ⟨g, 0, none⟩ = some v0 ∧ w.cell? ⟨g, 1, none⟩ = some v1 ∧ w.cell? ⟨g, 2, none⟩ = some v2 ∧ w.cell? ⟨g, 3, none⟩ = some v3 ∧ w.cell? ⟨g, 4, none⟩ = some v4 ∧ w.cell? ⟨g, 5, none⟩ = some v5 ∧ w.cell? ⟨g, 6, none⟩ = some v6 ∧ w.cell? ⟨g, 7, none⟩ = some v7 := by
  simp [World.cell?, h]

structure LogIs (w : World) (A4 : Option Addr) (c4 : Nat) (l4 : List Int) (A5 : Option Addr) (c5 : Nat) (l5 : List Int) (A7 : Option Addr) (c7 : Nat) (l7 : List S54) : Prop where
  r4 : Kd.C (Kd.int .i64) w A4 l4.length l4
  h4 : l4.length ≤ c4
  r5 : Kd.C (Kd.int .i64) w A5 l5.length l5
  h5 : l5.length ≤ c5
  r7 : Kd.C k54 w A7 l7.length l7
  h7 : l7.length ≤ c7
theorem LogIs.below {w W : World} {A4 : Option Addr} {c4 : Nat} {l4 : List Int} {A5 : Option Addr} {c5 : Nat} {l5 : List Int} {A7 : Option Addr} {c7 : Nat} {l7 : List S54}
    (h : LogIs w A4 c4 l4 A5 c5 l5 A7 c7 l7) (hb : Below w.heap.size w W) : LogIs W A4 c4 l4 A5 c5 l5 A7 c7 l7 :=
  ⟨Kd.C_below h.r4 hb, h.h4, Kd.C_below h.r5 hb, h.h5, Kd.C_below h.r7 hb, h.h7⟩
end Go.Proofs.Ytbjhjimkljbjlaa.PA
/- A log, read as data. -/
namespace Go.Proofs.Ytbjhjimkljbjlaa.PA
open Go.RowKit Go.Proofs.YtbjhjimkljbjlaaW.PrintWords Go.Proofs.YtbjhjimkljbjlaaW.PrintLast Go.Proofs.YtbjhjimkljbjlaaOpen

theorem cells3 : Try.prog.cellsOf 3 = 1 := by kernel_rfl
theorem cells9 : Try.prog.cellsOf 9 = 1 := by kernel_rfl
theorem cells23 : Try.prog.cellsOf 23 = 1 := by kernel_rfl
theorem cells25 : Try.prog.cellsOf 25 = 2 := by kernel_rfl
theorem cells27 : Try.prog.cellsOf 27 = 5 := by kernel_rfl
theorem cells28 : Try.prog.cellsOf 28 = 1 := by kernel_rfl
theorem cells30 : Try.prog.cellsOf 30 = 8 := by kernel_rfl
theorem cells52 : Try.prog.cellsOf 52 = 1 := by kernel_rfl
theorem cells54 : Try.prog.cellsOf 54 = 6 := by kernel_rfl

/-- An entry's numbers are of their kind. -/
def entWf (x : S54) : Prop := (Lit.int .i64 x.f0).wf = true ∧ (Lit.int .i64 x.f1).wf = true ∧ (Lit.int .i64 x.f2).wf = true
def wf64 (n : Int) : Prop := (Lit.int .i64 n).wf = true
def k27' : Kd (Int × Int × S25 × ByteArray) := Kd.iso (Kd.pair (Kd.int .i64) (Kd.pair (Kd.int .i64) (Kd.pair k25 Kd.string))) id
def k30' : Kd (Int × Int × (Int × Int × S25 × ByteArray) × List S54) := Kd.iso (Kd.pair (Kd.int .i64) (Kd.pair (Kd.int .i64) (Kd.pair k27' (Kd.slice 54 k54)))) id
end Go.Proofs.Ytbjhjimkljbjlaa.PA
/- A log, read as data, within the reach. -/
namespace Go.Proofs.Ytbjhjimkljbjlaa.PA
open Go.RowKit Go.WideShapes Go.Proofs.YtbjhjimkljbjlaaW.PrintWords Go.Proofs.YtbjhjimkljbjlaaW.PrintLast Go.Proofs.YtbjhjimkljbjlaaOpen2

theorem bytes3 : Try.prog.bytesOf 3 = 8 := by kernel_rfl
theorem bytes54 : Try.prog.bytesOf 54 = 88 := by kernel_rfl
abbrev rowSmall (n : Nat) : Prop := n < 17592186044416
abbrev rowFew (n : Nat) : Prop := n ≤ 1599289640401
theorem rs3 : Opens Try.prog 3 (Kd.int .i64) wf64 (fun _ => True) := opens_int Try.underlying3
theorem rs52 : Opens Try.prog 52 (Kd.int .i64) wf64 (fun _ => True) := opens_int Try.underlying52
theorem rs9 : Opens Try.prog 9 Kd.string (fun s => s.size ≤ maxLen) (fun s => s.size ≤ reachBytes) := opens_string Try.underlying9
theorem rs23 : Opens Try.prog 23 (Kd.slice 3 (Kd.int .i64)) (fun _ => True) (fun xs => rowSmall xs.length) :=
  opens_imp (opens_slice Try.underlying23 cells3 rs3) (fun _ _ => trivial) (fun xs h => by
    have := h.1
    rw [bytes3] at this
    unfold reachBytes at this
    show xs.length < 17592186044416
    omega)
theorem rs25 : Opens Try.prog 25 k25 (fun _ => True) (fun x => rowSmall x.f0.length ∧ rowSmall x.f1.length) :=
  opens_imp (opens_struct (fun x : S25 => (x.f0, x.f1)) (fun a => ⟨a.1, a.2⟩) (fun _ => rfl) Try.underlying25 cells25
    (opensFs_cons rfl cells23 rs23 (opensFs_one rfl cells23 rs23))) (fun _ _ => trivial) (fun _ h => h)
/-- An entry lies within the reach. -/
def entSmall (x : S54) : Prop := rowSmall x.f3.f0.length ∧ rowSmall x.f3.f1.length
theorem rs54 : Opens Try.prog 54 k54 entWf entSmall :=
  opens_imp (opens_struct (fun x : S54 => (x.f0, x.f1, x.f2, x.f3, x.f4)) (fun a => ⟨a.1, a.2.1, a.2.2.1, a.2.2.2.1, a.2.2.2.2⟩) (fun _ => rfl) Try.underlying54 cells54
    (opensFs_cons rfl cells3 rs3 (opensFs_cons rfl cells3 rs3 (opensFs_cons rfl cells52 rs52 (opensFs_cons rfl cells25 rs25 (opensFs_one rfl cells9 rs9)))))) (fun _ h => ⟨h.1, h.2.1, h.2.2.1⟩) (fun _ h => h.2.2.2.1)
theorem rs28 : Opens Try.prog 28 (Kd.slice 54 k54) (fun xs => ∀ x ∈ xs, entWf x) (fun xs => rowFew xs.length ∧ ∀ x ∈ xs, entSmall x) :=
  opens_imp (opens_slice Try.underlying28 cells54 rs54) (fun _ h => h) (fun xs h => ⟨by
    have := h.1
    rw [bytes54] at this
    unfold reachBytes at this
    show xs.length ≤ 1599289640401
    omega, h.2⟩)
theorem rs27 : Opens Try.prog 27 k27' (fun x => wf64 x.1 ∧ wf64 x.2.1 ∧ True ∧ x.2.2.2.size ≤ maxLen) (fun x => True ∧ True ∧ (rowSmall x.2.2.1.f0.length ∧ rowSmall x.2.2.1.f1.length) ∧ x.2.2.2.size ≤ reachBytes) :=
  opens_struct id id (fun _ => rfl) Try.underlying27 cells27
    (opensFs_cons rfl cells3 rs3 (opensFs_cons rfl cells3 rs3 (opensFs_cons rfl cells25 rs25 (opensFs_one rfl cells9 rs9))))
theorem rs30 : Opens Try.prog 30 k30' (fun x => wf64 x.1 ∧ wf64 x.2.1 ∧ (wf64 x.2.2.1.1 ∧ wf64 x.2.2.1.2.1 ∧ True ∧ x.2.2.1.2.2.2.size ≤ maxLen) ∧ ∀ e ∈ x.2.2.2, entWf e)
    (fun x => True ∧ True ∧ (True ∧ True ∧ (rowSmall x.2.2.1.2.2.1.f0.length ∧ rowSmall x.2.2.1.2.2.1.f1.length) ∧ x.2.2.1.2.2.2.size ≤ reachBytes) ∧ rowFew x.2.2.2.length ∧ ∀ e ∈ x.2.2.2, entSmall e) :=
  opens_struct id id (fun _ => rfl) Try.underlying30 cells30
    (opensFs_cons rfl cells3 rs3 (opensFs_cons rfl cells3 rs3 (opensFs_cons rfl cells27 rs27 (opensFs_one rfl cells28 rs28))))

set_option maxRecDepth 100000 in
theorem open_log2 {H : Type} {enc : TypeId × Value → H} {w : World} {base : Nat} {v : Value} {x : DataW H} {ps : List MemPlace} (hv : Value.okWide Try.prog w .any base 30 v)
    (h : DataW.Trod enc Try.prog w 0 (fun _ => true) true 30 v x ps) (hsz : (DataW.weights Try.prog 30 x).all (· ≤ reachBytes) = true) : ∃ t vt si st A4 c4 l4 A5 c5 l5 da A7 c7 l7,
      v = .agg #[.int .i64 t, .int .i64 vt, .int .i64 si, .int .i64 st, .slice A4 l4.length c4, .slice A5 l5.length c5, .string da, .slice A7 l7.length c7] ∧ LogIs w A4 c4 l4 A5 c5 l5 A7 c7 l7 ∧
      (wf64 si ∧ wf64 st ∧ ∀ e ∈ l7, entWf e) ∧ rowSmall l4.length ∧ rowSmall l5.length ∧ rowFew l7.length ∧ ∀ e ∈ l7, entSmall e := by
  obtain ⟨cs, rfl, _⟩ : ∃ cs, v = .agg cs ∧ cs.size = Try.prog.cellsOf 30 := by
    unfold Value.okWide at hv
    rw [Try.underlying30] at hv
    obtain ⟨cs, h1, h2, _⟩ := hv
    exact ⟨cs, h1, h2⟩
  obtain ⟨fuel, hf⟩ := h
  obtain ⟨a, ⟨_, _, e, rfl, ⟨_, _, rfl, rfl, ⟨_, _, rfl, ⟨_, _, rfl, rfl, ⟨_, _, rfl, rfl, ⟨_, _, rfl, hk25, rfl⟩⟩⟩, ⟨A7, c7, rfl, h7, r7⟩⟩⟩⟩, hV, hR⟩ := rs30.out H enc w fuel _ x ps hf
  obtain ⟨A4, c4, A5, c5, rfl, h4, r4, h5, r5⟩ := k25_open hk25
  obtain ⟨_, _, ⟨v1, v2, _, _⟩, v3⟩ := hV
  obtain ⟨_, _, ⟨_, _, ⟨s4, s5⟩, _⟩, s7, s8⟩ := hR hsz
  obtain ⟨t, vt, ⟨si, st, cfg, da⟩, l7⟩ := a
  simp only [id_eq] at e h4 r4 h5 r5 h7 r7 v1 v2 v3 s4 s5 s7 s8
  refine ⟨t, vt, si, st, A4, c4, cfg.f0, A5, c5, cfg.f1, da, A7, c7, l7, ?_, ⟨r4, h4, r5, h5, r7, h7⟩, ⟨v1, v2, v3⟩, s4, s5, s7, s8⟩
  have h2 : cs.toList = _ := e
  rw [show cs = cs.toList.toArray from by simp, h2]
  simp

/-- A row of entries as an argument. -/
theorem open_row {H : Type} {enc : TypeId × Value → H} {w : World} {base : Nat} {v : Value} {x : DataW H} {ps : List MemPlace} (hv : Value.okWide Try.prog w .any base 28 v)
    (h : DataW.Trod enc Try.prog w 0 (fun _ => true) true 28 v x ps) (hsz : (DataW.weights Try.prog 28 x).all (· ≤ reachBytes) = true) : ∃ A c l,
      v = .slice A l.length c ∧ Kd.C k54 w A l.length l ∧ l.length ≤ c ∧ (∀ e ∈ l, entWf e) ∧ rowFew l.length ∧ ∀ e ∈ l, entSmall e := by
  obtain ⟨a0, len, cap, rfl⟩ := okWide_slice Try.underlying28 hv
  obtain ⟨fuel, hf⟩ := h
  obtain ⟨l, ⟨A, c, e, hl, hc⟩, hV, hR⟩ := rs28.out H enc w fuel _ x ps hf
  obtain ⟨s1, s2⟩ := hR hsz
  refine ⟨A, c, l, ?_, hc, hl, hV, s1, s2⟩
  simpa [Value.cells] using e
end Go.Proofs.Ytbjhjimkljbjlaa.PA
-- WRITTEN BY hookprint.py (a program of this session, over the kit's print.py): not typed by hand
namespace Go.Proofs.Ytbjhjimkljbjlaa.PA
open Go.RowKit Go.Proofs.YtbjhjimkljbjlaaW.PrintWords Go.Proofs.YtbjhjimkljbjlaaW.PrintLast Go.Proofs.YtbjhjimkljbjlaaW.PrintMore
attribute [local go_sem] max2_int min2_int max_two min_two max_three min_three max_four min_four   -- for this text's walks alone
set_option linter.unusedVariables false
set_option linter.unusedSimpArgs false

/-! ### folkmootlaw16_large: function 9 -/
mutual
def folkmootlaw16_large.j1 : Nat → List (S54) → Int → Option (Bool)
  | 0, _, _ => none
  | k + 1, x1, x5 => folkmootlaw16_large.l1 k x1 x5 0
def folkmootlaw16_large.l1 : Nat → List (S54) → Int → Int → Option (Bool)
  | 0, _, _, _ => none
  | k + 1, x1, x5, x7 => if x7 < (x1.length : Int) then (if x5 ≤ 3000 then (if 0 ≤ x7 then (folkmootlaw16_large.l1 k x1 (wrap64 ((wrap64 (x5 + (((rd_T54 x1 x7).f3.f0).length : Int))) + (((rd_T54 x1 x7).f3.f1).length : Int))) (wrap64 (x7 + 1))) else (none)) else (some (decide (x5 > 3000)))) else (some (decide (x5 > 3000)))
def folkmootlaw16_large.l0 : Nat → List (S54) → Int → Int → Int → Int → Int → Int → List Int → List Int → ByteArray → List (S54) → Option (Bool)
  | 0, _, _, _, _, _, _, _, _, _, _, _ => none
  | k + 1, x1, x5, x6, x102000, x102001, x102002, x102003, x102004, x102005, x102006, x102007 => if x6 < (x102007.length : Int) then (if x5 ≤ 3000 then (if 0 ≤ x6 then (folkmootlaw16_large.l0 k x1 (wrap64 ((wrap64 (x5 + (((rd_T54 x102007 x6).f3.f0).length : Int))) + (((rd_T54 x102007 x6).f3.f1).length : Int))) (wrap64 (x6 + 1)) x102000 x102001 x102002 x102003 x102004 x102005 x102006 x102007) else (none)) else (folkmootlaw16_large.j1 k x1 x5)) else (folkmootlaw16_large.j1 k x1 x5)
end
def folkmootlaw16_large.f (k : Nat) (a0_0 : Int) (a0_1 : Int) (a0_2 : Int) (a0_3 : Int) (l0_4 : List Int) (l0_5 : List Int) (a0_6 : ByteArray) (l0_7 : List (S54)) (l1 : List (S54)) : Option (Bool) := folkmootlaw16_large.l0 k l1 (wrap64 ((wrap64 ((wrap64 ((l0_7.length : Int) + (l1.length : Int))) + (l0_4.length : Int))) + (l0_5.length : Int))) 0 a0_0 a0_1 a0_2 a0_3 l0_4 l0_5 a0_6 l0_7
set_option maxHeartbeats 8000000 in
set_option maxRecDepth 100000 in
theorem folkmootlaw16_large.calls (k : Nat) (a0_0 : Int) (a0_1 : Int) (a0_2 : Int) (a0_3 : Int) (A0_4 : Option Addr) (c0_4 : Nat) (l0_4 : List Int) (A0_5 : Option Addr) (c0_5 : Nat) (l0_5 : List Int) (a0_6 : ByteArray) (A0_7 : Option Addr) (c0_7 : Nat) (l0_7 : List (S54)) (A1 : Option Addr) (c1 : Nat) (l1 : List (S54)) (r : Bool) (w : World) (hr0_4 : Kd.C (Kd.int .i64) w A0_4 l0_4.length l0_4) (hc0_4 : l0_4.length ≤ c0_4) (hr0_5 : Kd.C (Kd.int .i64) w A0_5 l0_5.length l0_5) (hc0_5 : l0_5.length ≤ c0_5) (hr0_7 : Kd.C k54 w A0_7 l0_7.length l0_7) (hc0_7 : l0_7.length ≤ c0_7) (hr1 : Kd.C k54 w A1 l1.length l1) (hc1 : l1.length ≤ c1) (h : folkmootlaw16_large.f k a0_0 a0_1 a0_2 a0_3 l0_4 l0_5 a0_6 l0_7 l1 = some r) :
    Calls Try.prog 9 #[.agg #[.int .i64 a0_0, .int .i64 a0_1, .int .i64 a0_2, .int .i64 a0_3, .slice A0_4 l0_4.length c0_4, .slice A0_5 l0_5.length c0_5, .string a0_6, .slice A0_7 l0_7.length c0_7], .slice A1 l1.length c1] w fun e w' => e = .returned (.bool r) ∧ Below w.heap.size w w' := by
  have hu30 := Try.underlying30
  have HR0_4 := Aside0.mk hr0_4
  have HC0_4 := Aside0.mk hc0_4
  clear hr0_4 hc0_4
  have HR0_5 := Aside0.mk hr0_5
  have HC0_5 := Aside0.mk hc0_5
  clear hr0_5 hc0_5
  have HR0_7 := Aside0.mk hr0_7
  have HC0_7 := Aside0.mk hc0_7
  clear hr0_7 hc0_7
  have HR1 := Aside0.mk hr1
  have HC1 := Aside0.mk hc1
  clear hr1 hc1
  have HB := Aside0.mk (Below.refl w.heap.size w)
  have H : (folkmootlaw16_large.l0 k l1 (wrap64 ((wrap64 ((wrap64 ((l0_7.length : Int) + (l1.length : Int))) + (l0_4.length : Int))) + (l0_5.length : Int))) 0 a0_0 a0_1 a0_2 a0_3 l0_4 l0_5 a0_6 l0_7) = some r := h
  clear h
  have HC3 := Aside0.mk H
  clear H
  go_enter Try.func9, Try.ntmps9
  go_upto_block 0 with (first | ((with_reducible refine gate_dst (N := 2) rfl ?_); refine box_event ?hg (N := 2) ?hd (cs := #[.int .i64 a0_0, .int .i64 a0_1, .int .i64 a0_2, .int .i64 a0_3, .slice A0_4 l0_4.length c0_4, .slice A0_5 l0_5.length c0_5, .string a0_6, .slice A0_7 l0_7.length c0_7]) (t := 30) ?hr ?_; (case hd => rfl); (case hg => rfl); (case hr => first | (go_simp; done) | (go_simp; rfl)); intro gb101 hg w4 hbox hb; have n0_ := Aside0.mk (below_step (by repeat (first | (with_reducible first | exact HB.out | apply below_alloc | apply pw_below_drewN | apply below_drew1) | exact HB.out)) hb); have n1_ := Aside0.mk (hbox); have n2_ := Aside0.mk ((by rw [hg]; exact (below_size (by repeat (first | (with_reducible first | exact HB.out | apply below_alloc | apply pw_below_drewN | apply below_drew1) | exact HB.out))) : w.heap.size ≤ gb101)); have n3_ := Aside0.mk ((by rw [hg]; exact (below_size (by repeat (first | (with_reducible first | exact HB.out | apply below_alloc | apply pw_below_drewN | apply below_drew1) | exact HB.out))) : w.heap.size ≤ gb101)); clear HB; have HB := n0_; have BK101 := n1_; have GW101 := n2_; have GE101 := n3_; clear n0_ n1_ n2_ n3_; clear hb hbox hg; have hcz5_0 : w4.cell? ⟨gb101, 0, none⟩ = some (.int .i64 a0_0) := (blk_cell BK101.out 0).trans rfl; have hcz5_1 : w4.cell? ⟨gb101, 1, none⟩ = some (.int .i64 a0_1) := (blk_cell BK101.out 1).trans rfl; have hcz5_2 : w4.cell? ⟨gb101, 2, none⟩ = some (.int .i64 a0_2) := (blk_cell BK101.out 2).trans rfl; have hcz5_3 : w4.cell? ⟨gb101, 3, none⟩ = some (.int .i64 a0_3) := (blk_cell BK101.out 3).trans rfl; have hcz5_4 : w4.cell? ⟨gb101, 4, none⟩ = some (.slice A0_4 l0_4.length c0_4) := (blk_cell BK101.out 4).trans rfl; have hcz5_5 : w4.cell? ⟨gb101, 5, none⟩ = some (.slice A0_5 l0_5.length c0_5) := (blk_cell BK101.out 5).trans rfl; have hcz5_6 : w4.cell? ⟨gb101, 6, none⟩ = some (.string a0_6) := (blk_cell BK101.out 6).trans rfl; have hcz5_7 : w4.cell? ⟨gb101, 7, none⟩ = some (.slice A0_7 l0_7.length c0_7) := (blk_cell BK101.out 7).trans rfl; have hfz5_0 := blk_frozen BK101.out 0; have hfz5_1 := blk_frozen BK101.out 1; have hfz5_2 := blk_frozen BK101.out 2; have hfz5_3 := blk_frozen BK101.out 3; have hfz5_4 := blk_frozen BK101.out 4; have hfz5_5 := blk_frozen BK101.out 5; have hfz5_6 := blk_frozen BK101.out 6; have hfz5_7 := blk_frozen BK101.out 7))
  repeat (go_quiet (first | ((with_reducible refine gate_dst (N := 2) rfl ?_); refine box_event ?hg (N := 2) ?hd (cs := #[.int .i64 a0_0, .int .i64 a0_1, .int .i64 a0_2, .int .i64 a0_3, .slice A0_4 l0_4.length c0_4, .slice A0_5 l0_5.length c0_5, .string a0_6, .slice A0_7 l0_7.length c0_7]) (t := 30) ?hr ?_; (case hd => rfl); (case hg => rfl); (case hr => first | (go_simp; done) | (go_simp; rfl)); intro gb101 hg w4 hbox hb; have n0_ := Aside0.mk (below_step (by repeat (first | (with_reducible first | exact HB.out | apply below_alloc | apply pw_below_drewN | apply below_drew1) | exact HB.out)) hb); have n1_ := Aside0.mk (hbox); have n2_ := Aside0.mk ((by rw [hg]; exact (below_size (by repeat (first | (with_reducible first | exact HB.out | apply below_alloc | apply pw_below_drewN | apply below_drew1) | exact HB.out))) : w.heap.size ≤ gb101)); have n3_ := Aside0.mk ((by rw [hg]; exact (below_size (by repeat (first | (with_reducible first | exact HB.out | apply below_alloc | apply pw_below_drewN | apply below_drew1) | exact HB.out))) : w.heap.size ≤ gb101)); clear HB; have HB := n0_; have BK101 := n1_; have GW101 := n2_; have GE101 := n3_; clear n0_ n1_ n2_ n3_; clear hb hbox hg; have hcz5_0 : w4.cell? ⟨gb101, 0, none⟩ = some (.int .i64 a0_0) := (blk_cell BK101.out 0).trans rfl; have hcz5_1 : w4.cell? ⟨gb101, 1, none⟩ = some (.int .i64 a0_1) := (blk_cell BK101.out 1).trans rfl; have hcz5_2 : w4.cell? ⟨gb101, 2, none⟩ = some (.int .i64 a0_2) := (blk_cell BK101.out 2).trans rfl; have hcz5_3 : w4.cell? ⟨gb101, 3, none⟩ = some (.int .i64 a0_3) := (blk_cell BK101.out 3).trans rfl; have hcz5_4 : w4.cell? ⟨gb101, 4, none⟩ = some (.slice A0_4 l0_4.length c0_4) := (blk_cell BK101.out 4).trans rfl; have hcz5_5 : w4.cell? ⟨gb101, 5, none⟩ = some (.slice A0_5 l0_5.length c0_5) := (blk_cell BK101.out 5).trans rfl; have hcz5_6 : w4.cell? ⟨gb101, 6, none⟩ = some (.string a0_6) := (blk_cell BK101.out 6).trans rfl; have hcz5_7 : w4.cell? ⟨gb101, 7, none⟩ = some (.slice A0_7 l0_7.length c0_7) := (blk_cell BK101.out 7).trans rfl; have hfz5_0 := blk_frozen BK101.out 0; have hfz5_1 := blk_frozen BK101.out 1; have hfz5_2 := blk_frozen BK101.out 2; have hfz5_3 := blk_frozen BK101.out 3; have hfz5_4 := blk_frozen BK101.out 4; have hfz5_5 := blk_frozen BK101.out 5; have hfz5_6 := blk_frozen BK101.out 6; have hfz5_7 := blk_frozen BK101.out 7)); go_upto_block 0 with (first | ((with_reducible refine gate_dst (N := 2) rfl ?_); refine box_event ?hg (N := 2) ?hd (cs := #[.int .i64 a0_0, .int .i64 a0_1, .int .i64 a0_2, .int .i64 a0_3, .slice A0_4 l0_4.length c0_4, .slice A0_5 l0_5.length c0_5, .string a0_6, .slice A0_7 l0_7.length c0_7]) (t := 30) ?hr ?_; (case hd => rfl); (case hg => rfl); (case hr => first | (go_simp; done) | (go_simp; rfl)); intro gb101 hg w4 hbox hb; have n0_ := Aside0.mk (below_step (by repeat (first | (with_reducible first | exact HB.out | apply below_alloc | apply pw_below_drewN | apply below_drew1) | exact HB.out)) hb); have n1_ := Aside0.mk (hbox); have n2_ := Aside0.mk ((by rw [hg]; exact (below_size (by repeat (first | (with_reducible first | exact HB.out | apply below_alloc | apply pw_below_drewN | apply below_drew1) | exact HB.out))) : w.heap.size ≤ gb101)); have n3_ := Aside0.mk ((by rw [hg]; exact (below_size (by repeat (first | (with_reducible first | exact HB.out | apply below_alloc | apply pw_below_drewN | apply below_drew1) | exact HB.out))) : w.heap.size ≤ gb101)); clear HB; have HB := n0_; have BK101 := n1_; have GW101 := n2_; have GE101 := n3_; clear n0_ n1_ n2_ n3_; clear hb hbox hg; have hcz5_0 : w4.cell? ⟨gb101, 0, none⟩ = some (.int .i64 a0_0) := (blk_cell BK101.out 0).trans rfl; have hcz5_1 : w4.cell? ⟨gb101, 1, none⟩ = some (.int .i64 a0_1) := (blk_cell BK101.out 1).trans rfl; have hcz5_2 : w4.cell? ⟨gb101, 2, none⟩ = some (.int .i64 a0_2) := (blk_cell BK101.out 2).trans rfl; have hcz5_3 : w4.cell? ⟨gb101, 3, none⟩ = some (.int .i64 a0_3) := (blk_cell BK101.out 3).trans rfl; have hcz5_4 : w4.cell? ⟨gb101, 4, none⟩ = some (.slice A0_4 l0_4.length c0_4) := (blk_cell BK101.out 4).trans rfl; have hcz5_5 : w4.cell? ⟨gb101, 5, none⟩ = some (.slice A0_5 l0_5.length c0_5) := (blk_cell BK101.out 5).trans rfl; have hcz5_6 : w4.cell? ⟨gb101, 6, none⟩ = some (.string a0_6) := (blk_cell BK101.out 6).trans rfl; have hcz5_7 : w4.cell? ⟨gb101, 7, none⟩ = some (.slice A0_7 l0_7.length c0_7) := (blk_cell BK101.out 7).trans rfl; have hfz5_0 := blk_frozen BK101.out 0; have hfz5_1 := blk_frozen BK101.out 1; have hfz5_2 := blk_frozen BK101.out 2; have hfz5_3 := blk_frozen BK101.out 3; have hfz5_4 := blk_frozen BK101.out 4; have hfz5_5 := blk_frozen BK101.out 5; have hfz5_6 := blk_frozen BK101.out 6; have hfz5_7 := blk_frozen BK101.out 7)))
  (try simp only [Act.put, List.setIfInBounds_toArray, List.set_cons_zero, List.set_cons_succ])
  go_cut [5] (fun v5 wc => ∃ (kq : Nat) (x5_2 : Int), v5 = .int .i64 x5_2 ∧ Aside0 (folkmootlaw16_large.j1 kq l1 x5_2 = some r) ∧ Aside0 (kq ≤ k) ∧ Aside0 (wc.heap[gb101]? = some (.cells #[.int .i64 a0_0, .int .i64 a0_1, .int .i64 a0_2, .int .i64 a0_3, (.slice A0_4 l0_4.length c0_4), (.slice A0_5 l0_5.length c0_5), .string a0_6, (.slice A0_7 l0_7.length c0_7)] 30 (0, 0))) ∧ Aside0 (Below w.heap.size w wc))
  case first =>
    have H := HC3.out
    clear HC3
    have H' := Aside0.mk H
    clear H
    go_wp2
    repeat (go_quiet (fail); try go_wp2)
    go_loopg [5, 6] k (fun kq v5 v6 w' => ∃ (x5_1 : Int) (x6_1 : Int), v5 = .int .i64 x5_1 ∧ v6 = .int .i64 x6_1 ∧ Aside0 (folkmootlaw16_large.l0 kq l1 x5_1 x6_1 a0_0 a0_1 a0_2 a0_3 l0_4 l0_5 a0_6 l0_7 = some r) ∧ Aside0 (kq ≤ k) ∧ Aside0 (w'.heap[gb101]? = some (.cells #[.int .i64 a0_0, .int .i64 a0_1, .int .i64 a0_2, .int .i64 a0_3, (.slice A0_4 l0_4.length c0_4), (.slice A0_5 l0_5.length c0_5), .string a0_6, (.slice A0_7 l0_7.length c0_7)] 30 (0, 0))) ∧ Aside0 (Below w.heap.size w w'))
    case atStart => exact ⟨(wrap64 ((wrap64 ((wrap64 ((l0_7.length : Int) + (l1.length : Int))) + (l0_4.length : Int))) + (l0_5.length : Int))), (0), (by first | rfl | (simp; done) | (simp [*]; done)), (by first | rfl | (simp; done) | (simp [*]; done)), H', ⟨Nat.le_refl _⟩, ⟨by (with_reducible repeat (first | refine blk_drewN ?_ _ | refine blk_drew ?_ | refine blk_alloc ?_ _)); exact BK101.out⟩, ⟨by repeat (first | (with_reducible first | exact HB.out | apply below_alloc | apply pw_below_drewN | apply below_drew1 | refine below_set ?_ GE101.out) | exact HB.out)⟩⟩
    case round =>
      clear H'
      try clear c1
      try clear p2
      try clear hcz5_0
      try clear hcz5_1
      try clear hcz5_2
      try clear hcz5_3
      try clear hcz5_4
      try clear hcz5_5
      try clear hcz5_6
      try clear hcz5_7
      try clear hfz5_0
      try clear hfz5_1
      try clear hfz5_2
      try clear hfz5_3
      try clear hfz5_4
      try clear hfz5_5
      try clear hfz5_6
      try clear hfz5_7
      obtain ⟨x5_1, x6_1, rfl, rfl, HA, HK1, BK101, HB⟩ := hrel
      cases gk with
      | zero => exact absurd HA.out (by simp [folkmootlaw16_large.l0])
      | succ k1 =>
        have H := HA.out
        clear HA
        simp only [folkmootlaw16_large.l0] at H
        by_cases c6 : x6_1 < (l0_7.length : Int)
        · rw [if_pos c6] at H
          have c6b0 : decide (x6_1 < (l0_7.length : Int)) = true := decide_eq_true c6
          clear c6
          (first | rw [c6b0] | (simp only [i64_w, i32_w]; rw [c6b0]) | skip)
          by_cases c7 : x5_1 ≤ 3000
          · rw [if_pos c7] at H
            have c7b0 : decide (x5_1 ≤ 3000) = true := decide_eq_true c7
            clear c7
            by_cases c8 : 0 ≤ x6_1
            · rw [if_pos c8] at H
              have c8b0 : decide (0 ≤ x6_1) = true := decide_eq_true c8
              clear c8
              have H' := Aside0.mk H
              clear H
              have hcz9_0 : wr.cell? ⟨gb101, 0, none⟩ = some (.int .i64 a0_0) := (blk_cell BK101.out 0).trans rfl
              have hcz9_1 : wr.cell? ⟨gb101, 1, none⟩ = some (.int .i64 a0_1) := (blk_cell BK101.out 1).trans rfl
              have hcz9_2 : wr.cell? ⟨gb101, 2, none⟩ = some (.int .i64 a0_2) := (blk_cell BK101.out 2).trans rfl
              have hcz9_3 : wr.cell? ⟨gb101, 3, none⟩ = some (.int .i64 a0_3) := (blk_cell BK101.out 3).trans rfl
              have hcz9_4 : wr.cell? ⟨gb101, 4, none⟩ = some (.slice A0_4 l0_4.length c0_4) := (blk_cell BK101.out 4).trans rfl
              have hcz9_5 : wr.cell? ⟨gb101, 5, none⟩ = some (.slice A0_5 l0_5.length c0_5) := (blk_cell BK101.out 5).trans rfl
              have hcz9_6 : wr.cell? ⟨gb101, 6, none⟩ = some (.string a0_6) := (blk_cell BK101.out 6).trans rfl
              have hcz9_7 : wr.cell? ⟨gb101, 7, none⟩ = some (.slice A0_7 l0_7.length c0_7) := (blk_cell BK101.out 7).trans rfl
              have hfz9_0 := blk_frozen BK101.out 0
              have hfz9_1 := blk_frozen BK101.out 1
              have hfz9_2 := blk_frozen BK101.out 2
              have hfz9_3 := blk_frozen BK101.out 3
              have hfz9_4 := blk_frozen BK101.out 4
              have hfz9_5 := blk_frozen BK101.out 5
              have hfz9_6 := blk_frozen BK101.out 6
              have hfz9_7 := blk_frozen BK101.out 7
              have p102 : 0 ≤ (x6_1 : Int) := of_decide_eq_true (by first | (with_reducible assumption) | assumption)
              have q102 : x6_1 < (l0_7.length : Int) := of_decide_eq_true (by first | (with_reducible assumption) | assumption)
              obtain ⟨ad102, A102_3, c102_3, A102_4, c102_4, e102, hx102_0, hx102_1, hx102_2, hx102_3, hx102_4, hx102_5, hl102_3, hi102_3, hl102_4, hi102_4⟩ := at_T54 HR0_7.out x6_1 p102 q102
              cases e102
              replace hx102_0 := (HB.out.cell (World.block_lt_of_cell? w _ hx102_0)).trans hx102_0
              replace hx102_1 := (HB.out.cell (World.block_lt_of_cell? w _ hx102_1)).trans hx102_1
              replace hx102_2 := (HB.out.cell (World.block_lt_of_cell? w _ hx102_2)).trans hx102_2
              replace hx102_3 := (HB.out.cell (World.block_lt_of_cell? w _ hx102_3)).trans hx102_3
              replace hx102_4 := (HB.out.cell (World.block_lt_of_cell? w _ hx102_4)).trans hx102_4
              replace hx102_5 := (HB.out.cell (World.block_lt_of_cell? w _ hx102_5)).trans hx102_5
              have HR102_3 := Aside0.mk hi102_3
              have HC102_3 := Aside0.mk hl102_3
              clear hi102_3 hl102_3
              have HR102_4 := Aside0.mk hi102_4
              have HC102_4 := Aside0.mk hl102_4
              clear hi102_4 hl102_4
              replace p102 := eq_true p102
              replace q102 := eq_true q102
              have p103 : 0 ≤ (x6_1 : Int) := of_decide_eq_true (by first | (with_reducible assumption) | assumption)
              have q103 : x6_1 < (l0_7.length : Int) := of_decide_eq_true (by first | (with_reducible assumption) | assumption)
              obtain ⟨ad103, A103_3, c103_3, A103_4, c103_4, e103, hx103_0, hx103_1, hx103_2, hx103_3, hx103_4, hx103_5, hl103_3, hi103_3, hl103_4, hi103_4⟩ := at_T54 HR0_7.out x6_1 p103 q103
              obtain rfl : ad102 = ad103 := (by injection e103)
              replace hx103_0 := (HB.out.cell (World.block_lt_of_cell? w _ hx103_0)).trans hx103_0
              replace hx103_1 := (HB.out.cell (World.block_lt_of_cell? w _ hx103_1)).trans hx103_1
              replace hx103_2 := (HB.out.cell (World.block_lt_of_cell? w _ hx103_2)).trans hx103_2
              replace hx103_3 := (HB.out.cell (World.block_lt_of_cell? w _ hx103_3)).trans hx103_3
              replace hx103_4 := (HB.out.cell (World.block_lt_of_cell? w _ hx103_4)).trans hx103_4
              replace hx103_5 := (HB.out.cell (World.block_lt_of_cell? w _ hx103_5)).trans hx103_5
              have HR103_3 := Aside0.mk hi103_3
              have HC103_3 := Aside0.mk hl103_3
              clear hi103_3 hl103_3
              have HR103_4 := Aside0.mk hi103_4
              have HC103_4 := Aside0.mk hl103_4
              clear hi103_4 hl103_4
              replace p103 := eq_true p103
              replace q103 := eq_true q103
              have ea_ := Option.some.inj (hx102_3.symm.trans hx103_3)
              injection ea_ with ea_ en_ ec_
              subst ea_
              subst ec_
              clear en_
              have ea_ := Option.some.inj (hx102_4.symm.trans hx103_4)
              injection ea_ with ea_ en_ ec_
              subst ea_
              subst ec_
              clear en_
              go_wp2
              repeat (go_quiet (fail); try go_wp2)
              go_roundg k1
              case measure => have := HK1.out; omega
              case rel => exact ⟨(wrap64 ((wrap64 (x5_1 + (((rd_T54 l0_7 x6_1).f3.f0).length : Int))) + (((rd_T54 l0_7 x6_1).f3.f1).length : Int))), (wrap64 (x6_1 + 1)), (by first | rfl | (simp; done) | (simp [*]; done)), (by first | rfl | (simp; done) | (simp [*]; done)), H', ⟨by have := HK1.out; omega⟩, ⟨by (with_reducible repeat (first | refine blk_drewN ?_ _ | refine blk_drew ?_ | refine blk_alloc ?_ _)); exact BK101.out⟩, ⟨by repeat (first | (with_reducible first | exact HB.out | apply below_alloc | apply pw_below_drewN | apply below_drew1 | refine below_set ?_ GE101.out) | exact HB.out)⟩⟩
            · rw [if_neg c8] at H
              exact absurd H (by simp)
          · rw [if_neg c7] at H
            have c7b0 : decide (x5_1 ≤ 3000) = false := decide_eq_false c7
            clear c7
            have H' := Aside0.mk H
            clear H
            have hcz10_0 : wr.cell? ⟨gb101, 0, none⟩ = some (.int .i64 a0_0) := (blk_cell BK101.out 0).trans rfl
            have hcz10_1 : wr.cell? ⟨gb101, 1, none⟩ = some (.int .i64 a0_1) := (blk_cell BK101.out 1).trans rfl
            have hcz10_2 : wr.cell? ⟨gb101, 2, none⟩ = some (.int .i64 a0_2) := (blk_cell BK101.out 2).trans rfl
            have hcz10_3 : wr.cell? ⟨gb101, 3, none⟩ = some (.int .i64 a0_3) := (blk_cell BK101.out 3).trans rfl
            have hcz10_4 : wr.cell? ⟨gb101, 4, none⟩ = some (.slice A0_4 l0_4.length c0_4) := (blk_cell BK101.out 4).trans rfl
            have hcz10_5 : wr.cell? ⟨gb101, 5, none⟩ = some (.slice A0_5 l0_5.length c0_5) := (blk_cell BK101.out 5).trans rfl
            have hcz10_6 : wr.cell? ⟨gb101, 6, none⟩ = some (.string a0_6) := (blk_cell BK101.out 6).trans rfl
            have hcz10_7 : wr.cell? ⟨gb101, 7, none⟩ = some (.slice A0_7 l0_7.length c0_7) := (blk_cell BK101.out 7).trans rfl
            have hfz10_0 := blk_frozen BK101.out 0
            have hfz10_1 := blk_frozen BK101.out 1
            have hfz10_2 := blk_frozen BK101.out 2
            have hfz10_3 := blk_frozen BK101.out 3
            have hfz10_4 := blk_frozen BK101.out 4
            have hfz10_5 := blk_frozen BK101.out 5
            have hfz10_6 := blk_frozen BK101.out 6
            have hfz10_7 := blk_frozen BK101.out 7
            go_wp2
            repeat (go_quiet (fail); try go_wp2)
            go_meet
            case rel => exact ⟨_, (x5_1), (by first | rfl | (simp; done) | (simp [*]; done)), H', ⟨by have := HK1.out; first | omega | exact Nat.le_refl _⟩, ⟨by (with_reducible repeat (first | refine blk_drewN ?_ _ | refine blk_drew ?_ | refine blk_alloc ?_ _)); exact BK101.out⟩, ⟨by repeat (first | (with_reducible first | exact HB.out | apply below_alloc | apply pw_below_drewN | apply below_drew1 | refine below_set ?_ GE101.out) | exact HB.out)⟩⟩
        · rw [if_neg c6] at H
          have c6b0 : decide (x6_1 < (l0_7.length : Int)) = false := decide_eq_false c6
          clear c6
          (first | rw [c6b0] | (simp only [i64_w, i32_w]; rw [c6b0]) | skip)
          have H' := Aside0.mk H
          clear H
          have hcz11_0 : wr.cell? ⟨gb101, 0, none⟩ = some (.int .i64 a0_0) := (blk_cell BK101.out 0).trans rfl
          have hcz11_1 : wr.cell? ⟨gb101, 1, none⟩ = some (.int .i64 a0_1) := (blk_cell BK101.out 1).trans rfl
          have hcz11_2 : wr.cell? ⟨gb101, 2, none⟩ = some (.int .i64 a0_2) := (blk_cell BK101.out 2).trans rfl
          have hcz11_3 : wr.cell? ⟨gb101, 3, none⟩ = some (.int .i64 a0_3) := (blk_cell BK101.out 3).trans rfl
          have hcz11_4 : wr.cell? ⟨gb101, 4, none⟩ = some (.slice A0_4 l0_4.length c0_4) := (blk_cell BK101.out 4).trans rfl
          have hcz11_5 : wr.cell? ⟨gb101, 5, none⟩ = some (.slice A0_5 l0_5.length c0_5) := (blk_cell BK101.out 5).trans rfl
          have hcz11_6 : wr.cell? ⟨gb101, 6, none⟩ = some (.string a0_6) := (blk_cell BK101.out 6).trans rfl
          have hcz11_7 : wr.cell? ⟨gb101, 7, none⟩ = some (.slice A0_7 l0_7.length c0_7) := (blk_cell BK101.out 7).trans rfl
          have hfz11_0 := blk_frozen BK101.out 0
          have hfz11_1 := blk_frozen BK101.out 1
          have hfz11_2 := blk_frozen BK101.out 2
          have hfz11_3 := blk_frozen BK101.out 3
          have hfz11_4 := blk_frozen BK101.out 4
          have hfz11_5 := blk_frozen BK101.out 5
          have hfz11_6 := blk_frozen BK101.out 6
          have hfz11_7 := blk_frozen BK101.out 7
          go_wp2
          repeat (go_quiet (fail); try go_wp2)
          go_meet
          case rel => exact ⟨_, (x5_1), (by first | rfl | (simp; done) | (simp [*]; done)), H', ⟨by have := HK1.out; first | omega | exact Nat.le_refl _⟩, ⟨by (with_reducible repeat (first | refine blk_drewN ?_ _ | refine blk_drew ?_ | refine blk_alloc ?_ _)); exact BK101.out⟩, ⟨by repeat (first | (with_reducible first | exact HB.out | apply below_alloc | apply pw_below_drewN | apply below_drew1 | refine below_set ?_ GE101.out) | exact HB.out)⟩⟩
  case rest =>
    clear HC3
    try clear c1
    try clear p1
    try clear q1
    try clear hx1
    try clear p2
    try clear c6
    try clear c6b0
    try clear p6
    try clear c7
    try clear c7b0
    try clear c8
    try clear c8b0
    try clear c9
    try clear c10
    try clear p10
    try clear q10
    try clear hx10
    try clear hcz10_0
    try clear hcz10_1
    try clear hcz10_2
    try clear hcz10_3
    try clear hcz10_4
    try clear hcz10_5
    try clear hcz10_6
    try clear hcz10_7
    try clear hcz11_0
    try clear hcz11_1
    try clear hcz11_2
    try clear hcz11_3
    try clear hcz11_4
    try clear hcz11_5
    try clear hcz11_6
    try clear hcz11_7
    try clear hcz5_0
    try clear hcz5_1
    try clear hcz5_2
    try clear hcz5_3
    try clear hcz5_4
    try clear hcz5_5
    try clear hcz5_6
    try clear hcz5_7
    try clear hcz9_0
    try clear hcz9_1
    try clear hcz9_2
    try clear hcz9_3
    try clear hcz9_4
    try clear hcz9_5
    try clear hcz9_6
    try clear hcz9_7
    try clear hfz10_0
    try clear hfz10_1
    try clear hfz10_2
    try clear hfz10_3
    try clear hfz10_4
    try clear hfz10_5
    try clear hfz10_6
    try clear hfz10_7
    try clear hfz11_0
    try clear hfz11_1
    try clear hfz11_2
    try clear hfz11_3
    try clear hfz11_4
    try clear hfz11_5
    try clear hfz11_6
    try clear hfz11_7
    try clear hfz5_0
    try clear hfz5_1
    try clear hfz5_2
    try clear hfz5_3
    try clear hfz5_4
    try clear hfz5_5
    try clear hfz5_6
    try clear hfz5_7
    try clear hfz9_0
    try clear hfz9_1
    try clear hfz9_2
    try clear hfz9_3
    try clear hfz9_4
    try clear hfz9_5
    try clear hfz9_6
    try clear hfz9_7
    try clear hx102_0
    try clear hx102_1
    try clear hx102_2
    try clear hx102_3
    try clear hx102_4
    try clear hx102_5
    try clear hx103_0
    try clear hx103_1
    try clear hx103_2
    try clear hx103_3
    try clear hx103_4
    try clear hx103_5
    try clear p102
    try clear p103
    try clear p2
    try clear q102
    try clear q103
    obtain ⟨kq, x5_2, rfl, HA, HJ2, BK101, HB⟩ := hcut
    cases kq with
    | zero => exact absurd HA.out (by simp [folkmootlaw16_large.j1])
    | succ kj2 =>
      have H := HA.out
      clear HA
      simp only [folkmootlaw16_large.j1] at H
      have H' := Aside0.mk H
      clear H
      go_wp2
      repeat (go_quiet (fail); try go_wp2)
      go_loopg [5, 7] kj2 (fun kq v5 v7 w' => ∃ (x5_2 : Int) (x7_2 : Int), v5 = .int .i64 x5_2 ∧ v7 = .int .i64 x7_2 ∧ Aside0 (folkmootlaw16_large.l1 kq l1 x5_2 x7_2 = some r) ∧ Aside0 (kq ≤ kj2) ∧ Aside0 (w'.heap[gb101]? = some (.cells #[.int .i64 a0_0, .int .i64 a0_1, .int .i64 a0_2, .int .i64 a0_3, (.slice A0_4 l0_4.length c0_4), (.slice A0_5 l0_5.length c0_5), .string a0_6, (.slice A0_7 l0_7.length c0_7)] 30 (0, 0))) ∧ Aside0 (Below w.heap.size w w'))
      case atStart => exact ⟨(x5_2), (0), (by first | rfl | (simp; done) | (simp [*]; done)), (by first | rfl | (simp; done) | (simp [*]; done)), H', ⟨Nat.le_refl _⟩, ⟨by (with_reducible repeat (first | refine blk_drewN ?_ _ | refine blk_drew ?_ | refine blk_alloc ?_ _)); exact BK101.out⟩, ⟨by repeat (first | (with_reducible first | exact HB.out | apply below_alloc | apply pw_below_drewN | apply below_drew1 | refine below_set ?_ GE101.out) | exact HB.out)⟩⟩
      case round =>
        clear H'
        try clear c1
        try clear p1
        try clear q1
        try clear hx1
        try clear p2
        try clear c6
        try clear c6b0
        try clear p6
        try clear c7
        try clear c7b0
        try clear c8
        try clear c8b0
        try clear c9
        try clear c10
        try clear p10
        try clear q10
        try clear hx10
        try clear hcz10_0
        try clear hcz10_1
        try clear hcz10_2
        try clear hcz10_3
        try clear hcz10_4
        try clear hcz10_5
        try clear hcz10_6
        try clear hcz10_7
        try clear hcz11_0
        try clear hcz11_1
        try clear hcz11_2
        try clear hcz11_3
        try clear hcz11_4
        try clear hcz11_5
        try clear hcz11_6
        try clear hcz11_7
        try clear hcz5_0
        try clear hcz5_1
        try clear hcz5_2
        try clear hcz5_3
        try clear hcz5_4
        try clear hcz5_5
        try clear hcz5_6
        try clear hcz5_7
        try clear hcz9_0
        try clear hcz9_1
        try clear hcz9_2
        try clear hcz9_3
        try clear hcz9_4
        try clear hcz9_5
        try clear hcz9_6
        try clear hcz9_7
        try clear hfz10_0
        try clear hfz10_1
        try clear hfz10_2
        try clear hfz10_3
        try clear hfz10_4
        try clear hfz10_5
        try clear hfz10_6
        try clear hfz10_7
        try clear hfz11_0
        try clear hfz11_1
        try clear hfz11_2
        try clear hfz11_3
        try clear hfz11_4
        try clear hfz11_5
        try clear hfz11_6
        try clear hfz11_7
        try clear hfz5_0
        try clear hfz5_1
        try clear hfz5_2
        try clear hfz5_3
        try clear hfz5_4
        try clear hfz5_5
        try clear hfz5_6
        try clear hfz5_7
        try clear hfz9_0
        try clear hfz9_1
        try clear hfz9_2
        try clear hfz9_3
        try clear hfz9_4
        try clear hfz9_5
        try clear hfz9_6
        try clear hfz9_7
        try clear hx102_0
        try clear hx102_1
        try clear hx102_2
        try clear hx102_3
        try clear hx102_4
        try clear hx102_5
        try clear hx103_0
        try clear hx103_1
        try clear hx103_2
        try clear hx103_3
        try clear hx103_4
        try clear hx103_5
        try clear p1
        try clear p10
        try clear p102
        try clear p103
        try clear p2
        try clear p6
        try clear q1
        try clear q10
        try clear q102
        try clear q103
        obtain ⟨x5_2, x7_2, rfl, rfl, HA, HK2, BK101, HB⟩ := hrel
        cases gk with
        | zero => exact absurd HA.out (by simp [folkmootlaw16_large.l1])
        | succ k2 =>
          have H := HA.out
          clear HA
          simp only [folkmootlaw16_large.l1] at H
          by_cases c12 : x7_2 < (l1.length : Int)
          · rw [if_pos c12] at H
            have c12b0 : decide (x7_2 < (l1.length : Int)) = true := decide_eq_true c12
            clear c12
            by_cases c13 : x5_2 ≤ 3000
            · rw [if_pos c13] at H
              have c13b0 : decide (x5_2 ≤ 3000) = true := decide_eq_true c13
              clear c13
              by_cases c14 : 0 ≤ x7_2
              · rw [if_pos c14] at H
                have c14b0 : decide (0 ≤ x7_2) = true := decide_eq_true c14
                clear c14
                have H' := Aside0.mk H
                clear H
                have p104 : 0 ≤ (x7_2 : Int) := of_decide_eq_true (by first | (with_reducible assumption) | assumption)
                have q104 : x7_2 < (l1.length : Int) := of_decide_eq_true (by first | (with_reducible assumption) | assumption)
                obtain ⟨ad104, A104_3, c104_3, A104_4, c104_4, e104, hx104_0, hx104_1, hx104_2, hx104_3, hx104_4, hx104_5, hl104_3, hi104_3, hl104_4, hi104_4⟩ := at_T54 HR1.out x7_2 p104 q104
                cases e104
                replace hx104_0 := (HB.out.cell (World.block_lt_of_cell? w _ hx104_0)).trans hx104_0
                replace hx104_1 := (HB.out.cell (World.block_lt_of_cell? w _ hx104_1)).trans hx104_1
                replace hx104_2 := (HB.out.cell (World.block_lt_of_cell? w _ hx104_2)).trans hx104_2
                replace hx104_3 := (HB.out.cell (World.block_lt_of_cell? w _ hx104_3)).trans hx104_3
                replace hx104_4 := (HB.out.cell (World.block_lt_of_cell? w _ hx104_4)).trans hx104_4
                replace hx104_5 := (HB.out.cell (World.block_lt_of_cell? w _ hx104_5)).trans hx104_5
                have HR104_3 := Aside0.mk hi104_3
                have HC104_3 := Aside0.mk hl104_3
                clear hi104_3 hl104_3
                have HR104_4 := Aside0.mk hi104_4
                have HC104_4 := Aside0.mk hl104_4
                clear hi104_4 hl104_4
                replace p104 := eq_true p104
                replace q104 := eq_true q104
                have p105 : 0 ≤ (x7_2 : Int) := of_decide_eq_true (by first | (with_reducible assumption) | assumption)
                have q105 : x7_2 < (l1.length : Int) := of_decide_eq_true (by first | (with_reducible assumption) | assumption)
                obtain ⟨ad105, A105_3, c105_3, A105_4, c105_4, e105, hx105_0, hx105_1, hx105_2, hx105_3, hx105_4, hx105_5, hl105_3, hi105_3, hl105_4, hi105_4⟩ := at_T54 HR1.out x7_2 p105 q105
                obtain rfl : ad104 = ad105 := (by injection e105)
                replace hx105_0 := (HB.out.cell (World.block_lt_of_cell? w _ hx105_0)).trans hx105_0
                replace hx105_1 := (HB.out.cell (World.block_lt_of_cell? w _ hx105_1)).trans hx105_1
                replace hx105_2 := (HB.out.cell (World.block_lt_of_cell? w _ hx105_2)).trans hx105_2
                replace hx105_3 := (HB.out.cell (World.block_lt_of_cell? w _ hx105_3)).trans hx105_3
                replace hx105_4 := (HB.out.cell (World.block_lt_of_cell? w _ hx105_4)).trans hx105_4
                replace hx105_5 := (HB.out.cell (World.block_lt_of_cell? w _ hx105_5)).trans hx105_5
                have HR105_3 := Aside0.mk hi105_3
                have HC105_3 := Aside0.mk hl105_3
                clear hi105_3 hl105_3
                have HR105_4 := Aside0.mk hi105_4
                have HC105_4 := Aside0.mk hl105_4
                clear hi105_4 hl105_4
                replace p105 := eq_true p105
                replace q105 := eq_true q105
                have ea_ := Option.some.inj (hx104_3.symm.trans hx105_3)
                injection ea_ with ea_ en_ ec_
                subst ea_
                subst ec_
                clear en_
                have ea_ := Option.some.inj (hx104_4.symm.trans hx105_4)
                injection ea_ with ea_ en_ ec_
                subst ea_
                subst ec_
                clear en_
                go_wp2
                repeat (go_quiet (fail); try go_wp2)
                go_roundg k2
                case measure => have := HJ2.out; have := HK2.out; omega
                case rel => exact ⟨(wrap64 ((wrap64 (x5_2 + (((rd_T54 l1 x7_2).f3.f0).length : Int))) + (((rd_T54 l1 x7_2).f3.f1).length : Int))), (wrap64 (x7_2 + 1)), (by first | rfl | (simp; done) | (simp [*]; done)), (by first | rfl | (simp; done) | (simp [*]; done)), H', ⟨by have := HJ2.out; have := HK2.out; omega⟩, ⟨by (with_reducible repeat (first | refine blk_drewN ?_ _ | refine blk_drew ?_ | refine blk_alloc ?_ _)); exact BK101.out⟩, ⟨by repeat (first | (with_reducible first | exact HB.out | apply below_alloc | apply pw_below_drewN | apply below_drew1 | refine below_set ?_ GE101.out) | exact HB.out)⟩⟩
              · rw [if_neg c14] at H
                exact absurd H (by simp)
            · rw [if_neg c13] at H
              have c13b0 : decide (x5_2 ≤ 3000) = false := decide_eq_false c13
              clear c13
              obtain rfl := Option.some.inj H
              go_wp2
              repeat (go_quiet (fail); try go_wp2)
              go_ret
              exact ⟨by first | rfl | (simp [errW_none, errW_some] <;> rfl) | (simp [*, errW_none, errW_some] <;> rfl), by repeat (first | (with_reducible first | exact HB.out | apply below_alloc | apply pw_below_drewN | apply below_drew1 | refine below_set ?_ GE101.out) | exact HB.out)⟩
          · rw [if_neg c12] at H
            have c12b0 : decide (x7_2 < (l1.length : Int)) = false := decide_eq_false c12
            clear c12
            obtain rfl := Option.some.inj H
            go_wp2
            repeat (go_quiet (fail); try go_wp2)
            go_ret
            exact ⟨by first | rfl | (simp [errW_none, errW_some] <;> rfl) | (simp [*, errW_none, errW_some] <;> rfl), by repeat (first | (with_reducible first | exact HB.out | apply below_alloc | apply pw_below_drewN | apply below_drew1 | refine below_set ?_ GE101.out) | exact HB.out)⟩

end Go.Proofs.Ytbjhjimkljbjlaa.PA
-- WRITTEN BY hookprint.py (a program of this session, over the kit's print.py): not typed by hand
namespace Go.Proofs.Ytbjhjimkljbjlaa.PA
open Go.RowKit Go.Proofs.YtbjhjimkljbjlaaW.PrintWords Go.Proofs.YtbjhjimkljbjlaaW.PrintLast Go.Proofs.YtbjhjimkljbjlaaW.PrintMore
attribute [local go_sem] max2_int min2_int max_two min_two max_three min_three max_four min_four   -- for this text's walks alone
set_option linter.unusedVariables false
set_option linter.unusedSimpArgs false

/-! ### folkmootref16_Last: function 11 -/
def folkmootref16_Last.f (k : Nat) (a0_0 : Int) (a0_1 : Int) (a0_2 : Int) (a0_3 : Int) (l0_4 : List Int) (l0_5 : List Int) (a0_6 : ByteArray) (l0_7 : List (S54)) : Option (Int × Int) := (folkmootref16_On.f k a0_0 a0_1 a0_2 a0_3 l0_4 l0_5 a0_6 l0_7).bind fun t113 => (if t113 = true then (if (l0_7.length : Int) = 0 then (some (a0_2, a0_3)) else (if 0 ≤ (wrap64 ((l0_7.length : Int) - 1)) then (if (wrap64 ((l0_7.length : Int) - 1)) < (l0_7.length : Int) then (some ((rd_T54 l0_7 (wrap64 ((l0_7.length : Int) - 1))).f0, (rd_T54 l0_7 (wrap64 ((l0_7.length : Int) - 1))).f1)) else (none)) else (none))) else (some (0, 0)))
set_option maxHeartbeats 8000000 in
set_option maxRecDepth 100000 in
theorem folkmootref16_Last.calls (k : Nat) (a0_0 : Int) (a0_1 : Int) (a0_2 : Int) (a0_3 : Int) (A0_4 : Option Addr) (c0_4 : Nat) (l0_4 : List Int) (A0_5 : Option Addr) (c0_5 : Nat) (l0_5 : List Int) (a0_6 : ByteArray) (A0_7 : Option Addr) (c0_7 : Nat) (l0_7 : List (S54)) (r1 : Int) (r2 : Int) (w : World) (hr0_4 : Kd.C (Kd.int .i64) w A0_4 l0_4.length l0_4) (hc0_4 : l0_4.length ≤ c0_4) (hr0_5 : Kd.C (Kd.int .i64) w A0_5 l0_5.length l0_5) (hc0_5 : l0_5.length ≤ c0_5) (hr0_7 : Kd.C k54 w A0_7 l0_7.length l0_7) (hc0_7 : l0_7.length ≤ c0_7) (h : folkmootref16_Last.f k a0_0 a0_1 a0_2 a0_3 l0_4 l0_5 a0_6 l0_7 = some (r1, r2)) :
    Calls Try.prog 11 #[.agg #[.int .i64 a0_0, .int .i64 a0_1, .int .i64 a0_2, .int .i64 a0_3, .slice A0_4 l0_4.length c0_4, .slice A0_5 l0_5.length c0_5, .string a0_6, .slice A0_7 l0_7.length c0_7]] w fun e w' => e = .returned (.tuple #[.int .i64 r1, .int .i64 r2]) ∧ Below w.heap.size w w' := by
  have hu30 := Try.underlying30
  have HR0_4 := Aside0.mk hr0_4
  have HC0_4 := Aside0.mk hc0_4
  clear hr0_4 hc0_4
  have HR0_5 := Aside0.mk hr0_5
  have HC0_5 := Aside0.mk hc0_5
  clear hr0_5 hc0_5
  have HR0_7 := Aside0.mk hr0_7
  have HC0_7 := Aside0.mk hc0_7
  clear hr0_7 hc0_7
  have HB := Aside0.mk (Below.refl w.heap.size w)
  have H : ((folkmootref16_On.f k a0_0 a0_1 a0_2 a0_3 l0_4 l0_5 a0_6 l0_7).bind fun t113 => (if t113 = true then (if (l0_7.length : Int) = 0 then (some (a0_2, a0_3)) else (if 0 ≤ (wrap64 ((l0_7.length : Int) - 1)) then (if (wrap64 ((l0_7.length : Int) - 1)) < (l0_7.length : Int) then (some ((rd_T54 l0_7 (wrap64 ((l0_7.length : Int) - 1))).f0, (rd_T54 l0_7 (wrap64 ((l0_7.length : Int) - 1))).f1)) else (none)) else (none))) else (some (0, 0)))) = some (r1, r2) := h
  clear h
  replace H := Option.bind_eq_some_iff.mp H
  obtain ⟨t113, A20, H⟩ := H
  replace H : (if t113 = true then (if (l0_7.length : Int) = 0 then (some (a0_2, a0_3)) else (if 0 ≤ (wrap64 ((l0_7.length : Int) - 1)) then (if (wrap64 ((l0_7.length : Int) - 1)) < (l0_7.length : Int) then (some ((rd_T54 l0_7 (wrap64 ((l0_7.length : Int) - 1))).f0, (rd_T54 l0_7 (wrap64 ((l0_7.length : Int) - 1))).f1)) else (none)) else (none))) else (some (0, 0))) = some (r1, r2) := H
  have A2 := Aside0.mk A20
  clear A20
  by_cases c3 : t113 = true
  · subst c3
    have H1 : (if (l0_7.length : Int) = 0 then (some (a0_2, a0_3)) else (if 0 ≤ (wrap64 ((l0_7.length : Int) - 1)) then (if (wrap64 ((l0_7.length : Int) - 1)) < (l0_7.length : Int) then (some ((rd_T54 l0_7 (wrap64 ((l0_7.length : Int) - 1))).f0, (rd_T54 l0_7 (wrap64 ((l0_7.length : Int) - 1))).f1)) else (none)) else (none))) = some (r1, r2) := by rw [if_pos rfl] at H; exact H
    clear H
    have H := H1
    clear H1
    by_cases c4 : (l0_7.length : Int) = 0
    · rw [if_pos c4] at H
      have c4b0 : ((l0_7.length : Int) == 0) = true := beq_iff_eq.mpr c4
      have c4b1 : ((l0_7.length : Int) != 0) = false := bne_eq_false_iff_eq.mpr c4
      clear c4
      simp only [Option.some.injEq, Prod.mk.injEq] at H
      obtain ⟨rfl, rfl⟩ := H
      go_enter Try.func11, Try.ntmps11
      go_wp2_with (first | ((with_reducible refine gate_dst (N := 1) rfl ?_); refine box_event ?hg (N := 1) ?hd (cs := #[.int .i64 a0_0, .int .i64 a0_1, .int .i64 a0_2, .int .i64 a0_3, .slice A0_4 l0_4.length c0_4, .slice A0_5 l0_5.length c0_5, .string a0_6, .slice A0_7 l0_7.length c0_7]) (t := 30) ?hr ?_; (case hd => rfl); (case hg => rfl); (case hr => first | (go_simp; done) | (go_simp; rfl)); intro gb112 hg w5 hbox hb; have n0_ := Aside0.mk (below_step (by repeat (first | (with_reducible first | exact HB.out | apply below_alloc | apply pw_below_drewN | apply below_drew1) | exact HB.out)) hb); have n1_ := Aside0.mk (hbox); have n2_ := Aside0.mk ((by rw [hg]; exact (below_size (by repeat (first | (with_reducible first | exact HB.out | apply below_alloc | apply pw_below_drewN | apply below_drew1) | exact HB.out))) : w.heap.size ≤ gb112)); have n3_ := Aside0.mk ((by rw [hg]; exact (below_size (by repeat (first | (with_reducible first | exact HB.out | apply below_alloc | apply pw_below_drewN | apply below_drew1) | exact HB.out))) : w.heap.size ≤ gb112)); clear HB; have HB := n0_; have BK112 := n1_; have GW112 := n2_; have GE112 := n3_; clear n0_ n1_ n2_ n3_; clear hb hbox hg; have hcz6_0 : w5.cell? ⟨gb112, 0, none⟩ = some (.int .i64 a0_0) := (blk_cell BK112.out 0).trans rfl; have hcz6_1 : w5.cell? ⟨gb112, 1, none⟩ = some (.int .i64 a0_1) := (blk_cell BK112.out 1).trans rfl; have hcz6_2 : w5.cell? ⟨gb112, 2, none⟩ = some (.int .i64 a0_2) := (blk_cell BK112.out 2).trans rfl; have hcz6_3 : w5.cell? ⟨gb112, 3, none⟩ = some (.int .i64 a0_3) := (blk_cell BK112.out 3).trans rfl; have hcz6_4 : w5.cell? ⟨gb112, 4, none⟩ = some (.slice A0_4 l0_4.length c0_4) := (blk_cell BK112.out 4).trans rfl; have hcz6_5 : w5.cell? ⟨gb112, 5, none⟩ = some (.slice A0_5 l0_5.length c0_5) := (blk_cell BK112.out 5).trans rfl; have hcz6_6 : w5.cell? ⟨gb112, 6, none⟩ = some (.string a0_6) := (blk_cell BK112.out 6).trans rfl; have hcz6_7 : w5.cell? ⟨gb112, 7, none⟩ = some (.slice A0_7 l0_7.length c0_7) := (blk_cell BK112.out 7).trans rfl; have hfz6_0 := blk_frozen BK112.out 0; have hfz6_1 := blk_frozen BK112.out 1; have hfz6_2 := blk_frozen BK112.out 2; have hfz6_3 := blk_frozen BK112.out 3; have hfz6_4 := blk_frozen BK112.out 4; have hfz6_5 := blk_frozen BK112.out 5; have hfz6_6 := blk_frozen BK112.out 6; have hfz6_7 := blk_frozen BK112.out 7) | (go_at_call 14; (with_reducible refine (folkmootref16_On.calls k a0_0 a0_1 a0_2 a0_3 _ _ l0_4 _ _ l0_5 a0_6 _ _ l0_7 true _ ?side1 ?side2 ?side3 ?side4 ?side5 ?side6 A2.out).mono ?_); (case side1 => repeat (first | exact (Kd.C_below HR0_4.out HB.out) | (with_reducible refine Kd.C_alloc ?_ _) | (with_reducible refine Kd.C_drewN ?_ _) | (with_reducible refine Kd.C_drew ?_))); (case side2 => exact HC0_4.out); (case side3 => repeat (first | exact (Kd.C_below HR0_5.out HB.out) | (with_reducible refine Kd.C_alloc ?_ _) | (with_reducible refine Kd.C_drewN ?_ _) | (with_reducible refine Kd.C_drew ?_))); (case side4 => exact HC0_5.out); (case side5 => repeat (first | exact (Kd.C_below HR0_7.out HB.out) | (with_reducible refine Kd.C_alloc ?_ _) | (with_reducible refine Kd.C_drewN ?_ _) | (with_reducible refine Kd.C_drew ?_))); (case side6 => exact HC0_7.out); rintro e w7 ⟨rfl, hb⟩; have n0_ := Aside0.mk (blk_below (g := gb112) (o := .cells #[.int .i64 a0_0, .int .i64 a0_1, .int .i64 a0_2, .int .i64 a0_3, .slice A0_4 l0_4.length c0_4, .slice A0_5 l0_5.length c0_5, .string a0_6, .slice A0_7 l0_7.length c0_7] 30 (0, 0)) (by (with_reducible repeat (first | refine blk_drewN ?_ _ | refine blk_drew ?_ | refine blk_alloc ?_ _)); exact BK112.out) hb); have n1_ := Aside0.mk (below_step (by repeat (first | (with_reducible first | exact HB.out | apply below_alloc | apply pw_below_drewN | apply below_drew1 | refine below_set ?_ GE112.out) | exact HB.out)) hb); clear BK112; clear HB; have BK112 := n0_; have HB := n1_; clear n0_ n1_; (try clear hb); (try clear hb2); (try clear hk); (try clear hi); have hcz8_0 : w7.cell? ⟨gb112, 0, none⟩ = some (.int .i64 a0_0) := (blk_cell BK112.out 0).trans rfl; have hcz8_1 : w7.cell? ⟨gb112, 1, none⟩ = some (.int .i64 a0_1) := (blk_cell BK112.out 1).trans rfl; have hcz8_2 : w7.cell? ⟨gb112, 2, none⟩ = some (.int .i64 a0_2) := (blk_cell BK112.out 2).trans rfl; have hcz8_3 : w7.cell? ⟨gb112, 3, none⟩ = some (.int .i64 a0_3) := (blk_cell BK112.out 3).trans rfl; have hcz8_4 : w7.cell? ⟨gb112, 4, none⟩ = some (.slice A0_4 l0_4.length c0_4) := (blk_cell BK112.out 4).trans rfl; have hcz8_5 : w7.cell? ⟨gb112, 5, none⟩ = some (.slice A0_5 l0_5.length c0_5) := (blk_cell BK112.out 5).trans rfl; have hcz8_6 : w7.cell? ⟨gb112, 6, none⟩ = some (.string a0_6) := (blk_cell BK112.out 6).trans rfl; have hcz8_7 : w7.cell? ⟨gb112, 7, none⟩ = some (.slice A0_7 l0_7.length c0_7) := (blk_cell BK112.out 7).trans rfl; have hfz8_0 := blk_frozen BK112.out 0; have hfz8_1 := blk_frozen BK112.out 1; have hfz8_2 := blk_frozen BK112.out 2; have hfz8_3 := blk_frozen BK112.out 3; have hfz8_4 := blk_frozen BK112.out 4; have hfz8_5 := blk_frozen BK112.out 5; have hfz8_6 := blk_frozen BK112.out 6; have hfz8_7 := blk_frozen BK112.out 7))
      repeat (go_quiet (first | ((with_reducible refine gate_dst (N := 1) rfl ?_); refine box_event ?hg (N := 1) ?hd (cs := #[.int .i64 a0_0, .int .i64 a0_1, .int .i64 a0_2, .int .i64 a0_3, .slice A0_4 l0_4.length c0_4, .slice A0_5 l0_5.length c0_5, .string a0_6, .slice A0_7 l0_7.length c0_7]) (t := 30) ?hr ?_; (case hd => rfl); (case hg => rfl); (case hr => first | (go_simp; done) | (go_simp; rfl)); intro gb112 hg w5 hbox hb; have n0_ := Aside0.mk (below_step (by repeat (first | (with_reducible first | exact HB.out | apply below_alloc | apply pw_below_drewN | apply below_drew1) | exact HB.out)) hb); have n1_ := Aside0.mk (hbox); have n2_ := Aside0.mk ((by rw [hg]; exact (below_size (by repeat (first | (with_reducible first | exact HB.out | apply below_alloc | apply pw_below_drewN | apply below_drew1) | exact HB.out))) : w.heap.size ≤ gb112)); have n3_ := Aside0.mk ((by rw [hg]; exact (below_size (by repeat (first | (with_reducible first | exact HB.out | apply below_alloc | apply pw_below_drewN | apply below_drew1) | exact HB.out))) : w.heap.size ≤ gb112)); clear HB; have HB := n0_; have BK112 := n1_; have GW112 := n2_; have GE112 := n3_; clear n0_ n1_ n2_ n3_; clear hb hbox hg; have hcz6_0 : w5.cell? ⟨gb112, 0, none⟩ = some (.int .i64 a0_0) := (blk_cell BK112.out 0).trans rfl; have hcz6_1 : w5.cell? ⟨gb112, 1, none⟩ = some (.int .i64 a0_1) := (blk_cell BK112.out 1).trans rfl; have hcz6_2 : w5.cell? ⟨gb112, 2, none⟩ = some (.int .i64 a0_2) := (blk_cell BK112.out 2).trans rfl; have hcz6_3 : w5.cell? ⟨gb112, 3, none⟩ = some (.int .i64 a0_3) := (blk_cell BK112.out 3).trans rfl; have hcz6_4 : w5.cell? ⟨gb112, 4, none⟩ = some (.slice A0_4 l0_4.length c0_4) := (blk_cell BK112.out 4).trans rfl; have hcz6_5 : w5.cell? ⟨gb112, 5, none⟩ = some (.slice A0_5 l0_5.length c0_5) := (blk_cell BK112.out 5).trans rfl; have hcz6_6 : w5.cell? ⟨gb112, 6, none⟩ = some (.string a0_6) := (blk_cell BK112.out 6).trans rfl; have hcz6_7 : w5.cell? ⟨gb112, 7, none⟩ = some (.slice A0_7 l0_7.length c0_7) := (blk_cell BK112.out 7).trans rfl; have hfz6_0 := blk_frozen BK112.out 0; have hfz6_1 := blk_frozen BK112.out 1; have hfz6_2 := blk_frozen BK112.out 2; have hfz6_3 := blk_frozen BK112.out 3; have hfz6_4 := blk_frozen BK112.out 4; have hfz6_5 := blk_frozen BK112.out 5; have hfz6_6 := blk_frozen BK112.out 6; have hfz6_7 := blk_frozen BK112.out 7) | (go_at_call 14; (with_reducible refine (folkmootref16_On.calls k a0_0 a0_1 a0_2 a0_3 _ _ l0_4 _ _ l0_5 a0_6 _ _ l0_7 true _ ?side1 ?side2 ?side3 ?side4 ?side5 ?side6 A2.out).mono ?_); (case side1 => repeat (first | exact (Kd.C_below HR0_4.out HB.out) | (with_reducible refine Kd.C_alloc ?_ _) | (with_reducible refine Kd.C_drewN ?_ _) | (with_reducible refine Kd.C_drew ?_))); (case side2 => exact HC0_4.out); (case side3 => repeat (first | exact (Kd.C_below HR0_5.out HB.out) | (with_reducible refine Kd.C_alloc ?_ _) | (with_reducible refine Kd.C_drewN ?_ _) | (with_reducible refine Kd.C_drew ?_))); (case side4 => exact HC0_5.out); (case side5 => repeat (first | exact (Kd.C_below HR0_7.out HB.out) | (with_reducible refine Kd.C_alloc ?_ _) | (with_reducible refine Kd.C_drewN ?_ _) | (with_reducible refine Kd.C_drew ?_))); (case side6 => exact HC0_7.out); rintro e w7 ⟨rfl, hb⟩; have n0_ := Aside0.mk (blk_below (g := gb112) (o := .cells #[.int .i64 a0_0, .int .i64 a0_1, .int .i64 a0_2, .int .i64 a0_3, .slice A0_4 l0_4.length c0_4, .slice A0_5 l0_5.length c0_5, .string a0_6, .slice A0_7 l0_7.length c0_7] 30 (0, 0)) (by (with_reducible repeat (first | refine blk_drewN ?_ _ | refine blk_drew ?_ | refine blk_alloc ?_ _)); exact BK112.out) hb); have n1_ := Aside0.mk (below_step (by repeat (first | (with_reducible first | exact HB.out | apply below_alloc | apply pw_below_drewN | apply below_drew1 | refine below_set ?_ GE112.out) | exact HB.out)) hb); clear BK112; clear HB; have BK112 := n0_; have HB := n1_; clear n0_ n1_; (try clear hb); (try clear hb2); (try clear hk); (try clear hi); have hcz8_0 : w7.cell? ⟨gb112, 0, none⟩ = some (.int .i64 a0_0) := (blk_cell BK112.out 0).trans rfl; have hcz8_1 : w7.cell? ⟨gb112, 1, none⟩ = some (.int .i64 a0_1) := (blk_cell BK112.out 1).trans rfl; have hcz8_2 : w7.cell? ⟨gb112, 2, none⟩ = some (.int .i64 a0_2) := (blk_cell BK112.out 2).trans rfl; have hcz8_3 : w7.cell? ⟨gb112, 3, none⟩ = some (.int .i64 a0_3) := (blk_cell BK112.out 3).trans rfl; have hcz8_4 : w7.cell? ⟨gb112, 4, none⟩ = some (.slice A0_4 l0_4.length c0_4) := (blk_cell BK112.out 4).trans rfl; have hcz8_5 : w7.cell? ⟨gb112, 5, none⟩ = some (.slice A0_5 l0_5.length c0_5) := (blk_cell BK112.out 5).trans rfl; have hcz8_6 : w7.cell? ⟨gb112, 6, none⟩ = some (.string a0_6) := (blk_cell BK112.out 6).trans rfl; have hcz8_7 : w7.cell? ⟨gb112, 7, none⟩ = some (.slice A0_7 l0_7.length c0_7) := (blk_cell BK112.out 7).trans rfl; have hfz8_0 := blk_frozen BK112.out 0; have hfz8_1 := blk_frozen BK112.out 1; have hfz8_2 := blk_frozen BK112.out 2; have hfz8_3 := blk_frozen BK112.out 3; have hfz8_4 := blk_frozen BK112.out 4; have hfz8_5 := blk_frozen BK112.out 5; have hfz8_6 := blk_frozen BK112.out 6; have hfz8_7 := blk_frozen BK112.out 7)); try go_wp2_with (first | ((with_reducible refine gate_dst (N := 1) rfl ?_); refine box_event ?hg (N := 1) ?hd (cs := #[.int .i64 a0_0, .int .i64 a0_1, .int .i64 a0_2, .int .i64 a0_3, .slice A0_4 l0_4.length c0_4, .slice A0_5 l0_5.length c0_5, .string a0_6, .slice A0_7 l0_7.length c0_7]) (t := 30) ?hr ?_; (case hd => rfl); (case hg => rfl); (case hr => first | (go_simp; done) | (go_simp; rfl)); intro gb112 hg w5 hbox hb; have n0_ := Aside0.mk (below_step (by repeat (first | (with_reducible first | exact HB.out | apply below_alloc | apply pw_below_drewN | apply below_drew1) | exact HB.out)) hb); have n1_ := Aside0.mk (hbox); have n2_ := Aside0.mk ((by rw [hg]; exact (below_size (by repeat (first | (with_reducible first | exact HB.out | apply below_alloc | apply pw_below_drewN | apply below_drew1) | exact HB.out))) : w.heap.size ≤ gb112)); have n3_ := Aside0.mk ((by rw [hg]; exact (below_size (by repeat (first | (with_reducible first | exact HB.out | apply below_alloc | apply pw_below_drewN | apply below_drew1) | exact HB.out))) : w.heap.size ≤ gb112)); clear HB; have HB := n0_; have BK112 := n1_; have GW112 := n2_; have GE112 := n3_; clear n0_ n1_ n2_ n3_; clear hb hbox hg; have hcz6_0 : w5.cell? ⟨gb112, 0, none⟩ = some (.int .i64 a0_0) := (blk_cell BK112.out 0).trans rfl; have hcz6_1 : w5.cell? ⟨gb112, 1, none⟩ = some (.int .i64 a0_1) := (blk_cell BK112.out 1).trans rfl; have hcz6_2 : w5.cell? ⟨gb112, 2, none⟩ = some (.int .i64 a0_2) := (blk_cell BK112.out 2).trans rfl; have hcz6_3 : w5.cell? ⟨gb112, 3, none⟩ = some (.int .i64 a0_3) := (blk_cell BK112.out 3).trans rfl; have hcz6_4 : w5.cell? ⟨gb112, 4, none⟩ = some (.slice A0_4 l0_4.length c0_4) := (blk_cell BK112.out 4).trans rfl; have hcz6_5 : w5.cell? ⟨gb112, 5, none⟩ = some (.slice A0_5 l0_5.length c0_5) := (blk_cell BK112.out 5).trans rfl; have hcz6_6 : w5.cell? ⟨gb112, 6, none⟩ = some (.string a0_6) := (blk_cell BK112.out 6).trans rfl; have hcz6_7 : w5.cell? ⟨gb112, 7, none⟩ = some (.slice A0_7 l0_7.length c0_7) := (blk_cell BK112.out 7).trans rfl; have hfz6_0 := blk_frozen BK112.out 0; have hfz6_1 := blk_frozen BK112.out 1; have hfz6_2 := blk_frozen BK112.out 2; have hfz6_3 := blk_frozen BK112.out 3; have hfz6_4 := blk_frozen BK112.out 4; have hfz6_5 := blk_frozen BK112.out 5; have hfz6_6 := blk_frozen BK112.out 6; have hfz6_7 := blk_frozen BK112.out 7) | (go_at_call 14; (with_reducible refine (folkmootref16_On.calls k a0_0 a0_1 a0_2 a0_3 _ _ l0_4 _ _ l0_5 a0_6 _ _ l0_7 true _ ?side1 ?side2 ?side3 ?side4 ?side5 ?side6 A2.out).mono ?_); (case side1 => repeat (first | exact (Kd.C_below HR0_4.out HB.out) | (with_reducible refine Kd.C_alloc ?_ _) | (with_reducible refine Kd.C_drewN ?_ _) | (with_reducible refine Kd.C_drew ?_))); (case side2 => exact HC0_4.out); (case side3 => repeat (first | exact (Kd.C_below HR0_5.out HB.out) | (with_reducible refine Kd.C_alloc ?_ _) | (with_reducible refine Kd.C_drewN ?_ _) | (with_reducible refine Kd.C_drew ?_))); (case side4 => exact HC0_5.out); (case side5 => repeat (first | exact (Kd.C_below HR0_7.out HB.out) | (with_reducible refine Kd.C_alloc ?_ _) | (with_reducible refine Kd.C_drewN ?_ _) | (with_reducible refine Kd.C_drew ?_))); (case side6 => exact HC0_7.out); rintro e w7 ⟨rfl, hb⟩; have n0_ := Aside0.mk (blk_below (g := gb112) (o := .cells #[.int .i64 a0_0, .int .i64 a0_1, .int .i64 a0_2, .int .i64 a0_3, .slice A0_4 l0_4.length c0_4, .slice A0_5 l0_5.length c0_5, .string a0_6, .slice A0_7 l0_7.length c0_7] 30 (0, 0)) (by (with_reducible repeat (first | refine blk_drewN ?_ _ | refine blk_drew ?_ | refine blk_alloc ?_ _)); exact BK112.out) hb); have n1_ := Aside0.mk (below_step (by repeat (first | (with_reducible first | exact HB.out | apply below_alloc | apply pw_below_drewN | apply below_drew1 | refine below_set ?_ GE112.out) | exact HB.out)) hb); clear BK112; clear HB; have BK112 := n0_; have HB := n1_; clear n0_ n1_; (try clear hb); (try clear hb2); (try clear hk); (try clear hi); have hcz8_0 : w7.cell? ⟨gb112, 0, none⟩ = some (.int .i64 a0_0) := (blk_cell BK112.out 0).trans rfl; have hcz8_1 : w7.cell? ⟨gb112, 1, none⟩ = some (.int .i64 a0_1) := (blk_cell BK112.out 1).trans rfl; have hcz8_2 : w7.cell? ⟨gb112, 2, none⟩ = some (.int .i64 a0_2) := (blk_cell BK112.out 2).trans rfl; have hcz8_3 : w7.cell? ⟨gb112, 3, none⟩ = some (.int .i64 a0_3) := (blk_cell BK112.out 3).trans rfl; have hcz8_4 : w7.cell? ⟨gb112, 4, none⟩ = some (.slice A0_4 l0_4.length c0_4) := (blk_cell BK112.out 4).trans rfl; have hcz8_5 : w7.cell? ⟨gb112, 5, none⟩ = some (.slice A0_5 l0_5.length c0_5) := (blk_cell BK112.out 5).trans rfl; have hcz8_6 : w7.cell? ⟨gb112, 6, none⟩ = some (.string a0_6) := (blk_cell BK112.out 6).trans rfl; have hcz8_7 : w7.cell? ⟨gb112, 7, none⟩ = some (.slice A0_7 l0_7.length c0_7) := (blk_cell BK112.out 7).trans rfl; have hfz8_0 := blk_frozen BK112.out 0; have hfz8_1 := blk_frozen BK112.out 1; have hfz8_2 := blk_frozen BK112.out 2; have hfz8_3 := blk_frozen BK112.out 3; have hfz8_4 := blk_frozen BK112.out 4; have hfz8_5 := blk_frozen BK112.out 5; have hfz8_6 := blk_frozen BK112.out 6; have hfz8_7 := blk_frozen BK112.out 7)))
      go_ret2
      exact ⟨by first | rfl | (simp [errW_none, errW_some] <;> rfl) | (simp [*, errW_none, errW_some] <;> rfl), by repeat (first | (with_reducible first | exact HB.out | apply below_alloc | apply pw_below_drewN | apply below_drew1 | refine below_set ?_ GE112.out) | exact HB.out)⟩
    · rw [if_neg c4] at H
      have c4b0 : ((l0_7.length : Int) == 0) = false := beq_eq_false_iff_ne.mpr c4
      have c4b1 : ((l0_7.length : Int) != 0) = true := bne_iff_ne.mpr c4
      have c4b2 : ¬ (l0_7 = []) := fun h_ => c4 (by rw [h_]; rfl)
      obtain ⟨ji9, hji9⟩ : ∃ j_ : Int, (wrap64 ((l0_7.length : Int) - 1)) = j_ := ⟨_, rfl⟩
      replace H : (if 0 ≤ (ji9) then (if (ji9) < (l0_7.length : Int) then (some ((rd_T54 l0_7 (ji9)).f0, (rd_T54 l0_7 (ji9)).f1)) else (none)) else (none)) = some (r1, r2) := by first | (rw [hji9] at H; exact H) | (simp only [hji9] at H ⊢; exact H)
      (try rw [hji9] at A2)
      have hji9w : (IntKind.i64.wrap ((l0_7.length : Int) - 1)) = ji9 := (i64_w _).trans hji9
      by_cases c10 : 0 ≤ (ji9)
      · rw [if_pos c10] at H
        have c10b0 : decide (0 ≤ (ji9)) = true := decide_eq_true c10
        clear c10
        by_cases c11 : (ji9) < (l0_7.length : Int)
        · rw [if_pos c11] at H
          have c11b0 : decide ((ji9) < (l0_7.length : Int)) = true := decide_eq_true c11
          clear c11
          simp only [Option.some.injEq, Prod.mk.injEq] at H
          obtain ⟨rfl, rfl⟩ := H
          go_enter Try.func11, Try.ntmps11
          go_wp2_with (first | ((with_reducible refine gate_dst (N := 1) rfl ?_); refine box_event ?hg (N := 1) ?hd (cs := #[.int .i64 a0_0, .int .i64 a0_1, .int .i64 a0_2, .int .i64 a0_3, .slice A0_4 l0_4.length c0_4, .slice A0_5 l0_5.length c0_5, .string a0_6, .slice A0_7 l0_7.length c0_7]) (t := 30) ?hr ?_; (case hd => rfl); (case hg => rfl); (case hr => first | (go_simp; done) | (go_simp; rfl)); intro gb112 hg w12 hbox hb; have n0_ := Aside0.mk (below_step (by repeat (first | (with_reducible first | exact HB.out | apply below_alloc | apply pw_below_drewN | apply below_drew1) | exact HB.out)) hb); have n1_ := Aside0.mk (hbox); have n2_ := Aside0.mk ((by rw [hg]; exact (below_size (by repeat (first | (with_reducible first | exact HB.out | apply below_alloc | apply pw_below_drewN | apply below_drew1) | exact HB.out))) : w.heap.size ≤ gb112)); have n3_ := Aside0.mk ((by rw [hg]; exact (below_size (by repeat (first | (with_reducible first | exact HB.out | apply below_alloc | apply pw_below_drewN | apply below_drew1) | exact HB.out))) : w.heap.size ≤ gb112)); clear HB; have HB := n0_; have BK112 := n1_; have GW112 := n2_; have GE112 := n3_; clear n0_ n1_ n2_ n3_; clear hb hbox hg; have hcz13_0 : w12.cell? ⟨gb112, 0, none⟩ = some (.int .i64 a0_0) := (blk_cell BK112.out 0).trans rfl; have hcz13_1 : w12.cell? ⟨gb112, 1, none⟩ = some (.int .i64 a0_1) := (blk_cell BK112.out 1).trans rfl; have hcz13_2 : w12.cell? ⟨gb112, 2, none⟩ = some (.int .i64 a0_2) := (blk_cell BK112.out 2).trans rfl; have hcz13_3 : w12.cell? ⟨gb112, 3, none⟩ = some (.int .i64 a0_3) := (blk_cell BK112.out 3).trans rfl; have hcz13_4 : w12.cell? ⟨gb112, 4, none⟩ = some (.slice A0_4 l0_4.length c0_4) := (blk_cell BK112.out 4).trans rfl; have hcz13_5 : w12.cell? ⟨gb112, 5, none⟩ = some (.slice A0_5 l0_5.length c0_5) := (blk_cell BK112.out 5).trans rfl; have hcz13_6 : w12.cell? ⟨gb112, 6, none⟩ = some (.string a0_6) := (blk_cell BK112.out 6).trans rfl; have hcz13_7 : w12.cell? ⟨gb112, 7, none⟩ = some (.slice A0_7 l0_7.length c0_7) := (blk_cell BK112.out 7).trans rfl; have hfz13_0 := blk_frozen BK112.out 0; have hfz13_1 := blk_frozen BK112.out 1; have hfz13_2 := blk_frozen BK112.out 2; have hfz13_3 := blk_frozen BK112.out 3; have hfz13_4 := blk_frozen BK112.out 4; have hfz13_5 := blk_frozen BK112.out 5; have hfz13_6 := blk_frozen BK112.out 6; have hfz13_7 := blk_frozen BK112.out 7) | (go_at_call 14; (with_reducible refine (folkmootref16_On.calls k a0_0 a0_1 a0_2 a0_3 _ _ l0_4 _ _ l0_5 a0_6 _ _ l0_7 true _ ?side1 ?side2 ?side3 ?side4 ?side5 ?side6 A2.out).mono ?_); (case side1 => repeat (first | exact (Kd.C_below HR0_4.out HB.out) | (with_reducible refine Kd.C_alloc ?_ _) | (with_reducible refine Kd.C_drewN ?_ _) | (with_reducible refine Kd.C_drew ?_))); (case side2 => exact HC0_4.out); (case side3 => repeat (first | exact (Kd.C_below HR0_5.out HB.out) | (with_reducible refine Kd.C_alloc ?_ _) | (with_reducible refine Kd.C_drewN ?_ _) | (with_reducible refine Kd.C_drew ?_))); (case side4 => exact HC0_5.out); (case side5 => repeat (first | exact (Kd.C_below HR0_7.out HB.out) | (with_reducible refine Kd.C_alloc ?_ _) | (with_reducible refine Kd.C_drewN ?_ _) | (with_reducible refine Kd.C_drew ?_))); (case side6 => exact HC0_7.out); rintro e w14 ⟨rfl, hb⟩; have n0_ := Aside0.mk (blk_below (g := gb112) (o := .cells #[.int .i64 a0_0, .int .i64 a0_1, .int .i64 a0_2, .int .i64 a0_3, .slice A0_4 l0_4.length c0_4, .slice A0_5 l0_5.length c0_5, .string a0_6, .slice A0_7 l0_7.length c0_7] 30 (0, 0)) (by (with_reducible repeat (first | refine blk_drewN ?_ _ | refine blk_drew ?_ | refine blk_alloc ?_ _)); exact BK112.out) hb); have n1_ := Aside0.mk (below_step (by repeat (first | (with_reducible first | exact HB.out | apply below_alloc | apply pw_below_drewN | apply below_drew1 | refine below_set ?_ GE112.out) | exact HB.out)) hb); clear BK112; clear HB; have BK112 := n0_; have HB := n1_; clear n0_ n1_; (try clear hb); (try clear hb2); (try clear hk); (try clear hi); have hcz15_0 : w14.cell? ⟨gb112, 0, none⟩ = some (.int .i64 a0_0) := (blk_cell BK112.out 0).trans rfl; have hcz15_1 : w14.cell? ⟨gb112, 1, none⟩ = some (.int .i64 a0_1) := (blk_cell BK112.out 1).trans rfl; have hcz15_2 : w14.cell? ⟨gb112, 2, none⟩ = some (.int .i64 a0_2) := (blk_cell BK112.out 2).trans rfl; have hcz15_3 : w14.cell? ⟨gb112, 3, none⟩ = some (.int .i64 a0_3) := (blk_cell BK112.out 3).trans rfl; have hcz15_4 : w14.cell? ⟨gb112, 4, none⟩ = some (.slice A0_4 l0_4.length c0_4) := (blk_cell BK112.out 4).trans rfl; have hcz15_5 : w14.cell? ⟨gb112, 5, none⟩ = some (.slice A0_5 l0_5.length c0_5) := (blk_cell BK112.out 5).trans rfl; have hcz15_6 : w14.cell? ⟨gb112, 6, none⟩ = some (.string a0_6) := (blk_cell BK112.out 6).trans rfl; have hcz15_7 : w14.cell? ⟨gb112, 7, none⟩ = some (.slice A0_7 l0_7.length c0_7) := (blk_cell BK112.out 7).trans rfl; have hfz15_0 := blk_frozen BK112.out 0; have hfz15_1 := blk_frozen BK112.out 1; have hfz15_2 := blk_frozen BK112.out 2; have hfz15_3 := blk_frozen BK112.out 3; have hfz15_4 := blk_frozen BK112.out 4; have hfz15_5 := blk_frozen BK112.out 5; have hfz15_6 := blk_frozen BK112.out 6; have hfz15_7 := blk_frozen BK112.out 7; have p114 : 0 ≤ ((ji9) : Int) := of_decide_eq_true (by first | (with_reducible assumption) | assumption); have q114 : (ji9) < (l0_7.length : Int) := of_decide_eq_true (by first | (with_reducible assumption) | assumption); obtain ⟨ad114, A114_3, c114_3, A114_4, c114_4, e114, hx114_0, hx114_1, hx114_2, hx114_3, hx114_4, hx114_5, hl114_3, hi114_3, hl114_4, hi114_4⟩ := at_T54 HR0_7.out (ji9) p114 q114; cases e114; replace hx114_0 := (HB.out.cell (World.block_lt_of_cell? w _ hx114_0)).trans hx114_0; replace hx114_1 := (HB.out.cell (World.block_lt_of_cell? w _ hx114_1)).trans hx114_1; replace hx114_2 := (HB.out.cell (World.block_lt_of_cell? w _ hx114_2)).trans hx114_2; replace hx114_3 := (HB.out.cell (World.block_lt_of_cell? w _ hx114_3)).trans hx114_3; replace hx114_4 := (HB.out.cell (World.block_lt_of_cell? w _ hx114_4)).trans hx114_4; replace hx114_5 := (HB.out.cell (World.block_lt_of_cell? w _ hx114_5)).trans hx114_5; have HR114_3 := Aside0.mk hi114_3; have HC114_3 := Aside0.mk hl114_3; clear hi114_3 hl114_3; have HR114_4 := Aside0.mk hi114_4; have HC114_4 := Aside0.mk hl114_4; clear hi114_4 hl114_4; replace p114 := eq_true p114; replace q114 := eq_true q114; have p115 : 0 ≤ ((ji9) : Int) := of_decide_eq_true (by first | (with_reducible assumption) | assumption); have q115 : (ji9) < (l0_7.length : Int) := of_decide_eq_true (by first | (with_reducible assumption) | assumption); obtain ⟨ad115, A115_3, c115_3, A115_4, c115_4, e115, hx115_0, hx115_1, hx115_2, hx115_3, hx115_4, hx115_5, hl115_3, hi115_3, hl115_4, hi115_4⟩ := at_T54 HR0_7.out (ji9) p115 q115; obtain rfl : ad114 = ad115 := (by injection e115); replace hx115_0 := (HB.out.cell (World.block_lt_of_cell? w _ hx115_0)).trans hx115_0; replace hx115_1 := (HB.out.cell (World.block_lt_of_cell? w _ hx115_1)).trans hx115_1; replace hx115_2 := (HB.out.cell (World.block_lt_of_cell? w _ hx115_2)).trans hx115_2; replace hx115_3 := (HB.out.cell (World.block_lt_of_cell? w _ hx115_3)).trans hx115_3; replace hx115_4 := (HB.out.cell (World.block_lt_of_cell? w _ hx115_4)).trans hx115_4; replace hx115_5 := (HB.out.cell (World.block_lt_of_cell? w _ hx115_5)).trans hx115_5; have HR115_3 := Aside0.mk hi115_3; have HC115_3 := Aside0.mk hl115_3; clear hi115_3 hl115_3; have HR115_4 := Aside0.mk hi115_4; have HC115_4 := Aside0.mk hl115_4; clear hi115_4 hl115_4; replace p115 := eq_true p115; replace q115 := eq_true q115; have ea_ := Option.some.inj (hx114_3.symm.trans hx115_3); injection ea_ with ea_ en_ ec_; subst ea_; subst ec_; clear en_; have ea_ := Option.some.inj (hx114_4.symm.trans hx115_4); injection ea_ with ea_ en_ ec_; subst ea_; subst ec_; clear en_))
          repeat (go_quiet (first | ((with_reducible refine gate_dst (N := 1) rfl ?_); refine box_event ?hg (N := 1) ?hd (cs := #[.int .i64 a0_0, .int .i64 a0_1, .int .i64 a0_2, .int .i64 a0_3, .slice A0_4 l0_4.length c0_4, .slice A0_5 l0_5.length c0_5, .string a0_6, .slice A0_7 l0_7.length c0_7]) (t := 30) ?hr ?_; (case hd => rfl); (case hg => rfl); (case hr => first | (go_simp; done) | (go_simp; rfl)); intro gb112 hg w12 hbox hb; have n0_ := Aside0.mk (below_step (by repeat (first | (with_reducible first | exact HB.out | apply below_alloc | apply pw_below_drewN | apply below_drew1) | exact HB.out)) hb); have n1_ := Aside0.mk (hbox); have n2_ := Aside0.mk ((by rw [hg]; exact (below_size (by repeat (first | (with_reducible first | exact HB.out | apply below_alloc | apply pw_below_drewN | apply below_drew1) | exact HB.out))) : w.heap.size ≤ gb112)); have n3_ := Aside0.mk ((by rw [hg]; exact (below_size (by repeat (first | (with_reducible first | exact HB.out | apply below_alloc | apply pw_below_drewN | apply below_drew1) | exact HB.out))) : w.heap.size ≤ gb112)); clear HB; have HB := n0_; have BK112 := n1_; have GW112 := n2_; have GE112 := n3_; clear n0_ n1_ n2_ n3_; clear hb hbox hg; have hcz13_0 : w12.cell? ⟨gb112, 0, none⟩ = some (.int .i64 a0_0) := (blk_cell BK112.out 0).trans rfl; have hcz13_1 : w12.cell? ⟨gb112, 1, none⟩ = some (.int .i64 a0_1) := (blk_cell BK112.out 1).trans rfl; have hcz13_2 : w12.cell? ⟨gb112, 2, none⟩ = some (.int .i64 a0_2) := (blk_cell BK112.out 2).trans rfl; have hcz13_3 : w12.cell? ⟨gb112, 3, none⟩ = some (.int .i64 a0_3) := (blk_cell BK112.out 3).trans rfl; have hcz13_4 : w12.cell? ⟨gb112, 4, none⟩ = some (.slice A0_4 l0_4.length c0_4) := (blk_cell BK112.out 4).trans rfl; have hcz13_5 : w12.cell? ⟨gb112, 5, none⟩ = some (.slice A0_5 l0_5.length c0_5) := (blk_cell BK112.out 5).trans rfl; have hcz13_6 : w12.cell? ⟨gb112, 6, none⟩ = some (.string a0_6) := (blk_cell BK112.out 6).trans rfl; have hcz13_7 : w12.cell? ⟨gb112, 7, none⟩ = some (.slice A0_7 l0_7.length c0_7) := (blk_cell BK112.out 7).trans rfl; have hfz13_0 := blk_frozen BK112.out 0; have hfz13_1 := blk_frozen BK112.out 1; have hfz13_2 := blk_frozen BK112.out 2; have hfz13_3 := blk_frozen BK112.out 3; have hfz13_4 := blk_frozen BK112.out 4; have hfz13_5 := blk_frozen BK112.out 5; have hfz13_6 := blk_frozen BK112.out 6; have hfz13_7 := blk_frozen BK112.out 7) | (go_at_call 14; (with_reducible refine (folkmootref16_On.calls k a0_0 a0_1 a0_2 a0_3 _ _ l0_4 _ _ l0_5 a0_6 _ _ l0_7 true _ ?side1 ?side2 ?side3 ?side4 ?side5 ?side6 A2.out).mono ?_); (case side1 => repeat (first | exact (Kd.C_below HR0_4.out HB.out) | (with_reducible refine Kd.C_alloc ?_ _) | (with_reducible refine Kd.C_drewN ?_ _) | (with_reducible refine Kd.C_drew ?_))); (case side2 => exact HC0_4.out); (case side3 => repeat (first | exact (Kd.C_below HR0_5.out HB.out) | (with_reducible refine Kd.C_alloc ?_ _) | (with_reducible refine Kd.C_drewN ?_ _) | (with_reducible refine Kd.C_drew ?_))); (case side4 => exact HC0_5.out); (case side5 => repeat (first | exact (Kd.C_below HR0_7.out HB.out) | (with_reducible refine Kd.C_alloc ?_ _) | (with_reducible refine Kd.C_drewN ?_ _) | (with_reducible refine Kd.C_drew ?_))); (case side6 => exact HC0_7.out); rintro e w14 ⟨rfl, hb⟩; have n0_ := Aside0.mk (blk_below (g := gb112) (o := .cells #[.int .i64 a0_0, .int .i64 a0_1, .int .i64 a0_2, .int .i64 a0_3, .slice A0_4 l0_4.length c0_4, .slice A0_5 l0_5.length c0_5, .string a0_6, .slice A0_7 l0_7.length c0_7] 30 (0, 0)) (by (with_reducible repeat (first | refine blk_drewN ?_ _ | refine blk_drew ?_ | refine blk_alloc ?_ _)); exact BK112.out) hb); have n1_ := Aside0.mk (below_step (by repeat (first | (with_reducible first | exact HB.out | apply below_alloc | apply pw_below_drewN | apply below_drew1 | refine below_set ?_ GE112.out) | exact HB.out)) hb); clear BK112; clear HB; have BK112 := n0_; have HB := n1_; clear n0_ n1_; (try clear hb); (try clear hb2); (try clear hk); (try clear hi); have hcz15_0 : w14.cell? ⟨gb112, 0, none⟩ = some (.int .i64 a0_0) := (blk_cell BK112.out 0).trans rfl; have hcz15_1 : w14.cell? ⟨gb112, 1, none⟩ = some (.int .i64 a0_1) := (blk_cell BK112.out 1).trans rfl; have hcz15_2 : w14.cell? ⟨gb112, 2, none⟩ = some (.int .i64 a0_2) := (blk_cell BK112.out 2).trans rfl; have hcz15_3 : w14.cell? ⟨gb112, 3, none⟩ = some (.int .i64 a0_3) := (blk_cell BK112.out 3).trans rfl; have hcz15_4 : w14.cell? ⟨gb112, 4, none⟩ = some (.slice A0_4 l0_4.length c0_4) := (blk_cell BK112.out 4).trans rfl; have hcz15_5 : w14.cell? ⟨gb112, 5, none⟩ = some (.slice A0_5 l0_5.length c0_5) := (blk_cell BK112.out 5).trans rfl; have hcz15_6 : w14.cell? ⟨gb112, 6, none⟩ = some (.string a0_6) := (blk_cell BK112.out 6).trans rfl; have hcz15_7 : w14.cell? ⟨gb112, 7, none⟩ = some (.slice A0_7 l0_7.length c0_7) := (blk_cell BK112.out 7).trans rfl; have hfz15_0 := blk_frozen BK112.out 0; have hfz15_1 := blk_frozen BK112.out 1; have hfz15_2 := blk_frozen BK112.out 2; have hfz15_3 := blk_frozen BK112.out 3; have hfz15_4 := blk_frozen BK112.out 4; have hfz15_5 := blk_frozen BK112.out 5; have hfz15_6 := blk_frozen BK112.out 6; have hfz15_7 := blk_frozen BK112.out 7; have p114 : 0 ≤ ((ji9) : Int) := of_decide_eq_true (by first | (with_reducible assumption) | assumption); have q114 : (ji9) < (l0_7.length : Int) := of_decide_eq_true (by first | (with_reducible assumption) | assumption); obtain ⟨ad114, A114_3, c114_3, A114_4, c114_4, e114, hx114_0, hx114_1, hx114_2, hx114_3, hx114_4, hx114_5, hl114_3, hi114_3, hl114_4, hi114_4⟩ := at_T54 HR0_7.out (ji9) p114 q114; cases e114; replace hx114_0 := (HB.out.cell (World.block_lt_of_cell? w _ hx114_0)).trans hx114_0; replace hx114_1 := (HB.out.cell (World.block_lt_of_cell? w _ hx114_1)).trans hx114_1; replace hx114_2 := (HB.out.cell (World.block_lt_of_cell? w _ hx114_2)).trans hx114_2; replace hx114_3 := (HB.out.cell (World.block_lt_of_cell? w _ hx114_3)).trans hx114_3; replace hx114_4 := (HB.out.cell (World.block_lt_of_cell? w _ hx114_4)).trans hx114_4; replace hx114_5 := (HB.out.cell (World.block_lt_of_cell? w _ hx114_5)).trans hx114_5; have HR114_3 := Aside0.mk hi114_3; have HC114_3 := Aside0.mk hl114_3; clear hi114_3 hl114_3; have HR114_4 := Aside0.mk hi114_4; have HC114_4 := Aside0.mk hl114_4; clear hi114_4 hl114_4; replace p114 := eq_true p114; replace q114 := eq_true q114; have p115 : 0 ≤ ((ji9) : Int) := of_decide_eq_true (by first | (with_reducible assumption) | assumption); have q115 : (ji9) < (l0_7.length : Int) := of_decide_eq_true (by first | (with_reducible assumption) | assumption); obtain ⟨ad115, A115_3, c115_3, A115_4, c115_4, e115, hx115_0, hx115_1, hx115_2, hx115_3, hx115_4, hx115_5, hl115_3, hi115_3, hl115_4, hi115_4⟩ := at_T54 HR0_7.out (ji9) p115 q115; obtain rfl : ad114 = ad115 := (by injection e115); replace hx115_0 := (HB.out.cell (World.block_lt_of_cell? w _ hx115_0)).trans hx115_0; replace hx115_1 := (HB.out.cell (World.block_lt_of_cell? w _ hx115_1)).trans hx115_1; replace hx115_2 := (HB.out.cell (World.block_lt_of_cell? w _ hx115_2)).trans hx115_2; replace hx115_3 := (HB.out.cell (World.block_lt_of_cell? w _ hx115_3)).trans hx115_3; replace hx115_4 := (HB.out.cell (World.block_lt_of_cell? w _ hx115_4)).trans hx115_4; replace hx115_5 := (HB.out.cell (World.block_lt_of_cell? w _ hx115_5)).trans hx115_5; have HR115_3 := Aside0.mk hi115_3; have HC115_3 := Aside0.mk hl115_3; clear hi115_3 hl115_3; have HR115_4 := Aside0.mk hi115_4; have HC115_4 := Aside0.mk hl115_4; clear hi115_4 hl115_4; replace p115 := eq_true p115; replace q115 := eq_true q115; have ea_ := Option.some.inj (hx114_3.symm.trans hx115_3); injection ea_ with ea_ en_ ec_; subst ea_; subst ec_; clear en_; have ea_ := Option.some.inj (hx114_4.symm.trans hx115_4); injection ea_ with ea_ en_ ec_; subst ea_; subst ec_; clear en_)); try go_wp2_with (first | ((with_reducible refine gate_dst (N := 1) rfl ?_); refine box_event ?hg (N := 1) ?hd (cs := #[.int .i64 a0_0, .int .i64 a0_1, .int .i64 a0_2, .int .i64 a0_3, .slice A0_4 l0_4.length c0_4, .slice A0_5 l0_5.length c0_5, .string a0_6, .slice A0_7 l0_7.length c0_7]) (t := 30) ?hr ?_; (case hd => rfl); (case hg => rfl); (case hr => first | (go_simp; done) | (go_simp; rfl)); intro gb112 hg w12 hbox hb; have n0_ := Aside0.mk (below_step (by repeat (first | (with_reducible first | exact HB.out | apply below_alloc | apply pw_below_drewN | apply below_drew1) | exact HB.out)) hb); have n1_ := Aside0.mk (hbox); have n2_ := Aside0.mk ((by rw [hg]; exact (below_size (by repeat (first | (with_reducible first | exact HB.out | apply below_alloc | apply pw_below_drewN | apply below_drew1) | exact HB.out))) : w.heap.size ≤ gb112)); have n3_ := Aside0.mk ((by rw [hg]; exact (below_size (by repeat (first | (with_reducible first | exact HB.out | apply below_alloc | apply pw_below_drewN | apply below_drew1) | exact HB.out))) : w.heap.size ≤ gb112)); clear HB; have HB := n0_; have BK112 := n1_; have GW112 := n2_; have GE112 := n3_; clear n0_ n1_ n2_ n3_; clear hb hbox hg; have hcz13_0 : w12.cell? ⟨gb112, 0, none⟩ = some (.int .i64 a0_0) := (blk_cell BK112.out 0).trans rfl; have hcz13_1 : w12.cell? ⟨gb112, 1, none⟩ = some (.int .i64 a0_1) := (blk_cell BK112.out 1).trans rfl; have hcz13_2 : w12.cell? ⟨gb112, 2, none⟩ = some (.int .i64 a0_2) := (blk_cell BK112.out 2).trans rfl; have hcz13_3 : w12.cell? ⟨gb112, 3, none⟩ = some (.int .i64 a0_3) := (blk_cell BK112.out 3).trans rfl; have hcz13_4 : w12.cell? ⟨gb112, 4, none⟩ = some (.slice A0_4 l0_4.length c0_4) := (blk_cell BK112.out 4).trans rfl; have hcz13_5 : w12.cell? ⟨gb112, 5, none⟩ = some (.slice A0_5 l0_5.length c0_5) := (blk_cell BK112.out 5).trans rfl; have hcz13_6 : w12.cell? ⟨gb112, 6, none⟩ = some (.string a0_6) := (blk_cell BK112.out 6).trans rfl; have hcz13_7 : w12.cell? ⟨gb112, 7, none⟩ = some (.slice A0_7 l0_7.length c0_7) := (blk_cell BK112.out 7).trans rfl; have hfz13_0 := blk_frozen BK112.out 0; have hfz13_1 := blk_frozen BK112.out 1; have hfz13_2 := blk_frozen BK112.out 2; have hfz13_3 := blk_frozen BK112.out 3; have hfz13_4 := blk_frozen BK112.out 4; have hfz13_5 := blk_frozen BK112.out 5; have hfz13_6 := blk_frozen BK112.out 6; have hfz13_7 := blk_frozen BK112.out 7) | (go_at_call 14; (with_reducible refine (folkmootref16_On.calls k a0_0 a0_1 a0_2 a0_3 _ _ l0_4 _ _ l0_5 a0_6 _ _ l0_7 true _ ?side1 ?side2 ?side3 ?side4 ?side5 ?side6 A2.out).mono ?_); (case side1 => repeat (first | exact (Kd.C_below HR0_4.out HB.out) | (with_reducible refine Kd.C_alloc ?_ _) | (with_reducible refine Kd.C_drewN ?_ _) | (with_reducible refine Kd.C_drew ?_))); (case side2 => exact HC0_4.out); (case side3 => repeat (first | exact (Kd.C_below HR0_5.out HB.out) | (with_reducible refine Kd.C_alloc ?_ _) | (with_reducible refine Kd.C_drewN ?_ _) | (with_reducible refine Kd.C_drew ?_))); (case side4 => exact HC0_5.out); (case side5 => repeat (first | exact (Kd.C_below HR0_7.out HB.out) | (with_reducible refine Kd.C_alloc ?_ _) | (with_reducible refine Kd.C_drewN ?_ _) | (with_reducible refine Kd.C_drew ?_))); (case side6 => exact HC0_7.out); rintro e w14 ⟨rfl, hb⟩; have n0_ := Aside0.mk (blk_below (g := gb112) (o := .cells #[.int .i64 a0_0, .int .i64 a0_1, .int .i64 a0_2, .int .i64 a0_3, .slice A0_4 l0_4.length c0_4, .slice A0_5 l0_5.length c0_5, .string a0_6, .slice A0_7 l0_7.length c0_7] 30 (0, 0)) (by (with_reducible repeat (first | refine blk_drewN ?_ _ | refine blk_drew ?_ | refine blk_alloc ?_ _)); exact BK112.out) hb); have n1_ := Aside0.mk (below_step (by repeat (first | (with_reducible first | exact HB.out | apply below_alloc | apply pw_below_drewN | apply below_drew1 | refine below_set ?_ GE112.out) | exact HB.out)) hb); clear BK112; clear HB; have BK112 := n0_; have HB := n1_; clear n0_ n1_; (try clear hb); (try clear hb2); (try clear hk); (try clear hi); have hcz15_0 : w14.cell? ⟨gb112, 0, none⟩ = some (.int .i64 a0_0) := (blk_cell BK112.out 0).trans rfl; have hcz15_1 : w14.cell? ⟨gb112, 1, none⟩ = some (.int .i64 a0_1) := (blk_cell BK112.out 1).trans rfl; have hcz15_2 : w14.cell? ⟨gb112, 2, none⟩ = some (.int .i64 a0_2) := (blk_cell BK112.out 2).trans rfl; have hcz15_3 : w14.cell? ⟨gb112, 3, none⟩ = some (.int .i64 a0_3) := (blk_cell BK112.out 3).trans rfl; have hcz15_4 : w14.cell? ⟨gb112, 4, none⟩ = some (.slice A0_4 l0_4.length c0_4) := (blk_cell BK112.out 4).trans rfl; have hcz15_5 : w14.cell? ⟨gb112, 5, none⟩ = some (.slice A0_5 l0_5.length c0_5) := (blk_cell BK112.out 5).trans rfl; have hcz15_6 : w14.cell? ⟨gb112, 6, none⟩ = some (.string a0_6) := (blk_cell BK112.out 6).trans rfl; have hcz15_7 : w14.cell? ⟨gb112, 7, none⟩ = some (.slice A0_7 l0_7.length c0_7) := (blk_cell BK112.out 7).trans rfl; have hfz15_0 := blk_frozen BK112.out 0; have hfz15_1 := blk_frozen BK112.out 1; have hfz15_2 := blk_frozen BK112.out 2; have hfz15_3 := blk_frozen BK112.out 3; have hfz15_4 := blk_frozen BK112.out 4; have hfz15_5 := blk_frozen BK112.out 5; have hfz15_6 := blk_frozen BK112.out 6; have hfz15_7 := blk_frozen BK112.out 7; have p114 : 0 ≤ ((ji9) : Int) := of_decide_eq_true (by first | (with_reducible assumption) | assumption); have q114 : (ji9) < (l0_7.length : Int) := of_decide_eq_true (by first | (with_reducible assumption) | assumption); obtain ⟨ad114, A114_3, c114_3, A114_4, c114_4, e114, hx114_0, hx114_1, hx114_2, hx114_3, hx114_4, hx114_5, hl114_3, hi114_3, hl114_4, hi114_4⟩ := at_T54 HR0_7.out (ji9) p114 q114; cases e114; replace hx114_0 := (HB.out.cell (World.block_lt_of_cell? w _ hx114_0)).trans hx114_0; replace hx114_1 := (HB.out.cell (World.block_lt_of_cell? w _ hx114_1)).trans hx114_1; replace hx114_2 := (HB.out.cell (World.block_lt_of_cell? w _ hx114_2)).trans hx114_2; replace hx114_3 := (HB.out.cell (World.block_lt_of_cell? w _ hx114_3)).trans hx114_3; replace hx114_4 := (HB.out.cell (World.block_lt_of_cell? w _ hx114_4)).trans hx114_4; replace hx114_5 := (HB.out.cell (World.block_lt_of_cell? w _ hx114_5)).trans hx114_5; have HR114_3 := Aside0.mk hi114_3; have HC114_3 := Aside0.mk hl114_3; clear hi114_3 hl114_3; have HR114_4 := Aside0.mk hi114_4; have HC114_4 := Aside0.mk hl114_4; clear hi114_4 hl114_4; replace p114 := eq_true p114; replace q114 := eq_true q114; have p115 : 0 ≤ ((ji9) : Int) := of_decide_eq_true (by first | (with_reducible assumption) | assumption); have q115 : (ji9) < (l0_7.length : Int) := of_decide_eq_true (by first | (with_reducible assumption) | assumption); obtain ⟨ad115, A115_3, c115_3, A115_4, c115_4, e115, hx115_0, hx115_1, hx115_2, hx115_3, hx115_4, hx115_5, hl115_3, hi115_3, hl115_4, hi115_4⟩ := at_T54 HR0_7.out (ji9) p115 q115; obtain rfl : ad114 = ad115 := (by injection e115); replace hx115_0 := (HB.out.cell (World.block_lt_of_cell? w _ hx115_0)).trans hx115_0; replace hx115_1 := (HB.out.cell (World.block_lt_of_cell? w _ hx115_1)).trans hx115_1; replace hx115_2 := (HB.out.cell (World.block_lt_of_cell? w _ hx115_2)).trans hx115_2; replace hx115_3 := (HB.out.cell (World.block_lt_of_cell? w _ hx115_3)).trans hx115_3; replace hx115_4 := (HB.out.cell (World.block_lt_of_cell? w _ hx115_4)).trans hx115_4; replace hx115_5 := (HB.out.cell (World.block_lt_of_cell? w _ hx115_5)).trans hx115_5; have HR115_3 := Aside0.mk hi115_3; have HC115_3 := Aside0.mk hl115_3; clear hi115_3 hl115_3; have HR115_4 := Aside0.mk hi115_4; have HC115_4 := Aside0.mk hl115_4; clear hi115_4 hl115_4; replace p115 := eq_true p115; replace q115 := eq_true q115; have ea_ := Option.some.inj (hx114_3.symm.trans hx115_3); injection ea_ with ea_ en_ ec_; subst ea_; subst ec_; clear en_; have ea_ := Option.some.inj (hx114_4.symm.trans hx115_4); injection ea_ with ea_ en_ ec_; subst ea_; subst ec_; clear en_)))
          go_ret2
          exact ⟨by first | rfl | (simp [errW_none, errW_some] <;> rfl) | (simp only [← hji9]; first | rfl | (simp [errW_none, errW_some] <;> rfl)) | (simp [*, errW_none, errW_some] <;> rfl), by repeat (first | (with_reducible first | exact HB.out | apply below_alloc | apply pw_below_drewN | apply below_drew1 | refine below_set ?_ GE112.out) | exact HB.out)⟩
        · rw [if_neg c11] at H
          exact absurd H (by simp)
      · rw [if_neg c10] at H
        exact absurd H (by simp)
  · replace c3 := Bool.eq_false_iff.mpr c3
    subst c3
    have H1 : (some (0, 0)) = some (r1, r2) := by rw [if_neg (show ¬ (false = true) by decide)] at H; exact H
    clear H
    have H := H1
    clear H1
    simp only [Option.some.injEq, Prod.mk.injEq] at H
    obtain ⟨rfl, rfl⟩ := H
    go_enter Try.func11, Try.ntmps11
    go_wp2_with (first | ((with_reducible refine gate_dst (N := 1) rfl ?_); refine box_event ?hg (N := 1) ?hd (cs := #[.int .i64 a0_0, .int .i64 a0_1, .int .i64 a0_2, .int .i64 a0_3, .slice A0_4 l0_4.length c0_4, .slice A0_5 l0_5.length c0_5, .string a0_6, .slice A0_7 l0_7.length c0_7]) (t := 30) ?hr ?_; (case hd => rfl); (case hg => rfl); (case hr => first | (go_simp; done) | (go_simp; rfl)); intro gb112 hg w16 hbox hb; have n0_ := Aside0.mk (below_step (by repeat (first | (with_reducible first | exact HB.out | apply below_alloc | apply pw_below_drewN | apply below_drew1) | exact HB.out)) hb); have n1_ := Aside0.mk (hbox); have n2_ := Aside0.mk ((by rw [hg]; exact (below_size (by repeat (first | (with_reducible first | exact HB.out | apply below_alloc | apply pw_below_drewN | apply below_drew1) | exact HB.out))) : w.heap.size ≤ gb112)); have n3_ := Aside0.mk ((by rw [hg]; exact (below_size (by repeat (first | (with_reducible first | exact HB.out | apply below_alloc | apply pw_below_drewN | apply below_drew1) | exact HB.out))) : w.heap.size ≤ gb112)); clear HB; have HB := n0_; have BK112 := n1_; have GW112 := n2_; have GE112 := n3_; clear n0_ n1_ n2_ n3_; clear hb hbox hg; have hcz17_0 : w16.cell? ⟨gb112, 0, none⟩ = some (.int .i64 a0_0) := (blk_cell BK112.out 0).trans rfl; have hcz17_1 : w16.cell? ⟨gb112, 1, none⟩ = some (.int .i64 a0_1) := (blk_cell BK112.out 1).trans rfl; have hcz17_2 : w16.cell? ⟨gb112, 2, none⟩ = some (.int .i64 a0_2) := (blk_cell BK112.out 2).trans rfl; have hcz17_3 : w16.cell? ⟨gb112, 3, none⟩ = some (.int .i64 a0_3) := (blk_cell BK112.out 3).trans rfl; have hcz17_4 : w16.cell? ⟨gb112, 4, none⟩ = some (.slice A0_4 l0_4.length c0_4) := (blk_cell BK112.out 4).trans rfl; have hcz17_5 : w16.cell? ⟨gb112, 5, none⟩ = some (.slice A0_5 l0_5.length c0_5) := (blk_cell BK112.out 5).trans rfl; have hcz17_6 : w16.cell? ⟨gb112, 6, none⟩ = some (.string a0_6) := (blk_cell BK112.out 6).trans rfl; have hcz17_7 : w16.cell? ⟨gb112, 7, none⟩ = some (.slice A0_7 l0_7.length c0_7) := (blk_cell BK112.out 7).trans rfl; have hfz17_0 := blk_frozen BK112.out 0; have hfz17_1 := blk_frozen BK112.out 1; have hfz17_2 := blk_frozen BK112.out 2; have hfz17_3 := blk_frozen BK112.out 3; have hfz17_4 := blk_frozen BK112.out 4; have hfz17_5 := blk_frozen BK112.out 5; have hfz17_6 := blk_frozen BK112.out 6; have hfz17_7 := blk_frozen BK112.out 7) | (go_at_call 14; (with_reducible refine (folkmootref16_On.calls k a0_0 a0_1 a0_2 a0_3 _ _ l0_4 _ _ l0_5 a0_6 _ _ l0_7 false _ ?side1 ?side2 ?side3 ?side4 ?side5 ?side6 A2.out).mono ?_); (case side1 => repeat (first | exact (Kd.C_below HR0_4.out HB.out) | (with_reducible refine Kd.C_alloc ?_ _) | (with_reducible refine Kd.C_drewN ?_ _) | (with_reducible refine Kd.C_drew ?_))); (case side2 => exact HC0_4.out); (case side3 => repeat (first | exact (Kd.C_below HR0_5.out HB.out) | (with_reducible refine Kd.C_alloc ?_ _) | (with_reducible refine Kd.C_drewN ?_ _) | (with_reducible refine Kd.C_drew ?_))); (case side4 => exact HC0_5.out); (case side5 => repeat (first | exact (Kd.C_below HR0_7.out HB.out) | (with_reducible refine Kd.C_alloc ?_ _) | (with_reducible refine Kd.C_drewN ?_ _) | (with_reducible refine Kd.C_drew ?_))); (case side6 => exact HC0_7.out); rintro e w18 ⟨rfl, hb⟩; have n0_ := Aside0.mk (blk_below (g := gb112) (o := .cells #[.int .i64 a0_0, .int .i64 a0_1, .int .i64 a0_2, .int .i64 a0_3, .slice A0_4 l0_4.length c0_4, .slice A0_5 l0_5.length c0_5, .string a0_6, .slice A0_7 l0_7.length c0_7] 30 (0, 0)) (by (with_reducible repeat (first | refine blk_drewN ?_ _ | refine blk_drew ?_ | refine blk_alloc ?_ _)); exact BK112.out) hb); have n1_ := Aside0.mk (below_step (by repeat (first | (with_reducible first | exact HB.out | apply below_alloc | apply pw_below_drewN | apply below_drew1 | refine below_set ?_ GE112.out) | exact HB.out)) hb); clear BK112; clear HB; have BK112 := n0_; have HB := n1_; clear n0_ n1_; (try clear hb); (try clear hb2); (try clear hk); (try clear hi)))
    repeat (go_quiet (first | ((with_reducible refine gate_dst (N := 1) rfl ?_); refine box_event ?hg (N := 1) ?hd (cs := #[.int .i64 a0_0, .int .i64 a0_1, .int .i64 a0_2, .int .i64 a0_3, .slice A0_4 l0_4.length c0_4, .slice A0_5 l0_5.length c0_5, .string a0_6, .slice A0_7 l0_7.length c0_7]) (t := 30) ?hr ?_; (case hd => rfl); (case hg => rfl); (case hr => first | (go_simp; done) | (go_simp; rfl)); intro gb112 hg w16 hbox hb; have n0_ := Aside0.mk (below_step (by repeat (first | (with_reducible first | exact HB.out | apply below_alloc | apply pw_below_drewN | apply below_drew1) | exact HB.out)) hb); have n1_ := Aside0.mk (hbox); have n2_ := Aside0.mk ((by rw [hg]; exact (below_size (by repeat (first | (with_reducible first | exact HB.out | apply below_alloc | apply pw_below_drewN | apply below_drew1) | exact HB.out))) : w.heap.size ≤ gb112)); have n3_ := Aside0.mk ((by rw [hg]; exact (below_size (by repeat (first | (with_reducible first | exact HB.out | apply below_alloc | apply pw_below_drewN | apply below_drew1) | exact HB.out))) : w.heap.size ≤ gb112)); clear HB; have HB := n0_; have BK112 := n1_; have GW112 := n2_; have GE112 := n3_; clear n0_ n1_ n2_ n3_; clear hb hbox hg; have hcz17_0 : w16.cell? ⟨gb112, 0, none⟩ = some (.int .i64 a0_0) := (blk_cell BK112.out 0).trans rfl; have hcz17_1 : w16.cell? ⟨gb112, 1, none⟩ = some (.int .i64 a0_1) := (blk_cell BK112.out 1).trans rfl; have hcz17_2 : w16.cell? ⟨gb112, 2, none⟩ = some (.int .i64 a0_2) := (blk_cell BK112.out 2).trans rfl; have hcz17_3 : w16.cell? ⟨gb112, 3, none⟩ = some (.int .i64 a0_3) := (blk_cell BK112.out 3).trans rfl; have hcz17_4 : w16.cell? ⟨gb112, 4, none⟩ = some (.slice A0_4 l0_4.length c0_4) := (blk_cell BK112.out 4).trans rfl; have hcz17_5 : w16.cell? ⟨gb112, 5, none⟩ = some (.slice A0_5 l0_5.length c0_5) := (blk_cell BK112.out 5).trans rfl; have hcz17_6 : w16.cell? ⟨gb112, 6, none⟩ = some (.string a0_6) := (blk_cell BK112.out 6).trans rfl; have hcz17_7 : w16.cell? ⟨gb112, 7, none⟩ = some (.slice A0_7 l0_7.length c0_7) := (blk_cell BK112.out 7).trans rfl; have hfz17_0 := blk_frozen BK112.out 0; have hfz17_1 := blk_frozen BK112.out 1; have hfz17_2 := blk_frozen BK112.out 2; have hfz17_3 := blk_frozen BK112.out 3; have hfz17_4 := blk_frozen BK112.out 4; have hfz17_5 := blk_frozen BK112.out 5; have hfz17_6 := blk_frozen BK112.out 6; have hfz17_7 := blk_frozen BK112.out 7) | (go_at_call 14; (with_reducible refine (folkmootref16_On.calls k a0_0 a0_1 a0_2 a0_3 _ _ l0_4 _ _ l0_5 a0_6 _ _ l0_7 false _ ?side1 ?side2 ?side3 ?side4 ?side5 ?side6 A2.out).mono ?_); (case side1 => repeat (first | exact (Kd.C_below HR0_4.out HB.out) | (with_reducible refine Kd.C_alloc ?_ _) | (with_reducible refine Kd.C_drewN ?_ _) | (with_reducible refine Kd.C_drew ?_))); (case side2 => exact HC0_4.out); (case side3 => repeat (first | exact (Kd.C_below HR0_5.out HB.out) | (with_reducible refine Kd.C_alloc ?_ _) | (with_reducible refine Kd.C_drewN ?_ _) | (with_reducible refine Kd.C_drew ?_))); (case side4 => exact HC0_5.out); (case side5 => repeat (first | exact (Kd.C_below HR0_7.out HB.out) | (with_reducible refine Kd.C_alloc ?_ _) | (with_reducible refine Kd.C_drewN ?_ _) | (with_reducible refine Kd.C_drew ?_))); (case side6 => exact HC0_7.out); rintro e w18 ⟨rfl, hb⟩; have n0_ := Aside0.mk (blk_below (g := gb112) (o := .cells #[.int .i64 a0_0, .int .i64 a0_1, .int .i64 a0_2, .int .i64 a0_3, .slice A0_4 l0_4.length c0_4, .slice A0_5 l0_5.length c0_5, .string a0_6, .slice A0_7 l0_7.length c0_7] 30 (0, 0)) (by (with_reducible repeat (first | refine blk_drewN ?_ _ | refine blk_drew ?_ | refine blk_alloc ?_ _)); exact BK112.out) hb); have n1_ := Aside0.mk (below_step (by repeat (first | (with_reducible first | exact HB.out | apply below_alloc | apply pw_below_drewN | apply below_drew1 | refine below_set ?_ GE112.out) | exact HB.out)) hb); clear BK112; clear HB; have BK112 := n0_; have HB := n1_; clear n0_ n1_; (try clear hb); (try clear hb2); (try clear hk); (try clear hi))); try go_wp2_with (first | ((with_reducible refine gate_dst (N := 1) rfl ?_); refine box_event ?hg (N := 1) ?hd (cs := #[.int .i64 a0_0, .int .i64 a0_1, .int .i64 a0_2, .int .i64 a0_3, .slice A0_4 l0_4.length c0_4, .slice A0_5 l0_5.length c0_5, .string a0_6, .slice A0_7 l0_7.length c0_7]) (t := 30) ?hr ?_; (case hd => rfl); (case hg => rfl); (case hr => first | (go_simp; done) | (go_simp; rfl)); intro gb112 hg w16 hbox hb; have n0_ := Aside0.mk (below_step (by repeat (first | (with_reducible first | exact HB.out | apply below_alloc | apply pw_below_drewN | apply below_drew1) | exact HB.out)) hb); have n1_ := Aside0.mk (hbox); have n2_ := Aside0.mk ((by rw [hg]; exact (below_size (by repeat (first | (with_reducible first | exact HB.out | apply below_alloc | apply pw_below_drewN | apply below_drew1) | exact HB.out))) : w.heap.size ≤ gb112)); have n3_ := Aside0.mk ((by rw [hg]; exact (below_size (by repeat (first | (with_reducible first | exact HB.out | apply below_alloc | apply pw_below_drewN | apply below_drew1) | exact HB.out))) : w.heap.size ≤ gb112)); clear HB; have HB := n0_; have BK112 := n1_; have GW112 := n2_; have GE112 := n3_; clear n0_ n1_ n2_ n3_; clear hb hbox hg; have hcz17_0 : w16.cell? ⟨gb112, 0, none⟩ = some (.int .i64 a0_0) := (blk_cell BK112.out 0).trans rfl; have hcz17_1 : w16.cell? ⟨gb112, 1, none⟩ = some (.int .i64 a0_1) := (blk_cell BK112.out 1).trans rfl; have hcz17_2 : w16.cell? ⟨gb112, 2, none⟩ = some (.int .i64 a0_2) := (blk_cell BK112.out 2).trans rfl; have hcz17_3 : w16.cell? ⟨gb112, 3, none⟩ = some (.int .i64 a0_3) := (blk_cell BK112.out 3).trans rfl; have hcz17_4 : w16.cell? ⟨gb112, 4, none⟩ = some (.slice A0_4 l0_4.length c0_4) := (blk_cell BK112.out 4).trans rfl; have hcz17_5 : w16.cell? ⟨gb112, 5, none⟩ = some (.slice A0_5 l0_5.length c0_5) := (blk_cell BK112.out 5).trans rfl; have hcz17_6 : w16.cell? ⟨gb112, 6, none⟩ = some (.string a0_6) := (blk_cell BK112.out 6).trans rfl; have hcz17_7 : w16.cell? ⟨gb112, 7, none⟩ = some (.slice A0_7 l0_7.length c0_7) := (blk_cell BK112.out 7).trans rfl; have hfz17_0 := blk_frozen BK112.out 0; have hfz17_1 := blk_frozen BK112.out 1; have hfz17_2 := blk_frozen BK112.out 2; have hfz17_3 := blk_frozen BK112.out 3; have hfz17_4 := blk_frozen BK112.out 4; have hfz17_5 := blk_frozen BK112.out 5; have hfz17_6 := blk_frozen BK112.out 6; have hfz17_7 := blk_frozen BK112.out 7) | (go_at_call 14; (with_reducible refine (folkmootref16_On.calls k a0_0 a0_1 a0_2 a0_3 _ _ l0_4 _ _ l0_5 a0_6 _ _ l0_7 false _ ?side1 ?side2 ?side3 ?side4 ?side5 ?side6 A2.out).mono ?_); (case side1 => repeat (first | exact (Kd.C_below HR0_4.out HB.out) | (with_reducible refine Kd.C_alloc ?_ _) | (with_reducible refine Kd.C_drewN ?_ _) | (with_reducible refine Kd.C_drew ?_))); (case side2 => exact HC0_4.out); (case side3 => repeat (first | exact (Kd.C_below HR0_5.out HB.out) | (with_reducible refine Kd.C_alloc ?_ _) | (with_reducible refine Kd.C_drewN ?_ _) | (with_reducible refine Kd.C_drew ?_))); (case side4 => exact HC0_5.out); (case side5 => repeat (first | exact (Kd.C_below HR0_7.out HB.out) | (with_reducible refine Kd.C_alloc ?_ _) | (with_reducible refine Kd.C_drewN ?_ _) | (with_reducible refine Kd.C_drew ?_))); (case side6 => exact HC0_7.out); rintro e w18 ⟨rfl, hb⟩; have n0_ := Aside0.mk (blk_below (g := gb112) (o := .cells #[.int .i64 a0_0, .int .i64 a0_1, .int .i64 a0_2, .int .i64 a0_3, .slice A0_4 l0_4.length c0_4, .slice A0_5 l0_5.length c0_5, .string a0_6, .slice A0_7 l0_7.length c0_7] 30 (0, 0)) (by (with_reducible repeat (first | refine blk_drewN ?_ _ | refine blk_drew ?_ | refine blk_alloc ?_ _)); exact BK112.out) hb); have n1_ := Aside0.mk (below_step (by repeat (first | (with_reducible first | exact HB.out | apply below_alloc | apply pw_below_drewN | apply below_drew1 | refine below_set ?_ GE112.out) | exact HB.out)) hb); clear BK112; clear HB; have BK112 := n0_; have HB := n1_; clear n0_ n1_; (try clear hb); (try clear hb2); (try clear hk); (try clear hi))))
    go_ret2
    exact ⟨by first | rfl | (simp [errW_none, errW_some] <;> rfl) | (simp [*, errW_none, errW_some] <;> rfl), by repeat (first | (with_reducible first | exact HB.out | apply below_alloc | apply pw_below_drewN | apply below_drew1 | refine below_set ?_ GE112.out) | exact HB.out)⟩

end Go.Proofs.Ytbjhjimkljbjlaa.PA
-- WRITTEN BY hookprint.py (a program of this session, over the kit's print.py): not typed by hand
namespace Go.Proofs.Ytbjhjimkljbjlaa.PA
open Go.RowKit Go.Proofs.YtbjhjimkljbjlaaW.PrintWords Go.Proofs.YtbjhjimkljbjlaaW.PrintLast Go.Proofs.YtbjhjimkljbjlaaW.PrintMore
attribute [local go_sem] max2_int min2_int max_two min_two max_three min_three max_four min_four   -- for this text's walks alone
set_option linter.unusedVariables false
set_option linter.unusedSimpArgs false

/-! ### folkmootlaw16_one: function 37 -/
def folkmootlaw16_one.f  : Option (Int × Int × Int × Int × List Int × List Int × ByteArray × (List (S54))) := some (0, 0, 2, 1, ([] : List Int), ([] : List Int), (⟨#[]⟩ : ByteArray), (([(⟨3, 1, 0, (⟨([] : List Int), ([] : List Int)⟩ : S25), (⟨#[]⟩ : ByteArray)⟩ : S54), (⟨4, 2, 0, (⟨([] : List Int), ([] : List Int)⟩ : S25), (⟨#[]⟩ : ByteArray)⟩ : S54)] : List (S54))))
set_option maxHeartbeats 8000000 in
set_option maxRecDepth 100000 in
theorem folkmootlaw16_one.calls  (r1 : Int) (r2 : Int) (r3 : Int) (r4 : Int) (r5 : List Int) (r6 : List Int) (r7 : ByteArray) (r8 : List (S54)) (w : World) (h : folkmootlaw16_one.f  = some (r1, r2, r3, r4, r5, r6, r7, r8)) :
    Calls Try.prog 37 #[] w fun e w' => ∃ v4_ v5_ v7_ : Value, e = .returned (.agg #[.int .i64 r1, .int .i64 r2, .int .i64 r3, .int .i64 r4, v4_, v5_, .string r7, v7_]) ∧ Kd.R (Kd.int .i64) 3 w' w.heap.size (fun k_ => some k_ ≠ (v5_ : Value).ownBlock) v4_ r5 ∧ Kd.R (Kd.int .i64) 3 w' w.heap.size (fun k_ => some k_ ≠ (v4_ : Value).ownBlock) v5_ r6 ∧ Kd.S k54 54 w' w.heap.size (fun k_ => some k_ ≠ (v4_ : Value).ownBlock ∧ some k_ ≠ (v5_ : Value).ownBlock) v7_ r8 ∧ Below w.heap.size w w' := by
  have hu30 := Try.underlying30
  have hu27 := Try.underlying27
  have hu54 := Try.underlying54
  have HB := Aside0.mk (Below.refl w.heap.size w)
  have H : (some (0, 0, 2, 1, ([] : List Int), ([] : List Int), (⟨#[]⟩ : ByteArray), (([(⟨3, 1, 0, (⟨([] : List Int), ([] : List Int)⟩ : S25), (⟨#[]⟩ : ByteArray)⟩ : S54), (⟨4, 2, 0, (⟨([] : List Int), ([] : List Int)⟩ : S25), (⟨#[]⟩ : ByteArray)⟩ : S54)] : List (S54))))) = some (r1, r2, r3, r4, r5, r6, r7, r8) := h
  clear h
  obtain ⟨y117, hy117⟩ : ∃ y_ : List (S54), y_ = (([(⟨3, 1, 0, (⟨([] : List Int), ([] : List Int)⟩ : S25), (⟨#[]⟩ : ByteArray)⟩ : S54), (⟨4, 2, 0, (⟨([] : List Int), ([] : List Int)⟩ : S25), (⟨#[]⟩ : ByteArray)⟩ : S54)] : List (S54))) := ⟨_, rfl⟩
  replace H : (some (0, 0, 2, 1, ([] : List Int), ([] : List Int), (⟨#[]⟩ : ByteArray), y117)) = some (r1, r2, r3, r4, r5, r6, r7, r8) := by first | (rw [hy117]; with_reducible exact H) | (have H2_ := (Option.bind_some _ _).symm.trans H; rw [hy117]; with_reducible exact H2_) | (have H2_ := (Option.bind_some _ _).symm.trans H; with_reducible exact H2_) | with_reducible exact H | (rw [hy117]; exact H) | exact H
  have Ny117 := Aside0.mk hy117
  clear hy117
  simp only [Option.some.injEq, Prod.mk.injEq] at H
  obtain ⟨rfl, rfl, rfl, rfl, rfl, rfl, rfl, rfl⟩ := H
  go_enter Try.func37, Try.ntmps37
  go_wp2_with (first | ((with_reducible refine gate_dst (N := 0) rfl ?_); refine box_event ?hg (N := 0) ?hd (cs := #[.int .i64 0, .int .i64 0, .int .i64 0, .int .i64 0, .slice none 0 0, .slice none 0 0, .string (⟨#[]⟩ : ByteArray), .slice none 0 0]) (t := 30) ?hr ?_; (case hd => rfl); (case hg => rfl); (case hr => first | (go_simp; done) | (go_simp; rfl)); intro gb116 hg w1 hbox hb; have n0_ := Aside0.mk (below_step (by repeat (first | (with_reducible first | exact HB.out | apply below_alloc | apply pw_below_drewN | apply below_drew1) | exact HB.out)) hb); have n1_ := Aside0.mk (hbox); have n2_ := Aside0.mk ((by rw [hg]; exact (below_size (by repeat (first | (with_reducible first | exact HB.out | apply below_alloc | apply pw_below_drewN | apply below_drew1) | exact HB.out))) : w.heap.size ≤ gb116)); have n3_ := Aside0.mk ((by rw [hg]; exact (below_size (by repeat (first | (with_reducible first | exact HB.out | apply below_alloc | apply pw_below_drewN | apply below_drew1) | exact HB.out))) : w.heap.size ≤ gb116)); clear HB; have HB := n0_; have BK116 := n1_; have GW116 := n2_; have GE116 := n3_; clear n0_ n1_ n2_ n3_; clear hb hbox hg) | ((with_reducible refine gate_dst (N := 4) rfl ?_); refine Kd.S_lit k54 _ 54 ?hg (N := 4) ?hd (xs := ([(⟨3, 1, 0, (⟨([] : List Int), ([] : List Int)⟩ : S25), (⟨#[]⟩ : ByteArray)⟩ : S54), (⟨4, 2, 0, (⟨([] : List Int), ([] : List Int)⟩ : S25), (⟨#[]⟩ : ByteArray)⟩ : S54)] : List (S54))) (inner := [.int .i64 3, .int .i64 1, .int .i64 0, .slice none 0 0, .slice none 0 0, .string (⟨#[]⟩ : ByteArray), .int .i64 4, .int .i64 2, .int .i64 0, .slice none 0 0, .slice none 0 0, .string (⟨#[]⟩ : ByteArray)]) (ok := fun _ => True) (okp := fun _ => True) ?hr ?hp (fun _ hk => hk) trivial (Below.refl _ _) (Nat.le_refl _) (by simp) ?_; (case hd => rfl); (case hg => rfl); (case hr => first | (go_simp; done) | (go_simp; rfl)); (case hp => exact (Reps.c6 (show Kd.M k54 _ _ _ (⟨3, 1, 0, (⟨([] : List Int), ([] : List Int)⟩ : S25), (⟨#[]⟩ : ByteArray)⟩ : S54) [.int .i64 3, .int .i64 1, .int .i64 0, .slice none 0 0, .slice none 0 0, .string (⟨#[]⟩ : ByteArray)] from (k54_mkM _ _ _ (⟨3, 1, 0, (⟨([] : List Int), ([] : List Int)⟩ : S25), (⟨#[]⟩ : ByteArray)⟩ : S54) (Kd.R_nil _ _ _ _ _) (Kd.R_nil _ _ _ _ _))) (Reps.c6 (show Kd.M k54 _ _ _ (⟨4, 2, 0, (⟨([] : List Int), ([] : List Int)⟩ : S25), (⟨#[]⟩ : ByteArray)⟩ : S54) [.int .i64 4, .int .i64 2, .int .i64 0, .slice none 0 0, .slice none 0 0, .string (⟨#[]⟩ : ByteArray)] from (k54_mkM _ _ _ (⟨4, 2, 0, (⟨([] : List Int), ([] : List Int)⟩ : S25), (⟨#[]⟩ : ByteArray)⟩ : S54) (Kd.R_nil _ _ _ _ _) (Kd.R_nil _ _ _ _ _))) (Reps.none _ _)))); intro v118 w2 ho3 hb hg_ hnew_; clear hg_ hnew_; (first | rw [← Ny117.out] at ho3 | (simp only [Int.reduceToNat] at ho3; rw [← Ny117.out] at ho3)); have n0_ := Aside0.mk (Kd.S_lower ho3 (below_size (by repeat (first | (with_reducible first | exact HB.out | apply below_alloc | apply pw_below_drewN | apply below_drew1 | refine below_set ?_ GE116.out) | exact HB.out)))); have n1_ := Aside0.mk (blk_below (g := gb116) (o := .cells #[.int .i64 0, .int .i64 0, .int .i64 0, .int .i64 0, .slice none 0 0, .slice none 0 0, .string (⟨#[]⟩ : ByteArray), .slice none 0 0] 30 (0, 0)) (by (with_reducible repeat (first | refine blk_drewN ?_ _ | refine blk_drew ?_ | refine blk_alloc ?_ _)); exact BK116.out) hb); have n2_ := Aside0.mk (below_step (by repeat (first | (with_reducible first | exact HB.out | apply below_alloc | apply pw_below_drewN | apply below_drew1 | refine below_set ?_ GE116.out) | exact HB.out)) hb); clear BK116; clear HB; have HO119 := n0_; have BK116 := n1_; have HB := n2_; clear n0_ n1_ n2_; clear hb ho3; obtain ⟨Ao4, co4, eo4⟩ := Kd.S_slice HO119.out; subst eo4; have hcz5_0 : w2.cell? ⟨gb116, 0, none⟩ = some (.int .i64 0) := (blk_cell BK116.out 0).trans rfl; have hcz5_1 : w2.cell? ⟨gb116, 1, none⟩ = some (.int .i64 0) := (blk_cell BK116.out 1).trans rfl; have hcz5_2 : w2.cell? ⟨gb116, 2, none⟩ = some (.int .i64 0) := (blk_cell BK116.out 2).trans rfl; have hcz5_3 : w2.cell? ⟨gb116, 3, none⟩ = some (.int .i64 0) := (blk_cell BK116.out 3).trans rfl; have hcz5_4 : w2.cell? ⟨gb116, 4, none⟩ = some (.slice none 0 0) := (blk_cell BK116.out 4).trans rfl; have hcz5_5 : w2.cell? ⟨gb116, 5, none⟩ = some (.slice none 0 0) := (blk_cell BK116.out 5).trans rfl; have hcz5_6 : w2.cell? ⟨gb116, 6, none⟩ = some (.string (⟨#[]⟩ : ByteArray)) := (blk_cell BK116.out 6).trans rfl; have hcz5_7 : w2.cell? ⟨gb116, 7, none⟩ = some (.slice none 0 0) := (blk_cell BK116.out 7).trans rfl; have hfz5_0 := blk_frozen BK116.out 0; have hfz5_1 := blk_frozen BK116.out 1; have hfz5_2 := blk_frozen BK116.out 2; have hfz5_3 := blk_frozen BK116.out 3; have hfz5_4 := blk_frozen BK116.out 4; have hfz5_5 := blk_frozen BK116.out 5; have hfz5_6 := blk_frozen BK116.out 6; have hfz5_7 := blk_frozen BK116.out 7))
  refine bodyPost_ret (results_cell_row rfl _ _ gb116 30 #[.int .i64 0, .int .i64 0, .int .i64 2, .int .i64 1, .slice none 0 0, .slice none 0 0, .string (⟨#[]⟩ : ByteArray), .slice Ao4 y117.length co4] (0, 0) _ rfl (by (with_reducible repeat (first | refine blk_drewN ?_ _ | refine blk_drew ?_ | refine blk_alloc ?_ _)); refine blk_put (cs := #[.int .i64 0, .int .i64 0, .int .i64 2, .int .i64 1, .slice none 0 0, .slice none 0 0, .string (⟨#[]⟩ : ByteArray), .slice none 0 0]) ?_ 7 _ rfl; (with_reducible repeat (first | refine blk_drewN ?_ _ | refine blk_drew ?_ | refine blk_alloc ?_ _)); refine blk_put (cs := #[.int .i64 0, .int .i64 0, .int .i64 2, .int .i64 1, .slice none 0 0, .slice none 0 0, .string (⟨#[]⟩ : ByteArray), .slice none 0 0]) ?_ 6 _ rfl; (with_reducible repeat (first | refine blk_drewN ?_ _ | refine blk_drew ?_ | refine blk_alloc ?_ _)); refine blk_put (cs := #[.int .i64 0, .int .i64 0, .int .i64 2, .int .i64 1, .slice none 0 0, .slice none 0 0, .string (⟨#[]⟩ : ByteArray), .slice none 0 0]) ?_ 5 _ rfl; (with_reducible repeat (first | refine blk_drewN ?_ _ | refine blk_drew ?_ | refine blk_alloc ?_ _)); refine blk_put (cs := #[.int .i64 0, .int .i64 0, .int .i64 2, .int .i64 1, .slice none 0 0, .slice none 0 0, .string (⟨#[]⟩ : ByteArray), .slice none 0 0]) ?_ 4 _ rfl; (with_reducible repeat (first | refine blk_drewN ?_ _ | refine blk_drew ?_ | refine blk_alloc ?_ _)); refine blk_put (cs := #[.int .i64 0, .int .i64 0, .int .i64 2, .int .i64 0, .slice none 0 0, .slice none 0 0, .string (⟨#[]⟩ : ByteArray), .slice none 0 0]) ?_ 3 _ rfl; (with_reducible repeat (first | refine blk_drewN ?_ _ | refine blk_drew ?_ | refine blk_alloc ?_ _)); refine blk_put (cs := #[.int .i64 0, .int .i64 0, .int .i64 0, .int .i64 0, .slice none 0 0, .slice none 0 0, .string (⟨#[]⟩ : ByteArray), .slice none 0 0]) ?_ 2 _ rfl; (with_reducible repeat (first | refine blk_drewN ?_ _ | refine blk_drew ?_ | refine blk_alloc ?_ _)); refine blk_put (cs := #[.int .i64 0, .int .i64 0, .int .i64 0, .int .i64 0, .slice none 0 0, .slice none 0 0, .string (⟨#[]⟩ : ByteArray), .slice none 0 0]) ?_ 1 _ rfl; (with_reducible repeat (first | refine blk_drewN ?_ _ | refine blk_drew ?_ | refine blk_alloc ?_ _)); refine blk_put (cs := #[.int .i64 0, .int .i64 0, .int .i64 0, .int .i64 0, .slice none 0 0, .slice none 0 0, .string (⟨#[]⟩ : ByteArray), .slice none 0 0]) ?_ 0 _ rfl; (with_reducible repeat (first | refine blk_drewN ?_ _ | refine blk_drew ?_ | refine blk_alloc ?_ _)); exact BK116.out) Try.underlying30 rfl (by kernel_rfl)) rfl ?_
  exact ⟨_, _, _, by first | rfl | (simp [errW_none, errW_some] <;> rfl) | (simp [*, errW_none, errW_some] <;> rfl), by first | exact Kd.R_nil _ _ _ _ _ | exact Kd.N_nil _ _ _ _ _ | exact Kd.V_nil _ _ _ _ _ | exact Kd.Q_nil _ _ _ _ _ | exact Kd.S_nil _ _ _ _ _, by first | exact Kd.R_nil _ _ _ _ _ | exact Kd.N_nil _ _ _ _ _ | exact Kd.V_nil _ _ _ _ _ | exact Kd.Q_nil _ _ _ _ _ | exact Kd.S_nil _ _ _ _ _, by (with_reducible repeat (first | apply Kd.S_alloc | apply Kd.S_drewN | apply Kd.S_drew)); exact Kd.S_mono (Kd.S_far (p := ⟨gb116, 7, none⟩) (Kd.S_far (p := ⟨gb116, 6, none⟩) (Kd.S_far (p := ⟨gb116, 5, none⟩) (Kd.S_far (p := ⟨gb116, 4, none⟩) (Kd.S_far (p := ⟨gb116, 3, none⟩) (Kd.S_far (p := ⟨gb116, 2, none⟩) (Kd.S_far (p := ⟨gb116, 1, none⟩) (Kd.S_far (p := ⟨gb116, 0, none⟩) (Kd.S_types HO119.out BK116.out (by decide)) (fun _ hk => hk.2) (.int .i64 0)) (fun _ hk => hk.2) (.int .i64 0)) (fun _ hk => hk.2) (.int .i64 2)) (fun _ hk => hk.2) (.int .i64 1)) (fun _ hk => hk.2) (.slice none 0 0)) (fun _ hk => hk.2) (.slice none 0 0)) (fun _ hk => hk.2) (.string (⟨#[]⟩ : ByteArray))) (fun _ hk => hk.2) (.slice Ao4 y117.length co4)) (fun _ hk => ⟨(by simp [Value.ownBlock]), (by simp [Value.ownBlock])⟩), by repeat (first | (with_reducible first | exact HB.out | apply below_alloc | apply pw_below_drewN | apply below_drew1 | refine below_set ?_ GE116.out) | exact HB.out)⟩

end Go.Proofs.Ytbjhjimkljbjlaa.PA
/- Plain laws of the log. -/
namespace Go.Proofs.Ytbjhjimkljbjlaa.PA
open Go.RowKit Go.Proofs.YtbjhjimkljbjlaaW.PrintWords Go.Proofs.YtbjhjimkljbjlaaW.PrintLast

theorem large_l1 (l : List S54) (hl : l.length ≤ 9223372036854775807) : ∀ (d i k : Nat) (n : Int), i + d = l.length → d < k → ∃ b, folkmootlaw16_large.l1 k l n (i : Int) = some b := by
  intro d
  induction d with
  | zero =>
    intro i k n h hk
    obtain ⟨k, rfl⟩ : ∃ m, k = m + 1 := ⟨k - 1, by omega⟩
    simp only [folkmootlaw16_large.l1]
    rw [if_neg (by omega)]
    exact ⟨_, rfl⟩
  | succ d ih =>
    intro i k n h hk
    obtain ⟨k, rfl⟩ : ∃ m, k = m + 1 := ⟨k - 1, by omega⟩
    simp only [folkmootlaw16_large.l1]
    rw [if_pos (by omega)]
    by_cases h1 : n ≤ 3000
    · rw [if_pos h1, if_pos (by omega)]
      have hw : wrap64 ((i : Int) + 1) = ((i + 1 : Nat) : Int) := by unfold wrap64; omega
      rw [hw]
      exact ih (i + 1) k _ (by omega) (by omega)
    · rw [if_neg h1]; exact ⟨_, rfl⟩

theorem large_l0 (l : List S54) (hl : l.length ≤ 9223372036854775807) (t v si st : Int) (vo le : List Int) (da : ByteArray) (es : List S54) (he : es.length ≤ 9223372036854775807) :
    ∀ (d i k : Nat) (n : Int), i + d = es.length → d + l.length + 2 < k → ∃ b, folkmootlaw16_large.l0 k l n (i : Int) t v si st vo le da es = some b := by
  intro d
  induction d with
  | zero =>
    intro i k n h hk
    obtain ⟨k, rfl⟩ : ∃ m, k = m + 2 := ⟨k - 2, by omega⟩
    simp only [folkmootlaw16_large.l0]
    rw [if_neg (by omega)]
    simp only [folkmootlaw16_large.j1]
    exact large_l1 l hl l.length 0 k _ (by omega) (by omega)
  | succ d ih =>
    intro i k n h hk
    obtain ⟨k, rfl⟩ : ∃ m, k = m + 2 := ⟨k - 2, by omega⟩
    rw [folkmootlaw16_large.l0]
    rw [if_pos (by omega)]
    by_cases h1 : n ≤ 3000
    · rw [if_pos h1, if_pos (by omega)]
      have hw : wrap64 ((i : Int) + 1) = ((i + 1 : Nat) : Int) := by unfold wrap64; omega
      rw [hw]
      exact ih (i + 1) (k + 1) _ (by omega) (by omega)
    · rw [if_neg h1]
      simp only [folkmootlaw16_large.j1]
      exact large_l1 l hl l.length 0 k _ (by omega) (by omega)

theorem large_some (k : Nat) (t v si st : Int) (vo le : List Int) (da : ByteArray) (es l : List S54) (he : es.length ≤ 9223372036854775807) (hl : l.length ≤ 9223372036854775807) (hk : es.length + l.length + 3 ≤ k) :
    ∃ b, folkmootlaw16_large.f k t v si st vo le da es l = some b := by
  simp only [folkmootlaw16_large.f]
  have := large_l0 l hl t v si st vo le da es he es.length 0 k (wrap64 ((wrap64 ((wrap64 ((es.length : Int) + (l.length : Int))) + (vo.length : Int))) + (le.length : Int))) (by omega) (by omega)
  exact this

theorem refLast_eq (k : Nat) (t v si st : Int) (vo le : List Int) (da : ByteArray) (es : List S54) (hk : es.length + 3 ≤ k) (hs : es.length ≤ 9223372036854775807) :
    folkmootref16_Last.f k t v si st vo le da es = some (if chk si es = true then lastP si st es else (0, 0)) := by
  simp only [folkmootref16_Last.f]
  rw [on_eq k t v si st vo le da es hk]
  simp only [Option.bind_some]
  cases hc : chk si es with
  | false => simp
  | true =>
    simp only [if_true]
    by_cases h0 : es.length = 0
    · have : es = [] := List.eq_nil_of_length_eq_zero h0
      subst this
      simp [lastP]
    · have hw : wrap64 ((es.length : Int) - 1) = ((es.length - 1 : Nat) : Int) := by unfold wrap64; omega
      rw [if_neg (by omega), hw, if_pos (by omega), if_pos (by omega)]
      have hg : es.getLast? = some (es.getD (es.length - 1) z54) := by
        rw [List.getLast?_eq_getElem?, List.getD_eq_getElem?_getD, List.getElem?_eq_getElem (by omega)]
        rfl
      simp [lastP, hg, rd_T54]

theorem chk_one : chk 2 [(⟨3, 1, 0, (⟨([] : List Int), ([] : List Int)⟩ : S25), (⟨#[]⟩ : ByteArray)⟩ : S54), (⟨4, 2, 0, (⟨([] : List Int), ([] : List Int)⟩ : S25), (⟨#[]⟩ : ByteArray)⟩ : S54)] = true := by simp [chk, okFrom, okAt, wrap64]
end Go.Proofs.Ytbjhjimkljbjlaa.PA
