/- What is read as data, told by its kind: whole numbers, bools, texts, rows, structs. -/
import Derived.Test.YtbjhjimkljbjlaaWWords
import GoSem.ClaimChange
import Derived.WideShapes
import Derived.DataReads
import Derived.Below
namespace Go.Proofs.YtbjhjimkljbjlaaOpen
open Go Go.RowKit Go.Proofs.YtbjhjimkljbjlaaW.PrintWords

/-- What is read at type t is of kind d, and V holds of it. -/
structure Opens {α : Type} (P : Program) (t : TypeId) (d : Kd α) (V : α → Prop) : Prop where
  out : ∀ (H : Type) (enc : TypeId × Value → H) (w : World) (fuel : Nat) (cs : List Value) (x : DataW H) (ps : List MemPlace),
    DataW.trod enc P w 0 (fun _ => true) true fuel t cs = some (x, ps) → ∃ a, d.K w a cs ∧ V a

variable {P : Program}

theorem opens_imp {α : Type} {t : TypeId} {d : Kd α} {V V' : α → Prop} (h : Opens P t d V) (hv : ∀ a, V a → V' a) : Opens P t d V' :=
  ⟨fun H enc w fuel cs x ps hx => by
    obtain ⟨a, hk, ha⟩ := h.out H enc w fuel cs x ps hx
    exact ⟨a, hk, hv a ha⟩⟩

theorem opens_int {t : TypeId} {k : IntKind} (ht : P.underlying t = some (.int k)) : Opens P t (Kd.int k) (fun n => (Lit.int k n).wf = true) := by
  constructor
  intro H enc w fuel cs x ps h
  cases fuel with
  | zero => simp [DataW.trod] at h
  | succ fuel =>
    unfold DataW.trod at h
    rw [ht] at h
    split at h <;> try (simp at *; done)
    next k0 k' n h1 =>
      cases h1
      split at h
      · next hc =>
        obtain ⟨rfl, hw⟩ := hc
        exact ⟨n, rfl, hw⟩
      · cases h

theorem opens_bool {t : TypeId} (ht : P.underlying t = some .bool) : Opens P t Kd.bool (fun _ => True) := by
  constructor
  intro H enc w fuel cs x ps h
  cases fuel with
  | zero => simp [DataW.trod] at h
  | succ fuel =>
    unfold DataW.trod at h
    rw [ht] at h
    split at h <;> try (simp at *; done)
    next b h1 => exact ⟨b, rfl, trivial⟩

theorem opens_string {t : TypeId} (ht : P.underlying t = some .string) : Opens P t Kd.string (fun s => s.size ≤ maxLen) := by
  constructor
  intro H enc w fuel cs x ps h
  cases fuel with
  | zero => simp [DataW.trod] at h
  | succ fuel =>
    unfold DataW.trod at h
    rw [ht] at h
    split at h <;> try (simp at *; done)
    next s h1 =>
      split at h
      · next hc => exact ⟨s, rfl, hc⟩
      · cases h

theorem mapM_range {β : Type} {f : Nat → Option β} : ∀ {n : Nat} {l : List β}, (List.range n).mapM f = some l → l.length = n ∧ ∀ i, i < n → ∃ b, f i = some b := by
  intro n
  induction n with
  | zero => intro l h; simp at h; subst h; exact ⟨rfl, fun i hi => absurd hi (by omega)⟩
  | succ n ih =>
    intro l h
    rw [List.range_succ, List.mapM_append] at h
    simp only [Option.bind_eq_bind, Option.bind_eq_some_iff, List.mapM_cons, List.mapM_nil, Option.pure_def, Option.some.injEq] at h
    obtain ⟨l1, h1, l2, ⟨b, hb, _, rfl, rfl⟩, rfl⟩ := h
    obtain ⟨e1, e2⟩ := ih h1
    refine ⟨by simp [e1], fun i hi => ?_⟩
    rcases Nat.lt_or_ge i n with hlt | hge
    · exact e2 i hlt
    · obtain rfl : i = n := by omega
      exact ⟨b, hb⟩

theorem cells_at {w : World} {a : Addr} {n : Nat} {cs : List Value} (h : w.cells? 0 a n = some cs) : cs.length = n ∧ ∀ i u, cs[i]? = some u → w.cell? (a.add i) = some u := by
  unfold World.cells? at h
  rw [if_pos (Nat.zero_le _)] at h
  have hl := (mapM_range h).1
  refine ⟨hl, fun i u hu => ?_⟩
  have hi : i < n := by have := (List.getElem?_eq_some_iff.1 hu).1; omega
  have key : ∀ (m : Nat) (l : List Value), (List.range m).mapM (fun i => w.cell? (a.add i)) = some l → ∀ j, j < m → ∃ v, l[j]? = some v ∧ w.cell? (a.add j) = some v := by
    intro m
    induction m with
    | zero => intro l _ j hj; omega
    | succ m ih =>
      intro l hl j hj
      rw [List.range_succ, List.mapM_append] at hl
      simp only [Option.bind_eq_bind, Option.bind_eq_some_iff, List.mapM_cons, List.mapM_nil, Option.pure_def, Option.some.injEq] at hl
      obtain ⟨l1, h1, l2, ⟨b, hb, _, rfl, rfl⟩, rfl⟩ := hl
      have e1 := (mapM_range h1).1
      rcases Nat.lt_or_ge j m with hlt | hge
      · obtain ⟨v, hv, hc⟩ := ih l1 h1 j hlt
        exact ⟨v, by rw [List.getElem?_append_left (by omega)]; exact hv, hc⟩
      · obtain rfl : j = m := by omega
        exact ⟨b, by rw [List.getElem?_append_right (by omega), e1]; simp, hb⟩
  obtain ⟨v, hv, hc⟩ := key n cs h i hi
  rw [hv] at hu
  cases hu
  exact hc

theorem add_add (a : Addr) (m i : Nat) : (a.add m).add i = a.add (m + i) := by
  unfold Addr.add
  by_cases hm : m = 0 <;> by_cases hi : i = 0 <;> simp [hm, hi, Nat.add_assoc]

theorem opens_slice {α : Type} {t e : TypeId} {d : Kd α} {V : α → Prop} (ht : P.underlying t = some (.slice e)) (hz : P.cellsOf e = d.sz) (hd : Opens P e d V) :
    Opens P t (Kd.slice e d) (fun xs => ∀ x ∈ xs, V x) := by
  constructor
  intro H enc w fuel cs x ps h
  cases fuel with
  | zero => simp [DataW.trod] at h
  | succ fuel =>
    unfold DataW.trod at h
    rw [ht] at h
    split at h <;> try (simp at *; done)
    next h1 => exact ⟨[], ⟨none, 0, rfl, Nat.le_refl _, rfl, by simp, fun hp => absurd hp (by simp)⟩, fun x hx => by cases hx⟩
    next e' a len cap h1 =>
      cases h1
      dsimp only at h
      split at h
      · next hc =>
        obtain ⟨_, hlc, hcm⟩ := hc
        rw [Option.bind_eq_some_iff] at h
        obtain ⟨elems, hel, _⟩ := h
        have hall := (mapM_range hel).2
        have hx : ∀ j : Nat, ∃ q : Option (α × List Value), j < len → ∃ y c, q = some (y, c) ∧ c.length = d.sz ∧ d.K w y c ∧ V y ∧ ∀ i u, c[i]? = some u → w.cell? (a.add (j * d.sz + i)) = some u := by
          intro j
          by_cases hj : j < len
          · obtain ⟨b, hb⟩ := hall j hj
            rw [Option.bind_eq_some_iff] at hb
            obtain ⟨c, hc1, hc2⟩ := hb
            obtain ⟨hl, hcell⟩ := cells_at hc1
            obtain ⟨y, hk, hv⟩ := hd.out H enc w fuel c b.1 b.2 hc2
            refine ⟨some (y, c), fun _ => ⟨y, c, rfl, by rw [hl, hz], hk, hv, fun i u hu => ?_⟩⟩
            have := hcell i u hu
            rwa [add_add, hz] at this
          · exact ⟨none, fun hp => absurd hp hj⟩
        have hne : ∀ j, j < len → ((Classical.choose (hx j)).isSome = true) := fun j hj => by
          obtain ⟨y, c, hq, _⟩ := Classical.choose_spec (hx j) hj
          rw [hq]; rfl
        rcases Nat.eq_zero_or_pos len with h0 | h0
        · subst h0
          exact ⟨[], ⟨some a, cap, rfl, by simp, rfl, by simp, fun hp => absurd hp (by simp)⟩, fun x hx => by cases hx⟩
        · obtain ⟨y0, _⟩ : ∃ y : α, True := by
            obtain ⟨y, c, _⟩ := Classical.choose_spec (hx 0) h0
            exact ⟨y, trivial⟩
          refine ⟨(List.range len).map fun j => ((Classical.choose (hx j)).map (·.1)).getD y0, ⟨some a, cap, by simp, by simpa using hlc, by simp, by simp [maxLen] at hcm ⊢; omega, fun _ => ⟨a, rfl, fun j p hj => ?_⟩⟩, fun y hy => ?_⟩
          · have hjl : j < len := by have := (List.getElem?_eq_some_iff.1 hj).1; simpa using this
            obtain ⟨y, c, hq, hl, hk, _, hcell⟩ := Classical.choose_spec (hx j) hjl
            have : p = y := by
              rw [List.getElem?_map, List.getElem?_range hjl] at hj
              simp only [Option.map_some, Option.some.injEq] at hj
              rw [← hj, hq]
              rfl
            subst this
            exact ⟨c, hl, hk, hcell⟩
          · rw [List.mem_map] at hy
            obtain ⟨j, hj, rfl⟩ := hy
            obtain ⟨y, c, hq, _, _, hv, _⟩ := Classical.choose_spec (hx j) (List.mem_range.1 hj)
            rw [hq]
            exact hv
      · cases h

/-- The fields of a struct, from an offset on. -/
structure OpensFs {α : Type} (P : Program) (fs : List Field) (o : Nat) (d : Kd α) (V : α → Prop) : Prop where
  out : ∀ (H : Type) (enc : TypeId × Value → H) (w : World) (fuel : Nat) (cs : List Value) (xs : List (DataW H × List MemPlace)), cs.length = o + d.sz →
    fs.mapM (fun f => DataW.trod enc P w 0 (fun _ => true) true fuel f.type ((cs.drop f.offset).take (P.cellsOf f.type))) = some xs → ∃ a, d.K w a (cs.drop o) ∧ V a

theorem opensFs_one {α : Type} {f : Field} {o : Nat} {d : Kd α} {V : α → Prop} (ho : f.offset = o) (hz : P.cellsOf f.type = d.sz) (hd : Opens P f.type d V) : OpensFs P [f] o d V := by
  constructor
  intro H enc w fuel cs xs hl h
  simp only [List.mapM_cons, List.mapM_nil, Option.bind_eq_bind, Option.bind_eq_some_iff, Option.pure_def] at h
  obtain ⟨b, hb, _⟩ := h
  rw [ho, hz, List.take_of_length_le (by simp; omega)] at hb
  exact hd.out H enc w fuel _ b.1 b.2 hb

theorem opensFs_cons {α β : Type} {f : Field} {fs : List Field} {o : Nat} {a : Kd α} {b : Kd β} {Va : α → Prop} {Vb : β → Prop} (ho : f.offset = o) (hz : P.cellsOf f.type = a.sz)
    (ha : Opens P f.type a Va) (hb : OpensFs P fs (o + a.sz) b Vb) : OpensFs P (f :: fs) o (Kd.pair a b) (fun x => Va x.1 ∧ Vb x.2) := by
  constructor
  intro H enc w fuel cs xs hl h
  have hl' : cs.length = o + a.sz + b.sz := by have : (Kd.pair a b).sz = a.sz + b.sz := rfl; omega
  simp only [List.mapM_cons, Option.bind_eq_bind, Option.bind_eq_some_iff, Option.pure_def] at h
  obtain ⟨y, hy, ys, hys, _⟩ := h
  rw [ho, hz] at hy
  obtain ⟨p, hp, vp⟩ := ha.out H enc w fuel _ y.1 y.2 hy
  obtain ⟨q, hq, vq⟩ := hb.out H enc w fuel cs ys hl' hys
  refine ⟨(p, q), ⟨(cs.drop o).take a.sz, cs.drop (o + a.sz), ?_, hp, hq⟩, vp, vq⟩
  rw [← List.drop_drop, List.take_append_drop]

theorem opens_struct {α β : Type} {t : TypeId} {fs : Array Field} {d : Kd α} {V : α → Prop} (f : β → α) (g : α → β) (hfg : ∀ a, f (g a) = a) (ht : P.underlying t = some (.struct fs)) (hz : P.cellsOf t = d.sz) (h : OpensFs P fs.toList 0 d V) :
    Opens P t (Kd.iso d f) (fun x => V (f x)) := by
  constructor
  intro H enc w fuel cs x ps hx
  cases fuel with
  | zero => simp [DataW.trod] at hx
  | succ fuel =>
    unfold DataW.trod at hx
    rw [ht] at hx
    simp only at hx
    split at hx
    · next hl =>
      rw [Option.map_eq_some_iff] at hx
      obtain ⟨xs, hm, _⟩ := hx
      obtain ⟨a, hk, hv⟩ := h.out H enc w fuel cs xs (by omega) hm
      exact ⟨g a, by show d.K w (f (g a)) cs; rw [hfg]; exact hk, by show V (f (g a)); rw [hfg]; exact hv⟩
    · cases hx
end Go.Proofs.YtbjhjimkljbjlaaOpen
