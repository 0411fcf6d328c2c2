/- Texts put together: Open, Pure, Base, Kinds, OpenB, Laid, PAx0, PAx1, PAx2, PAx7, PAx27, LayPrim, LayPrim2, WrPrim, LayList, LayRows, WrA, WrB, WrD, Caught, RefOut. -/
import Derived.Test.YtoomcdgnnibjlaaGreatWWords
import GoSem.ClaimChange
import Derived.WideShapes
import Derived.DataReads
import Derived.Below
import Derived.Test.YtoomcdgnnibjlaaGreatWMore
import Derived.Test.YtoomcdgnnibjlaaGreatProg
import Derived.Outline
import Derived.Deep.MidRow
import Derived.Lib.Hide
import Derived.ProofKit
import Derived.OpenShut
import Derived.ChangeOld
import Derived.Laws.CopyOwn
import Derived.Deep.Draws
import Derived.Deep.AppendLies
import Derived.Maps.AppendAt
import Derived.OwnWalk
import Derived.Laws.BytesArg
import Derived.Laws.MakeOwn
import Derived.Laws.OwnMore
import Derived.Deep.OwnRows
import Derived.Tactics
import Derived.Lib.ConvBytes
import Derived.Laws.Slices
import Derived.WalkKit
import Derived.KernelRfl
import Derived.RowKit3
import Derived.Deep.LoopGhost
import Derived.Deep.QuietTactic
import Derived.BigQuiet
import Derived.WideLaws
import Derived.Deep.DeepCutAuto
import Derived.Deep.CutBlock
import Derived.Deep.RegionHeld3
import Derived.Laws.Rows
import Derived.Lib.AppendStr
import Derived.ArgAppend
import Derived.Laws.IdiomCopy
import Derived.OrdersHeld
import Derived.Laws.BitsLemmas
import Derived.RowKit
import Derived.Test.YtoomcdgnnibjlaaGreatWLast
import Derived.Test.YtoomcdgnnibjlaaGreatWTab
import Derived.Test.YtoomcdgnnibjlaaGreatWFour
import Derived.Test.YtoomcdgnnibjlaaGreatWQPut
import Derived.Test.YtoomcdgnnibjlaaGreatWApart
import Derived.Test.YtoomcdgnnibjlaaGreatWArr
import Derived.Test.YtoomcdgnnibjlaaGreatWZeros
import Derived.Test.YtoomcdgnnibjlaaGreatWFoot
import Derived.Test.YtoomcdgnnibjlaaGreatWKept
import Derived.Test.YtoomcdgnnibjlaaGreatWShare
import Derived.Test.YtoomcdgnnibjlaaGreatWN
import Derived.Test.YtoomcdgnnibjlaaGreatWFootNe
import Derived.Test.YtoomcdgnnibjlaaGreatWAt
import Derived.Test.YtoomcdgnnibjlaaGreatWEqStruct
import Derived.Test.YtoomcdgnnibjlaaGreatWRepsOne
import Derived.Test.YtoomcdgnnibjlaaGreatWInv
import Derived.Test.YtoomcdgnnibjlaaGreatWInvWords
import Derived.Test.YtoomcdgnnibjlaaGreatWGuard
import Derived.Test.YtoomcdgnnibjlaaGreatWNEv
import Derived.Deep.RegionLaw
import Derived.Deep.DrawnRows
import Derived.Tactics2
import Derived.Defers
import Derived.Recover
import Derived.Laws.Pointers
/- What is read as data, told by its kind: whole numbers, bools, texts, rows, structs. -/
namespace Go.Proofs.YtoomcdgnnibjlaaGreatOpen
open Go Go.RowKit Go.Proofs.YtoomcdgnnibjlaaGreatW.PrintWords

/-- What is read at type t is of kind d, and V holds of it. -/
structure Opens {α : Type} (P : Program) (t : TypeId) (d : Kd α) (V : α → Prop) : Prop where
  out : ∀ (H : Type) (enc : TypeId × Value → H) (w : World) (fuel : Nat) (cs : List Value) (x : DataW H) (ps : List MemPlace),
    DataW.trod enc P w 0 (fun _ => true) true fuel t cs = some (x, ps) → ∃ a, d.K w a cs ∧ V a

variable {P : Program}

theorem opens_imp {α : Type} {t : TypeId} {d : Kd α} {V V' : α → Prop} (h : Opens P t d V) (hv : ∀ a, V a → V' a) : Opens P t d V' :=
  ⟨fun H enc w fuel cs x ps hx => by
    obtain ⟨a, hk, ha⟩ := h.out H enc w fuel cs x ps hx
    exact ⟨a, hk, hv a ha⟩⟩

theorem opens_int {t : TypeId} {k : IntKind} (ht : P.underlying t = some (.int k)) : Opens P t (Kd.int k) (fun n => (Lit.int k n).wf = true) := by
  constructor
  intro H enc w fuel cs x ps h
  cases fuel with
  | zero => simp [DataW.trod] at h
  | succ fuel =>
    unfold DataW.trod at h
    rw [ht] at h
    split at h <;> try (simp at *; done)
    next k0 k' n h1 =>
      cases h1
      split at h
      · next hc =>
        obtain ⟨rfl, hw⟩ := hc
        exact ⟨n, rfl, hw⟩
      · cases h

theorem opens_bool {t : TypeId} (ht : P.underlying t = some .bool) : Opens P t Kd.bool (fun _ => True) := by
  constructor
  intro H enc w fuel cs x ps h
  cases fuel with
  | zero => simp [DataW.trod] at h
  | succ fuel =>
    unfold DataW.trod at h
    rw [ht] at h
    split at h <;> try (simp at *; done)
    next b h1 => exact ⟨b, rfl, trivial⟩

theorem opens_string {t : TypeId} (ht : P.underlying t = some .string) : Opens P t Kd.string (fun s => s.size ≤ maxLen) := by
  constructor
  intro H enc w fuel cs x ps h
  cases fuel with
  | zero => simp [DataW.trod] at h
  | succ fuel =>
    unfold DataW.trod at h
    rw [ht] at h
    split at h <;> try (simp at *; done)
    next s h1 =>
      split at h
      · next hc => exact ⟨s, rfl, hc⟩
      · cases h

theorem mapM_range {β : Type} {f : Nat → Option β} : ∀ {n : Nat} {l : List β}, (List.range n).mapM f = some l → l.length = n ∧ ∀ i, i < n → ∃ b, f i = some b := by
  intro n
  induction n with
  | zero => intro l h; simp at h; subst h; exact ⟨rfl, fun i hi => absurd hi (by omega)⟩
  | succ n ih =>
    intro l h
    rw [List.range_succ, List.mapM_append] at h
    simp only [Option.bind_eq_bind, Option.bind_eq_some_iff, List.mapM_cons, List.mapM_nil, Option.pure_def, Option.some.injEq] at h
    obtain ⟨l1, h1, l2, ⟨b, hb, _, rfl, rfl⟩, rfl⟩ := h
    obtain ⟨e1, e2⟩ := ih h1
    refine ⟨by simp [e1], fun i hi => ?_⟩
    rcases Nat.lt_or_ge i n with hlt | hge
    · exact e2 i hlt
    · obtain rfl : i = n := by omega
      exact ⟨b, hb⟩

theorem cells_at {w : World} {a : Addr} {n : Nat} {cs : List Value} (h : w.cells? 0 a n = some cs) : cs.length = n ∧ ∀ i u, cs[i]? = some u → w.cell? (a.add i) = some u := by
  unfold World.cells? at h
  rw [if_pos (Nat.zero_le _)] at h
  have hl := (mapM_range h).1
  refine ⟨hl, fun i u hu => ?_⟩
  have hi : i < n := by have := (List.getElem?_eq_some_iff.1 hu).1; omega
  have key : ∀ (m : Nat) (l : List Value), (List.range m).mapM (fun i => w.cell? (a.add i)) = some l → ∀ j, j < m → ∃ v, l[j]? = some v ∧ w.cell? (a.add j) = some v := by
    intro m
    induction m with
    | zero => intro l _ j hj; omega
    | succ m ih =>
      intro l hl j hj
      rw [List.range_succ, List.mapM_append] at hl
      simp only [Option.bind_eq_bind, Option.bind_eq_some_iff, List.mapM_cons, List.mapM_nil, Option.pure_def, Option.some.injEq] at hl
      obtain ⟨l1, h1, l2, ⟨b, hb, _, rfl, rfl⟩, rfl⟩ := hl
      have e1 := (mapM_range h1).1
      rcases Nat.lt_or_ge j m with hlt | hge
      · obtain ⟨v, hv, hc⟩ := ih l1 h1 j hlt
        exact ⟨v, by rw [List.getElem?_append_left (by omega)]; exact hv, hc⟩
      · obtain rfl : j = m := by omega
        exact ⟨b, by rw [List.getElem?_append_right (by omega), e1]; simp, hb⟩
  obtain ⟨v, hv, hc⟩ := key n cs h i hi
  rw [hv] at hu
  cases hu
  exact hc

theorem add_add (a : Addr) (m i : Nat) : (a.add m).add i = a.add (m + i) := by
  unfold Addr.add
  by_cases hm : m = 0 <;> by_cases hi : i = 0 <;> simp [hm, hi, Nat.add_assoc]

theorem opens_slice {α : Type} {t e : TypeId} {d : Kd α} {V : α → Prop} (ht : P.underlying t = some (.slice e)) (hz : P.cellsOf e = d.sz) (hd : Opens P e d V) :
    Opens P t (Kd.slice e d) (fun xs => ∀ x ∈ xs, V x) := by
  constructor
  intro H enc w fuel cs x ps h
  cases fuel with
  | zero => simp [DataW.trod] at h
  | succ fuel =>
    unfold DataW.trod at h
    rw [ht] at h
    split at h <;> try (simp at *; done)
    next h1 => exact ⟨[], ⟨none, 0, rfl, Nat.le_refl _, rfl, by simp, fun hp => absurd hp (by simp)⟩, fun x hx => by cases hx⟩
    next e' a len cap h1 =>
      cases h1
      dsimp only at h
      split at h
      · next hc =>
        obtain ⟨_, hlc, hcm⟩ := hc
        rw [Option.bind_eq_some_iff] at h
        obtain ⟨elems, hel, _⟩ := h
        have hall := (mapM_range hel).2
        have hx : ∀ j : Nat, ∃ q : Option (α × List Value), j < len → ∃ y c, q = some (y, c) ∧ c.length = d.sz ∧ d.K w y c ∧ V y ∧ ∀ i u, c[i]? = some u → w.cell? (a.add (j * d.sz + i)) = some u := by
          intro j
          by_cases hj : j < len
          · obtain ⟨b, hb⟩ := hall j hj
            rw [Option.bind_eq_some_iff] at hb
            obtain ⟨c, hc1, hc2⟩ := hb
            obtain ⟨hl, hcell⟩ := cells_at hc1
            obtain ⟨y, hk, hv⟩ := hd.out H enc w fuel c b.1 b.2 hc2
            refine ⟨some (y, c), fun _ => ⟨y, c, rfl, by rw [hl, hz], hk, hv, fun i u hu => ?_⟩⟩
            have := hcell i u hu
            rwa [add_add, hz] at this
          · exact ⟨none, fun hp => absurd hp hj⟩
        have hne : ∀ j, j < len → ((Classical.choose (hx j)).isSome = true) := fun j hj => by
          obtain ⟨y, c, hq, _⟩ := Classical.choose_spec (hx j) hj
          rw [hq]; rfl
        rcases Nat.eq_zero_or_pos len with h0 | h0
        · subst h0
          exact ⟨[], ⟨some a, cap, rfl, by simp, rfl, by simp, fun hp => absurd hp (by simp)⟩, fun x hx => by cases hx⟩
        · obtain ⟨y0, _⟩ : ∃ y : α, True := by
            obtain ⟨y, c, _⟩ := Classical.choose_spec (hx 0) h0
            exact ⟨y, trivial⟩
          refine ⟨(List.range len).map fun j => ((Classical.choose (hx j)).map (·.1)).getD y0, ⟨some a, cap, by simp, by simpa using hlc, by simp, by simp [maxLen] at hcm ⊢; omega, fun _ => ⟨a, rfl, fun j p hj => ?_⟩⟩, fun y hy => ?_⟩
          · have hjl : j < len := by have := (List.getElem?_eq_some_iff.1 hj).1; simpa using this
            obtain ⟨y, c, hq, hl, hk, _, hcell⟩ := Classical.choose_spec (hx j) hjl
            have : p = y := by
              rw [List.getElem?_map, List.getElem?_range hjl] at hj
              simp only [Option.map_some, Option.some.injEq] at hj
              rw [← hj, hq]
              rfl
            subst this
            exact ⟨c, hl, hk, hcell⟩
          · rw [List.mem_map] at hy
            obtain ⟨j, hj, rfl⟩ := hy
            obtain ⟨y, c, hq, _, _, hv, _⟩ := Classical.choose_spec (hx j) (List.mem_range.1 hj)
            rw [hq]
            exact hv
      · cases h

/-- The fields of a struct, from an offset on. -/
structure OpensFs {α : Type} (P : Program) (fs : List Field) (o : Nat) (d : Kd α) (V : α → Prop) : Prop where
  out : ∀ (H : Type) (enc : TypeId × Value → H) (w : World) (fuel : Nat) (cs : List Value) (xs : List (DataW H × List MemPlace)), cs.length = o + d.sz →
    fs.mapM (fun f => DataW.trod enc P w 0 (fun _ => true) true fuel f.type ((cs.drop f.offset).take (P.cellsOf f.type))) = some xs → ∃ a, d.K w a (cs.drop o) ∧ V a

theorem opensFs_one {α : Type} {f : Field} {o : Nat} {d : Kd α} {V : α → Prop} (ho : f.offset = o) (hz : P.cellsOf f.type = d.sz) (hd : Opens P f.type d V) : OpensFs P [f] o d V := by
  constructor
  intro H enc w fuel cs xs hl h
  simp only [List.mapM_cons, List.mapM_nil, Option.bind_eq_bind, Option.bind_eq_some_iff, Option.pure_def] at h
  obtain ⟨b, hb, _⟩ := h
  rw [ho, hz, List.take_of_length_le (by simp; omega)] at hb
  exact hd.out H enc w fuel _ b.1 b.2 hb

theorem opensFs_cons {α β : Type} {f : Field} {fs : List Field} {o : Nat} {a : Kd α} {b : Kd β} {Va : α → Prop} {Vb : β → Prop} (ho : f.offset = o) (hz : P.cellsOf f.type = a.sz)
    (ha : Opens P f.type a Va) (hb : OpensFs P fs (o + a.sz) b Vb) : OpensFs P (f :: fs) o (Kd.pair a b) (fun x => Va x.1 ∧ Vb x.2) := by
  constructor
  intro H enc w fuel cs xs hl h
  have hl' : cs.length = o + a.sz + b.sz := by have : (Kd.pair a b).sz = a.sz + b.sz := rfl; omega
  simp only [List.mapM_cons, Option.bind_eq_bind, Option.bind_eq_some_iff, Option.pure_def] at h
  obtain ⟨y, hy, ys, hys, _⟩ := h
  rw [ho, hz] at hy
  obtain ⟨p, hp, vp⟩ := ha.out H enc w fuel _ y.1 y.2 hy
  obtain ⟨q, hq, vq⟩ := hb.out H enc w fuel cs ys hl' hys
  refine ⟨(p, q), ⟨(cs.drop o).take a.sz, cs.drop (o + a.sz), ?_, hp, hq⟩, vp, vq⟩
  rw [← List.drop_drop, List.take_append_drop]

theorem opens_struct {α β : Type} {t : TypeId} {fs : Array Field} {d : Kd α} {V : α → Prop} (f : β → α) (g : α → β) (hfg : ∀ a, f (g a) = a) (ht : P.underlying t = some (.struct fs)) (hz : P.cellsOf t = d.sz) (h : OpensFs P fs.toList 0 d V) :
    Opens P t (Kd.iso d f) (fun x => V (f x)) := by
  constructor
  intro H enc w fuel cs x ps hx
  cases fuel with
  | zero => simp [DataW.trod] at hx
  | succ fuel =>
    unfold DataW.trod at hx
    rw [ht] at hx
    simp only at hx
    split at hx
    · next hl =>
      rw [Option.map_eq_some_iff] at hx
      obtain ⟨xs, hm, _⟩ := hx
      obtain ⟨a, hk, hv⟩ := h.out H enc w fuel cs xs (by omega) hm
      exact ⟨g a, by show d.K w (f (g a)) cs; rw [hfg]; exact hk, by show V (f (g a)); rw [hfg]; exact hv⟩
    · cases hx
theorem opens_pairs {α : Type} {t : TypeId} {fs : Array Field} {d : Kd α} {V : α → Prop} (ht : P.underlying t = some (.struct fs)) (hz : P.cellsOf t = d.sz) (h : OpensFs P fs.toList 0 d V) :
    Opens P t d V := by
  constructor
  intro H enc w fuel cs x ps hx
  cases fuel with
  | zero => simp [DataW.trod] at hx
  | succ fuel =>
    unfold DataW.trod at hx
    rw [ht] at hx
    simp only at hx
    split at hx
    · next hl =>
      rw [Option.map_eq_some_iff] at hx
      obtain ⟨xs, hm, _⟩ := hx
      obtain ⟨a, hk, hv⟩ := h.out H enc w fuel cs xs (by omega) hm
      exact ⟨a, hk, hv⟩
    · cases hx
theorem open_num {t : TypeId} (ht : P.underlying t = some (.int .i64)) : Opens P t (Kd.int .i64) (fun _ => True) := opens_imp (opens_int ht) (fun _ _ => trivial)
theorem open_i64 {t : TypeId} (ht : P.underlying t = some (.int .i64)) : Opens P t (Kd.int .i64) (fun n => -9223372036854775808 ≤ n ∧ n ≤ 9223372036854775807) :=
  opens_imp (opens_int ht) (fun n h => by
    have h' : (decide (IntKind.i64.min ≤ n) && decide (n ≤ IntKind.i64.max)) = true := h
    rw [Bool.and_eq_true, decide_eq_true_eq, decide_eq_true_eq] at h'
    exact h')
theorem open_text {t : TypeId} (ht : P.underlying t = some .string) : Opens P t Kd.string (fun _ => True) := opens_imp (opens_string ht) (fun _ _ => trivial)
end Go.Proofs.YtoomcdgnnibjlaaGreatOpen
/- The bytes of layer 3 by plain Lean: what is laid, what is read, and the laws between the two. No Go. -/
namespace Go.Proofs.YtoomcdgnnibjlaaGreat.Wr
open Go.Proofs.YtoomcdgnnibjlaaGreatW.PrintWords
set_option linter.unusedVariables false

abbrev Bs := List Int
abbrev Er := Except Int Bs

/-! #### laying -/
def nop : Er := .ok []
def cat (a b : Er) : Er :=
  match a with
  | .error c => .error c
  | .ok x => match b with
    | .error c => .error c
    | .ok y => .ok (x ++ y)
theorem cat_err (c : Int) (b : Er) : cat (.error c) b = .error c := rfl
theorem cat_ok_err (x : Bs) (c : Int) : cat (.ok x) (.error c) = .error c := rfl
theorem cat_ok_ok (x y : Bs) : cat (.ok x) (.ok y) = .ok (x ++ y) := rfl
theorem cat_nop (a : Er) : cat a nop = a := by
  cases a <;> simp [cat, nop]
theorem nop_cat (a : Er) : cat nop a = a := by
  cases a <;> simp [cat, nop]
theorem cat_assoc (a b c : Er) : cat (cat a b) c = cat a (cat b c) := by
  cases a <;> cases b <;> cases c <;> simp [cat]
theorem cat_ok {a b : Er} {z : Bs} (h : cat a b = .ok z) : ∃ x y, a = .ok x ∧ b = .ok y ∧ z = x ++ y := by
  cases a with
  | error c => simp [cat] at h
  | ok x =>
    cases b with
    | error c => simp [cat] at h
    | ok y => simp [cat] at h; exact ⟨x, y, rfl, rfl, h.symm⟩
def cats : List Er → Er
  | [] => nop
  | a :: l => cat a (cats l)
theorem cats_append (l m : List Er) : cats (l ++ m) = cat (cats l) (cats m) := by
  induction l with
  | nil => simp [cats, nop_cat]
  | cons a l ih => simp [cats, ih, cat_assoc]

def lows : Int → Nat → Bs
  | _, 0 => []
  | v, n + 1 => v % 256 :: lows (v / 256) n
theorem lows_length : ∀ (n : Nat) (v : Int), (lows v n).length = n := by
  intro n
  induction n with
  | zero => intro v; rfl
  | succ n ih => intro v; simp [lows, ih]
def of : Bs → Int
  | [] => 0
  | b :: l => b + 256 * of l
def IsB (l : Bs) : Prop := ∀ b ∈ l, 0 ≤ b ∧ b < 256
theorem IsB.append {l m : Bs} (h : IsB l) (k : IsB m) : IsB (l ++ m) := fun b hb => by
  rcases List.mem_append.1 hb with hb | hb
  · exact h b hb
  · exact k b hb
theorem IsB.left {l m : Bs} (h : IsB (l ++ m)) : IsB l := fun b hb => h b (List.mem_append_left _ hb)
theorem IsB.right {l m : Bs} (h : IsB (l ++ m)) : IsB m := fun b hb => h b (List.mem_append_right _ hb)
theorem IsB.take {l : Bs} (h : IsB l) (n : Nat) : IsB (l.take n) := fun b hb => h b (List.mem_of_mem_take hb)
theorem IsB.drop {l : Bs} (h : IsB l) (n : Nat) : IsB (l.drop n) := fun b hb => h b (List.mem_of_mem_drop hb)
theorem lows_isB : ∀ (n : Nat) (v : Int), IsB (lows v n) := by
  intro n
  induction n with
  | zero => intro v b hb; simp [lows] at hb
  | succ n ih =>
    intro v b hb
    simp only [lows, List.mem_cons] at hb
    rcases hb with rfl | hb
    · omega
    · exact ih _ b hb
theorem lows_of : ∀ (l : Bs), IsB l → lows (of l) l.length = l := by
  intro l
  induction l with
  | nil => intro _; rfl
  | cons b l ih =>
    intro h
    have h1 := h b (by simp)
    have h2 := ih (fun c hc => h c (by simp [hc]))
    show (b + 256 * of l) % 256 :: lows ((b + 256 * of l) / 256) l.length = b :: l
    rw [show (b + 256 * of l) % 256 = b by omega, show (b + 256 * of l) / 256 = of l by omega, h2]
theorem of_lows : ∀ (n : Nat) (v : Int), 0 ≤ v → v < 256 ^ n → of (lows v n) = v := by
  intro n
  induction n with
  | zero => intro v h0 h1; simp at h1; simp [lows, of]; omega
  | succ n ih =>
    intro v h0 h1
    simp only [lows, of]
    rw [ih (v / 256) (by omega) (by rw [Int.pow_succ] at h1; omega)]
    omega
theorem of_range : ∀ (l : Bs), IsB l → 0 ≤ of l ∧ of l < 256 ^ l.length := by
  intro l
  induction l with
  | nil => intro _; simp [of]
  | cons b l ih =>
    intro h
    have h1 := h b (by simp)
    have h2 := ih (fun c hc => h c (by simp [hc]))
    simp only [of, List.length_cons, Int.pow_succ]
    omega
theorem of_append : ∀ (l m : Bs), of (l ++ m) = of l + 256 ^ l.length * of m := by
  intro l m
  induction l with
  | nil => simp [of]
  | cons b l ih =>
    simp only [List.cons_append, of, ih, List.length_cons, Int.pow_succ]
    rw [Int.mul_add, ← Int.mul_assoc, Int.mul_comm 256 (256 ^ l.length)]
    omega

def eNum (n : Int) : Er := if 0 ≤ n ∧ n ≤ 1000000000 then .ok (lows n 4) else .error 1
def eInt (n : Int) : Er := .ok (lows (n % 18446744073709551616) 8)
def eText (t : ByteArray) : Er := if t.size ≤ 65536 then .ok (lows t.size 4 ++ bytesOf t) else .error 2
def eFlag (b : Bool) : Er := .ok [if b then 1 else 0]
def eList {α : Type} (e : α → Er) (l : List α) : Er := if 4096 < l.length then .error 2 else cat (eNum l.length) (cats (l.map e))

/-! #### how much may be laid of a thing, at most -/
def wText (t : ByteArray) : Nat := if t.size ≤ 65536 then 4 + t.size else 0
def wSum {α : Type} (w : α → Nat) : List α → Nat
  | [] => 0
  | x :: l => w x + wSum w l
def wList {α : Type} (w : α → Nat) (l : List α) : Nat := if 4096 < l.length then 0 else 4 + wSum w l
theorem wSum_append {α : Type} (w : α → Nat) (l m : List α) : wSum w (l ++ m) = wSum w l + wSum w m := by
  induction l with
  | nil => simp [wSum]
  | cons x l ih => simp [wSum, ih]; omega
theorem wSum_take {α : Type} (w : α → Nat) (l : List α) (k : Nat) (hk : k < l.length) : wSum w (l.take (k + 1)) = wSum w (l.take k) + w l[k] := by
  rw [List.take_succ_eq_append_getElem hk, wSum_append]; rfl
theorem wSum_le {α : Type} (w : α → Nat) (l : List α) (k : Nat) : wSum w (l.take k) ≤ wSum w l := by
  conv => rhs; rw [← List.take_append_drop k l, wSum_append]
  omega
theorem cats_take {α : Type} (e : α → Er) (l : List α) (k : Nat) (hk : k < l.length) : cats ((l.take (k + 1)).map e) = cat (cats ((l.take k).map e)) (e l[k]) := by
  rw [List.take_succ_eq_append_getElem hk, List.map_append, cats_append]
  simp [cats, cat_nop]
theorem cats_split {α : Type} (e : α → Er) (l : List α) (k : Nat) : cats (l.map e) = cat (cats ((l.take k).map e)) (cats ((l.drop k).map e)) := by
  rw [← cats_append, ← List.map_append, List.take_append_drop]
/-- A fault at element k is the list's. -/
theorem cats_fault {α : Type} (e : α → Er) (l : List α) (k : Nat) (hk : k < l.length) {b : Bs} {c : Int} (h : cats ((l.take k).map e) = .ok b) (h1 : e l[k] = .error c) : cats (l.map e) = .error c := by
  rw [cats_split e l (k + 1), cats_take e l k hk, h, h1]
  rfl

/-! #### reading -/
abbrev Dc (α : Type) := Bs → Option (α × Bs)
def dNum : Dc Int := fun l => if l.length < 4 then none else if 1000000000 < of (l.take 4) then none else some (of (l.take 4), l.drop 4)
def s64 (v : Int) : Int := if v < 9223372036854775808 then v else v - 18446744073709551616
def dInt : Dc Int := fun l => if l.length < 8 then none else some (s64 (of (l.take 8)), l.drop 8)
def toBA (l : Bs) : ByteArray := ⟨(l.map fun b => UInt8.ofNat b.toNat).toArray⟩
def dText : Dc ByteArray := fun l => if l.length < 4 then none else if 65536 < of (l.take 4) then none else if (l.length : Int) - 4 < of (l.take 4) then none else some (toBA ((l.drop 4).take (of (l.take 4)).toNat), l.drop (4 + (of (l.take 4)).toNat))
def dFlag : Dc Bool
  | [] => none
  | b :: l => if b ≤ 1 then some (decide (b = 1), l) else none
def dTimes {α : Type} (d : Dc α) : Nat → Dc (List α)
  | 0 => fun l => some ([], l)
  | n + 1 => fun l => (d l).bind fun p => (dTimes d n p.2).map fun q => (p.1 :: q.1, q.2)
def dList {α : Type} (d : Dc α) : Dc (List α) := fun l => (dNum l).bind fun p => if 4096 < p.1 then none else dTimes d p.1.toNat p.2
def dPair {α β : Type} (d : Dc α) (e : Dc β) : Dc (α × β) := fun l => (d l).bind fun p => (e p.2).map fun q => ((p.1, q.1), q.2)
def dIso {α β : Type} (f : α → β) (d : Dc α) : Dc β := fun l => (d l).map fun p => (f p.1, p.2)

theorem dTimes_snoc {α : Type} (d : Dc α) : ∀ (n : Nat) (l : Bs), dTimes d (n + 1) l = (dTimes d n l).bind fun p => (d p.2).map fun q => (p.1 ++ [q.1], q.2) := by
  intro n
  induction n with
  | zero =>
    intro l
    show ((d l).bind fun p => (some (([] : List α), p.2)).map fun q => (p.1 :: q.1, q.2)) = (d l).map fun q => ([] ++ [q.1], q.2)
    cases d l <;> rfl
  | succ n ih =>
    intro l
    show ((d l).bind fun p => (dTimes d (n + 1) p.2).map fun q => (p.1 :: q.1, q.2)) = ((d l).bind fun p => (dTimes d n p.2).map fun q => (p.1 :: q.1, q.2)).bind fun p => (d p.2).map fun q => (p.1 ++ [q.1], q.2)
    cases h : d l with
    | none => rfl
    | some p =>
      show (dTimes d (n + 1) p.2).map (fun q => (p.1 :: q.1, q.2)) = ((dTimes d n p.2).map fun q => (p.1 :: q.1, q.2)).bind fun p => (d p.2).map fun q => (p.1 ++ [q.1], q.2)
      rw [ih]
      cases h2 : dTimes d n p.2 with
      | none => rfl
      | some q =>
        show ((d q.2).map fun r => (q.1 ++ [r.1], r.2)).map (fun q => (p.1 :: q.1, q.2)) = (d q.2).map fun r => (p.1 :: q.1 ++ [r.1], r.2)
        cases d q.2 <;> rfl

/-! #### the laws between the two -/
structure Cod {α : Type} (e : α → Er) (d : Dc α) (w : α → Nat) (V : α → Prop) : Prop where
  len : ∀ x b, e x = .ok b → b.length = w x
  there : ∀ x b r, V x → e x = .ok b → d (b ++ r) = some (x, r)
  back : ∀ l x r, IsB l → d l = some (x, r) → ∃ b, e x = .ok b ∧ l = b ++ r
  err : ∀ x c, e x = .error c → c = 1 ∨ c = 2
  isB : ∀ x b, e x = .ok b → IsB b

theorem u8_of (b : Int) (h0 : 0 ≤ b) (h1 : b < 256) : ((UInt8.ofNat b.toNat).toNat : Int) = b := by
  rw [UInt8.toNat_ofNat_of_lt' (by show b.toNat < 256; omega)]; omega
theorem bytesOf_toBA (l : Bs) (h : IsB l) : bytesOf (toBA l) = l := by
  unfold bytesOf toBA
  simp only [List.map_map]
  conv => rhs; rw [← List.map_id l]
  refine List.map_congr_left fun b hb => ?_
  exact u8_of b (h b hb).1 (h b hb).2
theorem toBA_bytesOf (s : ByteArray) : toBA (bytesOf s) = s := by
  unfold bytesOf toBA
  rw [List.map_map]
  have : s.data.toList.map ((fun b : Int => UInt8.ofNat b.toNat) ∘ fun b : UInt8 => (b.toNat : Int)) = s.data.toList := by
    conv => rhs; rw [← List.map_id s.data.toList]
    refine List.map_congr_left fun b _ => ?_
    simp
  rw [this]
theorem toBA_size (l : Bs) : (toBA l).size = l.length := by simp [toBA, ByteArray.size]
theorem bytesOf_isB (s : ByteArray) : IsB (bytesOf s) := fun b hb => by
  simp only [bytesOf, List.mem_map] at hb
  obtain ⟨c, _, rfl⟩ := hb
  exact ⟨Int.natCast_nonneg _, by have := c.toNat_lt; omega⟩

theorem p4 : (256 : Int) ^ 4 = 4294967296 := by decide
theorem cod_num : Cod eNum dNum (fun _ => 4) (fun _ => True) where
  len := by
    intro x b h
    unfold eNum at h
    split at h
    · cases h; exact lows_length _ _
    · cases h
  there := by
    intro x b r _ h
    unfold eNum at h
    split at h
    · next hx =>
      cases h
      unfold dNum
      have hl := lows_length 4 x
      rw [if_neg (by rw [List.length_append, hl]; omega), List.take_left' hl, List.drop_left' hl, of_lows 4 x (by omega) (by rw [p4]; omega), if_neg (by omega)]
    · cases h
  back := by
    intro l x r hB h
    unfold dNum at h
    split at h
    · cases h
    · next h4 =>
      split at h
      · cases h
      · next hm =>
        simp only [Option.some.injEq, Prod.mk.injEq] at h
        obtain ⟨rfl, rfl⟩ := h
        have hr := of_range (l.take 4) (hB.take 4)
        refine ⟨l.take 4, ?_, (List.take_append_drop 4 l).symm⟩
        unfold eNum
        rw [if_pos ⟨hr.1, by omega⟩]
        have := lows_of (l.take 4) (hB.take 4)
        rw [List.length_take, Nat.min_eq_left (by omega)] at this
        rw [this]
  err := by
    intro x c h
    unfold eNum at h
    split at h
    · cases h
    · cases h; exact .inl rfl
  isB := by
    intro x b h
    unfold eNum at h
    split at h
    · cases h; exact lows_isB _ _
    · cases h

theorem p8 : (256 : Int) ^ 8 = 18446744073709551616 := by decide
theorem cod_int : Cod eInt dInt (fun _ => 8) (fun n => -9223372036854775808 ≤ n ∧ n ≤ 9223372036854775807) where
  len := by
    intro x b h; cases h; exact lows_length _ _
  there := by
    intro x b r hV h
    cases h
    unfold dInt
    have hl := lows_length 8 (x % 18446744073709551616)
    rw [if_neg (by rw [List.length_append, hl]; omega), List.take_left' hl, List.drop_left' hl, of_lows 8 _ (by omega) (by rw [p8]; omega)]
    congr 2
    unfold s64
    split <;> omega
  back := by
    intro l x r hB h
    unfold dInt at h
    split at h
    · cases h
    · next h8 =>
      simp only [Option.some.injEq, Prod.mk.injEq] at h
      obtain ⟨rfl, rfl⟩ := h
      have hl : (l.take 8).length = 8 := by rw [List.length_take]; omega
      have hr := of_range (l.take 8) (hB.take 8)
      rw [hl, p8] at hr
      refine ⟨l.take 8, ?_, (List.take_append_drop 8 l).symm⟩
      unfold eInt
      have := lows_of (l.take 8) (hB.take 8)
      rw [hl] at this
      rw [show s64 (of (l.take 8)) % 18446744073709551616 = of (l.take 8) by unfold s64; split <;> omega, this]
  err := by intro x c h; cases h
  isB := by intro x b h; cases h; exact lows_isB _ _

theorem cod_flag : Cod eFlag dFlag (fun _ => 1) (fun _ => True) where
  len := by
    intro x b h; cases h; rfl
  there := by
    intro x b r _ h
    cases h
    cases x <;> simp [dFlag]
  back := by
    intro l x r hB h
    cases l with
    | nil => cases h
    | cons b l =>
      simp only [dFlag] at h
      split at h
      · next h1 =>
        simp only [Option.some.injEq, Prod.mk.injEq] at h
        obtain ⟨rfl, rfl⟩ := h
        have h0 := hB b (by simp)
        refine ⟨[b], ?_, rfl⟩
        unfold eFlag
        by_cases h2 : b = 1
        · simp [h2]
        · have : b = 0 := by omega
          simp [this]
      · cases h
  err := by intro x c h; cases h
  isB := by
    intro x b h
    cases h
    intro c hc
    simp at hc
    subst hc
    cases x <;> simp

theorem cod_text : Cod eText dText wText (fun _ => True) where
  len := by
    intro x b h
    unfold eText at h
    split at h
    · next hx => cases h; rw [List.length_append, lows_length, bytesOf_length, wText, if_pos hx]
    · cases h
  there := by
    intro x b r _ h
    unfold eText at h
    split at h
    · next hx =>
      cases h
      unfold dText
      have hl := lows_length 4 (x.size : Int)
      have hb := bytesOf_length x
      have h1 : (lows (x.size : Int) 4 ++ bytesOf x ++ r).take 4 = lows (x.size : Int) 4 := by rw [List.append_assoc, List.take_left' hl]
      have h2 : (lows (x.size : Int) 4 ++ bytesOf x ++ r).drop 4 = bytesOf x ++ r := by rw [List.append_assoc, List.drop_left' hl]
      have h3 : of (lows (x.size : Int) 4) = x.size := of_lows 4 _ (by omega) (by rw [p4]; omega)
      have h5 : (lows (x.size : Int) 4 ++ bytesOf x ++ r).length = 4 + x.size + r.length := by simp [hl, hb]; omega
      rw [h1, h2, h3, if_neg (by omega), if_neg (by omega), if_neg (by omega), Int.toNat_natCast, List.take_left' hb, toBA_bytesOf, List.append_assoc, ← List.drop_drop, List.drop_left' hl, List.drop_left' hb]
    · cases h
  back := by
    intro l x r hB h
    unfold dText at h
    split at h
    · cases h
    · next h4 =>
      split at h
      · cases h
      · next hm =>
        split at h
        · cases h
        · next hk =>
          simp only [Option.some.injEq, Prod.mk.injEq] at h
          obtain ⟨rfl, rfl⟩ := h
          have hl : (l.take 4).length = 4 := by rw [List.length_take]; omega
          have hr := of_range (l.take 4) (hB.take 4)
          have hlo := lows_of (l.take 4) (hB.take 4)
          rw [hl] at hlo
          generalize of (l.take 4) = n at *
          have hs : ((l.drop 4).take n.toNat).length = n.toNat := by rw [List.length_take, List.length_drop]; omega
          refine ⟨l.take 4 ++ (l.drop 4).take n.toNat, ?_, ?_⟩
          · unfold eText
            rw [toBA_size, hs, if_pos (by omega), bytesOf_toBA _ ((hB.drop 4).take _), show ((n.toNat : Nat) : Int) = n by omega, hlo]
          · rw [List.append_assoc, ← List.drop_drop, List.take_append_drop, List.take_append_drop]
  err := by
    intro x c h
    unfold eText at h
    split at h
    · cases h
    · cases h; exact .inr rfl
  isB := by
    intro x b h
    unfold eText at h
    split at h
    · cases h; exact (lows_isB _ _).append (bytesOf_isB x)
    · cases h

theorem cod_pair {α β : Type} {e : α → Er} {d : Dc α} {w : α → Nat} {V : α → Prop} {e' : β → Er} {d' : Dc β} {w' : β → Nat} {V' : β → Prop} (h : Cod e d w V) (h' : Cod e' d' w' V') :
    Cod (fun p : α × β => cat (e p.1) (e' p.2)) (dPair d d') (fun p => w p.1 + w' p.2) (fun p => V p.1 ∧ V' p.2) where
  len := by
    intro x b hx
    obtain ⟨b1, b2, h1, h2, rfl⟩ := cat_ok hx
    rw [List.length_append, h.len _ _ h1, h'.len _ _ h2]
  there := by
    intro x b r hV hx
    obtain ⟨b1, b2, h1, h2, rfl⟩ := cat_ok hx
    unfold dPair
    rw [List.append_assoc, h.there _ _ _ hV.1 h1]
    simp only [Option.bind_some]
    rw [h'.there _ _ _ hV.2 h2]
    rfl
  back := by
    intro l x r hB hx
    unfold dPair at hx
    cases h1 : d l with
    | none => simp [h1] at hx
    | some p =>
      simp only [h1, Option.bind_some, Option.map_eq_some_iff] at hx
      obtain ⟨q, h2, h3⟩ := hx
      cases h3
      obtain ⟨b1, k1, rfl⟩ := h.back l _ _ hB h1
      obtain ⟨b2, k2, k3⟩ := h'.back _ _ _ hB.right h2
      refine ⟨b1 ++ b2, ?_, ?_⟩
      · simp only [k1, k2, cat]
      · rw [k3, List.append_assoc]
  err := by
    intro x c hx
    cases h1 : e x.1 with
    | error c' => simp only [h1, cat] at hx; cases hx; exact h.err _ _ h1
    | ok b =>
      cases h2 : e' x.2 with
      | error c' => simp only [h1, h2, cat] at hx; cases hx; exact h'.err _ _ h2
      | ok b' => simp only [h1, h2, cat] at hx; cases hx
  isB := by
    intro x b hx
    obtain ⟨b1, b2, h1, h2, rfl⟩ := cat_ok hx
    exact (h.isB _ _ h1).append (h'.isB _ _ h2)

theorem cod_iso {α β : Type} {e : α → Er} {d : Dc α} {w : α → Nat} {V : α → Prop} (h : Cod e d w V) (f : α → β) (g : β → α) (hfg : ∀ x, f (g x) = x) (hgf : ∀ x, g (f x) = x) :
    Cod (fun x => e (g x)) (dIso f d) (fun x => w (g x)) (fun x => V (g x)) where
  len := by
    intro x b hx; exact h.len _ _ hx
  there := by
    intro x b r hV hx
    unfold dIso
    rw [h.there _ _ _ hV hx]
    simp [hfg]
  back := by
    intro l x r hB hx
    unfold dIso at hx
    simp only [Option.map_eq_some_iff] at hx
    obtain ⟨p, h1, h2⟩ := hx
    cases h2
    obtain ⟨b, k1, k2⟩ := h.back l _ _ hB h1
    exact ⟨b, by rw [hgf]; exact k1, k2⟩
  err := by intro x c hx; exact h.err _ _ hx
  isB := by intro x b hx; exact h.isB _ _ hx

theorem times_there {α : Type} {e : α → Er} {d : Dc α} {w : α → Nat} {V : α → Prop} (h : Cod e d w V) : ∀ (xs : List α) (b r : Bs), (∀ x ∈ xs, V x) → cats (xs.map e) = .ok b → dTimes d xs.length (b ++ r) = some (xs, r) := by
  intro xs
  induction xs with
  | nil => intro b r _ hx; simp [cats, nop] at hx; subst hx; simp [dTimes]
  | cons x xs ih =>
    intro b r hV hx
    simp only [List.map_cons, cats] at hx
    obtain ⟨b1, b2, h1, h2, rfl⟩ := cat_ok hx
    simp only [List.length_cons, dTimes]
    rw [List.append_assoc, h.there _ _ _ (hV x (by simp)) h1]
    simp only [Option.bind_some]
    rw [ih _ _ (fun y hy => hV y (by simp [hy])) h2]
    rfl
theorem times_back {α : Type} {e : α → Er} {d : Dc α} {w : α → Nat} {V : α → Prop} (h : Cod e d w V) : ∀ (n : Nat) (l : Bs) (xs : List α) (r : Bs), IsB l → dTimes d n l = some (xs, r) → xs.length = n ∧ ∃ b, cats (xs.map e) = .ok b ∧ l = b ++ r := by
  intro n
  induction n with
  | zero => intro l xs r _ hx; simp only [dTimes] at hx; cases hx; exact ⟨rfl, [], rfl, rfl⟩
  | succ n ih =>
    intro l xs r hB hx
    simp only [dTimes] at hx
    cases h1 : d l with
    | none => simp [h1] at hx
    | some p =>
      simp only [h1, Option.bind_some, Option.map_eq_some_iff] at hx
      obtain ⟨q, h2, h3⟩ := hx
      cases h3
      obtain ⟨b1, k1, rfl⟩ := h.back l _ _ hB h1
      obtain ⟨hn, b2, k2, k3⟩ := ih _ _ _ hB.right h2
      refine ⟨by simp [hn], b1 ++ b2, ?_, ?_⟩
      · simp only [List.map_cons, cats, k1, k2, cat]
      · rw [k3, List.append_assoc]
theorem cats_err {α : Type} {e : α → Er} (he : ∀ x c, e x = .error c → c = 1 ∨ c = 2) : ∀ (xs : List α) (c : Int), cats (xs.map e) = .error c → c = 1 ∨ c = 2 := by
  intro xs
  induction xs with
  | nil => intro c h; cases h
  | cons x xs ih =>
    intro c h
    simp only [List.map_cons, cats] at h
    cases h1 : e x with
    | error c' => simp only [h1, cat] at h; cases h; exact he _ _ h1
    | ok b =>
      cases h2 : cats (xs.map e) with
      | error c' => simp only [h1, h2, cat] at h; cases h; exact ih _ h2
      | ok b' => simp only [h1, h2, cat] at h; cases h
theorem cats_isB {α : Type} {e : α → Er} (he : ∀ x b, e x = .ok b → IsB b) : ∀ (xs : List α) (b : Bs), cats (xs.map e) = .ok b → IsB b := by
  intro xs
  induction xs with
  | nil => intro b h; cases h; intro c hc; cases hc
  | cons x xs ih =>
    intro b h
    simp only [List.map_cons, cats] at h
    obtain ⟨b1, b2, h1, h2, rfl⟩ := cat_ok h
    exact (he _ _ h1).append (ih _ h2)
theorem cats_len {α : Type} {e : α → Er} {w : α → Nat} (he : ∀ x b, e x = .ok b → b.length = w x) : ∀ (xs : List α) (b : Bs), cats (xs.map e) = .ok b → b.length = wSum w xs := by
  intro xs
  induction xs with
  | nil => intro b h; cases h; rfl
  | cons x xs ih =>
    intro b h
    simp only [List.map_cons, cats] at h
    obtain ⟨b1, b2, h1, h2, rfl⟩ := cat_ok h
    rw [List.length_append, he _ _ h1, ih _ h2]; rfl
theorem cod_list {α : Type} {e : α → Er} {d : Dc α} {w : α → Nat} {V : α → Prop} (h : Cod e d w V) : Cod (eList e) (dList d) (wList w) (fun xs => ∀ x ∈ xs, V x) where
  len := by
    intro x b hx
    unfold eList at hx
    split at hx
    · cases hx
    · next h4 =>
      obtain ⟨b1, b2, h1, h2, rfl⟩ := cat_ok hx
      rw [List.length_append, cod_num.len _ _ h1, cats_len h.len _ _ h2, wList, if_neg h4]
  there := by
    intro xs b r hV hx
    unfold eList at hx
    split at hx
    · cases hx
    · next h4 =>
      obtain ⟨b1, b2, h1, h2, rfl⟩ := cat_ok hx
      unfold dList
      rw [List.append_assoc, cod_num.there _ _ _ trivial h1]
      simp only [Option.bind_some]
      rw [if_neg (by omega), Int.toNat_natCast]
      exact times_there h _ _ _ hV h2
  back := by
    intro l xs r hB hx
    unfold dList at hx
    cases h1 : dNum l with
    | none => simp [h1] at hx
    | some p =>
      simp only [h1, Option.bind_some] at hx
      split at hx
      · cases hx
      · next h4 =>
        obtain ⟨b1, k1, rfl⟩ := cod_num.back l _ _ hB h1
        obtain ⟨hn, b2, k2, k3⟩ := times_back h _ _ _ _ hB.right hx
        have hp : 0 ≤ p.1 := by
          unfold eNum at k1
          split at k1
          · next hh => exact hh.1
          · cases k1
        refine ⟨b1 ++ b2, ?_, ?_⟩
        · unfold eList
          rw [if_neg (by omega), hn, show ((p.1.toNat : Nat) : Int) = p.1 by omega, k1, k2]
          rfl
        · rw [k3, List.append_assoc]
  err := by
    intro x c hx
    unfold eList at hx
    split at hx
    · cases hx; exact .inr rfl
    · cases h1 : eNum x.length with
      | error c' => simp only [h1, cat] at hx; cases hx; exact cod_num.err _ _ h1
      | ok b =>
        cases h2 : cats (x.map e) with
        | error c' => simp only [h1, h2, cat] at hx; cases hx; exact cats_err h.err _ _ h2
        | ok b' => simp only [h1, h2, cat] at hx; cases hx
  isB := by
    intro x b hx
    unfold eList at hx
    split at hx
    · cases hx
    · obtain ⟨b1, b2, h1, h2, rfl⟩ := cat_ok hx
      exact (cod_num.isB _ _ h1).append (cats_isB h.isB _ _ h2)
end Go.Proofs.YtoomcdgnnibjlaaGreat.Wr
/- Worlds between which only blocks of some types have been written; the two writers' states (the document's and the program's). -/
namespace Go.Proofs.YtoomcdgnnibjlaaGreat.Wr
open Go.RowKit Go.Proofs.YtoomcdgnnibjlaaGreatW.PrintWords Go.Proofs.YtoomcdgnnibjlaaGreatW.PrintLast
set_option linter.unusedVariables false

/-- Only blocks of the types S have been written, and blocks made. -/
structure Stp (S : List Nat) (w w' : World) : Prop where
  os : w'.os = w.os
  tape : w'.tape = w.tape
  output : w'.output = w.output
  size : w.heap.size ≤ w'.heap.size
  block : ∀ (k : Nat) (o : Obj), w.heap[k]? = some o → (∀ cs t fr, o = Obj.cells cs t fr → t ∉ S) → w'.heap[k]? = some o
theorem Stp.refl (S : List Nat) (w : World) : Stp S w w := ⟨rfl, rfl, rfl, Nat.le_refl _, fun _ _ h _ => h⟩
theorem Stp.trans {S : List Nat} {a b c : World} (h : Stp S a b) (k : Stp S b c) : Stp S a c :=
  ⟨k.os.trans h.os, k.tape.trans h.tape, k.output.trans h.output, Nat.le_trans h.size k.size, fun i o hi ht => k.block i o (h.block i o hi ht) ht⟩
theorem Stp.below {S : List Nat} {w w' : World} (h : Below w.heap.size w w') : Stp S w w' :=
  ⟨h.os, h.tape, h.output, h.size, fun k o hk _ => (h.block k (blk_lt hk)).trans hk⟩
theorem Stp.keep {S : List Nat} {w w' : World} (h : Stp S w w') {k t : Nat} {cs : Array Value} {fr : Nat × Nat} (hk : w.heap[k]? = some (.cells cs t fr)) (ht : t ∉ S) : w'.heap[k]? = some (.cells cs t fr) :=
  h.block k _ hk (fun _ _ _ e => by cases e; exact ht)
theorem Stp.set {S : List Nat} {w : World} {g t i : Nat} {cs : Array Value} {fr : Nat × Nat} (hg : w.heap[g]? = some (.cells cs t fr)) (ht : t ∈ S) (u : Value) : Stp S w (w.setCell ⟨g, i, none⟩ u) :=
  ⟨rfl, rfl, rfl, by simp [World.setCell], fun k o hk hs => by
    refine (Below.heap_setCell w ⟨g, i, none⟩ u k ?_).trans hk
    intro e
    have h2 : k = g := e
    rw [h2, hg] at hk
    cases hk
    exact hs _ _ _ rfl ht⟩
theorem Stp.grown {S : List Nat} {w w' : World} {row : Option Nat} (hg : w.grownBy w' row) (hr : ∀ k, row = some k → ∃ cs t fr, w.heap[k]? = some (.cells cs t fr) ∧ t ∈ S) : Stp S w w' :=
  ⟨hg.os, hg.tape, hg.output, hg.size, fun k o hk hs => by
    refine (hg.block k (blk_lt hk) ?_).trans hk
    intro e
    obtain ⟨cs, t, fr, hc, ht⟩ := hr k e.symm
    rw [hc] at hk
    cases hk
    exact hs _ _ _ rfl ht⟩
theorem Stp.drew {S : List Nat} {w w' : World} (h : Stp S w w') (n : Nat) : Stp S w (w'.drewN n) := ⟨h.os, h.tape, h.output, h.size, h.block⟩
/-- What was made of other types stays. -/
theorem Stp.R {S : List Nat} {w w' : World} (h : Stp S w w') {α : Type} {d : Kd α} {e base : Nat} {ok : Nat → Prop} {v : Value} {xs : List α} (hr : d.R e w base ok v xs) (hE : ∀ q, q ∈ e :: d.E → q ∉ S) : d.R e w' base ok v xs :=
  Kd.R_mono (Kd.R_move (Kd.R_bound hr) (fun k hk => by
    obtain ⟨_, _, _, q, hq, cells, hc⟩ := hk
    exact (h.keep hc (hE q hq)).trans hc.symm)) (fun _ hk => hk.1)
theorem Stp.M {S : List Nat} {w w' : World} (h : Stp S w w') {α : Type} {d : Kd α} {base : Nat} {ok : Nat → Prop} {x : α} {cs : List Value} (hr : d.M w base ok x cs) (hE : ∀ q, q ∈ d.E → q ∉ S) : d.M w' base ok x cs :=
  d.M_mono (fun _ hk => hk.1) (d.M_move (fun k hk => by
    obtain ⟨_, _, _, q, hq, cells, hc⟩ := hk
    exact (h.keep hc (hE q hq)).trans hc.symm) (d.M_bound hr))
theorem cell_blk {w : World} {k t : Nat} {cs : Array Value} {fr : Nat × Nat} (h : w.heap[k]? = some (.cells cs t fr)) (j : Nat) (u : Value) (hj : cs[j]? = some u) : w.cell? ⟨k, j, none⟩ = some u := by
  simp only [World.cell?, h]
  simpa using hj

/-- A struct in the midst of a box, by its range. -/
theorem range_blk {w : World} {b t : Nat} {fr : Nat × Nat} (pre cs post : List Value) (h : w.heap[b]? = some (.cells (pre ++ (cs ++ post)).toArray t fr)) : w.rangeAt b pre.length cs := by
  intro j v hv
  simp only [World.cell?, h]
  have h1 : j < cs.length := (List.getElem?_eq_some_iff.1 hv).1
  simpa [List.getElem?_append_right, List.getElem?_append_left h1] using hv
theorem gate_load {P : Program} {ops : Array Oper} {rest : List Oper} {o : Oper} {a : Act} {W : World} {Q : Exit → Act → World → Prop} {t : TypeId} {x : Operand} (_ho : o.op = .load t x) (h : wpList P ops Q (o :: rest) a W) : wpList P ops Q (o :: rest) a W := h

theorem infoB : (Tryz.prog.info? 5).map (fun i => (i.zero, i.size, i.bytes)) = some (some (.int .u8 0), 1, 1) := by kernel_rfl

/-- What is laid, and the first fault (0: none). -/
abbrev LSt := List Int × Int
structure LRel (r : Er) (n : Nat) (s s' : LSt) : Prop where
  len : s'.1.length ≤ s.1.length + n
  stay : s.2 ≠ 0 → s'.2 = s.2
  ok : ∀ b, s.2 = 0 → r = .ok b → s' = (s.1 ++ b, 0)
  err : ∀ c, s.2 = 0 → r = .error c → s'.2 = c ∧ c ≠ 0
theorem LRel.seq {a b : Er} {n m : Nat} {s s1 s2 : LSt} (h : LRel a n s s1) (k : LRel b m s1 s2) : LRel (cat a b) (n + m) s s2 where
  len := by have := h.len; have := k.len; omega
  stay := fun h0 => by have h1 := h.stay h0; rw [k.stay (by rw [h1]; exact h0), h1]
  ok := fun z h0 hz => by
    obtain ⟨x, y, h1, h2, rfl⟩ := cat_ok hz
    have e1 := h.ok x h0 h1
    have e2 := k.ok y (by rw [e1]) h2
    rw [e2, e1, List.append_assoc]
  err := fun c h0 hc => by
    cases ha : a with
    | error c' =>
      rw [ha] at hc
      cases hc
      obtain ⟨e1, e2⟩ := h.err _ h0 ha
      exact ⟨by rw [k.stay (by rw [e1]; exact e2), e1], e2⟩
    | ok x =>
      have e1 := h.ok x h0 ha
      cases hb : b with
      | error c' =>
        rw [ha, hb] at hc
        cases hc
        exact k.err _ (by rw [e1]) hb
      | ok y => rw [ha, hb] at hc; cases hc
theorem LRel.skip (r : Er) (n : Nat) (s : LSt) (h : s.2 ≠ 0) : LRel r n s s := ⟨by omega, fun _ => rfl, fun _ h0 => absurd h0 h, fun _ h0 => absurd h0 h⟩
theorem LRel.nop (s : LSt) : LRel Wr.nop 0 s s := ⟨by omega, fun _ => rfl, fun b h0 hb => by cases hb; rw [List.append_nil, ← h0], fun c _ hc => by cases hc⟩
theorem LRel.more {r : Er} {n m : Nat} {s s' : LSt} (h : LRel r n s s') (hn : n ≤ m) : LRel r m s s' := ⟨by have := h.len; omega, h.stay, h.ok, h.err⟩

abbrev SL : List Nat := [5, 55]
/-- The document's writer lies at g: its row is v, it holds s. -/
structure LayAt (w0 w : World) (g : Nat) (v : Value) (s : LSt) : Prop where
  base : w0.heap.size ≤ g
  below : Below w0.heap.size w0 w
  cell : w.heap[g]? = some (.cells #[v, .int .i64 s.2] 55 (0, 0))
  row : (Kd.int .u8).R 5 w w0.heap.size (fun _ => True) v s.1
theorem LayAt.own {w0 w : World} {g : Nat} {v : Value} {s : LSt} (h : LayAt w0 w g v s) : ∀ k, v.ownBlock = some k → w0.heap.size ≤ k ∧ k < w.heap.size ∧ ∃ cur, w.heap[k]? = some (.cells cur 5 (0, 0)) := by
  intro k hk
  obtain ⟨inner, ho⟩ := Kd.R_own h.row
  rcases ho.2 with ⟨rfl, _⟩ | ⟨g', cap, cur, rfl, hg, hh, _⟩
  · simp [Value.ownBlock] at hk
  · simp [Value.ownBlock] at hk
    subst hk
    exact ⟨hg, blk_lt hh, cur, hh⟩
theorem LayAt.ne {w0 w : World} {g : Nat} {v : Value} {s : LSt} (h : LayAt w0 w g v s) : some g ≠ v.ownBlock := by
  intro e
  obtain ⟨_, _, cur, hc⟩ := h.own g e.symm
  rw [h.cell] at hc
  cases hc
theorem LayAt.stays {w0 w w' : World} {g : Nat} {v : Value} {s : LSt} (h : LayAt w0 w g v s) (hb : Below w.heap.size w w') : LayAt w0 w' g v s :=
  ⟨h.base, h.below.trans (hb.mono h.below.size), (hb.block _ (blk_lt h.cell)).trans h.cell, Kd.R_below h.row hb⟩

theorem lay_put {w0 w w2 : World} {g : Nat} {v v' : Value} {s : LSt} {l : List Int} (h : LayAt w0 w g v s) (hr : (Kd.int .u8).R 5 w2 w0.heap.size (fun _ => True) v' l) (hb : Below w0.heap.size w0 w2) (hg : w.grownBy w2 v.ownBlock) :
    LayAt w0 (w2.setCell ⟨g, 0, none⟩ v') g v' (l, s.2) ∧ Stp SL w (w2.setCell ⟨g, 0, none⟩ v') := by
  have hc2 := (hg.block g (blk_lt h.cell) h.ne).trans h.cell
  have hne : ∀ k, v'.ownBlock = some k → k ≠ g := by
    rintro k hk rfl
    obtain ⟨inner, ho⟩ := Kd.R_own hr
    rcases ho.2 with ⟨rfl, _⟩ | ⟨g', cap, cur, rfl, _, hh, _⟩
    · simp [Value.ownBlock] at hk
    · simp [Value.ownBlock] at hk
      subst hk
      rw [hc2] at hh
      cases hh
  refine ⟨⟨h.base, hb.setCell (p := ⟨g, 0, none⟩) h.base _, ?_, ?_⟩, Stp.trans (Stp.grown hg (fun k hk => ?_)) (Stp.set (i := 0) hc2 (by simp) v')⟩
  · simp [World.setCell, Array.getElem?_modify, hc2]
  · exact Kd.R_mono (Kd.R_far (p := ⟨g, 0, none⟩) (Kd.R_far1 hr rfl (fun e => hne g e.symm rfl)) (fun k hk => hk.2) v') (fun _ _ => trivial)
  · obtain ⟨_, _, cur, hc⟩ := h.own k hk
    exact ⟨cur, _, _, hc, by simp⟩
theorem lay_err {w0 w : World} {g : Nat} {v : Value} {s : LSt} (h : LayAt w0 w g v s) (e : Int) : LayAt w0 (w.setCell ⟨g, 1, none⟩ (.int .i64 e)) g v (s.1, e) ∧ Stp SL w (w.setCell ⟨g, 1, none⟩ (.int .i64 e)) := by
  have hc := h.cell
  refine ⟨⟨h.base, h.below.setCell (p := ⟨g, 1, none⟩) h.base _, ?_, ?_⟩, Stp.set (i := 1) hc (by simp) _⟩
  · simp [World.setCell, Array.getElem?_modify, hc]
  · exact Kd.R_mono (Kd.R_far (p := ⟨g, 1, none⟩) (Kd.R_far1 h.row rfl h.ne) (fun k hk => hk.2) _) (fun _ _ => trivial)
theorem C_nil {W : World} {A : Option Addr} : Kd.C (Kd.int .u8) W A 0 [] := ⟨rfl, by simp, fun h => absurd h (by simp)⟩

/-- What a method of the document's writer does. -/
def LDone (w0 : World) (g : Nat) (w : World) (r : Er) (n : Nat) (s : LSt) : Ending → World → Prop :=
  fun e w' => e = .returned (.tuple #[]) ∧ ∃ v' s', LayAt w0 w' g v' s' ∧ Stp SL w w' ∧ LRel r n s s'

abbrev SW : List Nat := [5, 160]
/-- The program's writer lies at g: its row is v, it holds l. -/
structure WAt (w0 w : World) (g : Nat) (v : Value) (l : Bs) : Prop where
  base : w0.heap.size ≤ g
  below : Below w0.heap.size w0 w
  cell : w.heap[g]? = some (.cells #[v] 160 (0, 0))
  row : (Kd.int .u8).R 5 w w0.heap.size (fun _ => True) v l
theorem WAt.own {w0 w : World} {g : Nat} {v : Value} {s : Bs} (h : WAt w0 w g v s) : ∀ k, v.ownBlock = some k → w0.heap.size ≤ k ∧ k < w.heap.size ∧ ∃ cur, w.heap[k]? = some (.cells cur 5 (0, 0)) := by
  intro k hk
  obtain ⟨inner, ho⟩ := Kd.R_own h.row
  rcases ho.2 with ⟨rfl, _⟩ | ⟨g', cap, cur, rfl, hg, hh, _⟩
  · simp [Value.ownBlock] at hk
  · simp [Value.ownBlock] at hk
    subst hk
    exact ⟨hg, blk_lt hh, cur, hh⟩
theorem WAt.ne {w0 w : World} {g : Nat} {v : Value} {s : Bs} (h : WAt w0 w g v s) : some g ≠ v.ownBlock := by
  intro e
  obtain ⟨_, _, cur, hc⟩ := h.own g e.symm
  rw [h.cell] at hc
  cases hc
theorem WAt.stays {w0 w w' : World} {g : Nat} {v : Value} {s : Bs} (h : WAt w0 w g v s) (hb : Below w.heap.size w w') : WAt w0 w' g v s :=
  ⟨h.base, h.below.trans (hb.mono h.below.size), (hb.block _ (blk_lt h.cell)).trans h.cell, Kd.R_below h.row hb⟩
theorem wr_put {w0 w w2 : World} {g : Nat} {v v' : Value} {s : Bs} {l : List Int} (h : WAt w0 w g v s) (hr : (Kd.int .u8).R 5 w2 w0.heap.size (fun _ => True) v' l) (hb : Below w0.heap.size w0 w2) (hg : w.grownBy w2 v.ownBlock) :
    WAt w0 (w2.setCell ⟨g, 0, none⟩ v') g v' l ∧ Stp SW w (w2.setCell ⟨g, 0, none⟩ v') := by
  have hc2 := (hg.block g (blk_lt h.cell) h.ne).trans h.cell
  have hne : ∀ k, v'.ownBlock = some k → k ≠ g := by
    rintro k hk rfl
    obtain ⟨inner, ho⟩ := Kd.R_own hr
    rcases ho.2 with ⟨rfl, _⟩ | ⟨g', cap, cur, rfl, _, hh, _⟩
    · simp [Value.ownBlock] at hk
    · simp [Value.ownBlock] at hk
      subst hk
      rw [hc2] at hh
      cases hh
  refine ⟨⟨h.base, hb.setCell (p := ⟨g, 0, none⟩) h.base _, ?_, ?_⟩, Stp.trans (Stp.grown hg (fun k hk => ?_)) (Stp.set (i := 0) hc2 (by simp) v')⟩
  · simp [World.setCell, Array.getElem?_modify, hc2]
  · exact Kd.R_mono (Kd.R_far (p := ⟨g, 0, none⟩) (Kd.R_far1 hr rfl (fun e => hne g e.symm rfl)) (fun k hk => hk.2) v') (fun _ _ => trivial)
  · obtain ⟨_, _, cur, hc⟩ := h.own k hk
    exact ⟨cur, _, _, hc, by simp⟩
/-- A fault that is thrown. -/
def fault (c : Int) : Value := .iface 123 (.agg #[.int .i64 c])
def thrown (c : Int) : Ending := .panicked [{ v := fault c, recovered := false }]
/-- What a method of the program's writer does. -/
def WDone (w0 : World) (g : Nat) (w : World) (r : Er) (l : Bs) : Ending → World → Prop :=
  fun e w' => (∃ b, r = .ok b ∧ e = .returned (.tuple #[]) ∧ ∃ v', WAt w0 w' g v' (l ++ b) ∧ Stp SW w w') ∨ (∃ c, r = .error c ∧ e = thrown c ∧ Below w0.heap.size w0 w' ∧ Stp SW w w')
end Go.Proofs.YtoomcdgnnibjlaaGreat.Wr
/- The kinds of layer 3: how they lie in memory, their bytes, what is read. -/
namespace Go.Proofs.YtoomcdgnnibjlaaGreat.Wr
open Go.RowKit Go.Proofs.YtoomcdgnnibjlaaGreatW.PrintWords Go.Proofs.YtoomcdgnnibjlaaGreatW.PrintLast
set_option linter.unusedVariables false

abbrev TColumn := ByteArray × Int × Bool
def kColumn : Kd TColumn := Kd.pair Kd.string (Kd.pair (Kd.int .i64) Kd.bool)
def eColumn (x : TColumn) : Er := cat (eText x.1) (cat (eNum x.2.1) (eFlag x.2.2))
def dColumn : Dc TColumn := dPair dText (dPair dNum dFlag)
def wColumn (x : TColumn) : Nat := wText x.1 + (4 + (1))
def VColumn (x : TColumn) : Prop := (fun _ => True) x.1 ∧ (fun _ => True) x.2.1 ∧ (fun _ => True) x.2.2
theorem codColumn : Cod eColumn dColumn wColumn VColumn := cod_pair cod_text (cod_pair cod_num cod_flag)
theorem openColumn {w : World} {x : TColumn} {cs : List Value} (h : kColumn.K w x cs) : cs = [.string x.1, .int .i64 x.2.1, .bool x.2.2] := by
  obtain ⟨_, _, rfl, rfl, ⟨_, _, rfl, rfl, rfl⟩⟩ := h
  exact rfl
theorem openMColumn {w : World} {base : Nat} {ok : Nat → Prop} {x : TColumn} {cs : List Value} (h : kColumn.M w base ok x cs) : cs = [.string x.1, .int .i64 x.2.1, .bool x.2.2] := by
  obtain ⟨_, _, rfl, rfl, ⟨_, _, rfl, rfl, rfl⟩⟩ := h
  exact rfl
theorem mkMColumn {w : World} {base : Nat} {ok : Nat → Prop} (x : TColumn)  : kColumn.M w base ok x [.string x.1, .int .i64 x.2.1, .bool x.2.2] := ⟨_, _, rfl, rfl, ⟨_, _, rfl, rfl, rfl⟩⟩
theorem atColumn {w : World} {A : Option Addr} {n : Nat} {xs : List TColumn} (h : Kd.C kColumn w A n xs) (i : Nat) (hi : i < xs.length) : ∃ ad, A = some ad ∧ w.cell? (ad.add (i * 3)) = some (.string xs[i].1) ∧ w.cell? ⟨(ad.add (i * 3)).block, (ad.add (i * 3)).off + 1, none⟩ = some (.int .i64 xs[i].2.1) ∧ w.cell? ⟨(ad.add (i * 3)).block, (ad.add (i * 3)).off + 2, none⟩ = some (.bool xs[i].2.2) := by
  obtain ⟨ad, e, hc1⟩ := h.2.2 (by have := h.1; omega)
  obtain ⟨c, _, hK, hc0⟩ := hc1 i _ (List.getElem?_eq_getElem hi)
  have hc : ∀ j u, c[j]? = some u → w.cell? (ad.add (i * 3 + j)) = some u := hc0
  obtain rfl := openColumn hK
  exact ⟨ad, e, by have hq := hc 0 _ rfl; simpa using hq, by rw [← add_field _ _ 1 (by omega)]; exact hc 1 _ rfl, by rw [← add_field _ _ 2 (by omega)]; exact hc 2 _ rfl⟩

abbrev TRule := ByteArray × Int × (List ByteArray) × Int × Int × ByteArray × ByteArray × ByteArray
def kRule : Kd TRule := Kd.pair Kd.string (Kd.pair (Kd.int .i64) (Kd.pair (Kd.slice 9 Kd.string) (Kd.pair (Kd.int .i64) (Kd.pair (Kd.int .i64) (Kd.pair Kd.string (Kd.pair Kd.string Kd.string))))))
def eRule (x : TRule) : Er := cat (eText x.1) (cat (eNum x.2.1) (cat ((eList eText) x.2.2.1) (cat (eInt x.2.2.2.1) (cat (eInt x.2.2.2.2.1) (cat (eText x.2.2.2.2.2.1) (cat (eText x.2.2.2.2.2.2.1) (eText x.2.2.2.2.2.2.2)))))))
def dRule : Dc TRule := dPair dText (dPair dNum (dPair (dList dText) (dPair dInt (dPair dInt (dPair dText (dPair dText dText))))))
def wRule (x : TRule) : Nat := wText x.1 + (4 + ((wList wText) x.2.2.1 + (8 + (8 + (wText x.2.2.2.2.2.1 + (wText x.2.2.2.2.2.2.1 + (wText x.2.2.2.2.2.2.2)))))))
def VRule (x : TRule) : Prop := (fun _ => True) x.1 ∧ (fun _ => True) x.2.1 ∧ (fun xs => ∀ x ∈ xs, (fun _ => True) x) x.2.2.1 ∧ (fun n => -9223372036854775808 ≤ n ∧ n ≤ 9223372036854775807) x.2.2.2.1 ∧ (fun n => -9223372036854775808 ≤ n ∧ n ≤ 9223372036854775807) x.2.2.2.2.1 ∧ (fun _ => True) x.2.2.2.2.2.1 ∧ (fun _ => True) x.2.2.2.2.2.2.1 ∧ (fun _ => True) x.2.2.2.2.2.2.2
theorem codRule : Cod eRule dRule wRule VRule := cod_pair cod_text (cod_pair cod_num (cod_pair (cod_list cod_text) (cod_pair cod_int (cod_pair cod_int (cod_pair cod_text (cod_pair cod_text cod_text))))))
theorem openRule {w : World} {x : TRule} {cs : List Value} (h : kRule.K w x cs) : ∃ A2 c2, cs = [.string x.1, .int .i64 x.2.1, .slice A2 x.2.2.1.length c2, .int .i64 x.2.2.2.1, .int .i64 x.2.2.2.2.1, .string x.2.2.2.2.2.1, .string x.2.2.2.2.2.2.1, .string x.2.2.2.2.2.2.2] ∧ x.2.2.1.length ≤ c2 ∧ Kd.string.C w A2 x.2.2.1.length x.2.2.1 := by
  obtain ⟨_, _, rfl, rfl, ⟨_, _, rfl, rfl, ⟨_, _, rfl, ⟨A2, c2, rfl, l2, h2⟩, ⟨_, _, rfl, rfl, ⟨_, _, rfl, rfl, ⟨_, _, rfl, rfl, ⟨_, _, rfl, rfl, rfl⟩⟩⟩⟩⟩⟩⟩ := h
  exact ⟨A2, c2, rfl, l2, h2⟩
theorem openMRule {w : World} {base : Nat} {ok : Nat → Prop} {x : TRule} {cs : List Value} (h : kRule.M w base ok x cs) : ∃ v2, cs = [.string x.1, .int .i64 x.2.1, v2, .int .i64 x.2.2.2.1, .int .i64 x.2.2.2.2.1, .string x.2.2.2.2.2.1, .string x.2.2.2.2.2.2.1, .string x.2.2.2.2.2.2.2] ∧ Kd.string.R 9 w base ok v2 x.2.2.1 := by
  obtain ⟨_, _, rfl, rfl, ⟨_, _, rfl, rfl, ⟨_, _, rfl, ⟨v2, rfl, r2⟩, ⟨_, _, rfl, rfl, ⟨_, _, rfl, rfl, ⟨_, _, rfl, rfl, ⟨_, _, rfl, rfl, rfl⟩⟩⟩⟩⟩⟩⟩ := h
  exact ⟨v2, rfl, r2⟩
theorem mkMRule {w : World} {base : Nat} {ok : Nat → Prop} (x : TRule) {v2 : Value} (r2 : Kd.string.R 9 w base ok v2 x.2.2.1) : kRule.M w base ok x [.string x.1, .int .i64 x.2.1, v2, .int .i64 x.2.2.2.1, .int .i64 x.2.2.2.2.1, .string x.2.2.2.2.2.1, .string x.2.2.2.2.2.2.1, .string x.2.2.2.2.2.2.2] := ⟨_, _, rfl, rfl, ⟨_, _, rfl, rfl, ⟨_, _, rfl, ⟨v2, rfl, r2⟩, ⟨_, _, rfl, rfl, ⟨_, _, rfl, rfl, ⟨_, _, rfl, rfl, ⟨_, _, rfl, rfl, rfl⟩⟩⟩⟩⟩⟩⟩
theorem atRule {w : World} {A : Option Addr} {n : Nat} {xs : List TRule} (h : Kd.C kRule w A n xs) (i : Nat) (hi : i < xs.length) : ∃ ad A2 c2, A = some ad ∧ w.cell? (ad.add (i * 8)) = some (.string xs[i].1) ∧ w.cell? ⟨(ad.add (i * 8)).block, (ad.add (i * 8)).off + 1, none⟩ = some (.int .i64 xs[i].2.1) ∧ w.cell? ⟨(ad.add (i * 8)).block, (ad.add (i * 8)).off + 2, none⟩ = some (.slice A2 xs[i].2.2.1.length c2) ∧ w.cell? ⟨(ad.add (i * 8)).block, (ad.add (i * 8)).off + 3, none⟩ = some (.int .i64 xs[i].2.2.2.1) ∧ w.cell? ⟨(ad.add (i * 8)).block, (ad.add (i * 8)).off + 4, none⟩ = some (.int .i64 xs[i].2.2.2.2.1) ∧ w.cell? ⟨(ad.add (i * 8)).block, (ad.add (i * 8)).off + 5, none⟩ = some (.string xs[i].2.2.2.2.2.1) ∧ w.cell? ⟨(ad.add (i * 8)).block, (ad.add (i * 8)).off + 6, none⟩ = some (.string xs[i].2.2.2.2.2.2.1) ∧ w.cell? ⟨(ad.add (i * 8)).block, (ad.add (i * 8)).off + 7, none⟩ = some (.string xs[i].2.2.2.2.2.2.2) ∧ xs[i].2.2.1.length ≤ c2 ∧ Kd.string.C w A2 xs[i].2.2.1.length xs[i].2.2.1 := by
  obtain ⟨ad, e, hc1⟩ := h.2.2 (by have := h.1; omega)
  obtain ⟨c, _, hK, hc0⟩ := hc1 i _ (List.getElem?_eq_getElem hi)
  have hc : ∀ j u, c[j]? = some u → w.cell? (ad.add (i * 8 + j)) = some u := hc0
  obtain ⟨A2, c2, rfl, l2, h2⟩ := openRule hK
  exact ⟨ad, A2, c2, e, by have hq := hc 0 _ rfl; simpa using hq, by rw [← add_field _ _ 1 (by omega)]; exact hc 1 _ rfl, by rw [← add_field _ _ 2 (by omega)]; exact hc 2 _ rfl, by rw [← add_field _ _ 3 (by omega)]; exact hc 3 _ rfl, by rw [← add_field _ _ 4 (by omega)]; exact hc 4 _ rfl, by rw [← add_field _ _ 5 (by omega)]; exact hc 5 _ rfl, by rw [← add_field _ _ 6 (by omega)]; exact hc 6 _ rfl, by rw [← add_field _ _ 7 (by omega)]; exact hc 7 _ rfl, l2, h2⟩

abbrev TTable := ByteArray × ByteArray × ByteArray × (List TColumn) × (List TRule)
def kTable : Kd TTable := Kd.pair Kd.string (Kd.pair Kd.string (Kd.pair Kd.string (Kd.pair (Kd.slice 167 kColumn) (Kd.slice 64 kRule))))
def eTable (x : TTable) : Er := cat (eText x.1) (cat (eText x.2.1) (cat (eText x.2.2.1) (cat ((eList eColumn) x.2.2.2.1) ((eList eRule) x.2.2.2.2))))
def dTable : Dc TTable := dPair dText (dPair dText (dPair dText (dPair (dList dColumn) (dList dRule))))
def wTable (x : TTable) : Nat := wText x.1 + (wText x.2.1 + (wText x.2.2.1 + ((wList wColumn) x.2.2.2.1 + ((wList wRule) x.2.2.2.2))))
def VTable (x : TTable) : Prop := (fun _ => True) x.1 ∧ (fun _ => True) x.2.1 ∧ (fun _ => True) x.2.2.1 ∧ (fun xs => ∀ x ∈ xs, VColumn x) x.2.2.2.1 ∧ (fun xs => ∀ x ∈ xs, VRule x) x.2.2.2.2
theorem codTable : Cod eTable dTable wTable VTable := cod_pair cod_text (cod_pair cod_text (cod_pair cod_text (cod_pair (cod_list codColumn) (cod_list codRule))))
theorem openTable {w : World} {x : TTable} {cs : List Value} (h : kTable.K w x cs) : ∃ A3 c3 A4 c4, cs = [.string x.1, .string x.2.1, .string x.2.2.1, .slice A3 x.2.2.2.1.length c3, .slice A4 x.2.2.2.2.length c4] ∧ x.2.2.2.1.length ≤ c3 ∧ kColumn.C w A3 x.2.2.2.1.length x.2.2.2.1 ∧ x.2.2.2.2.length ≤ c4 ∧ kRule.C w A4 x.2.2.2.2.length x.2.2.2.2 := by
  obtain ⟨_, _, rfl, rfl, ⟨_, _, rfl, rfl, ⟨_, _, rfl, rfl, ⟨_, _, rfl, ⟨A3, c3, rfl, l3, h3⟩, ⟨A4, c4, rfl, l4, h4⟩⟩⟩⟩⟩ := h
  exact ⟨A3, c3, A4, c4, rfl, l3, h3, l4, h4⟩
theorem openMTable {w : World} {base : Nat} {ok : Nat → Prop} {x : TTable} {cs : List Value} (h : kTable.M w base ok x cs) : ∃ v3 v4, cs = [.string x.1, .string x.2.1, .string x.2.2.1, v3, v4] ∧ kColumn.R 167 w base ok v3 x.2.2.2.1 ∧ kRule.R 64 w base ok v4 x.2.2.2.2 := by
  obtain ⟨_, _, rfl, rfl, ⟨_, _, rfl, rfl, ⟨_, _, rfl, rfl, ⟨_, _, rfl, ⟨v3, rfl, r3⟩, ⟨v4, rfl, r4⟩⟩⟩⟩⟩ := h
  exact ⟨v3, v4, rfl, r3, r4⟩
theorem mkMTable {w : World} {base : Nat} {ok : Nat → Prop} (x : TTable) {v3 : Value} (r3 : kColumn.R 167 w base ok v3 x.2.2.2.1) {v4 : Value} (r4 : kRule.R 64 w base ok v4 x.2.2.2.2) : kTable.M w base ok x [.string x.1, .string x.2.1, .string x.2.2.1, v3, v4] := ⟨_, _, rfl, rfl, ⟨_, _, rfl, rfl, ⟨_, _, rfl, rfl, ⟨_, _, rfl, ⟨v3, rfl, r3⟩, ⟨v4, rfl, r4⟩⟩⟩⟩⟩
theorem atTable {w : World} {A : Option Addr} {n : Nat} {xs : List TTable} (h : Kd.C kTable w A n xs) (i : Nat) (hi : i < xs.length) : ∃ ad A3 c3 A4 c4, A = some ad ∧ w.cell? (ad.add (i * 5)) = some (.string xs[i].1) ∧ w.cell? ⟨(ad.add (i * 5)).block, (ad.add (i * 5)).off + 1, none⟩ = some (.string xs[i].2.1) ∧ w.cell? ⟨(ad.add (i * 5)).block, (ad.add (i * 5)).off + 2, none⟩ = some (.string xs[i].2.2.1) ∧ w.cell? ⟨(ad.add (i * 5)).block, (ad.add (i * 5)).off + 3, none⟩ = some (.slice A3 xs[i].2.2.2.1.length c3) ∧ w.cell? ⟨(ad.add (i * 5)).block, (ad.add (i * 5)).off + 4, none⟩ = some (.slice A4 xs[i].2.2.2.2.length c4) ∧ xs[i].2.2.2.1.length ≤ c3 ∧ kColumn.C w A3 xs[i].2.2.2.1.length xs[i].2.2.2.1 ∧ xs[i].2.2.2.2.length ≤ c4 ∧ kRule.C w A4 xs[i].2.2.2.2.length xs[i].2.2.2.2 := by
  obtain ⟨ad, e, hc1⟩ := h.2.2 (by have := h.1; omega)
  obtain ⟨c, _, hK, hc0⟩ := hc1 i _ (List.getElem?_eq_getElem hi)
  have hc : ∀ j u, c[j]? = some u → w.cell? (ad.add (i * 5 + j)) = some u := hc0
  obtain ⟨A3, c3, A4, c4, rfl, l3, h3, l4, h4⟩ := openTable hK
  exact ⟨ad, A3, c3, A4, c4, e, by have hq := hc 0 _ rfl; simpa using hq, by rw [← add_field _ _ 1 (by omega)]; exact hc 1 _ rfl, by rw [← add_field _ _ 2 (by omega)]; exact hc 2 _ rfl, by rw [← add_field _ _ 3 (by omega)]; exact hc 3 _ rfl, by rw [← add_field _ _ 4 (by omega)]; exact hc 4 _ rfl, l3, h3, l4, h4⟩

abbrev TSchema := ByteArray × ByteArray
def kSchema : Kd TSchema := Kd.pair Kd.string Kd.string
def eSchema (x : TSchema) : Er := cat (eText x.1) (eText x.2)
def dSchema : Dc TSchema := dPair dText dText
def wSchema (x : TSchema) : Nat := wText x.1 + (wText x.2)
def VSchema (x : TSchema) : Prop := (fun _ => True) x.1 ∧ (fun _ => True) x.2
theorem codSchema : Cod eSchema dSchema wSchema VSchema := cod_pair cod_text cod_text
theorem openSchema {w : World} {x : TSchema} {cs : List Value} (h : kSchema.K w x cs) : cs = [.string x.1, .string x.2] := by
  obtain ⟨_, _, rfl, rfl, rfl⟩ := h
  exact rfl
theorem openMSchema {w : World} {base : Nat} {ok : Nat → Prop} {x : TSchema} {cs : List Value} (h : kSchema.M w base ok x cs) : cs = [.string x.1, .string x.2] := by
  obtain ⟨_, _, rfl, rfl, rfl⟩ := h
  exact rfl
theorem mkMSchema {w : World} {base : Nat} {ok : Nat → Prop} (x : TSchema)  : kSchema.M w base ok x [.string x.1, .string x.2] := ⟨_, _, rfl, rfl, rfl⟩
theorem atSchema {w : World} {A : Option Addr} {n : Nat} {xs : List TSchema} (h : Kd.C kSchema w A n xs) (i : Nat) (hi : i < xs.length) : ∃ ad, A = some ad ∧ w.cell? (ad.add (i * 2)) = some (.string xs[i].1) ∧ w.cell? ⟨(ad.add (i * 2)).block, (ad.add (i * 2)).off + 1, none⟩ = some (.string xs[i].2) := by
  obtain ⟨ad, e, hc1⟩ := h.2.2 (by have := h.1; omega)
  obtain ⟨c, _, hK, hc0⟩ := hc1 i _ (List.getElem?_eq_getElem hi)
  have hc : ∀ j u, c[j]? = some u → w.cell? (ad.add (i * 2 + j)) = some u := hc0
  obtain rfl := openSchema hK
  exact ⟨ad, e, by have hq := hc 0 _ rfl; simpa using hq, by rw [← add_field _ _ 1 (by omega)]; exact hc 1 _ rfl⟩

abbrev TMember := ByteArray × ByteArray
def kMember : Kd TMember := Kd.pair Kd.string Kd.string
def eMember (x : TMember) : Er := cat (eText x.1) (eText x.2)
def dMember : Dc TMember := dPair dText dText
def wMember (x : TMember) : Nat := wText x.1 + (wText x.2)
def VMember (x : TMember) : Prop := (fun _ => True) x.1 ∧ (fun _ => True) x.2
theorem codMember : Cod eMember dMember wMember VMember := cod_pair cod_text cod_text
theorem openMember {w : World} {x : TMember} {cs : List Value} (h : kMember.K w x cs) : cs = [.string x.1, .string x.2] := by
  obtain ⟨_, _, rfl, rfl, rfl⟩ := h
  exact rfl
theorem openMMember {w : World} {base : Nat} {ok : Nat → Prop} {x : TMember} {cs : List Value} (h : kMember.M w base ok x cs) : cs = [.string x.1, .string x.2] := by
  obtain ⟨_, _, rfl, rfl, rfl⟩ := h
  exact rfl
theorem mkMMember {w : World} {base : Nat} {ok : Nat → Prop} (x : TMember)  : kMember.M w base ok x [.string x.1, .string x.2] := ⟨_, _, rfl, rfl, rfl⟩
theorem atMember {w : World} {A : Option Addr} {n : Nat} {xs : List TMember} (h : Kd.C kMember w A n xs) (i : Nat) (hi : i < xs.length) : ∃ ad, A = some ad ∧ w.cell? (ad.add (i * 2)) = some (.string xs[i].1) ∧ w.cell? ⟨(ad.add (i * 2)).block, (ad.add (i * 2)).off + 1, none⟩ = some (.string xs[i].2) := by
  obtain ⟨ad, e, hc1⟩ := h.2.2 (by have := h.1; omega)
  obtain ⟨c, _, hK, hc0⟩ := hc1 i _ (List.getElem?_eq_getElem hi)
  have hc : ∀ j u, c[j]? = some u → w.cell? (ad.add (i * 2 + j)) = some u := hc0
  obtain rfl := openMember hK
  exact ⟨ad, e, by have hq := hc 0 _ rfl; simpa using hq, by rw [← add_field _ _ 1 (by omega)]; exact hc 1 _ rfl⟩

abbrev TGrant := ByteArray × ByteArray × Int × ByteArray × ByteArray × Bool
def kGrant : Kd TGrant := Kd.pair Kd.string (Kd.pair Kd.string (Kd.pair (Kd.int .i64) (Kd.pair Kd.string (Kd.pair Kd.string Kd.bool))))
def eGrant (x : TGrant) : Er := cat (eText x.1) (cat (eText x.2.1) (cat (eNum x.2.2.1) (cat (eText x.2.2.2.1) (cat (eText x.2.2.2.2.1) (eFlag x.2.2.2.2.2)))))
def dGrant : Dc TGrant := dPair dText (dPair dText (dPair dNum (dPair dText (dPair dText dFlag))))
def wGrant (x : TGrant) : Nat := wText x.1 + (wText x.2.1 + (4 + (wText x.2.2.2.1 + (wText x.2.2.2.2.1 + (1)))))
def VGrant (x : TGrant) : Prop := (fun _ => True) x.1 ∧ (fun _ => True) x.2.1 ∧ (fun _ => True) x.2.2.1 ∧ (fun _ => True) x.2.2.2.1 ∧ (fun _ => True) x.2.2.2.2.1 ∧ (fun _ => True) x.2.2.2.2.2
theorem codGrant : Cod eGrant dGrant wGrant VGrant := cod_pair cod_text (cod_pair cod_text (cod_pair cod_num (cod_pair cod_text (cod_pair cod_text cod_flag))))
theorem openGrant {w : World} {x : TGrant} {cs : List Value} (h : kGrant.K w x cs) : cs = [.string x.1, .string x.2.1, .int .i64 x.2.2.1, .string x.2.2.2.1, .string x.2.2.2.2.1, .bool x.2.2.2.2.2] := by
  obtain ⟨_, _, rfl, rfl, ⟨_, _, rfl, rfl, ⟨_, _, rfl, rfl, ⟨_, _, rfl, rfl, ⟨_, _, rfl, rfl, rfl⟩⟩⟩⟩⟩ := h
  exact rfl
theorem openMGrant {w : World} {base : Nat} {ok : Nat → Prop} {x : TGrant} {cs : List Value} (h : kGrant.M w base ok x cs) : cs = [.string x.1, .string x.2.1, .int .i64 x.2.2.1, .string x.2.2.2.1, .string x.2.2.2.2.1, .bool x.2.2.2.2.2] := by
  obtain ⟨_, _, rfl, rfl, ⟨_, _, rfl, rfl, ⟨_, _, rfl, rfl, ⟨_, _, rfl, rfl, ⟨_, _, rfl, rfl, rfl⟩⟩⟩⟩⟩ := h
  exact rfl
theorem mkMGrant {w : World} {base : Nat} {ok : Nat → Prop} (x : TGrant)  : kGrant.M w base ok x [.string x.1, .string x.2.1, .int .i64 x.2.2.1, .string x.2.2.2.1, .string x.2.2.2.2.1, .bool x.2.2.2.2.2] := ⟨_, _, rfl, rfl, ⟨_, _, rfl, rfl, ⟨_, _, rfl, rfl, ⟨_, _, rfl, rfl, ⟨_, _, rfl, rfl, rfl⟩⟩⟩⟩⟩
theorem atGrant {w : World} {A : Option Addr} {n : Nat} {xs : List TGrant} (h : Kd.C kGrant w A n xs) (i : Nat) (hi : i < xs.length) : ∃ ad, A = some ad ∧ w.cell? (ad.add (i * 6)) = some (.string xs[i].1) ∧ w.cell? ⟨(ad.add (i * 6)).block, (ad.add (i * 6)).off + 1, none⟩ = some (.string xs[i].2.1) ∧ w.cell? ⟨(ad.add (i * 6)).block, (ad.add (i * 6)).off + 2, none⟩ = some (.int .i64 xs[i].2.2.1) ∧ w.cell? ⟨(ad.add (i * 6)).block, (ad.add (i * 6)).off + 3, none⟩ = some (.string xs[i].2.2.2.1) ∧ w.cell? ⟨(ad.add (i * 6)).block, (ad.add (i * 6)).off + 4, none⟩ = some (.string xs[i].2.2.2.2.1) ∧ w.cell? ⟨(ad.add (i * 6)).block, (ad.add (i * 6)).off + 5, none⟩ = some (.bool xs[i].2.2.2.2.2) := by
  obtain ⟨ad, e, hc1⟩ := h.2.2 (by have := h.1; omega)
  obtain ⟨c, _, hK, hc0⟩ := hc1 i _ (List.getElem?_eq_getElem hi)
  have hc : ∀ j u, c[j]? = some u → w.cell? (ad.add (i * 6 + j)) = some u := hc0
  obtain rfl := openGrant hK
  exact ⟨ad, e, by have hq := hc 0 _ rfl; simpa using hq, by rw [← add_field _ _ 1 (by omega)]; exact hc 1 _ rfl, by rw [← add_field _ _ 2 (by omega)]; exact hc 2 _ rfl, by rw [← add_field _ _ 3 (by omega)]; exact hc 3 _ rfl, by rw [← add_field _ _ 4 (by omega)]; exact hc 4 _ rfl, by rw [← add_field _ _ 5 (by omega)]; exact hc 5 _ rfl⟩

abbrev TObjects := (List TSchema) × (List TTable)
def kObjects : Kd TObjects := Kd.pair (Kd.slice 128 kSchema) (Kd.slice 134 kTable)
def eObjects (x : TObjects) : Er := cat ((eList eSchema) x.1) ((eList eTable) x.2)
def dObjects : Dc TObjects := dPair (dList dSchema) (dList dTable)
def wObjects (x : TObjects) : Nat := (wList wSchema) x.1 + ((wList wTable) x.2)
def VObjects (x : TObjects) : Prop := (fun xs => ∀ x ∈ xs, VSchema x) x.1 ∧ (fun xs => ∀ x ∈ xs, VTable x) x.2
theorem codObjects : Cod eObjects dObjects wObjects VObjects := cod_pair (cod_list codSchema) (cod_list codTable)
theorem openObjects {w : World} {x : TObjects} {cs : List Value} (h : kObjects.K w x cs) : ∃ A0 c0 A1 c1, cs = [.slice A0 x.1.length c0, .slice A1 x.2.length c1] ∧ x.1.length ≤ c0 ∧ kSchema.C w A0 x.1.length x.1 ∧ x.2.length ≤ c1 ∧ kTable.C w A1 x.2.length x.2 := by
  obtain ⟨_, _, rfl, ⟨A0, c0, rfl, l0, h0⟩, ⟨A1, c1, rfl, l1, h1⟩⟩ := h
  exact ⟨A0, c0, A1, c1, rfl, l0, h0, l1, h1⟩
theorem openMObjects {w : World} {base : Nat} {ok : Nat → Prop} {x : TObjects} {cs : List Value} (h : kObjects.M w base ok x cs) : ∃ v0 v1, cs = [v0, v1] ∧ kSchema.R 128 w base ok v0 x.1 ∧ kTable.R 134 w base ok v1 x.2 := by
  obtain ⟨_, _, rfl, ⟨v0, rfl, r0⟩, ⟨v1, rfl, r1⟩⟩ := h
  exact ⟨v0, v1, rfl, r0, r1⟩
theorem mkMObjects {w : World} {base : Nat} {ok : Nat → Prop} (x : TObjects) {v0 : Value} (r0 : kSchema.R 128 w base ok v0 x.1) {v1 : Value} (r1 : kTable.R 134 w base ok v1 x.2) : kObjects.M w base ok x [v0, v1] := ⟨_, _, rfl, ⟨v0, rfl, r0⟩, ⟨v1, rfl, r1⟩⟩
theorem atObjects {w : World} {A : Option Addr} {n : Nat} {xs : List TObjects} (h : Kd.C kObjects w A n xs) (i : Nat) (hi : i < xs.length) : ∃ ad A0 c0 A1 c1, A = some ad ∧ w.cell? (ad.add (i * 2)) = some (.slice A0 xs[i].1.length c0) ∧ w.cell? ⟨(ad.add (i * 2)).block, (ad.add (i * 2)).off + 1, none⟩ = some (.slice A1 xs[i].2.length c1) ∧ xs[i].1.length ≤ c0 ∧ kSchema.C w A0 xs[i].1.length xs[i].1 ∧ xs[i].2.length ≤ c1 ∧ kTable.C w A1 xs[i].2.length xs[i].2 := by
  obtain ⟨ad, e, hc1⟩ := h.2.2 (by have := h.1; omega)
  obtain ⟨c, _, hK, hc0⟩ := hc1 i _ (List.getElem?_eq_getElem hi)
  have hc : ∀ j u, c[j]? = some u → w.cell? (ad.add (i * 2 + j)) = some u := hc0
  obtain ⟨A0, c0, A1, c1, rfl, l0, h0, l1, h1⟩ := openObjects hK
  exact ⟨ad, A0, c0, A1, c1, e, by have hq := hc 0 _ rfl; simpa using hq, by rw [← add_field _ _ 1 (by omega)]; exact hc 1 _ rfl, l0, h0, l1, h1⟩

abbrev TRoles := (List ByteArray) × (List TMember)
def kRoles : Kd TRoles := Kd.pair (Kd.slice 9 Kd.string) (Kd.slice 142 kMember)
def eRoles (x : TRoles) : Er := cat ((eList eText) x.1) ((eList eMember) x.2)
def dRoles : Dc TRoles := dPair (dList dText) (dList dMember)
def wRoles (x : TRoles) : Nat := (wList wText) x.1 + ((wList wMember) x.2)
def VRoles (x : TRoles) : Prop := (fun xs => ∀ x ∈ xs, (fun _ => True) x) x.1 ∧ (fun xs => ∀ x ∈ xs, VMember x) x.2
theorem codRoles : Cod eRoles dRoles wRoles VRoles := cod_pair (cod_list cod_text) (cod_list codMember)
theorem openRoles {w : World} {x : TRoles} {cs : List Value} (h : kRoles.K w x cs) : ∃ A0 c0 A1 c1, cs = [.slice A0 x.1.length c0, .slice A1 x.2.length c1] ∧ x.1.length ≤ c0 ∧ Kd.string.C w A0 x.1.length x.1 ∧ x.2.length ≤ c1 ∧ kMember.C w A1 x.2.length x.2 := by
  obtain ⟨_, _, rfl, ⟨A0, c0, rfl, l0, h0⟩, ⟨A1, c1, rfl, l1, h1⟩⟩ := h
  exact ⟨A0, c0, A1, c1, rfl, l0, h0, l1, h1⟩
theorem openMRoles {w : World} {base : Nat} {ok : Nat → Prop} {x : TRoles} {cs : List Value} (h : kRoles.M w base ok x cs) : ∃ v0 v1, cs = [v0, v1] ∧ Kd.string.R 9 w base ok v0 x.1 ∧ kMember.R 142 w base ok v1 x.2 := by
  obtain ⟨_, _, rfl, ⟨v0, rfl, r0⟩, ⟨v1, rfl, r1⟩⟩ := h
  exact ⟨v0, v1, rfl, r0, r1⟩
theorem mkMRoles {w : World} {base : Nat} {ok : Nat → Prop} (x : TRoles) {v0 : Value} (r0 : Kd.string.R 9 w base ok v0 x.1) {v1 : Value} (r1 : kMember.R 142 w base ok v1 x.2) : kRoles.M w base ok x [v0, v1] := ⟨_, _, rfl, ⟨v0, rfl, r0⟩, ⟨v1, rfl, r1⟩⟩
theorem atRoles {w : World} {A : Option Addr} {n : Nat} {xs : List TRoles} (h : Kd.C kRoles w A n xs) (i : Nat) (hi : i < xs.length) : ∃ ad A0 c0 A1 c1, A = some ad ∧ w.cell? (ad.add (i * 2)) = some (.slice A0 xs[i].1.length c0) ∧ w.cell? ⟨(ad.add (i * 2)).block, (ad.add (i * 2)).off + 1, none⟩ = some (.slice A1 xs[i].2.length c1) ∧ xs[i].1.length ≤ c0 ∧ Kd.string.C w A0 xs[i].1.length xs[i].1 ∧ xs[i].2.length ≤ c1 ∧ kMember.C w A1 xs[i].2.length xs[i].2 := by
  obtain ⟨ad, e, hc1⟩ := h.2.2 (by have := h.1; omega)
  obtain ⟨c, _, hK, hc0⟩ := hc1 i _ (List.getElem?_eq_getElem hi)
  have hc : ∀ j u, c[j]? = some u → w.cell? (ad.add (i * 2 + j)) = some u := hc0
  obtain ⟨A0, c0, A1, c1, rfl, l0, h0, l1, h1⟩ := openRoles hK
  exact ⟨ad, A0, c0, A1, c1, e, by have hq := hc 0 _ rfl; simpa using hq, by rw [← add_field _ _ 1 (by omega)]; exact hc 1 _ rfl, l0, h0, l1, h1⟩

abbrev TCatalog := Int × Int × TObjects × TRoles × (List TGrant)
def kCatalog : Kd TCatalog := Kd.pair (Kd.int .i64) (Kd.pair (Kd.int .i64) (Kd.pair kObjects (Kd.pair kRoles (Kd.slice 147 kGrant))))
def eCatalog (x : TCatalog) : Er := cat (eNum x.1) (cat (eNum x.2.1) (cat (eObjects x.2.2.1) (cat (eRoles x.2.2.2.1) ((eList eGrant) x.2.2.2.2))))
def dCatalog : Dc TCatalog := dPair dNum (dPair dNum (dPair dObjects (dPair dRoles (dList dGrant))))
def wCatalog (x : TCatalog) : Nat := 4 + (4 + (wObjects x.2.2.1 + (wRoles x.2.2.2.1 + ((wList wGrant) x.2.2.2.2))))
def VCatalog (x : TCatalog) : Prop := (fun _ => True) x.1 ∧ (fun _ => True) x.2.1 ∧ VObjects x.2.2.1 ∧ VRoles x.2.2.2.1 ∧ (fun xs => ∀ x ∈ xs, VGrant x) x.2.2.2.2
theorem codCatalog : Cod eCatalog dCatalog wCatalog VCatalog := cod_pair cod_num (cod_pair cod_num (cod_pair codObjects (cod_pair codRoles (cod_list codGrant))))
theorem openCatalog {w : World} {x : TCatalog} {cs : List Value} (h : kCatalog.K w x cs) : ∃ A2 c2 A3 c3 A4 c4 A5 c5 A6 c6, cs = [.int .i64 x.1, .int .i64 x.2.1, .slice A2 x.2.2.1.1.length c2, .slice A3 x.2.2.1.2.length c3, .slice A4 x.2.2.2.1.1.length c4, .slice A5 x.2.2.2.1.2.length c5, .slice A6 x.2.2.2.2.length c6] ∧ x.2.2.1.1.length ≤ c2 ∧ kSchema.C w A2 x.2.2.1.1.length x.2.2.1.1 ∧ x.2.2.1.2.length ≤ c3 ∧ kTable.C w A3 x.2.2.1.2.length x.2.2.1.2 ∧ x.2.2.2.1.1.length ≤ c4 ∧ Kd.string.C w A4 x.2.2.2.1.1.length x.2.2.2.1.1 ∧ x.2.2.2.1.2.length ≤ c5 ∧ kMember.C w A5 x.2.2.2.1.2.length x.2.2.2.1.2 ∧ x.2.2.2.2.length ≤ c6 ∧ kGrant.C w A6 x.2.2.2.2.length x.2.2.2.2 := by
  obtain ⟨_, _, rfl, rfl, ⟨_, _, rfl, rfl, ⟨_, _, rfl, ⟨_, _, rfl, ⟨A2, c2, rfl, l2, h2⟩, ⟨A3, c3, rfl, l3, h3⟩⟩, ⟨_, _, rfl, ⟨_, _, rfl, ⟨A4, c4, rfl, l4, h4⟩, ⟨A5, c5, rfl, l5, h5⟩⟩, ⟨A6, c6, rfl, l6, h6⟩⟩⟩⟩⟩ := h
  exact ⟨A2, c2, A3, c3, A4, c4, A5, c5, A6, c6, rfl, l2, h2, l3, h3, l4, h4, l5, h5, l6, h6⟩
theorem openMCatalog {w : World} {base : Nat} {ok : Nat → Prop} {x : TCatalog} {cs : List Value} (h : kCatalog.M w base ok x cs) : ∃ v2 v3 v4 v5 v6, cs = [.int .i64 x.1, .int .i64 x.2.1, v2, v3, v4, v5, v6] ∧ kSchema.R 128 w base ok v2 x.2.2.1.1 ∧ kTable.R 134 w base ok v3 x.2.2.1.2 ∧ Kd.string.R 9 w base ok v4 x.2.2.2.1.1 ∧ kMember.R 142 w base ok v5 x.2.2.2.1.2 ∧ kGrant.R 147 w base ok v6 x.2.2.2.2 := by
  obtain ⟨_, _, rfl, rfl, ⟨_, _, rfl, rfl, ⟨_, _, rfl, ⟨_, _, rfl, ⟨v2, rfl, r2⟩, ⟨v3, rfl, r3⟩⟩, ⟨_, _, rfl, ⟨_, _, rfl, ⟨v4, rfl, r4⟩, ⟨v5, rfl, r5⟩⟩, ⟨v6, rfl, r6⟩⟩⟩⟩⟩ := h
  exact ⟨v2, v3, v4, v5, v6, rfl, r2, r3, r4, r5, r6⟩
theorem mkMCatalog {w : World} {base : Nat} {ok : Nat → Prop} (x : TCatalog) {v2 : Value} (r2 : kSchema.R 128 w base ok v2 x.2.2.1.1) {v3 : Value} (r3 : kTable.R 134 w base ok v3 x.2.2.1.2) {v4 : Value} (r4 : Kd.string.R 9 w base ok v4 x.2.2.2.1.1) {v5 : Value} (r5 : kMember.R 142 w base ok v5 x.2.2.2.1.2) {v6 : Value} (r6 : kGrant.R 147 w base ok v6 x.2.2.2.2) : kCatalog.M w base ok x [.int .i64 x.1, .int .i64 x.2.1, v2, v3, v4, v5, v6] := ⟨_, _, rfl, rfl, ⟨_, _, rfl, rfl, ⟨_, _, rfl, ⟨_, _, rfl, ⟨v2, rfl, r2⟩, ⟨v3, rfl, r3⟩⟩, ⟨_, _, rfl, ⟨_, _, rfl, ⟨v4, rfl, r4⟩, ⟨v5, rfl, r5⟩⟩, ⟨v6, rfl, r6⟩⟩⟩⟩⟩
theorem atCatalog {w : World} {A : Option Addr} {n : Nat} {xs : List TCatalog} (h : Kd.C kCatalog w A n xs) (i : Nat) (hi : i < xs.length) : ∃ ad A2 c2 A3 c3 A4 c4 A5 c5 A6 c6, A = some ad ∧ w.cell? (ad.add (i * 7)) = some (.int .i64 xs[i].1) ∧ w.cell? ⟨(ad.add (i * 7)).block, (ad.add (i * 7)).off + 1, none⟩ = some (.int .i64 xs[i].2.1) ∧ w.cell? ⟨(ad.add (i * 7)).block, (ad.add (i * 7)).off + 2, none⟩ = some (.slice A2 xs[i].2.2.1.1.length c2) ∧ w.cell? ⟨(ad.add (i * 7)).block, (ad.add (i * 7)).off + 3, none⟩ = some (.slice A3 xs[i].2.2.1.2.length c3) ∧ w.cell? ⟨(ad.add (i * 7)).block, (ad.add (i * 7)).off + 4, none⟩ = some (.slice A4 xs[i].2.2.2.1.1.length c4) ∧ w.cell? ⟨(ad.add (i * 7)).block, (ad.add (i * 7)).off + 5, none⟩ = some (.slice A5 xs[i].2.2.2.1.2.length c5) ∧ w.cell? ⟨(ad.add (i * 7)).block, (ad.add (i * 7)).off + 6, none⟩ = some (.slice A6 xs[i].2.2.2.2.length c6) ∧ xs[i].2.2.1.1.length ≤ c2 ∧ kSchema.C w A2 xs[i].2.2.1.1.length xs[i].2.2.1.1 ∧ xs[i].2.2.1.2.length ≤ c3 ∧ kTable.C w A3 xs[i].2.2.1.2.length xs[i].2.2.1.2 ∧ xs[i].2.2.2.1.1.length ≤ c4 ∧ Kd.string.C w A4 xs[i].2.2.2.1.1.length xs[i].2.2.2.1.1 ∧ xs[i].2.2.2.1.2.length ≤ c5 ∧ kMember.C w A5 xs[i].2.2.2.1.2.length xs[i].2.2.2.1.2 ∧ xs[i].2.2.2.2.length ≤ c6 ∧ kGrant.C w A6 xs[i].2.2.2.2.length xs[i].2.2.2.2 := by
  obtain ⟨ad, e, hc1⟩ := h.2.2 (by have := h.1; omega)
  obtain ⟨c, _, hK, hc0⟩ := hc1 i _ (List.getElem?_eq_getElem hi)
  have hc : ∀ j u, c[j]? = some u → w.cell? (ad.add (i * 7 + j)) = some u := hc0
  obtain ⟨A2, c2, A3, c3, A4, c4, A5, c5, A6, c6, rfl, l2, h2, l3, h3, l4, h4, l5, h5, l6, h6⟩ := openCatalog hK
  exact ⟨ad, A2, c2, A3, c3, A4, c4, A5, c5, A6, c6, e, by have hq := hc 0 _ rfl; simpa using hq, by rw [← add_field _ _ 1 (by omega)]; exact hc 1 _ rfl, by rw [← add_field _ _ 2 (by omega)]; exact hc 2 _ rfl, by rw [← add_field _ _ 3 (by omega)]; exact hc 3 _ rfl, by rw [← add_field _ _ 4 (by omega)]; exact hc 4 _ rfl, by rw [← add_field _ _ 5 (by omega)]; exact hc 5 _ rfl, by rw [← add_field _ _ 6 (by omega)]; exact hc 6 _ rfl, l2, h2, l3, h3, l4, h4, l5, h5, l6, h6⟩

abbrev TCommand := Int × ByteArray × ByteArray × ByteArray × ByteArray × ByteArray × (List TColumn) × TRule × Int × Bool
def kCommand : Kd TCommand := Kd.pair (Kd.int .i64) (Kd.pair Kd.string (Kd.pair Kd.string (Kd.pair Kd.string (Kd.pair Kd.string (Kd.pair Kd.string (Kd.pair (Kd.slice 167 kColumn) (Kd.pair kRule (Kd.pair (Kd.int .i64) Kd.bool))))))))
def eCommand (x : TCommand) : Er := cat (eNum x.1) (cat (eText x.2.1) (cat (eText x.2.2.1) (cat (eText x.2.2.2.1) (cat (eText x.2.2.2.2.1) (cat (eText x.2.2.2.2.2.1) (cat ((eList eColumn) x.2.2.2.2.2.2.1) (cat (eRule x.2.2.2.2.2.2.2.1) (cat (eNum x.2.2.2.2.2.2.2.2.1) (eFlag x.2.2.2.2.2.2.2.2.2)))))))))
def dCommand : Dc TCommand := dPair dNum (dPair dText (dPair dText (dPair dText (dPair dText (dPair dText (dPair (dList dColumn) (dPair dRule (dPair dNum dFlag))))))))
def wCommand (x : TCommand) : Nat := 4 + (wText x.2.1 + (wText x.2.2.1 + (wText x.2.2.2.1 + (wText x.2.2.2.2.1 + (wText x.2.2.2.2.2.1 + ((wList wColumn) x.2.2.2.2.2.2.1 + (wRule x.2.2.2.2.2.2.2.1 + (4 + (1)))))))))
def VCommand (x : TCommand) : Prop := (fun _ => True) x.1 ∧ (fun _ => True) x.2.1 ∧ (fun _ => True) x.2.2.1 ∧ (fun _ => True) x.2.2.2.1 ∧ (fun _ => True) x.2.2.2.2.1 ∧ (fun _ => True) x.2.2.2.2.2.1 ∧ (fun xs => ∀ x ∈ xs, VColumn x) x.2.2.2.2.2.2.1 ∧ VRule x.2.2.2.2.2.2.2.1 ∧ (fun _ => True) x.2.2.2.2.2.2.2.2.1 ∧ (fun _ => True) x.2.2.2.2.2.2.2.2.2
theorem codCommand : Cod eCommand dCommand wCommand VCommand := cod_pair cod_num (cod_pair cod_text (cod_pair cod_text (cod_pair cod_text (cod_pair cod_text (cod_pair cod_text (cod_pair (cod_list codColumn) (cod_pair codRule (cod_pair cod_num cod_flag))))))))
theorem openCommand {w : World} {x : TCommand} {cs : List Value} (h : kCommand.K w x cs) : ∃ A6 c6 A9 c9, cs = [.int .i64 x.1, .string x.2.1, .string x.2.2.1, .string x.2.2.2.1, .string x.2.2.2.2.1, .string x.2.2.2.2.2.1, .slice A6 x.2.2.2.2.2.2.1.length c6, .string x.2.2.2.2.2.2.2.1.1, .int .i64 x.2.2.2.2.2.2.2.1.2.1, .slice A9 x.2.2.2.2.2.2.2.1.2.2.1.length c9, .int .i64 x.2.2.2.2.2.2.2.1.2.2.2.1, .int .i64 x.2.2.2.2.2.2.2.1.2.2.2.2.1, .string x.2.2.2.2.2.2.2.1.2.2.2.2.2.1, .string x.2.2.2.2.2.2.2.1.2.2.2.2.2.2.1, .string x.2.2.2.2.2.2.2.1.2.2.2.2.2.2.2, .int .i64 x.2.2.2.2.2.2.2.2.1, .bool x.2.2.2.2.2.2.2.2.2] ∧ x.2.2.2.2.2.2.1.length ≤ c6 ∧ kColumn.C w A6 x.2.2.2.2.2.2.1.length x.2.2.2.2.2.2.1 ∧ x.2.2.2.2.2.2.2.1.2.2.1.length ≤ c9 ∧ Kd.string.C w A9 x.2.2.2.2.2.2.2.1.2.2.1.length x.2.2.2.2.2.2.2.1.2.2.1 := by
  obtain ⟨_, _, rfl, rfl, ⟨_, _, rfl, rfl, ⟨_, _, rfl, rfl, ⟨_, _, rfl, rfl, ⟨_, _, rfl, rfl, ⟨_, _, rfl, rfl, ⟨_, _, rfl, ⟨A6, c6, rfl, l6, h6⟩, ⟨_, _, rfl, ⟨_, _, rfl, rfl, ⟨_, _, rfl, rfl, ⟨_, _, rfl, ⟨A9, c9, rfl, l9, h9⟩, ⟨_, _, rfl, rfl, ⟨_, _, rfl, rfl, ⟨_, _, rfl, rfl, ⟨_, _, rfl, rfl, rfl⟩⟩⟩⟩⟩⟩⟩, ⟨_, _, rfl, rfl, rfl⟩⟩⟩⟩⟩⟩⟩⟩⟩ := h
  exact ⟨A6, c6, A9, c9, rfl, l6, h6, l9, h9⟩
theorem openMCommand {w : World} {base : Nat} {ok : Nat → Prop} {x : TCommand} {cs : List Value} (h : kCommand.M w base ok x cs) : ∃ v6 v9, cs = [.int .i64 x.1, .string x.2.1, .string x.2.2.1, .string x.2.2.2.1, .string x.2.2.2.2.1, .string x.2.2.2.2.2.1, v6, .string x.2.2.2.2.2.2.2.1.1, .int .i64 x.2.2.2.2.2.2.2.1.2.1, v9, .int .i64 x.2.2.2.2.2.2.2.1.2.2.2.1, .int .i64 x.2.2.2.2.2.2.2.1.2.2.2.2.1, .string x.2.2.2.2.2.2.2.1.2.2.2.2.2.1, .string x.2.2.2.2.2.2.2.1.2.2.2.2.2.2.1, .string x.2.2.2.2.2.2.2.1.2.2.2.2.2.2.2, .int .i64 x.2.2.2.2.2.2.2.2.1, .bool x.2.2.2.2.2.2.2.2.2] ∧ kColumn.R 167 w base ok v6 x.2.2.2.2.2.2.1 ∧ Kd.string.R 9 w base ok v9 x.2.2.2.2.2.2.2.1.2.2.1 := by
  obtain ⟨_, _, rfl, rfl, ⟨_, _, rfl, rfl, ⟨_, _, rfl, rfl, ⟨_, _, rfl, rfl, ⟨_, _, rfl, rfl, ⟨_, _, rfl, rfl, ⟨_, _, rfl, ⟨v6, rfl, r6⟩, ⟨_, _, rfl, ⟨_, _, rfl, rfl, ⟨_, _, rfl, rfl, ⟨_, _, rfl, ⟨v9, rfl, r9⟩, ⟨_, _, rfl, rfl, ⟨_, _, rfl, rfl, ⟨_, _, rfl, rfl, ⟨_, _, rfl, rfl, rfl⟩⟩⟩⟩⟩⟩⟩, ⟨_, _, rfl, rfl, rfl⟩⟩⟩⟩⟩⟩⟩⟩⟩ := h
  exact ⟨v6, v9, rfl, r6, r9⟩
theorem mkMCommand {w : World} {base : Nat} {ok : Nat → Prop} (x : TCommand) {v6 : Value} (r6 : kColumn.R 167 w base ok v6 x.2.2.2.2.2.2.1) {v9 : Value} (r9 : Kd.string.R 9 w base ok v9 x.2.2.2.2.2.2.2.1.2.2.1) : kCommand.M w base ok x [.int .i64 x.1, .string x.2.1, .string x.2.2.1, .string x.2.2.2.1, .string x.2.2.2.2.1, .string x.2.2.2.2.2.1, v6, .string x.2.2.2.2.2.2.2.1.1, .int .i64 x.2.2.2.2.2.2.2.1.2.1, v9, .int .i64 x.2.2.2.2.2.2.2.1.2.2.2.1, .int .i64 x.2.2.2.2.2.2.2.1.2.2.2.2.1, .string x.2.2.2.2.2.2.2.1.2.2.2.2.2.1, .string x.2.2.2.2.2.2.2.1.2.2.2.2.2.2.1, .string x.2.2.2.2.2.2.2.1.2.2.2.2.2.2.2, .int .i64 x.2.2.2.2.2.2.2.2.1, .bool x.2.2.2.2.2.2.2.2.2] := ⟨_, _, rfl, rfl, ⟨_, _, rfl, rfl, ⟨_, _, rfl, rfl, ⟨_, _, rfl, rfl, ⟨_, _, rfl, rfl, ⟨_, _, rfl, rfl, ⟨_, _, rfl, ⟨v6, rfl, r6⟩, ⟨_, _, rfl, ⟨_, _, rfl, rfl, ⟨_, _, rfl, rfl, ⟨_, _, rfl, ⟨v9, rfl, r9⟩, ⟨_, _, rfl, rfl, ⟨_, _, rfl, rfl, ⟨_, _, rfl, rfl, ⟨_, _, rfl, rfl, rfl⟩⟩⟩⟩⟩⟩⟩, ⟨_, _, rfl, rfl, rfl⟩⟩⟩⟩⟩⟩⟩⟩⟩
theorem atCommand {w : World} {A : Option Addr} {n : Nat} {xs : List TCommand} (h : Kd.C kCommand w A n xs) (i : Nat) (hi : i < xs.length) : ∃ ad A6 c6 A9 c9, A = some ad ∧ w.cell? (ad.add (i * 17)) = some (.int .i64 xs[i].1) ∧ w.cell? ⟨(ad.add (i * 17)).block, (ad.add (i * 17)).off + 1, none⟩ = some (.string xs[i].2.1) ∧ w.cell? ⟨(ad.add (i * 17)).block, (ad.add (i * 17)).off + 2, none⟩ = some (.string xs[i].2.2.1) ∧ w.cell? ⟨(ad.add (i * 17)).block, (ad.add (i * 17)).off + 3, none⟩ = some (.string xs[i].2.2.2.1) ∧ w.cell? ⟨(ad.add (i * 17)).block, (ad.add (i * 17)).off + 4, none⟩ = some (.string xs[i].2.2.2.2.1) ∧ w.cell? ⟨(ad.add (i * 17)).block, (ad.add (i * 17)).off + 5, none⟩ = some (.string xs[i].2.2.2.2.2.1) ∧ w.cell? ⟨(ad.add (i * 17)).block, (ad.add (i * 17)).off + 6, none⟩ = some (.slice A6 xs[i].2.2.2.2.2.2.1.length c6) ∧ w.cell? ⟨(ad.add (i * 17)).block, (ad.add (i * 17)).off + 7, none⟩ = some (.string xs[i].2.2.2.2.2.2.2.1.1) ∧ w.cell? ⟨(ad.add (i * 17)).block, (ad.add (i * 17)).off + 8, none⟩ = some (.int .i64 xs[i].2.2.2.2.2.2.2.1.2.1) ∧ w.cell? ⟨(ad.add (i * 17)).block, (ad.add (i * 17)).off + 9, none⟩ = some (.slice A9 xs[i].2.2.2.2.2.2.2.1.2.2.1.length c9) ∧ w.cell? ⟨(ad.add (i * 17)).block, (ad.add (i * 17)).off + 10, none⟩ = some (.int .i64 xs[i].2.2.2.2.2.2.2.1.2.2.2.1) ∧ w.cell? ⟨(ad.add (i * 17)).block, (ad.add (i * 17)).off + 11, none⟩ = some (.int .i64 xs[i].2.2.2.2.2.2.2.1.2.2.2.2.1) ∧ w.cell? ⟨(ad.add (i * 17)).block, (ad.add (i * 17)).off + 12, none⟩ = some (.string xs[i].2.2.2.2.2.2.2.1.2.2.2.2.2.1) ∧ w.cell? ⟨(ad.add (i * 17)).block, (ad.add (i * 17)).off + 13, none⟩ = some (.string xs[i].2.2.2.2.2.2.2.1.2.2.2.2.2.2.1) ∧ w.cell? ⟨(ad.add (i * 17)).block, (ad.add (i * 17)).off + 14, none⟩ = some (.string xs[i].2.2.2.2.2.2.2.1.2.2.2.2.2.2.2) ∧ w.cell? ⟨(ad.add (i * 17)).block, (ad.add (i * 17)).off + 15, none⟩ = some (.int .i64 xs[i].2.2.2.2.2.2.2.2.1) ∧ w.cell? ⟨(ad.add (i * 17)).block, (ad.add (i * 17)).off + 16, none⟩ = some (.bool xs[i].2.2.2.2.2.2.2.2.2) ∧ xs[i].2.2.2.2.2.2.1.length ≤ c6 ∧ kColumn.C w A6 xs[i].2.2.2.2.2.2.1.length xs[i].2.2.2.2.2.2.1 ∧ xs[i].2.2.2.2.2.2.2.1.2.2.1.length ≤ c9 ∧ Kd.string.C w A9 xs[i].2.2.2.2.2.2.2.1.2.2.1.length xs[i].2.2.2.2.2.2.2.1.2.2.1 := by
  obtain ⟨ad, e, hc1⟩ := h.2.2 (by have := h.1; omega)
  obtain ⟨c, _, hK, hc0⟩ := hc1 i _ (List.getElem?_eq_getElem hi)
  have hc : ∀ j u, c[j]? = some u → w.cell? (ad.add (i * 17 + j)) = some u := hc0
  obtain ⟨A6, c6, A9, c9, rfl, l6, h6, l9, h9⟩ := openCommand hK
  exact ⟨ad, A6, c6, A9, c9, e, by have hq := hc 0 _ rfl; simpa using hq, by rw [← add_field _ _ 1 (by omega)]; exact hc 1 _ rfl, by rw [← add_field _ _ 2 (by omega)]; exact hc 2 _ rfl, by rw [← add_field _ _ 3 (by omega)]; exact hc 3 _ rfl, by rw [← add_field _ _ 4 (by omega)]; exact hc 4 _ rfl, by rw [← add_field _ _ 5 (by omega)]; exact hc 5 _ rfl, by rw [← add_field _ _ 6 (by omega)]; exact hc 6 _ rfl, by rw [← add_field _ _ 7 (by omega)]; exact hc 7 _ rfl, by rw [← add_field _ _ 8 (by omega)]; exact hc 8 _ rfl, by rw [← add_field _ _ 9 (by omega)]; exact hc 9 _ rfl, by rw [← add_field _ _ 10 (by omega)]; exact hc 10 _ rfl, by rw [← add_field _ _ 11 (by omega)]; exact hc 11 _ rfl, by rw [← add_field _ _ 12 (by omega)]; exact hc 12 _ rfl, by rw [← add_field _ _ 13 (by omega)]; exact hc 13 _ rfl, by rw [← add_field _ _ 14 (by omega)]; exact hc 14 _ rfl, by rw [← add_field _ _ 15 (by omega)]; exact hc 15 _ rfl, by rw [← add_field _ _ 16 (by omega)]; exact hc 16 _ rfl, l6, h6, l9, h9⟩

abbrev TConfig := (List Int) × (List Int)
def kConfig : Kd TConfig := Kd.pair (Kd.slice 3 (Kd.int .i64)) (Kd.slice 3 (Kd.int .i64))
def eConfig (x : TConfig) : Er := cat ((eList eNum) x.1) ((eList eNum) x.2)
def dConfig : Dc TConfig := dPair (dList dNum) (dList dNum)
def wConfig (x : TConfig) : Nat := (wList (fun _ => 4)) x.1 + ((wList (fun _ => 4)) x.2)
def VConfig (x : TConfig) : Prop := (fun xs => ∀ x ∈ xs, (fun _ => True) x) x.1 ∧ (fun xs => ∀ x ∈ xs, (fun _ => True) x) x.2
theorem codConfig : Cod eConfig dConfig wConfig VConfig := cod_pair (cod_list cod_num) (cod_list cod_num)
theorem openConfig {w : World} {x : TConfig} {cs : List Value} (h : kConfig.K w x cs) : ∃ A0 c0 A1 c1, cs = [.slice A0 x.1.length c0, .slice A1 x.2.length c1] ∧ x.1.length ≤ c0 ∧ (Kd.int .i64).C w A0 x.1.length x.1 ∧ x.2.length ≤ c1 ∧ (Kd.int .i64).C w A1 x.2.length x.2 := by
  obtain ⟨_, _, rfl, ⟨A0, c0, rfl, l0, h0⟩, ⟨A1, c1, rfl, l1, h1⟩⟩ := h
  exact ⟨A0, c0, A1, c1, rfl, l0, h0, l1, h1⟩
theorem openMConfig {w : World} {base : Nat} {ok : Nat → Prop} {x : TConfig} {cs : List Value} (h : kConfig.M w base ok x cs) : ∃ v0 v1, cs = [v0, v1] ∧ (Kd.int .i64).R 3 w base ok v0 x.1 ∧ (Kd.int .i64).R 3 w base ok v1 x.2 := by
  obtain ⟨_, _, rfl, ⟨v0, rfl, r0⟩, ⟨v1, rfl, r1⟩⟩ := h
  exact ⟨v0, v1, rfl, r0, r1⟩
theorem mkMConfig {w : World} {base : Nat} {ok : Nat → Prop} (x : TConfig) {v0 : Value} (r0 : (Kd.int .i64).R 3 w base ok v0 x.1) {v1 : Value} (r1 : (Kd.int .i64).R 3 w base ok v1 x.2) : kConfig.M w base ok x [v0, v1] := ⟨_, _, rfl, ⟨v0, rfl, r0⟩, ⟨v1, rfl, r1⟩⟩
theorem atConfig {w : World} {A : Option Addr} {n : Nat} {xs : List TConfig} (h : Kd.C kConfig w A n xs) (i : Nat) (hi : i < xs.length) : ∃ ad A0 c0 A1 c1, A = some ad ∧ w.cell? (ad.add (i * 2)) = some (.slice A0 xs[i].1.length c0) ∧ w.cell? ⟨(ad.add (i * 2)).block, (ad.add (i * 2)).off + 1, none⟩ = some (.slice A1 xs[i].2.length c1) ∧ xs[i].1.length ≤ c0 ∧ (Kd.int .i64).C w A0 xs[i].1.length xs[i].1 ∧ xs[i].2.length ≤ c1 ∧ (Kd.int .i64).C w A1 xs[i].2.length xs[i].2 := by
  obtain ⟨ad, e, hc1⟩ := h.2.2 (by have := h.1; omega)
  obtain ⟨c, _, hK, hc0⟩ := hc1 i _ (List.getElem?_eq_getElem hi)
  have hc : ∀ j u, c[j]? = some u → w.cell? (ad.add (i * 2 + j)) = some u := hc0
  obtain ⟨A0, c0, A1, c1, rfl, l0, h0, l1, h1⟩ := openConfig hK
  exact ⟨ad, A0, c0, A1, c1, e, by have hq := hc 0 _ rfl; simpa using hq, by rw [← add_field _ _ 1 (by omega)]; exact hc 1 _ rfl, l0, h0, l1, h1⟩

abbrev TEntry := Int × Int × Int × TConfig × ByteArray
def kEntry : Kd TEntry := Kd.pair (Kd.int .i64) (Kd.pair (Kd.int .i64) (Kd.pair (Kd.int .i64) (Kd.pair kConfig Kd.string)))
def eEntry (x : TEntry) : Er := cat (eNum x.1) (cat (eNum x.2.1) (cat (eNum x.2.2.1) (cat (eConfig x.2.2.2.1) (eText x.2.2.2.2))))
def dEntry : Dc TEntry := dPair dNum (dPair dNum (dPair dNum (dPair dConfig dText)))
def wEntry (x : TEntry) : Nat := 4 + (4 + (4 + (wConfig x.2.2.2.1 + (wText x.2.2.2.2))))
def VEntry (x : TEntry) : Prop := (fun _ => True) x.1 ∧ (fun _ => True) x.2.1 ∧ (fun _ => True) x.2.2.1 ∧ VConfig x.2.2.2.1 ∧ (fun _ => True) x.2.2.2.2
theorem codEntry : Cod eEntry dEntry wEntry VEntry := cod_pair cod_num (cod_pair cod_num (cod_pair cod_num (cod_pair codConfig cod_text)))
theorem openEntry {w : World} {x : TEntry} {cs : List Value} (h : kEntry.K w x cs) : ∃ A3 c3 A4 c4, cs = [.int .i64 x.1, .int .i64 x.2.1, .int .i64 x.2.2.1, .slice A3 x.2.2.2.1.1.length c3, .slice A4 x.2.2.2.1.2.length c4, .string x.2.2.2.2] ∧ x.2.2.2.1.1.length ≤ c3 ∧ (Kd.int .i64).C w A3 x.2.2.2.1.1.length x.2.2.2.1.1 ∧ x.2.2.2.1.2.length ≤ c4 ∧ (Kd.int .i64).C w A4 x.2.2.2.1.2.length x.2.2.2.1.2 := by
  obtain ⟨_, _, rfl, rfl, ⟨_, _, rfl, rfl, ⟨_, _, rfl, rfl, ⟨_, _, rfl, ⟨_, _, rfl, ⟨A3, c3, rfl, l3, h3⟩, ⟨A4, c4, rfl, l4, h4⟩⟩, rfl⟩⟩⟩⟩ := h
  exact ⟨A3, c3, A4, c4, rfl, l3, h3, l4, h4⟩
theorem openMEntry {w : World} {base : Nat} {ok : Nat → Prop} {x : TEntry} {cs : List Value} (h : kEntry.M w base ok x cs) : ∃ v3 v4, cs = [.int .i64 x.1, .int .i64 x.2.1, .int .i64 x.2.2.1, v3, v4, .string x.2.2.2.2] ∧ (Kd.int .i64).R 3 w base ok v3 x.2.2.2.1.1 ∧ (Kd.int .i64).R 3 w base ok v4 x.2.2.2.1.2 := by
  obtain ⟨_, _, rfl, rfl, ⟨_, _, rfl, rfl, ⟨_, _, rfl, rfl, ⟨_, _, rfl, ⟨_, _, rfl, ⟨v3, rfl, r3⟩, ⟨v4, rfl, r4⟩⟩, rfl⟩⟩⟩⟩ := h
  exact ⟨v3, v4, rfl, r3, r4⟩
theorem mkMEntry {w : World} {base : Nat} {ok : Nat → Prop} (x : TEntry) {v3 : Value} (r3 : (Kd.int .i64).R 3 w base ok v3 x.2.2.2.1.1) {v4 : Value} (r4 : (Kd.int .i64).R 3 w base ok v4 x.2.2.2.1.2) : kEntry.M w base ok x [.int .i64 x.1, .int .i64 x.2.1, .int .i64 x.2.2.1, v3, v4, .string x.2.2.2.2] := ⟨_, _, rfl, rfl, ⟨_, _, rfl, rfl, ⟨_, _, rfl, rfl, ⟨_, _, rfl, ⟨_, _, rfl, ⟨v3, rfl, r3⟩, ⟨v4, rfl, r4⟩⟩, rfl⟩⟩⟩⟩
theorem atEntry {w : World} {A : Option Addr} {n : Nat} {xs : List TEntry} (h : Kd.C kEntry w A n xs) (i : Nat) (hi : i < xs.length) : ∃ ad A3 c3 A4 c4, A = some ad ∧ w.cell? (ad.add (i * 6)) = some (.int .i64 xs[i].1) ∧ w.cell? ⟨(ad.add (i * 6)).block, (ad.add (i * 6)).off + 1, none⟩ = some (.int .i64 xs[i].2.1) ∧ w.cell? ⟨(ad.add (i * 6)).block, (ad.add (i * 6)).off + 2, none⟩ = some (.int .i64 xs[i].2.2.1) ∧ w.cell? ⟨(ad.add (i * 6)).block, (ad.add (i * 6)).off + 3, none⟩ = some (.slice A3 xs[i].2.2.2.1.1.length c3) ∧ w.cell? ⟨(ad.add (i * 6)).block, (ad.add (i * 6)).off + 4, none⟩ = some (.slice A4 xs[i].2.2.2.1.2.length c4) ∧ w.cell? ⟨(ad.add (i * 6)).block, (ad.add (i * 6)).off + 5, none⟩ = some (.string xs[i].2.2.2.2) ∧ xs[i].2.2.2.1.1.length ≤ c3 ∧ (Kd.int .i64).C w A3 xs[i].2.2.2.1.1.length xs[i].2.2.2.1.1 ∧ xs[i].2.2.2.1.2.length ≤ c4 ∧ (Kd.int .i64).C w A4 xs[i].2.2.2.1.2.length xs[i].2.2.2.1.2 := by
  obtain ⟨ad, e, hc1⟩ := h.2.2 (by have := h.1; omega)
  obtain ⟨c, _, hK, hc0⟩ := hc1 i _ (List.getElem?_eq_getElem hi)
  have hc : ∀ j u, c[j]? = some u → w.cell? (ad.add (i * 6 + j)) = some u := hc0
  obtain ⟨A3, c3, A4, c4, rfl, l3, h3, l4, h4⟩ := openEntry hK
  exact ⟨ad, A3, c3, A4, c4, e, by have hq := hc 0 _ rfl; simpa using hq, by rw [← add_field _ _ 1 (by omega)]; exact hc 1 _ rfl, by rw [← add_field _ _ 2 (by omega)]; exact hc 2 _ rfl, by rw [← add_field _ _ 3 (by omega)]; exact hc 3 _ rfl, by rw [← add_field _ _ 4 (by omega)]; exact hc 4 _ rfl, by rw [← add_field _ _ 5 (by omega)]; exact hc 5 _ rfl, l3, h3, l4, h4⟩

abbrev TSnapshot := Int × Int × TConfig × ByteArray
def kSnapshot : Kd TSnapshot := Kd.pair (Kd.int .i64) (Kd.pair (Kd.int .i64) (Kd.pair kConfig Kd.string))
def eSnapshot (x : TSnapshot) : Er := cat (eNum x.1) (cat (eNum x.2.1) (cat (eConfig x.2.2.1) (eText x.2.2.2)))
def dSnapshot : Dc TSnapshot := dPair dNum (dPair dNum (dPair dConfig dText))
def wSnapshot (x : TSnapshot) : Nat := 4 + (4 + (wConfig x.2.2.1 + (wText x.2.2.2)))
def VSnapshot (x : TSnapshot) : Prop := (fun _ => True) x.1 ∧ (fun _ => True) x.2.1 ∧ VConfig x.2.2.1 ∧ (fun _ => True) x.2.2.2
theorem codSnapshot : Cod eSnapshot dSnapshot wSnapshot VSnapshot := cod_pair cod_num (cod_pair cod_num (cod_pair codConfig cod_text))
theorem openSnapshot {w : World} {x : TSnapshot} {cs : List Value} (h : kSnapshot.K w x cs) : ∃ A2 c2 A3 c3, cs = [.int .i64 x.1, .int .i64 x.2.1, .slice A2 x.2.2.1.1.length c2, .slice A3 x.2.2.1.2.length c3, .string x.2.2.2] ∧ x.2.2.1.1.length ≤ c2 ∧ (Kd.int .i64).C w A2 x.2.2.1.1.length x.2.2.1.1 ∧ x.2.2.1.2.length ≤ c3 ∧ (Kd.int .i64).C w A3 x.2.2.1.2.length x.2.2.1.2 := by
  obtain ⟨_, _, rfl, rfl, ⟨_, _, rfl, rfl, ⟨_, _, rfl, ⟨_, _, rfl, ⟨A2, c2, rfl, l2, h2⟩, ⟨A3, c3, rfl, l3, h3⟩⟩, rfl⟩⟩⟩ := h
  exact ⟨A2, c2, A3, c3, rfl, l2, h2, l3, h3⟩
theorem openMSnapshot {w : World} {base : Nat} {ok : Nat → Prop} {x : TSnapshot} {cs : List Value} (h : kSnapshot.M w base ok x cs) : ∃ v2 v3, cs = [.int .i64 x.1, .int .i64 x.2.1, v2, v3, .string x.2.2.2] ∧ (Kd.int .i64).R 3 w base ok v2 x.2.2.1.1 ∧ (Kd.int .i64).R 3 w base ok v3 x.2.2.1.2 := by
  obtain ⟨_, _, rfl, rfl, ⟨_, _, rfl, rfl, ⟨_, _, rfl, ⟨_, _, rfl, ⟨v2, rfl, r2⟩, ⟨v3, rfl, r3⟩⟩, rfl⟩⟩⟩ := h
  exact ⟨v2, v3, rfl, r2, r3⟩
theorem mkMSnapshot {w : World} {base : Nat} {ok : Nat → Prop} (x : TSnapshot) {v2 : Value} (r2 : (Kd.int .i64).R 3 w base ok v2 x.2.2.1.1) {v3 : Value} (r3 : (Kd.int .i64).R 3 w base ok v3 x.2.2.1.2) : kSnapshot.M w base ok x [.int .i64 x.1, .int .i64 x.2.1, v2, v3, .string x.2.2.2] := ⟨_, _, rfl, rfl, ⟨_, _, rfl, rfl, ⟨_, _, rfl, ⟨_, _, rfl, ⟨v2, rfl, r2⟩, ⟨v3, rfl, r3⟩⟩, rfl⟩⟩⟩
theorem atSnapshot {w : World} {A : Option Addr} {n : Nat} {xs : List TSnapshot} (h : Kd.C kSnapshot w A n xs) (i : Nat) (hi : i < xs.length) : ∃ ad A2 c2 A3 c3, A = some ad ∧ w.cell? (ad.add (i * 5)) = some (.int .i64 xs[i].1) ∧ w.cell? ⟨(ad.add (i * 5)).block, (ad.add (i * 5)).off + 1, none⟩ = some (.int .i64 xs[i].2.1) ∧ w.cell? ⟨(ad.add (i * 5)).block, (ad.add (i * 5)).off + 2, none⟩ = some (.slice A2 xs[i].2.2.1.1.length c2) ∧ w.cell? ⟨(ad.add (i * 5)).block, (ad.add (i * 5)).off + 3, none⟩ = some (.slice A3 xs[i].2.2.1.2.length c3) ∧ w.cell? ⟨(ad.add (i * 5)).block, (ad.add (i * 5)).off + 4, none⟩ = some (.string xs[i].2.2.2) ∧ xs[i].2.2.1.1.length ≤ c2 ∧ (Kd.int .i64).C w A2 xs[i].2.2.1.1.length xs[i].2.2.1.1 ∧ xs[i].2.2.1.2.length ≤ c3 ∧ (Kd.int .i64).C w A3 xs[i].2.2.1.2.length xs[i].2.2.1.2 := by
  obtain ⟨ad, e, hc1⟩ := h.2.2 (by have := h.1; omega)
  obtain ⟨c, _, hK, hc0⟩ := hc1 i _ (List.getElem?_eq_getElem hi)
  have hc : ∀ j u, c[j]? = some u → w.cell? (ad.add (i * 5 + j)) = some u := hc0
  obtain ⟨A2, c2, A3, c3, rfl, l2, h2, l3, h3⟩ := openSnapshot hK
  exact ⟨ad, A2, c2, A3, c3, e, by have hq := hc 0 _ rfl; simpa using hq, by rw [← add_field _ _ 1 (by omega)]; exact hc 1 _ rfl, by rw [← add_field _ _ 2 (by omega)]; exact hc 2 _ rfl, by rw [← add_field _ _ 3 (by omega)]; exact hc 3 _ rfl, by rw [← add_field _ _ 4 (by omega)]; exact hc 4 _ rfl, l2, h2, l3, h3⟩

abbrev TRecord := Int × Int × Int × TEntry × Int × TSnapshot
def kRecord : Kd TRecord := Kd.pair (Kd.int .i64) (Kd.pair (Kd.int .i64) (Kd.pair (Kd.int .i64) (Kd.pair kEntry (Kd.pair (Kd.int .i64) kSnapshot))))
def eRecord (x : TRecord) : Er := cat (eNum x.1) (cat (eNum x.2.1) (cat (eNum x.2.2.1) (cat (eEntry x.2.2.2.1) (cat (eNum x.2.2.2.2.1) (eSnapshot x.2.2.2.2.2)))))
def dRecord : Dc TRecord := dPair dNum (dPair dNum (dPair dNum (dPair dEntry (dPair dNum dSnapshot))))
def wRecord (x : TRecord) : Nat := 4 + (4 + (4 + (wEntry x.2.2.2.1 + (4 + (wSnapshot x.2.2.2.2.2)))))
def VRecord (x : TRecord) : Prop := (fun _ => True) x.1 ∧ (fun _ => True) x.2.1 ∧ (fun _ => True) x.2.2.1 ∧ VEntry x.2.2.2.1 ∧ (fun _ => True) x.2.2.2.2.1 ∧ VSnapshot x.2.2.2.2.2
theorem codRecord : Cod eRecord dRecord wRecord VRecord := cod_pair cod_num (cod_pair cod_num (cod_pair cod_num (cod_pair codEntry (cod_pair cod_num codSnapshot))))
theorem openRecord {w : World} {x : TRecord} {cs : List Value} (h : kRecord.K w x cs) : ∃ A6 c6 A7 c7 A12 c12 A13 c13, cs = [.int .i64 x.1, .int .i64 x.2.1, .int .i64 x.2.2.1, .int .i64 x.2.2.2.1.1, .int .i64 x.2.2.2.1.2.1, .int .i64 x.2.2.2.1.2.2.1, .slice A6 x.2.2.2.1.2.2.2.1.1.length c6, .slice A7 x.2.2.2.1.2.2.2.1.2.length c7, .string x.2.2.2.1.2.2.2.2, .int .i64 x.2.2.2.2.1, .int .i64 x.2.2.2.2.2.1, .int .i64 x.2.2.2.2.2.2.1, .slice A12 x.2.2.2.2.2.2.2.1.1.length c12, .slice A13 x.2.2.2.2.2.2.2.1.2.length c13, .string x.2.2.2.2.2.2.2.2] ∧ x.2.2.2.1.2.2.2.1.1.length ≤ c6 ∧ (Kd.int .i64).C w A6 x.2.2.2.1.2.2.2.1.1.length x.2.2.2.1.2.2.2.1.1 ∧ x.2.2.2.1.2.2.2.1.2.length ≤ c7 ∧ (Kd.int .i64).C w A7 x.2.2.2.1.2.2.2.1.2.length x.2.2.2.1.2.2.2.1.2 ∧ x.2.2.2.2.2.2.2.1.1.length ≤ c12 ∧ (Kd.int .i64).C w A12 x.2.2.2.2.2.2.2.1.1.length x.2.2.2.2.2.2.2.1.1 ∧ x.2.2.2.2.2.2.2.1.2.length ≤ c13 ∧ (Kd.int .i64).C w A13 x.2.2.2.2.2.2.2.1.2.length x.2.2.2.2.2.2.2.1.2 := by
  obtain ⟨_, _, rfl, rfl, ⟨_, _, rfl, rfl, ⟨_, _, rfl, rfl, ⟨_, _, rfl, ⟨_, _, rfl, rfl, ⟨_, _, rfl, rfl, ⟨_, _, rfl, rfl, ⟨_, _, rfl, ⟨_, _, rfl, ⟨A6, c6, rfl, l6, h6⟩, ⟨A7, c7, rfl, l7, h7⟩⟩, rfl⟩⟩⟩⟩, ⟨_, _, rfl, rfl, ⟨_, _, rfl, rfl, ⟨_, _, rfl, rfl, ⟨_, _, rfl, ⟨_, _, rfl, ⟨A12, c12, rfl, l12, h12⟩, ⟨A13, c13, rfl, l13, h13⟩⟩, rfl⟩⟩⟩⟩⟩⟩⟩⟩ := h
  exact ⟨A6, c6, A7, c7, A12, c12, A13, c13, rfl, l6, h6, l7, h7, l12, h12, l13, h13⟩
theorem openMRecord {w : World} {base : Nat} {ok : Nat → Prop} {x : TRecord} {cs : List Value} (h : kRecord.M w base ok x cs) : ∃ v6 v7 v12 v13, cs = [.int .i64 x.1, .int .i64 x.2.1, .int .i64 x.2.2.1, .int .i64 x.2.2.2.1.1, .int .i64 x.2.2.2.1.2.1, .int .i64 x.2.2.2.1.2.2.1, v6, v7, .string x.2.2.2.1.2.2.2.2, .int .i64 x.2.2.2.2.1, .int .i64 x.2.2.2.2.2.1, .int .i64 x.2.2.2.2.2.2.1, v12, v13, .string x.2.2.2.2.2.2.2.2] ∧ (Kd.int .i64).R 3 w base ok v6 x.2.2.2.1.2.2.2.1.1 ∧ (Kd.int .i64).R 3 w base ok v7 x.2.2.2.1.2.2.2.1.2 ∧ (Kd.int .i64).R 3 w base ok v12 x.2.2.2.2.2.2.2.1.1 ∧ (Kd.int .i64).R 3 w base ok v13 x.2.2.2.2.2.2.2.1.2 := by
  obtain ⟨_, _, rfl, rfl, ⟨_, _, rfl, rfl, ⟨_, _, rfl, rfl, ⟨_, _, rfl, ⟨_, _, rfl, rfl, ⟨_, _, rfl, rfl, ⟨_, _, rfl, rfl, ⟨_, _, rfl, ⟨_, _, rfl, ⟨v6, rfl, r6⟩, ⟨v7, rfl, r7⟩⟩, rfl⟩⟩⟩⟩, ⟨_, _, rfl, rfl, ⟨_, _, rfl, rfl, ⟨_, _, rfl, rfl, ⟨_, _, rfl, ⟨_, _, rfl, ⟨v12, rfl, r12⟩, ⟨v13, rfl, r13⟩⟩, rfl⟩⟩⟩⟩⟩⟩⟩⟩ := h
  exact ⟨v6, v7, v12, v13, rfl, r6, r7, r12, r13⟩
theorem mkMRecord {w : World} {base : Nat} {ok : Nat → Prop} (x : TRecord) {v6 : Value} (r6 : (Kd.int .i64).R 3 w base ok v6 x.2.2.2.1.2.2.2.1.1) {v7 : Value} (r7 : (Kd.int .i64).R 3 w base ok v7 x.2.2.2.1.2.2.2.1.2) {v12 : Value} (r12 : (Kd.int .i64).R 3 w base ok v12 x.2.2.2.2.2.2.2.1.1) {v13 : Value} (r13 : (Kd.int .i64).R 3 w base ok v13 x.2.2.2.2.2.2.2.1.2) : kRecord.M w base ok x [.int .i64 x.1, .int .i64 x.2.1, .int .i64 x.2.2.1, .int .i64 x.2.2.2.1.1, .int .i64 x.2.2.2.1.2.1, .int .i64 x.2.2.2.1.2.2.1, v6, v7, .string x.2.2.2.1.2.2.2.2, .int .i64 x.2.2.2.2.1, .int .i64 x.2.2.2.2.2.1, .int .i64 x.2.2.2.2.2.2.1, v12, v13, .string x.2.2.2.2.2.2.2.2] := ⟨_, _, rfl, rfl, ⟨_, _, rfl, rfl, ⟨_, _, rfl, rfl, ⟨_, _, rfl, ⟨_, _, rfl, rfl, ⟨_, _, rfl, rfl, ⟨_, _, rfl, rfl, ⟨_, _, rfl, ⟨_, _, rfl, ⟨v6, rfl, r6⟩, ⟨v7, rfl, r7⟩⟩, rfl⟩⟩⟩⟩, ⟨_, _, rfl, rfl, ⟨_, _, rfl, rfl, ⟨_, _, rfl, rfl, ⟨_, _, rfl, ⟨_, _, rfl, ⟨v12, rfl, r12⟩, ⟨v13, rfl, r13⟩⟩, rfl⟩⟩⟩⟩⟩⟩⟩⟩
theorem atRecord {w : World} {A : Option Addr} {n : Nat} {xs : List TRecord} (h : Kd.C kRecord w A n xs) (i : Nat) (hi : i < xs.length) : ∃ ad A6 c6 A7 c7 A12 c12 A13 c13, A = some ad ∧ w.cell? (ad.add (i * 15)) = some (.int .i64 xs[i].1) ∧ w.cell? ⟨(ad.add (i * 15)).block, (ad.add (i * 15)).off + 1, none⟩ = some (.int .i64 xs[i].2.1) ∧ w.cell? ⟨(ad.add (i * 15)).block, (ad.add (i * 15)).off + 2, none⟩ = some (.int .i64 xs[i].2.2.1) ∧ w.cell? ⟨(ad.add (i * 15)).block, (ad.add (i * 15)).off + 3, none⟩ = some (.int .i64 xs[i].2.2.2.1.1) ∧ w.cell? ⟨(ad.add (i * 15)).block, (ad.add (i * 15)).off + 4, none⟩ = some (.int .i64 xs[i].2.2.2.1.2.1) ∧ w.cell? ⟨(ad.add (i * 15)).block, (ad.add (i * 15)).off + 5, none⟩ = some (.int .i64 xs[i].2.2.2.1.2.2.1) ∧ w.cell? ⟨(ad.add (i * 15)).block, (ad.add (i * 15)).off + 6, none⟩ = some (.slice A6 xs[i].2.2.2.1.2.2.2.1.1.length c6) ∧ w.cell? ⟨(ad.add (i * 15)).block, (ad.add (i * 15)).off + 7, none⟩ = some (.slice A7 xs[i].2.2.2.1.2.2.2.1.2.length c7) ∧ w.cell? ⟨(ad.add (i * 15)).block, (ad.add (i * 15)).off + 8, none⟩ = some (.string xs[i].2.2.2.1.2.2.2.2) ∧ w.cell? ⟨(ad.add (i * 15)).block, (ad.add (i * 15)).off + 9, none⟩ = some (.int .i64 xs[i].2.2.2.2.1) ∧ w.cell? ⟨(ad.add (i * 15)).block, (ad.add (i * 15)).off + 10, none⟩ = some (.int .i64 xs[i].2.2.2.2.2.1) ∧ w.cell? ⟨(ad.add (i * 15)).block, (ad.add (i * 15)).off + 11, none⟩ = some (.int .i64 xs[i].2.2.2.2.2.2.1) ∧ w.cell? ⟨(ad.add (i * 15)).block, (ad.add (i * 15)).off + 12, none⟩ = some (.slice A12 xs[i].2.2.2.2.2.2.2.1.1.length c12) ∧ w.cell? ⟨(ad.add (i * 15)).block, (ad.add (i * 15)).off + 13, none⟩ = some (.slice A13 xs[i].2.2.2.2.2.2.2.1.2.length c13) ∧ w.cell? ⟨(ad.add (i * 15)).block, (ad.add (i * 15)).off + 14, none⟩ = some (.string xs[i].2.2.2.2.2.2.2.2) ∧ xs[i].2.2.2.1.2.2.2.1.1.length ≤ c6 ∧ (Kd.int .i64).C w A6 xs[i].2.2.2.1.2.2.2.1.1.length xs[i].2.2.2.1.2.2.2.1.1 ∧ xs[i].2.2.2.1.2.2.2.1.2.length ≤ c7 ∧ (Kd.int .i64).C w A7 xs[i].2.2.2.1.2.2.2.1.2.length xs[i].2.2.2.1.2.2.2.1.2 ∧ xs[i].2.2.2.2.2.2.2.1.1.length ≤ c12 ∧ (Kd.int .i64).C w A12 xs[i].2.2.2.2.2.2.2.1.1.length xs[i].2.2.2.2.2.2.2.1.1 ∧ xs[i].2.2.2.2.2.2.2.1.2.length ≤ c13 ∧ (Kd.int .i64).C w A13 xs[i].2.2.2.2.2.2.2.1.2.length xs[i].2.2.2.2.2.2.2.1.2 := by
  obtain ⟨ad, e, hc1⟩ := h.2.2 (by have := h.1; omega)
  obtain ⟨c, _, hK, hc0⟩ := hc1 i _ (List.getElem?_eq_getElem hi)
  have hc : ∀ j u, c[j]? = some u → w.cell? (ad.add (i * 15 + j)) = some u := hc0
  obtain ⟨A6, c6, A7, c7, A12, c12, A13, c13, rfl, l6, h6, l7, h7, l12, h12, l13, h13⟩ := openRecord hK
  exact ⟨ad, A6, c6, A7, c7, A12, c12, A13, c13, e, by have hq := hc 0 _ rfl; simpa using hq, by rw [← add_field _ _ 1 (by omega)]; exact hc 1 _ rfl, by rw [← add_field _ _ 2 (by omega)]; exact hc 2 _ rfl, by rw [← add_field _ _ 3 (by omega)]; exact hc 3 _ rfl, by rw [← add_field _ _ 4 (by omega)]; exact hc 4 _ rfl, by rw [← add_field _ _ 5 (by omega)]; exact hc 5 _ rfl, by rw [← add_field _ _ 6 (by omega)]; exact hc 6 _ rfl, by rw [← add_field _ _ 7 (by omega)]; exact hc 7 _ rfl, by rw [← add_field _ _ 8 (by omega)]; exact hc 8 _ rfl, by rw [← add_field _ _ 9 (by omega)]; exact hc 9 _ rfl, by rw [← add_field _ _ 10 (by omega)]; exact hc 10 _ rfl, by rw [← add_field _ _ 11 (by omega)]; exact hc 11 _ rfl, by rw [← add_field _ _ 12 (by omega)]; exact hc 12 _ rfl, by rw [← add_field _ _ 13 (by omega)]; exact hc 13 _ rfl, by rw [← add_field _ _ 14 (by omega)]; exact hc 14 _ rfl, l6, h6, l7, h7, l12, h12, l13, h13⟩

abbrev TOp := Int × Int × Int × TCommand × Int × Int × Int
def kOp : Kd TOp := Kd.pair (Kd.int .i64) (Kd.pair (Kd.int .i64) (Kd.pair (Kd.int .i64) (Kd.pair kCommand (Kd.pair (Kd.int .i64) (Kd.pair (Kd.int .i64) (Kd.int .i64))))))
def eOp (x : TOp) : Er := cat (eNum x.1) (cat (eNum x.2.1) (cat (eNum x.2.2.1) (cat (eCommand x.2.2.2.1) (cat (eNum x.2.2.2.2.1) (cat (eNum x.2.2.2.2.2.1) (eNum x.2.2.2.2.2.2))))))
def dOp : Dc TOp := dPair dNum (dPair dNum (dPair dNum (dPair dCommand (dPair dNum (dPair dNum dNum)))))
def wOp (x : TOp) : Nat := 4 + (4 + (4 + (wCommand x.2.2.2.1 + (4 + (4 + (4))))))
def VOp (x : TOp) : Prop := (fun _ => True) x.1 ∧ (fun _ => True) x.2.1 ∧ (fun _ => True) x.2.2.1 ∧ VCommand x.2.2.2.1 ∧ (fun _ => True) x.2.2.2.2.1 ∧ (fun _ => True) x.2.2.2.2.2.1 ∧ (fun _ => True) x.2.2.2.2.2.2
theorem codOp : Cod eOp dOp wOp VOp := cod_pair cod_num (cod_pair cod_num (cod_pair cod_num (cod_pair codCommand (cod_pair cod_num (cod_pair cod_num cod_num)))))
theorem openOp {w : World} {x : TOp} {cs : List Value} (h : kOp.K w x cs) : ∃ A9 c9 A12 c12, cs = [.int .i64 x.1, .int .i64 x.2.1, .int .i64 x.2.2.1, .int .i64 x.2.2.2.1.1, .string x.2.2.2.1.2.1, .string x.2.2.2.1.2.2.1, .string x.2.2.2.1.2.2.2.1, .string x.2.2.2.1.2.2.2.2.1, .string x.2.2.2.1.2.2.2.2.2.1, .slice A9 x.2.2.2.1.2.2.2.2.2.2.1.length c9, .string x.2.2.2.1.2.2.2.2.2.2.2.1.1, .int .i64 x.2.2.2.1.2.2.2.2.2.2.2.1.2.1, .slice A12 x.2.2.2.1.2.2.2.2.2.2.2.1.2.2.1.length c12, .int .i64 x.2.2.2.1.2.2.2.2.2.2.2.1.2.2.2.1, .int .i64 x.2.2.2.1.2.2.2.2.2.2.2.1.2.2.2.2.1, .string x.2.2.2.1.2.2.2.2.2.2.2.1.2.2.2.2.2.1, .string x.2.2.2.1.2.2.2.2.2.2.2.1.2.2.2.2.2.2.1, .string x.2.2.2.1.2.2.2.2.2.2.2.1.2.2.2.2.2.2.2, .int .i64 x.2.2.2.1.2.2.2.2.2.2.2.2.1, .bool x.2.2.2.1.2.2.2.2.2.2.2.2.2, .int .i64 x.2.2.2.2.1, .int .i64 x.2.2.2.2.2.1, .int .i64 x.2.2.2.2.2.2] ∧ x.2.2.2.1.2.2.2.2.2.2.1.length ≤ c9 ∧ kColumn.C w A9 x.2.2.2.1.2.2.2.2.2.2.1.length x.2.2.2.1.2.2.2.2.2.2.1 ∧ x.2.2.2.1.2.2.2.2.2.2.2.1.2.2.1.length ≤ c12 ∧ Kd.string.C w A12 x.2.2.2.1.2.2.2.2.2.2.2.1.2.2.1.length x.2.2.2.1.2.2.2.2.2.2.2.1.2.2.1 := by
  obtain ⟨_, _, rfl, rfl, ⟨_, _, rfl, rfl, ⟨_, _, rfl, rfl, ⟨_, _, rfl, ⟨_, _, rfl, rfl, ⟨_, _, rfl, rfl, ⟨_, _, rfl, rfl, ⟨_, _, rfl, rfl, ⟨_, _, rfl, rfl, ⟨_, _, rfl, rfl, ⟨_, _, rfl, ⟨A9, c9, rfl, l9, h9⟩, ⟨_, _, rfl, ⟨_, _, rfl, rfl, ⟨_, _, rfl, rfl, ⟨_, _, rfl, ⟨A12, c12, rfl, l12, h12⟩, ⟨_, _, rfl, rfl, ⟨_, _, rfl, rfl, ⟨_, _, rfl, rfl, ⟨_, _, rfl, rfl, rfl⟩⟩⟩⟩⟩⟩⟩, ⟨_, _, rfl, rfl, rfl⟩⟩⟩⟩⟩⟩⟩⟩⟩, ⟨_, _, rfl, rfl, ⟨_, _, rfl, rfl, rfl⟩⟩⟩⟩⟩⟩ := h
  exact ⟨A9, c9, A12, c12, rfl, l9, h9, l12, h12⟩
theorem openMOp {w : World} {base : Nat} {ok : Nat → Prop} {x : TOp} {cs : List Value} (h : kOp.M w base ok x cs) : ∃ v9 v12, cs = [.int .i64 x.1, .int .i64 x.2.1, .int .i64 x.2.2.1, .int .i64 x.2.2.2.1.1, .string x.2.2.2.1.2.1, .string x.2.2.2.1.2.2.1, .string x.2.2.2.1.2.2.2.1, .string x.2.2.2.1.2.2.2.2.1, .string x.2.2.2.1.2.2.2.2.2.1, v9, .string x.2.2.2.1.2.2.2.2.2.2.2.1.1, .int .i64 x.2.2.2.1.2.2.2.2.2.2.2.1.2.1, v12, .int .i64 x.2.2.2.1.2.2.2.2.2.2.2.1.2.2.2.1, .int .i64 x.2.2.2.1.2.2.2.2.2.2.2.1.2.2.2.2.1, .string x.2.2.2.1.2.2.2.2.2.2.2.1.2.2.2.2.2.1, .string x.2.2.2.1.2.2.2.2.2.2.2.1.2.2.2.2.2.2.1, .string x.2.2.2.1.2.2.2.2.2.2.2.1.2.2.2.2.2.2.2, .int .i64 x.2.2.2.1.2.2.2.2.2.2.2.2.1, .bool x.2.2.2.1.2.2.2.2.2.2.2.2.2, .int .i64 x.2.2.2.2.1, .int .i64 x.2.2.2.2.2.1, .int .i64 x.2.2.2.2.2.2] ∧ kColumn.R 167 w base ok v9 x.2.2.2.1.2.2.2.2.2.2.1 ∧ Kd.string.R 9 w base ok v12 x.2.2.2.1.2.2.2.2.2.2.2.1.2.2.1 := by
  obtain ⟨_, _, rfl, rfl, ⟨_, _, rfl, rfl, ⟨_, _, rfl, rfl, ⟨_, _, rfl, ⟨_, _, rfl, rfl, ⟨_, _, rfl, rfl, ⟨_, _, rfl, rfl, ⟨_, _, rfl, rfl, ⟨_, _, rfl, rfl, ⟨_, _, rfl, rfl, ⟨_, _, rfl, ⟨v9, rfl, r9⟩, ⟨_, _, rfl, ⟨_, _, rfl, rfl, ⟨_, _, rfl, rfl, ⟨_, _, rfl, ⟨v12, rfl, r12⟩, ⟨_, _, rfl, rfl, ⟨_, _, rfl, rfl, ⟨_, _, rfl, rfl, ⟨_, _, rfl, rfl, rfl⟩⟩⟩⟩⟩⟩⟩, ⟨_, _, rfl, rfl, rfl⟩⟩⟩⟩⟩⟩⟩⟩⟩, ⟨_, _, rfl, rfl, ⟨_, _, rfl, rfl, rfl⟩⟩⟩⟩⟩⟩ := h
  exact ⟨v9, v12, rfl, r9, r12⟩
theorem mkMOp {w : World} {base : Nat} {ok : Nat → Prop} (x : TOp) {v9 : Value} (r9 : kColumn.R 167 w base ok v9 x.2.2.2.1.2.2.2.2.2.2.1) {v12 : Value} (r12 : Kd.string.R 9 w base ok v12 x.2.2.2.1.2.2.2.2.2.2.2.1.2.2.1) : kOp.M w base ok x [.int .i64 x.1, .int .i64 x.2.1, .int .i64 x.2.2.1, .int .i64 x.2.2.2.1.1, .string x.2.2.2.1.2.1, .string x.2.2.2.1.2.2.1, .string x.2.2.2.1.2.2.2.1, .string x.2.2.2.1.2.2.2.2.1, .string x.2.2.2.1.2.2.2.2.2.1, v9, .string x.2.2.2.1.2.2.2.2.2.2.2.1.1, .int .i64 x.2.2.2.1.2.2.2.2.2.2.2.1.2.1, v12, .int .i64 x.2.2.2.1.2.2.2.2.2.2.2.1.2.2.2.1, .int .i64 x.2.2.2.1.2.2.2.2.2.2.2.1.2.2.2.2.1, .string x.2.2.2.1.2.2.2.2.2.2.2.1.2.2.2.2.2.1, .string x.2.2.2.1.2.2.2.2.2.2.2.1.2.2.2.2.2.2.1, .string x.2.2.2.1.2.2.2.2.2.2.2.1.2.2.2.2.2.2.2, .int .i64 x.2.2.2.1.2.2.2.2.2.2.2.2.1, .bool x.2.2.2.1.2.2.2.2.2.2.2.2.2, .int .i64 x.2.2.2.2.1, .int .i64 x.2.2.2.2.2.1, .int .i64 x.2.2.2.2.2.2] := ⟨_, _, rfl, rfl, ⟨_, _, rfl, rfl, ⟨_, _, rfl, rfl, ⟨_, _, rfl, ⟨_, _, rfl, rfl, ⟨_, _, rfl, rfl, ⟨_, _, rfl, rfl, ⟨_, _, rfl, rfl, ⟨_, _, rfl, rfl, ⟨_, _, rfl, rfl, ⟨_, _, rfl, ⟨v9, rfl, r9⟩, ⟨_, _, rfl, ⟨_, _, rfl, rfl, ⟨_, _, rfl, rfl, ⟨_, _, rfl, ⟨v12, rfl, r12⟩, ⟨_, _, rfl, rfl, ⟨_, _, rfl, rfl, ⟨_, _, rfl, rfl, ⟨_, _, rfl, rfl, rfl⟩⟩⟩⟩⟩⟩⟩, ⟨_, _, rfl, rfl, rfl⟩⟩⟩⟩⟩⟩⟩⟩⟩, ⟨_, _, rfl, rfl, ⟨_, _, rfl, rfl, rfl⟩⟩⟩⟩⟩⟩
theorem atOp {w : World} {A : Option Addr} {n : Nat} {xs : List TOp} (h : Kd.C kOp w A n xs) (i : Nat) (hi : i < xs.length) : ∃ ad A9 c9 A12 c12, A = some ad ∧ w.cell? (ad.add (i * 23)) = some (.int .i64 xs[i].1) ∧ w.cell? ⟨(ad.add (i * 23)).block, (ad.add (i * 23)).off + 1, none⟩ = some (.int .i64 xs[i].2.1) ∧ w.cell? ⟨(ad.add (i * 23)).block, (ad.add (i * 23)).off + 2, none⟩ = some (.int .i64 xs[i].2.2.1) ∧ w.cell? ⟨(ad.add (i * 23)).block, (ad.add (i * 23)).off + 3, none⟩ = some (.int .i64 xs[i].2.2.2.1.1) ∧ w.cell? ⟨(ad.add (i * 23)).block, (ad.add (i * 23)).off + 4, none⟩ = some (.string xs[i].2.2.2.1.2.1) ∧ w.cell? ⟨(ad.add (i * 23)).block, (ad.add (i * 23)).off + 5, none⟩ = some (.string xs[i].2.2.2.1.2.2.1) ∧ w.cell? ⟨(ad.add (i * 23)).block, (ad.add (i * 23)).off + 6, none⟩ = some (.string xs[i].2.2.2.1.2.2.2.1) ∧ w.cell? ⟨(ad.add (i * 23)).block, (ad.add (i * 23)).off + 7, none⟩ = some (.string xs[i].2.2.2.1.2.2.2.2.1) ∧ w.cell? ⟨(ad.add (i * 23)).block, (ad.add (i * 23)).off + 8, none⟩ = some (.string xs[i].2.2.2.1.2.2.2.2.2.1) ∧ w.cell? ⟨(ad.add (i * 23)).block, (ad.add (i * 23)).off + 9, none⟩ = some (.slice A9 xs[i].2.2.2.1.2.2.2.2.2.2.1.length c9) ∧ w.cell? ⟨(ad.add (i * 23)).block, (ad.add (i * 23)).off + 10, none⟩ = some (.string xs[i].2.2.2.1.2.2.2.2.2.2.2.1.1) ∧ w.cell? ⟨(ad.add (i * 23)).block, (ad.add (i * 23)).off + 11, none⟩ = some (.int .i64 xs[i].2.2.2.1.2.2.2.2.2.2.2.1.2.1) ∧ w.cell? ⟨(ad.add (i * 23)).block, (ad.add (i * 23)).off + 12, none⟩ = some (.slice A12 xs[i].2.2.2.1.2.2.2.2.2.2.2.1.2.2.1.length c12) ∧ w.cell? ⟨(ad.add (i * 23)).block, (ad.add (i * 23)).off + 13, none⟩ = some (.int .i64 xs[i].2.2.2.1.2.2.2.2.2.2.2.1.2.2.2.1) ∧ w.cell? ⟨(ad.add (i * 23)).block, (ad.add (i * 23)).off + 14, none⟩ = some (.int .i64 xs[i].2.2.2.1.2.2.2.2.2.2.2.1.2.2.2.2.1) ∧ w.cell? ⟨(ad.add (i * 23)).block, (ad.add (i * 23)).off + 15, none⟩ = some (.string xs[i].2.2.2.1.2.2.2.2.2.2.2.1.2.2.2.2.2.1) ∧ w.cell? ⟨(ad.add (i * 23)).block, (ad.add (i * 23)).off + 16, none⟩ = some (.string xs[i].2.2.2.1.2.2.2.2.2.2.2.1.2.2.2.2.2.2.1) ∧ w.cell? ⟨(ad.add (i * 23)).block, (ad.add (i * 23)).off + 17, none⟩ = some (.string xs[i].2.2.2.1.2.2.2.2.2.2.2.1.2.2.2.2.2.2.2) ∧ w.cell? ⟨(ad.add (i * 23)).block, (ad.add (i * 23)).off + 18, none⟩ = some (.int .i64 xs[i].2.2.2.1.2.2.2.2.2.2.2.2.1) ∧ w.cell? ⟨(ad.add (i * 23)).block, (ad.add (i * 23)).off + 19, none⟩ = some (.bool xs[i].2.2.2.1.2.2.2.2.2.2.2.2.2) ∧ w.cell? ⟨(ad.add (i * 23)).block, (ad.add (i * 23)).off + 20, none⟩ = some (.int .i64 xs[i].2.2.2.2.1) ∧ w.cell? ⟨(ad.add (i * 23)).block, (ad.add (i * 23)).off + 21, none⟩ = some (.int .i64 xs[i].2.2.2.2.2.1) ∧ w.cell? ⟨(ad.add (i * 23)).block, (ad.add (i * 23)).off + 22, none⟩ = some (.int .i64 xs[i].2.2.2.2.2.2) ∧ xs[i].2.2.2.1.2.2.2.2.2.2.1.length ≤ c9 ∧ kColumn.C w A9 xs[i].2.2.2.1.2.2.2.2.2.2.1.length xs[i].2.2.2.1.2.2.2.2.2.2.1 ∧ xs[i].2.2.2.1.2.2.2.2.2.2.2.1.2.2.1.length ≤ c12 ∧ Kd.string.C w A12 xs[i].2.2.2.1.2.2.2.2.2.2.2.1.2.2.1.length xs[i].2.2.2.1.2.2.2.2.2.2.2.1.2.2.1 := by
  obtain ⟨ad, e, hc1⟩ := h.2.2 (by have := h.1; omega)
  obtain ⟨c, _, hK, hc0⟩ := hc1 i _ (List.getElem?_eq_getElem hi)
  have hc : ∀ j u, c[j]? = some u → w.cell? (ad.add (i * 23 + j)) = some u := hc0
  obtain ⟨A9, c9, A12, c12, rfl, l9, h9, l12, h12⟩ := openOp hK
  exact ⟨ad, A9, c9, A12, c12, e, by have hq := hc 0 _ rfl; simpa using hq, by rw [← add_field _ _ 1 (by omega)]; exact hc 1 _ rfl, by rw [← add_field _ _ 2 (by omega)]; exact hc 2 _ rfl, by rw [← add_field _ _ 3 (by omega)]; exact hc 3 _ rfl, by rw [← add_field _ _ 4 (by omega)]; exact hc 4 _ rfl, by rw [← add_field _ _ 5 (by omega)]; exact hc 5 _ rfl, by rw [← add_field _ _ 6 (by omega)]; exact hc 6 _ rfl, by rw [← add_field _ _ 7 (by omega)]; exact hc 7 _ rfl, by rw [← add_field _ _ 8 (by omega)]; exact hc 8 _ rfl, by rw [← add_field _ _ 9 (by omega)]; exact hc 9 _ rfl, by rw [← add_field _ _ 10 (by omega)]; exact hc 10 _ rfl, by rw [← add_field _ _ 11 (by omega)]; exact hc 11 _ rfl, by rw [← add_field _ _ 12 (by omega)]; exact hc 12 _ rfl, by rw [← add_field _ _ 13 (by omega)]; exact hc 13 _ rfl, by rw [← add_field _ _ 14 (by omega)]; exact hc 14 _ rfl, by rw [← add_field _ _ 15 (by omega)]; exact hc 15 _ rfl, by rw [← add_field _ _ 16 (by omega)]; exact hc 16 _ rfl, by rw [← add_field _ _ 17 (by omega)]; exact hc 17 _ rfl, by rw [← add_field _ _ 18 (by omega)]; exact hc 18 _ rfl, by rw [← add_field _ _ 19 (by omega)]; exact hc 19 _ rfl, by rw [← add_field _ _ 20 (by omega)]; exact hc 20 _ rfl, by rw [← add_field _ _ 21 (by omega)]; exact hc 21 _ rfl, by rw [← add_field _ _ 22 (by omega)]; exact hc 22 _ rfl, l9, h9, l12, h12⟩

abbrev TLease := Int × Int × Int × Int
def kLease : Kd TLease := Kd.pair (Kd.int .i64) (Kd.pair (Kd.int .i64) (Kd.pair (Kd.int .i64) (Kd.int .i64)))
def eLease (x : TLease) : Er := cat (eNum x.1) (cat (eNum x.2.1) (cat (eNum x.2.2.1) (eNum x.2.2.2)))
def dLease : Dc TLease := dPair dNum (dPair dNum (dPair dNum dNum))
def wLease (x : TLease) : Nat := 4 + (4 + (4 + (4)))
def VLease (x : TLease) : Prop := (fun _ => True) x.1 ∧ (fun _ => True) x.2.1 ∧ (fun _ => True) x.2.2.1 ∧ (fun _ => True) x.2.2.2
theorem codLease : Cod eLease dLease wLease VLease := cod_pair cod_num (cod_pair cod_num (cod_pair cod_num cod_num))
theorem openLease {w : World} {x : TLease} {cs : List Value} (h : kLease.K w x cs) : cs = [.int .i64 x.1, .int .i64 x.2.1, .int .i64 x.2.2.1, .int .i64 x.2.2.2] := by
  obtain ⟨_, _, rfl, rfl, ⟨_, _, rfl, rfl, ⟨_, _, rfl, rfl, rfl⟩⟩⟩ := h
  exact rfl
theorem openMLease {w : World} {base : Nat} {ok : Nat → Prop} {x : TLease} {cs : List Value} (h : kLease.M w base ok x cs) : cs = [.int .i64 x.1, .int .i64 x.2.1, .int .i64 x.2.2.1, .int .i64 x.2.2.2] := by
  obtain ⟨_, _, rfl, rfl, ⟨_, _, rfl, rfl, ⟨_, _, rfl, rfl, rfl⟩⟩⟩ := h
  exact rfl
theorem mkMLease {w : World} {base : Nat} {ok : Nat → Prop} (x : TLease)  : kLease.M w base ok x [.int .i64 x.1, .int .i64 x.2.1, .int .i64 x.2.2.1, .int .i64 x.2.2.2] := ⟨_, _, rfl, rfl, ⟨_, _, rfl, rfl, ⟨_, _, rfl, rfl, rfl⟩⟩⟩
theorem atLease {w : World} {A : Option Addr} {n : Nat} {xs : List TLease} (h : Kd.C kLease w A n xs) (i : Nat) (hi : i < xs.length) : ∃ ad, A = some ad ∧ w.cell? (ad.add (i * 4)) = some (.int .i64 xs[i].1) ∧ w.cell? ⟨(ad.add (i * 4)).block, (ad.add (i * 4)).off + 1, none⟩ = some (.int .i64 xs[i].2.1) ∧ w.cell? ⟨(ad.add (i * 4)).block, (ad.add (i * 4)).off + 2, none⟩ = some (.int .i64 xs[i].2.2.1) ∧ w.cell? ⟨(ad.add (i * 4)).block, (ad.add (i * 4)).off + 3, none⟩ = some (.int .i64 xs[i].2.2.2) := by
  obtain ⟨ad, e, hc1⟩ := h.2.2 (by have := h.1; omega)
  obtain ⟨c, _, hK, hc0⟩ := hc1 i _ (List.getElem?_eq_getElem hi)
  have hc : ∀ j u, c[j]? = some u → w.cell? (ad.add (i * 4 + j)) = some u := hc0
  obtain rfl := openLease hK
  exact ⟨ad, e, by have hq := hc 0 _ rfl; simpa using hq, by rw [← add_field _ _ 1 (by omega)]; exact hc 1 _ rfl, by rw [← add_field _ _ 2 (by omega)]; exact hc 2 _ rfl, by rw [← add_field _ _ 3 (by omega)]; exact hc 3 _ rfl⟩

abbrev TDone := Int × Int × Int × Int × Int
def kDone : Kd TDone := Kd.pair (Kd.int .i64) (Kd.pair (Kd.int .i64) (Kd.pair (Kd.int .i64) (Kd.pair (Kd.int .i64) (Kd.int .i64))))
def eDone (x : TDone) : Er := cat (eNum x.1) (cat (eNum x.2.1) (cat (eNum x.2.2.1) (cat (eNum x.2.2.2.1) (eNum x.2.2.2.2))))
def dDone : Dc TDone := dPair dNum (dPair dNum (dPair dNum (dPair dNum dNum)))
def wDone (x : TDone) : Nat := 4 + (4 + (4 + (4 + (4))))
def VDone (x : TDone) : Prop := (fun _ => True) x.1 ∧ (fun _ => True) x.2.1 ∧ (fun _ => True) x.2.2.1 ∧ (fun _ => True) x.2.2.2.1 ∧ (fun _ => True) x.2.2.2.2
theorem codDone : Cod eDone dDone wDone VDone := cod_pair cod_num (cod_pair cod_num (cod_pair cod_num (cod_pair cod_num cod_num)))
theorem openDone {w : World} {x : TDone} {cs : List Value} (h : kDone.K w x cs) : cs = [.int .i64 x.1, .int .i64 x.2.1, .int .i64 x.2.2.1, .int .i64 x.2.2.2.1, .int .i64 x.2.2.2.2] := by
  obtain ⟨_, _, rfl, rfl, ⟨_, _, rfl, rfl, ⟨_, _, rfl, rfl, ⟨_, _, rfl, rfl, rfl⟩⟩⟩⟩ := h
  exact rfl
theorem openMDone {w : World} {base : Nat} {ok : Nat → Prop} {x : TDone} {cs : List Value} (h : kDone.M w base ok x cs) : cs = [.int .i64 x.1, .int .i64 x.2.1, .int .i64 x.2.2.1, .int .i64 x.2.2.2.1, .int .i64 x.2.2.2.2] := by
  obtain ⟨_, _, rfl, rfl, ⟨_, _, rfl, rfl, ⟨_, _, rfl, rfl, ⟨_, _, rfl, rfl, rfl⟩⟩⟩⟩ := h
  exact rfl
theorem mkMDone {w : World} {base : Nat} {ok : Nat → Prop} (x : TDone)  : kDone.M w base ok x [.int .i64 x.1, .int .i64 x.2.1, .int .i64 x.2.2.1, .int .i64 x.2.2.2.1, .int .i64 x.2.2.2.2] := ⟨_, _, rfl, rfl, ⟨_, _, rfl, rfl, ⟨_, _, rfl, rfl, ⟨_, _, rfl, rfl, rfl⟩⟩⟩⟩
theorem atDone {w : World} {A : Option Addr} {n : Nat} {xs : List TDone} (h : Kd.C kDone w A n xs) (i : Nat) (hi : i < xs.length) : ∃ ad, A = some ad ∧ w.cell? (ad.add (i * 5)) = some (.int .i64 xs[i].1) ∧ w.cell? ⟨(ad.add (i * 5)).block, (ad.add (i * 5)).off + 1, none⟩ = some (.int .i64 xs[i].2.1) ∧ w.cell? ⟨(ad.add (i * 5)).block, (ad.add (i * 5)).off + 2, none⟩ = some (.int .i64 xs[i].2.2.1) ∧ w.cell? ⟨(ad.add (i * 5)).block, (ad.add (i * 5)).off + 3, none⟩ = some (.int .i64 xs[i].2.2.2.1) ∧ w.cell? ⟨(ad.add (i * 5)).block, (ad.add (i * 5)).off + 4, none⟩ = some (.int .i64 xs[i].2.2.2.2) := by
  obtain ⟨ad, e, hc1⟩ := h.2.2 (by have := h.1; omega)
  obtain ⟨c, _, hK, hc0⟩ := hc1 i _ (List.getElem?_eq_getElem hi)
  have hc : ∀ j u, c[j]? = some u → w.cell? (ad.add (i * 5 + j)) = some u := hc0
  obtain rfl := openDone hK
  exact ⟨ad, e, by have hq := hc 0 _ rfl; simpa using hq, by rw [← add_field _ _ 1 (by omega)]; exact hc 1 _ rfl, by rw [← add_field _ _ 2 (by omega)]; exact hc 2 _ rfl, by rw [← add_field _ _ 3 (by omega)]; exact hc 3 _ rfl, by rw [← add_field _ _ 4 (by omega)]; exact hc 4 _ rfl⟩

abbrev TMachine := TCatalog × (List TDone) × (List TLease) × Int
def kMachine : Kd TMachine := Kd.pair kCatalog (Kd.pair (Kd.slice 96 kDone) (Kd.pair (Kd.slice 101 kLease) (Kd.int .i64)))
def eMachine (x : TMachine) : Er := cat (eCatalog x.1) (cat ((eList eDone) x.2.1) (cat ((eList eLease) x.2.2.1) (eNum x.2.2.2)))
def dMachine : Dc TMachine := dPair dCatalog (dPair (dList dDone) (dPair (dList dLease) dNum))
def wMachine (x : TMachine) : Nat := wCatalog x.1 + ((wList wDone) x.2.1 + ((wList wLease) x.2.2.1 + (4)))
def VMachine (x : TMachine) : Prop := VCatalog x.1 ∧ (fun xs => ∀ x ∈ xs, VDone x) x.2.1 ∧ (fun xs => ∀ x ∈ xs, VLease x) x.2.2.1 ∧ (fun _ => True) x.2.2.2
theorem codMachine : Cod eMachine dMachine wMachine VMachine := cod_pair codCatalog (cod_pair (cod_list codDone) (cod_pair (cod_list codLease) cod_num))
theorem openMachine {w : World} {x : TMachine} {cs : List Value} (h : kMachine.K w x cs) : ∃ A2 c2 A3 c3 A4 c4 A5 c5 A6 c6 A7 c7 A8 c8, cs = [.int .i64 x.1.1, .int .i64 x.1.2.1, .slice A2 x.1.2.2.1.1.length c2, .slice A3 x.1.2.2.1.2.length c3, .slice A4 x.1.2.2.2.1.1.length c4, .slice A5 x.1.2.2.2.1.2.length c5, .slice A6 x.1.2.2.2.2.length c6, .slice A7 x.2.1.length c7, .slice A8 x.2.2.1.length c8, .int .i64 x.2.2.2] ∧ x.1.2.2.1.1.length ≤ c2 ∧ kSchema.C w A2 x.1.2.2.1.1.length x.1.2.2.1.1 ∧ x.1.2.2.1.2.length ≤ c3 ∧ kTable.C w A3 x.1.2.2.1.2.length x.1.2.2.1.2 ∧ x.1.2.2.2.1.1.length ≤ c4 ∧ Kd.string.C w A4 x.1.2.2.2.1.1.length x.1.2.2.2.1.1 ∧ x.1.2.2.2.1.2.length ≤ c5 ∧ kMember.C w A5 x.1.2.2.2.1.2.length x.1.2.2.2.1.2 ∧ x.1.2.2.2.2.length ≤ c6 ∧ kGrant.C w A6 x.1.2.2.2.2.length x.1.2.2.2.2 ∧ x.2.1.length ≤ c7 ∧ kDone.C w A7 x.2.1.length x.2.1 ∧ x.2.2.1.length ≤ c8 ∧ kLease.C w A8 x.2.2.1.length x.2.2.1 := by
  obtain ⟨_, _, rfl, ⟨_, _, rfl, rfl, ⟨_, _, rfl, rfl, ⟨_, _, rfl, ⟨_, _, rfl, ⟨A2, c2, rfl, l2, h2⟩, ⟨A3, c3, rfl, l3, h3⟩⟩, ⟨_, _, rfl, ⟨_, _, rfl, ⟨A4, c4, rfl, l4, h4⟩, ⟨A5, c5, rfl, l5, h5⟩⟩, ⟨A6, c6, rfl, l6, h6⟩⟩⟩⟩⟩, ⟨_, _, rfl, ⟨A7, c7, rfl, l7, h7⟩, ⟨_, _, rfl, ⟨A8, c8, rfl, l8, h8⟩, rfl⟩⟩⟩ := h
  exact ⟨A2, c2, A3, c3, A4, c4, A5, c5, A6, c6, A7, c7, A8, c8, rfl, l2, h2, l3, h3, l4, h4, l5, h5, l6, h6, l7, h7, l8, h8⟩
theorem openMMachine {w : World} {base : Nat} {ok : Nat → Prop} {x : TMachine} {cs : List Value} (h : kMachine.M w base ok x cs) : ∃ v2 v3 v4 v5 v6 v7 v8, cs = [.int .i64 x.1.1, .int .i64 x.1.2.1, v2, v3, v4, v5, v6, v7, v8, .int .i64 x.2.2.2] ∧ kSchema.R 128 w base ok v2 x.1.2.2.1.1 ∧ kTable.R 134 w base ok v3 x.1.2.2.1.2 ∧ Kd.string.R 9 w base ok v4 x.1.2.2.2.1.1 ∧ kMember.R 142 w base ok v5 x.1.2.2.2.1.2 ∧ kGrant.R 147 w base ok v6 x.1.2.2.2.2 ∧ kDone.R 96 w base ok v7 x.2.1 ∧ kLease.R 101 w base ok v8 x.2.2.1 := by
  obtain ⟨_, _, rfl, ⟨_, _, rfl, rfl, ⟨_, _, rfl, rfl, ⟨_, _, rfl, ⟨_, _, rfl, ⟨v2, rfl, r2⟩, ⟨v3, rfl, r3⟩⟩, ⟨_, _, rfl, ⟨_, _, rfl, ⟨v4, rfl, r4⟩, ⟨v5, rfl, r5⟩⟩, ⟨v6, rfl, r6⟩⟩⟩⟩⟩, ⟨_, _, rfl, ⟨v7, rfl, r7⟩, ⟨_, _, rfl, ⟨v8, rfl, r8⟩, rfl⟩⟩⟩ := h
  exact ⟨v2, v3, v4, v5, v6, v7, v8, rfl, r2, r3, r4, r5, r6, r7, r8⟩
theorem mkMMachine {w : World} {base : Nat} {ok : Nat → Prop} (x : TMachine) {v2 : Value} (r2 : kSchema.R 128 w base ok v2 x.1.2.2.1.1) {v3 : Value} (r3 : kTable.R 134 w base ok v3 x.1.2.2.1.2) {v4 : Value} (r4 : Kd.string.R 9 w base ok v4 x.1.2.2.2.1.1) {v5 : Value} (r5 : kMember.R 142 w base ok v5 x.1.2.2.2.1.2) {v6 : Value} (r6 : kGrant.R 147 w base ok v6 x.1.2.2.2.2) {v7 : Value} (r7 : kDone.R 96 w base ok v7 x.2.1) {v8 : Value} (r8 : kLease.R 101 w base ok v8 x.2.2.1) : kMachine.M w base ok x [.int .i64 x.1.1, .int .i64 x.1.2.1, v2, v3, v4, v5, v6, v7, v8, .int .i64 x.2.2.2] := ⟨_, _, rfl, ⟨_, _, rfl, rfl, ⟨_, _, rfl, rfl, ⟨_, _, rfl, ⟨_, _, rfl, ⟨v2, rfl, r2⟩, ⟨v3, rfl, r3⟩⟩, ⟨_, _, rfl, ⟨_, _, rfl, ⟨v4, rfl, r4⟩, ⟨v5, rfl, r5⟩⟩, ⟨v6, rfl, r6⟩⟩⟩⟩⟩, ⟨_, _, rfl, ⟨v7, rfl, r7⟩, ⟨_, _, rfl, ⟨v8, rfl, r8⟩, rfl⟩⟩⟩
theorem atMachine {w : World} {A : Option Addr} {n : Nat} {xs : List TMachine} (h : Kd.C kMachine w A n xs) (i : Nat) (hi : i < xs.length) : ∃ ad A2 c2 A3 c3 A4 c4 A5 c5 A6 c6 A7 c7 A8 c8, A = some ad ∧ w.cell? (ad.add (i * 10)) = some (.int .i64 xs[i].1.1) ∧ w.cell? ⟨(ad.add (i * 10)).block, (ad.add (i * 10)).off + 1, none⟩ = some (.int .i64 xs[i].1.2.1) ∧ w.cell? ⟨(ad.add (i * 10)).block, (ad.add (i * 10)).off + 2, none⟩ = some (.slice A2 xs[i].1.2.2.1.1.length c2) ∧ w.cell? ⟨(ad.add (i * 10)).block, (ad.add (i * 10)).off + 3, none⟩ = some (.slice A3 xs[i].1.2.2.1.2.length c3) ∧ w.cell? ⟨(ad.add (i * 10)).block, (ad.add (i * 10)).off + 4, none⟩ = some (.slice A4 xs[i].1.2.2.2.1.1.length c4) ∧ w.cell? ⟨(ad.add (i * 10)).block, (ad.add (i * 10)).off + 5, none⟩ = some (.slice A5 xs[i].1.2.2.2.1.2.length c5) ∧ w.cell? ⟨(ad.add (i * 10)).block, (ad.add (i * 10)).off + 6, none⟩ = some (.slice A6 xs[i].1.2.2.2.2.length c6) ∧ w.cell? ⟨(ad.add (i * 10)).block, (ad.add (i * 10)).off + 7, none⟩ = some (.slice A7 xs[i].2.1.length c7) ∧ w.cell? ⟨(ad.add (i * 10)).block, (ad.add (i * 10)).off + 8, none⟩ = some (.slice A8 xs[i].2.2.1.length c8) ∧ w.cell? ⟨(ad.add (i * 10)).block, (ad.add (i * 10)).off + 9, none⟩ = some (.int .i64 xs[i].2.2.2) ∧ xs[i].1.2.2.1.1.length ≤ c2 ∧ kSchema.C w A2 xs[i].1.2.2.1.1.length xs[i].1.2.2.1.1 ∧ xs[i].1.2.2.1.2.length ≤ c3 ∧ kTable.C w A3 xs[i].1.2.2.1.2.length xs[i].1.2.2.1.2 ∧ xs[i].1.2.2.2.1.1.length ≤ c4 ∧ Kd.string.C w A4 xs[i].1.2.2.2.1.1.length xs[i].1.2.2.2.1.1 ∧ xs[i].1.2.2.2.1.2.length ≤ c5 ∧ kMember.C w A5 xs[i].1.2.2.2.1.2.length xs[i].1.2.2.2.1.2 ∧ xs[i].1.2.2.2.2.length ≤ c6 ∧ kGrant.C w A6 xs[i].1.2.2.2.2.length xs[i].1.2.2.2.2 ∧ xs[i].2.1.length ≤ c7 ∧ kDone.C w A7 xs[i].2.1.length xs[i].2.1 ∧ xs[i].2.2.1.length ≤ c8 ∧ kLease.C w A8 xs[i].2.2.1.length xs[i].2.2.1 := by
  obtain ⟨ad, e, hc1⟩ := h.2.2 (by have := h.1; omega)
  obtain ⟨c, _, hK, hc0⟩ := hc1 i _ (List.getElem?_eq_getElem hi)
  have hc : ∀ j u, c[j]? = some u → w.cell? (ad.add (i * 10 + j)) = some u := hc0
  obtain ⟨A2, c2, A3, c3, A4, c4, A5, c5, A6, c6, A7, c7, A8, c8, rfl, l2, h2, l3, h3, l4, h4, l5, h5, l6, h6, l7, h7, l8, h8⟩ := openMachine hK
  exact ⟨ad, A2, c2, A3, c3, A4, c4, A5, c5, A6, c6, A7, c7, A8, c8, e, by have hq := hc 0 _ rfl; simpa using hq, by rw [← add_field _ _ 1 (by omega)]; exact hc 1 _ rfl, by rw [← add_field _ _ 2 (by omega)]; exact hc 2 _ rfl, by rw [← add_field _ _ 3 (by omega)]; exact hc 3 _ rfl, by rw [← add_field _ _ 4 (by omega)]; exact hc 4 _ rfl, by rw [← add_field _ _ 5 (by omega)]; exact hc 5 _ rfl, by rw [← add_field _ _ 6 (by omega)]; exact hc 6 _ rfl, by rw [← add_field _ _ 7 (by omega)]; exact hc 7 _ rfl, by rw [← add_field _ _ 8 (by omega)]; exact hc 8 _ rfl, by rw [← add_field _ _ 9 (by omega)]; exact hc 9 _ rfl, l2, h2, l3, h3, l4, h4, l5, h5, l6, h6, l7, h7, l8, h8⟩

end Go.Proofs.YtoomcdgnnibjlaaGreat.Wr
/- A row of bytes, read as data. -/
namespace Go.Proofs.YtoomcdgnnibjlaaGreat.Wr
open Go.ChangeShapes Go.WideShapes Go.ChangeAt Go.RowKit Go.Proofs.YtoomcdgnnibjlaaGreatW.PrintWords Go.Proofs.YtoomcdgnnibjlaaGreatW.PrintLast Go.Proofs.YtoomcdgnnibjlaaGreatOpen
set_option maxRecDepth 100000 in
theorem argBytes {H : Type} {enc : TypeId × Value → H} {w : World} {base : Nat} {v : Value} {d : DataW H} {ps : List MemPlace} (hv : Value.okWide Tryz.prog w .any base 22 v)
    (h : DataW.Trod enc Tryz.prog w 0 (fun _ => true) true 22 v d ps) : ∃ A c m, v = .slice A m.length c ∧ m.length ≤ c ∧ (Kd.int .u8).C w A m.length m ∧ IsB m := by
  obtain ⟨a0, len, cap, rfl⟩ := okWide_slice Tryz.underlying22 hv
  obtain ⟨fuel, hf⟩ := h
  obtain ⟨m, ⟨A, c, e, hl, hC⟩, hV⟩ := (opens_slice Tryz.underlying22 (by kernel_rfl) (opens_int Tryz.underlying5)).out H enc w fuel _ d ps hf
  refine ⟨A, c, m, by simpa [Value.cells] using e, hl, hC, fun b hb => ?_⟩
  have h' : (decide (IntKind.u8.min ≤ b) && decide (b ≤ IntKind.u8.max)) = true := hV b hb
  rw [Bool.and_eq_true, decide_eq_true_eq, decide_eq_true_eq] at h'
  have h0 : (0 : Int) ≤ b := h'.1
  have h1 : b ≤ 255 := h'.2
  omega
end Go.Proofs.YtoomcdgnnibjlaaGreat.Wr
/- The program's codec lays: a row of bytes, and behind it a number's lowest bytes. -/
namespace Go.Proofs.YtoomcdgnnibjlaaGreat.Wr
open Go.RowKit Go.Proofs.YtoomcdgnnibjlaaGreatW.PrintWords Go.Proofs.YtoomcdgnnibjlaaGreatW.PrintLast
set_option linter.unusedVariables false

theorem lows_snoc : ∀ (n : Nat) (v : Int), lows v (n + 1) = lows v n ++ [v / 256 ^ n % 256] := by
  intro n
  induction n with
  | zero => intro v; simp [lows]
  | succ n ih =>
    intro v
    rw [lows, ih]
    simp only [lows, List.cons_append]
    rw [show v / 256 / 256 ^ n = v / 256 ^ (n + 1) from by rw [Int.pow_succ, Int.mul_comm]; first | exact Int.ediv_ediv_eq_ediv_mul _ (by decide) | exact Int.ediv_ediv (by decide) | exact Int.ediv_ediv_of_nonneg (by decide)]
section
variable {P : Program} {ops : Array Oper} {rest : List Oper} {o : Oper} {a : Act} {Q : Exit → Act → World → Prop}
/-- make([]byte, n): a block of n cells. -/
theorem wp_make_bytes {w : World} (hgd : o.guard = none) (t x y) (ho : o.op = .makeSlice t x y) (n : Nat) (m : Int) (hmn : m = (n : Int)) (hx : a.eval x = .int .i64 m) (hy : a.eval y = .int .i64 m) (e : TypeId)
    (ht : P.underlying t = some (.slice e)) (hinfo : (P.info? e).map (fun i => (i.zero, i.size, i.bytes)) = some (some (.int .u8 0), 1, 1)) (hl : n ≤ 140737488355328)
    (h : ∀ (w1 : World) (g : Nat) (cur : List Value), cur.length = n → w.heap.size = g → w1.heap[g]? = some (.cells cur.toArray e (0, 0)) → Below w.heap.size w w1 → wpList P ops Q rest (a.put o.dst (.slice (some ⟨g, 0, none⟩) n n)) w1) :
    wpList P ops Q (o :: rest) a w := by
  subst hmn
  obtain ⟨i0, hi, hzz⟩ := Option.map_eq_some_iff.1 hinfo
  simp only [Prod.mk.injEq] at hzz
  obtain ⟨hz0, hz1, hz2⟩ := hzz
  have hr := run_make (P := P) w t e i0 (.int .u8 0) ht hi hz0 .i64 .i64 (n : Int) (n : Int) (by omega) (by omega) (by rw [hz2]; omega) (by omega)
  simp only [Int.toNat_natCast, hz1, Nat.mul_one] at hr
  have hk := h (w.alloc (.cells (madeCells (Value.int IntKind.u8 0).cells n) e)) w.heap.size (madeCells (Value.int IntKind.u8 0).cells n).toList (by simp [madeCells]) rfl (blk_new w _) ((Below.refl _ _).alloc (Nat.le_refl _) _)
  refine wpList_plain hgd fun K hK => ?_
  unfold Oper.wp
  simp [execOp, ho, hx, hy, hr, Result.andThen]
  exact hK _ _ hk
end

theorem src_cells {w w1 : World} {k : IntKind} {A : Option Addr} {n : Nat} {xs : List Int} (h : (Kd.int k).C w A n xs) (hb : Below w.heap.size w w1) (hp : 0 < xs.length) : ∃ ad, A = some ad ∧ ∀ j v, (nums k xs)[j]? = some v → w1.cell? (ad.add j) = some v := by
  obtain ⟨ad, e, hc⟩ := h.2.2 (by have := h.1; omega)
  refine ⟨ad, e, fun j v hv => ?_⟩
  simp only [nums, List.getElem?_map, Option.map_eq_some_iff] at hv
  obtain ⟨x, hx, rfl⟩ := hv
  obtain ⟨c, _, hK, hcell⟩ := hc j x hx
  have hK' : c = [.int k x] := hK
  subst hK'
  have := hcell 0 _ rfl
  exact pw_cell_below hb (by simpa [show (Kd.int k).sz = 1 from rfl] using this)
/-- The row that is filled: k of the number's bytes lie there. -/
def Filled (w : World) (g : Nat) (l : Bs) (v : Int) (n k : Nat) : Prop := ∃ r : List Value, r.length + k = n ∧ w.heap[g]? = some (.cells (nums .u8 (l ++ lows v k) ++ r).toArray 5 (0, 0))
theorem start_filled {w : World} {g n : Nat} {l : Bs} {v : Int} {cur : List Value} (h : w.heap[g]? = some (.cells (splice cur 0 (nums .u8 l)).toArray 5 (0, 0))) (hc : cur.length = l.length + n) : Filled w g l v n 0 := by
  refine ⟨cur.drop l.length, by rw [List.length_drop]; omega, ?_⟩
  rw [h]
  simp [splice, lows, nums_length]
theorem Filled.cell {w : World} {g n k : Nat} {l : Bs} {v : Int} (h : Filled w g l v n k) (hk : k < n) : ∃ u, w.cell? ⟨g, l.length + k, none⟩ = some u ∧ w.frozen? ⟨g, l.length + k, none⟩ = false := by
  obtain ⟨r, hr, hw⟩ := h
  cases r with
  | nil => simp at hr; omega
  | cons u r => exact ⟨u, by simp [World.cell?, hw, nums_length, lows_length], by simp [World.frozen?, hw]⟩
theorem Filled.step {w : World} {g n k : Nat} {l : Bs} {v : Int} (h : Filled w g l v n k) (hk : k < n) (x : Int) (hx : x = v / 256 ^ k % 256) : Filled (w.setCell ⟨g, l.length + k, none⟩ (.int .u8 x)) g l v n (k + 1) := by
  obtain ⟨r, hr, hw⟩ := h
  cases r with
  | nil => simp at hr; omega
  | cons u r =>
    refine ⟨r, by simp at hr; omega, ?_⟩
    rw [blk_set hw]
    subst hx
    congr 2
    rw [lows_snoc]
    simp only [nums, List.map_append, List.append_assoc, List.map_cons, List.map_nil, List.setIfInBounds_toArray]
    rw [← List.append_assoc, ← List.append_assoc]
    rw [List.set_append_right _ _ (by simp [lows_length])]
    simp [lows_length]
theorem Filled.done {w w0 : World} {g n : Nat} {l : Bs} {v : Int} (h : Filled w g l v n n) (hg : w0.heap.size = g) (hb : Below w0.heap.size w0 w) (hm : l.length + n < 140737488355328) :
    (Kd.int .u8).R 5 w w0.heap.size (fun _ => True) (.slice (some ⟨g, 0, none⟩) (l.length + n) (l.length + n)) (l ++ lows v n) := by
  obtain ⟨r, hr, hw⟩ := h
  have : r = [] := List.eq_nil_of_length_eq_zero (by omega)
  subst this
  have hl : (l ++ lows v n).length = l.length + n := by rw [List.length_append, lows_length]
  refine Kd.R_of_own (enc := Value.int .u8) ?_ (fun _ _ => trivial)
  rw [hl]
  refine ⟨by simp [encs, lows_length], .inr ⟨g, l.length + n, _, rfl, by omega, hw, ?_, ?_, ?_⟩⟩
  · omega
  · simp only [maxLen]; omega
  · simp [encs, nums, lows_length]; exact List.take_of_length_le (by simp [lows_length])

set_option maxRecDepth 100000 in
set_option maxHeartbeats 8000000 in
theorem laid_4 (A : Option Addr) (c : Nat) {l : Bs} (v : Int) {w : World} (hA : (Kd.int .u8).C w A l.length l) (h0 : 0 ≤ v) (h1 : v < 18446744073709551616) (hl : l.length + 4 < 140737488355328) :
    Calls Tryz.prog 99 #[.slice A l.length c, .int .u64 v, .int .i64 4] w fun e w' => ∃ v', e = .returned v' ∧ (Kd.int .u8).R 5 w' w.heap.size (fun _ => True) v' (l ++ lows v 4) ∧ Below w.heap.size w w' := by
  have HA := Lib.hid hA
  clear hA
  go_enter Tryz.func99, Tryz.ntmps99
  go_wp2_with (first | (refine wp_make_bytes rfl 22 (.tmp 12) (.tmp 12) rfl (l.length + 4) ((l.length : Int) + 4) (by omega) rfl rfl 5 Tryz.underlying22 infoB (by omega) ?_; intro w1 g cur hcur hg hw1 hb1; have HW1 := Lib.hid hw1; have HB1 := Lib.hid hb1; have HG := Lib.hid hg; have HC := Lib.hid hcur; clear hw1 hb1 hg hcur) | (refine wpList_copy_splice rfl (.tmp 14) (.tmp 15) 22 22 rfl 5 Tryz.underlying22 (by kernel_rfl) (some ⟨g, 0, none⟩) A (l.length + 4) (l.length + 4) l.length c (by rfl) (by rfl) g 0 cur 5 HW1.out (nums .u8 l) ((nums_length _ _).trans (Nat.min_eq_left (by omega)).symm) (fun hp => ⟨rfl, src_cells HA.out HB1.out (by rwa [nums_length] at hp)⟩) (by rw [nums_length, HC.out]; omega) (by intro u hu; simp only [nums, List.mem_map] at hu; obtain ⟨x, _, rfl⟩ := hu; rfl) w.heap.size w HB1.out (Nat.le_of_eq HG.out) ?_; intro w2 HW2 hb2; have HB2 := Lib.hid hb2; clear hb2))
  go_loopw [18] (fun i wr => ∃ k : Nat, k ≤ 4 ∧ i = .int .i64 k ∧ Filled wr g l v 4 k ∧ Below w.heap.size w wr) (fun i _ => 4 - (intOf i).toNat)
  case atStart => exact ⟨0, by omega, rfl, start_filled HW2.out HC.out, HB2.out⟩
  case round =>
    obtain ⟨k, hk, rfl, hF, hB⟩ := hrel
    have HF := Lib.hid hF
    have HB := Lib.hid hB
    clear hF hB HB2 HW2 HB1 HW1
    by_cases hlt : k < 4
    · obtain ⟨u, qc, fc⟩ := HF.out.cell hlt
      rcases (show k = 0 ∨ k = 1 ∨ k = 2 ∨ k = 3 by omega) with rfl | rfl | rfl | rfl
      all_goals
        try simp only [Nat.add_zero] at qc fc
        go_wp2
        go_roundw
        case rel =>
          refine ⟨_, by omega, by first | rfl | go_num, HF.out.step hlt _ ?_, HB.out.setCell (Nat.le_of_eq HG.out) _⟩
          first | (simp; done) | omega
        case measure => simp [intOf]
    · have hke : k = 4 := by omega
      subst hke
      go_wp2
      go_ret
      exact ⟨_, rfl, HF.out.done HG.out HB.out hl, HB.out⟩

set_option maxRecDepth 100000 in
set_option maxHeartbeats 8000000 in
theorem laid_8 (A : Option Addr) (c : Nat) {l : Bs} (v : Int) {w : World} (hA : (Kd.int .u8).C w A l.length l) (h0 : 0 ≤ v) (h1 : v < 18446744073709551616) (hl : l.length + 8 < 140737488355328) :
    Calls Tryz.prog 99 #[.slice A l.length c, .int .u64 v, .int .i64 8] w fun e w' => ∃ v', e = .returned v' ∧ (Kd.int .u8).R 5 w' w.heap.size (fun _ => True) v' (l ++ lows v 8) ∧ Below w.heap.size w w' := by
  have HA := Lib.hid hA
  clear hA
  go_enter Tryz.func99, Tryz.ntmps99
  go_wp2_with (first | (refine wp_make_bytes rfl 22 (.tmp 12) (.tmp 12) rfl (l.length + 8) ((l.length : Int) + 8) (by omega) rfl rfl 5 Tryz.underlying22 infoB (by omega) ?_; intro w1 g cur hcur hg hw1 hb1; have HW1 := Lib.hid hw1; have HB1 := Lib.hid hb1; have HG := Lib.hid hg; have HC := Lib.hid hcur; clear hw1 hb1 hg hcur) | (refine wpList_copy_splice rfl (.tmp 14) (.tmp 15) 22 22 rfl 5 Tryz.underlying22 (by kernel_rfl) (some ⟨g, 0, none⟩) A (l.length + 8) (l.length + 8) l.length c (by rfl) (by rfl) g 0 cur 5 HW1.out (nums .u8 l) ((nums_length _ _).trans (Nat.min_eq_left (by omega)).symm) (fun hp => ⟨rfl, src_cells HA.out HB1.out (by rwa [nums_length] at hp)⟩) (by rw [nums_length, HC.out]; omega) (by intro u hu; simp only [nums, List.mem_map] at hu; obtain ⟨x, _, rfl⟩ := hu; rfl) w.heap.size w HB1.out (Nat.le_of_eq HG.out) ?_; intro w2 HW2 hb2; have HB2 := Lib.hid hb2; clear hb2))
  go_loopw [18] (fun i wr => ∃ k : Nat, k ≤ 8 ∧ i = .int .i64 k ∧ Filled wr g l v 8 k ∧ Below w.heap.size w wr) (fun i _ => 8 - (intOf i).toNat)
  case atStart => exact ⟨0, by omega, rfl, start_filled HW2.out HC.out, HB2.out⟩
  case round =>
    obtain ⟨k, hk, rfl, hF, hB⟩ := hrel
    have HF := Lib.hid hF
    have HB := Lib.hid hB
    clear hF hB HB2 HW2 HB1 HW1
    by_cases hlt : k < 8
    · obtain ⟨u, qc, fc⟩ := HF.out.cell hlt
      rcases (show k = 0 ∨ k = 1 ∨ k = 2 ∨ k = 3 ∨ k = 4 ∨ k = 5 ∨ k = 6 ∨ k = 7 by omega) with rfl | rfl | rfl | rfl | rfl | rfl | rfl | rfl
      all_goals
        try simp only [Nat.add_zero] at qc fc
        go_wp2
        go_roundw
        case rel =>
          refine ⟨_, by omega, by first | rfl | go_num, HF.out.step hlt _ ?_, HB.out.setCell (Nat.le_of_eq HG.out) _⟩
          first | (simp; done) | omega
        case measure => simp [intOf]
    · have hke : k = 8 := by omega
      subst hke
      go_wp2
      go_ret
      exact ⟨_, rfl, HF.out.done HG.out HB.out hl, HB.out⟩
end Go.Proofs.YtoomcdgnnibjlaaGreat.Wr
-- WRITTEN BY hookprint.py (a program of this session, over the kit's print.py): not typed by hand
namespace Go.Proofs.YtoomcdgnnibjlaaGreat.PA
open Go.RowKit Go.Proofs.YtoomcdgnnibjlaaGreatW.PrintWords Go.Proofs.YtoomcdgnnibjlaaGreatW.PrintLast Go.Proofs.YtoomcdgnnibjlaaGreatW.PrintMore
attribute [local go_sem] max2_int min2_int max_two min_two max_three min_three max_four min_four   -- for this text's walks alone
set_option linter.unusedVariables false
set_option linter.unusedSimpArgs false



def errW : Option Int → Value
  | none => .nilIface
  | some c => .iface 0 (.int .i64 c)
theorem errW_none : errW none = .nilIface := rfl
theorem errW_some (c : Int) : errW (some c) = .iface 0 (.int .i64 c) := rfl

theorem info5 : (Tryz.prog.info? 5).map (fun i => (i.zero, i.size, i.bytes)) = some (some (.int .u8 0), 1, 1) := by kernel_rfl
-- the values' own types

end Go.Proofs.YtoomcdgnnibjlaaGreat.PA
-- WRITTEN BY hookprint.py (a program of this session, over the kit's print.py): not typed by hand
namespace Go.Proofs.YtoomcdgnnibjlaaGreat.PA
open Go.RowKit Go.Proofs.YtoomcdgnnibjlaaGreatW.PrintWords Go.Proofs.YtoomcdgnnibjlaaGreatW.PrintLast Go.Proofs.YtoomcdgnnibjlaaGreatW.PrintMore
attribute [local go_sem] max2_int min2_int max_two min_two max_three min_three max_four min_four   -- for this text's walks alone
set_option linter.unusedVariables false
set_option linter.unusedSimpArgs false

/-! ### folkmootref01_Low: function 85 -/
def folkmootref01_Low.l0 : Nat → Int → Int → List Int → Int → Option (List Int)
  | 0, _, _, _, _ => none
  | k + 1, x0, x1, x5, x6 => if x6 < x1 then (if x5.length < 140737488355328 then (folkmootref01_Low.l0 k (IntKind.u64.wrap (Int.tdiv x0 256)) x1 (x5 ++ [(Int.tmod x0 256) % 256]) (wrap64 (x6 + 1))) else (none)) else (some x5)
def folkmootref01_Low.f (k : Nat) (a0 : Int) (a1 : Int) : Option (List Int) := folkmootref01_Low.l0 k a0 a1 ([] : List Int) 0
theorem folkmootref01_Low.mono_l : ∀ k, (∀ y0 y1 y2 y3, LeO (folkmootref01_Low.l0 k y0 y1 y2 y3) (folkmootref01_Low.l0 (k + 1) y0 y1 y2 y3))
  | 0 => fun _ _ _ _ r h => by simp [folkmootref01_Low.l0] at h
  | k + 1 => by
    have ih0 := folkmootref01_Low.mono_l k
    · intro y0 y1 y2 y3
      unfold folkmootref01_Low.l0
      repeat' first
      | (with_reducible exact ih0 _ _ _ _)
      | (with_reducible exact LeO.refl _)
      | (with_reducible exact LeO.none _)
      | (with_reducible refine LeO.ite ?_ ?_)
      | (with_reducible refine LeO.bind ?_ (fun _ => ?_))
      | exact ih0 _ _ _ _
      | exact LeO.none _
      | refine LeO.ite ?_ ?_
      | refine LeO.bind ?_ (fun _ => ?_)
theorem folkmootref01_Low.mono : ∀ a0 a1 k, LeO (folkmootref01_Low.f k a0 a1) (folkmootref01_Low.f (k + 1) a0 a1) := by
  intro a0 a1 k
  have ih0 := folkmootref01_Low.mono_l k
  unfold folkmootref01_Low.f
  repeat' first
      | (with_reducible exact ih0 _ _ _ _)
      | (with_reducible exact LeO.refl _)
      | (with_reducible exact LeO.none _)
      | (with_reducible refine LeO.ite ?_ ?_)
      | (with_reducible refine LeO.bind ?_ (fun _ => ?_))
      | exact ih0 _ _ _ _
      | exact LeO.none _
      | refine LeO.ite ?_ ?_
      | refine LeO.bind ?_ (fun _ => ?_)
set_option maxHeartbeats 8000000 in
set_option maxRecDepth 100000 in
theorem folkmootref01_Low.calls (k : Nat) (a0 : Int) (a1 : Int) (r : List Int) (w : World) (h : folkmootref01_Low.f k a0 a1 = some r) :
    Calls Tryz.prog 85 #[.int .u64 a0, .int .i64 a1] w fun e w' => ∃ v0_ : Value, e = .returned (v0_) ∧ Kd.R (Kd.int .u8) 5 w' w.heap.size (fun _ => True) v0_ r ∧ Below w.heap.size w w' := by
  have HB := Aside0.mk (Below.refl w.heap.size w)
  have H : (folkmootref01_Low.l0 k a0 a1 ([] : List Int) 0) = some r := h
  clear h
  have H' := Aside0.mk H
  clear H
  go_enter Tryz.func85, Tryz.ntmps85
  go_wp2
  go_loopg [0, 5, 6] k (fun kq v0 v5 v6 w' => ∃ (x0_1 : Int) (x5_1 : List Int) (x6_1 : Int), v0 = .int .u64 x0_1 ∧ v6 = .int .i64 x6_1 ∧ Aside0 (folkmootref01_Low.l0 kq x0_1 a1 x5_1 x6_1 = some r) ∧ Aside0 (kq ≤ k) ∧ Aside0 (Kd.R (Kd.int .u8) 5 w' w.heap.size (fun _ => True) v5 x5_1) ∧ Aside0 (Below w.heap.size w w'))
  case atStart => exact ⟨(a0), (([] : List Int)), (0), (by first | rfl | (simp; done) | (simp [*]; done)), (by first | rfl | (simp; done) | (simp [*]; done)), H', ⟨Nat.le_refl _⟩, ⟨by first | exact Kd.R_nil _ _ _ _ _ | exact Kd.N_nil _ _ _ _ _ | exact Kd.V_nil _ _ _ _ _ | exact Kd.Q_nil _ _ _ _ _ | exact Kd.S_nil _ _ _ _ _⟩, ⟨by repeat (first | (with_reducible first | exact HB.out | apply below_alloc | apply pw_below_drewN | apply below_drew1) | exact HB.out)⟩⟩
  case round =>
    clear H'
    try clear p2
    obtain ⟨x0_1, x5_1, x6_1, rfl, rfl, HA, HK1, HO_5, HB⟩ := hrel
    cases gk with
    | zero => exact absurd HA.out (by simp [folkmootref01_Low.l0])
    | succ k1 =>
      have H := HA.out
      clear HA
      simp only [folkmootref01_Low.l0] at H
      by_cases c3 : x6_1 < a1
      · rw [if_pos c3] at H
        have c3b0 : decide (x6_1 < a1) = true := decide_eq_true c3
        clear c3
        by_cases c4 : x5_1.length < 140737488355328
        · rw [if_pos c4] at H
          have LMc4 := Aside0.mk c4
          clear c4
          obtain ⟨y122, hy122⟩ : ∃ y_ : List Int, y_ = (x5_1 ++ [(Int.tmod x0_1 256) % 256]) := ⟨_, rfl⟩
          replace H : (folkmootref01_Low.l0 k1 (IntKind.u64.wrap (Int.tdiv x0_1 256)) a1 y122 (wrap64 (x6_1 + 1))) = some r := by first | (rw [hy122]; with_reducible exact H) | (have H2_ := (Option.bind_some _ _).symm.trans H; rw [hy122]; with_reducible exact H2_) | (have H2_ := (Option.bind_some _ _).symm.trans H; with_reducible exact H2_) | with_reducible exact H | (rw [hy122]; exact H) | exact H
          have Ny122 := Aside0.mk hy122
          clear hy122
          have H' := Aside0.mk H
          clear H
          go_wp2_with (first | ((with_reducible refine gate_builtin (b := .append) (xs := #[.tmp 12, .tmp 16]) rfl ?_); at_builtin; refine Kd.R_append (Kd.int .u8) (w0 := w) w.heap.size rfl (.tmp 12) (.tmp 16) 22 5 (.int .u8 0) 1 rfl Tryz.underlying22 info5 rfl (by decide) (by omega) u5 x5_1 ((Int.tmod x0_1 256) % 256) [.int .u8 ((Int.tmod x0_1 256) % 256)] (fun _ => True) (fun _ => False) rfl rfl ?aP (fun _ hk => hk.elim) ?aF ?aO ?aB ?aS ?aL ?_; (case aP => exact rfl); (case aB => exact (by repeat (first | (with_reducible first | exact HB.out | apply below_alloc | apply pw_below_drewN | apply below_drew1) | exact HB.out))); (case aF => exact (fun _ _ => trivial)); (case aO => exact (by (with_reducible repeat (first | apply Kd.R_alloc | apply Kd.R_drewN | apply Kd.R_drew)); exact HO_5.out)); (case aS => exact (below_size (by repeat (first | (with_reducible first | exact HB.out | apply below_alloc | apply pw_below_drewN | apply below_drew1) | exact HB.out)))); (case aL => have := LMc4.out; omega); intro v123 w5 ho hb hg hat; rw [← Ny122.out] at ho; have n0_ := Aside0.mk (hb); have n1_ := Aside0.mk (ho); clear HB; clear HO_5; have HB := n0_; have HO124 := n1_; clear n0_ n1_; clear ho hb hg hat))
          go_roundg k1
          case measure => have := HK1.out; omega
          case rel => exact ⟨(IntKind.u64.wrap (Int.tdiv x0_1 256)), (y122), (wrap64 (x6_1 + 1)), (by first | rfl | (simp; done) | (simp [*]; done)), (by first | rfl | (simp; done) | (simp [*]; done)), H', ⟨by have := HK1.out; omega⟩, ⟨by (with_reducible repeat (first | apply Kd.R_alloc | apply Kd.R_drewN | apply Kd.R_drew)); exact HO124.out⟩, ⟨by repeat (first | (with_reducible first | exact HB.out | apply below_alloc | apply pw_below_drewN | apply below_drew1) | exact HB.out)⟩⟩
        · rw [if_neg c4] at H
          exact absurd H (by simp)
      · rw [if_neg c3] at H
        have c3b0 : decide (x6_1 < a1) = false := decide_eq_false c3
        clear c3
        obtain rfl := Option.some.inj H
        go_wp2
        go_ret
        exact ⟨_, by first | rfl | (simp [errW_none, errW_some] <;> rfl) | (simp [*, errW_none, errW_some] <;> rfl), by (with_reducible repeat (first | apply Kd.R_alloc | apply Kd.R_drewN | apply Kd.R_drew)); exact HO_5.out, by repeat (first | (with_reducible first | exact HB.out | apply below_alloc | apply pw_below_drewN | apply below_drew1) | exact HB.out)⟩

end Go.Proofs.YtoomcdgnnibjlaaGreat.PA
-- WRITTEN BY hookprint.py (a program of this session, over the kit's print.py): not typed by hand
namespace Go.Proofs.YtoomcdgnnibjlaaGreat.PA
open Go.RowKit Go.Proofs.YtoomcdgnnibjlaaGreatW.PrintWords Go.Proofs.YtoomcdgnnibjlaaGreatW.PrintLast Go.Proofs.YtoomcdgnnibjlaaGreatW.PrintMore
attribute [local go_sem] max2_int min2_int max_two min_two max_three min_three max_four min_four   -- for this text's walks alone
set_option linter.unusedVariables false
set_option linter.unusedSimpArgs false

/-! ### folkmootref01_Number: function 64 -/
def folkmootref01_Number.f (k : Nat) (a0 : Int) : Option (List Int × Bool) := if a0 < 0 then (some (([] : List Int), false)) else (if a0 > 1000000000 then (some (([] : List Int), false)) else ((folkmootref01_Low.f k (IntKind.u64.wrap (a0)) 4).bind fun t125 => (some (t125, true))))
theorem folkmootref01_Number.mono : ∀ a0 k, LeO (folkmootref01_Number.f k a0) (folkmootref01_Number.f (k + 1) a0) := by
  intro a0 k
  unfold folkmootref01_Number.f
  repeat' first
      | (with_reducible exact folkmootref01_Low.mono _ _ _)
      | (with_reducible exact LeO.refl _)
      | (with_reducible exact LeO.none _)
      | (with_reducible refine LeO.ite ?_ ?_)
      | (with_reducible refine LeO.bind ?_ (fun _ => ?_))
      | exact folkmootref01_Low.mono _ _ _
      | exact LeO.none _
      | refine LeO.ite ?_ ?_
      | refine LeO.bind ?_ (fun _ => ?_)
set_option maxHeartbeats 8000000 in
set_option maxRecDepth 100000 in
theorem folkmootref01_Number.calls (k : Nat) (a0 : Int) (r1 : List Int) (r2 : Bool) (w : World) (h : folkmootref01_Number.f k a0 = some (r1, r2)) :
    Calls Tryz.prog 64 #[.int .i64 a0] w fun e w' => ∃ v0_ : Value, e = .returned (.tuple #[v0_, .bool r2]) ∧ Kd.R (Kd.int .u8) 5 w' w.heap.size (fun _ => True) v0_ r1 ∧ Below w.heap.size w w' := by
  have HB := Aside0.mk (Below.refl w.heap.size w)
  have H : (if a0 < 0 then (some (([] : List Int), false)) else (if a0 > 1000000000 then (some (([] : List Int), false)) else ((folkmootref01_Low.f k (IntKind.u64.wrap (a0)) 4).bind fun t125 => (some (t125, true))))) = some (r1, r2) := h
  clear h
  by_cases c2 : a0 < 0
  · rw [if_pos c2] at H
    have c2b0 : decide (a0 < 0) = true := decide_eq_true c2
    clear c2
    simp only [Option.some.injEq, Prod.mk.injEq] at H
    obtain ⟨rfl, rfl⟩ := H
    go_enter Tryz.func64, Tryz.ntmps64
    go_wp2
    go_ret2
    exact ⟨_, by first | rfl | (simp [errW_none, errW_some] <;> rfl) | (simp [*, errW_none, errW_some] <;> rfl), by first | exact Kd.R_nil _ _ _ _ _ | exact Kd.N_nil _ _ _ _ _ | exact Kd.V_nil _ _ _ _ _ | exact Kd.Q_nil _ _ _ _ _ | exact Kd.S_nil _ _ _ _ _, by repeat (first | (with_reducible first | exact HB.out | apply below_alloc | apply pw_below_drewN | apply below_drew1) | exact HB.out)⟩
  · rw [if_neg c2] at H
    have c2b0 : decide (a0 < 0) = false := decide_eq_false c2
    clear c2
    by_cases c3 : a0 > 1000000000
    · rw [if_pos c3] at H
      have c3b0 : decide (1000000000 < a0) = true := decide_eq_true c3
      clear c3
      simp only [Option.some.injEq, Prod.mk.injEq] at H
      obtain ⟨rfl, rfl⟩ := H
      go_enter Tryz.func64, Tryz.ntmps64
      go_wp2
      go_ret2
      exact ⟨_, by first | rfl | (simp [errW_none, errW_some] <;> rfl) | (simp [*, errW_none, errW_some] <;> rfl), by first | exact Kd.R_nil _ _ _ _ _ | exact Kd.N_nil _ _ _ _ _ | exact Kd.V_nil _ _ _ _ _ | exact Kd.Q_nil _ _ _ _ _ | exact Kd.S_nil _ _ _ _ _, by repeat (first | (with_reducible first | exact HB.out | apply below_alloc | apply pw_below_drewN | apply below_drew1) | exact HB.out)⟩
    · rw [if_neg c3] at H
      have c3b0 : decide (1000000000 < a0) = false := decide_eq_false c3
      clear c3
      replace H := Option.bind_eq_some_iff.mp H
      obtain ⟨t125, A40, H⟩ := H
      replace H : (some (t125, true)) = some (r1, r2) := H
      have A4 := Aside0.mk A40
      clear A40
      simp only [Option.some.injEq, Prod.mk.injEq] at H
      obtain ⟨rfl, rfl⟩ := H
      go_enter Tryz.func64, Tryz.ntmps64
      go_wp2_with (first | ((with_reducible refine gate_callee (f := 85) rfl ?_); refine goesL_ (some 12) rfl rfl Tryz.func85 (by kernel_rfl) rfl #[.int .u64 (IntKind.u64.wrap (a0)), .int .i64 4] rfl (by (try simp only [List.map_toArray, List.map_cons, List.map_nil]); first | done | rfl | (simp only [List.length_drop, List.length_take]; rfl)) ?_; (with_reducible refine (folkmootref01_Low.calls k (IntKind.u64.wrap (a0)) 4 t125 _ A4.out).mono ?_); rintro e w5 ⟨v126, rfl, ho0, hb⟩; refine ⟨_, rfl, ?_⟩; have n0_ := Aside0.mk (Kd.R_lower ho0 (below_size (by repeat (first | (with_reducible first | exact HB.out | apply below_alloc | apply pw_below_drewN | apply below_drew1) | exact HB.out)))); have n1_ := Aside0.mk (below_step (by repeat (first | (with_reducible first | exact HB.out | apply below_alloc | apply pw_below_drewN | apply below_drew1) | exact HB.out)) hb); clear HB; have HO127 := n0_; have HB := n1_; clear n0_ n1_; (try clear hb); (try clear hb2); (try clear hk); (try clear hi); (try clear ho0)))
      go_ret2
      exact ⟨_, by first | rfl | (simp [errW_none, errW_some] <;> rfl) | (simp [*, errW_none, errW_some] <;> rfl), by (with_reducible repeat (first | apply Kd.R_alloc | apply Kd.R_drewN | apply Kd.R_drew)); exact HO127.out, by repeat (first | (with_reducible first | exact HB.out | apply below_alloc | apply pw_below_drewN | apply below_drew1) | exact HB.out)⟩

end Go.Proofs.YtoomcdgnnibjlaaGreat.PA
-- WRITTEN BY hookprint.py (a program of this session, over the kit's print.py): not typed by hand
namespace Go.Proofs.YtoomcdgnnibjlaaGreat.PA
open Go.RowKit Go.Proofs.YtoomcdgnnibjlaaGreatW.PrintWords Go.Proofs.YtoomcdgnnibjlaaGreatW.PrintLast Go.Proofs.YtoomcdgnnibjlaaGreatW.PrintMore
attribute [local go_sem] max2_int min2_int max_two min_two max_three min_three max_four min_four   -- for this text's walks alone
set_option linter.unusedVariables false
set_option linter.unusedSimpArgs false

/-! ### folkmootref01_Text: function 84 -/
def folkmootref01_Text.f (k : Nat) (a0 : ByteArray) : Option (List Int × Bool) := if (a0.size : Int) > 65536 then (some (([] : List Int), false)) else ((folkmootref01_Low.f k (IntKind.u64.wrap ((a0.size : Int))) 4).bind fun t132 => (if t132.length + a0.size < 140737488355328 then (some ((t132 ++ bytesOf a0), true)) else (none)))
theorem folkmootref01_Text.mono : ∀ a0 k, LeO (folkmootref01_Text.f k a0) (folkmootref01_Text.f (k + 1) a0) := by
  intro a0 k
  unfold folkmootref01_Text.f
  repeat' first
      | (with_reducible exact folkmootref01_Low.mono _ _ _)
      | (with_reducible exact LeO.refl _)
      | (with_reducible exact LeO.none _)
      | (with_reducible refine LeO.ite ?_ ?_)
      | (with_reducible refine LeO.bind ?_ (fun _ => ?_))
      | exact folkmootref01_Low.mono _ _ _
      | exact LeO.none _
      | refine LeO.ite ?_ ?_
      | refine LeO.bind ?_ (fun _ => ?_)
set_option maxHeartbeats 8000000 in
set_option maxRecDepth 100000 in
theorem folkmootref01_Text.calls (k : Nat) (a0 : ByteArray) (r1 : List Int) (r2 : Bool) (w : World) (h : folkmootref01_Text.f k a0 = some (r1, r2)) :
    Calls Tryz.prog 84 #[.string a0] w fun e w' => ∃ v0_ : Value, e = .returned (.tuple #[v0_, .bool r2]) ∧ Kd.R (Kd.int .u8) 5 w' w.heap.size (fun _ => True) v0_ r1 ∧ Below w.heap.size w w' := by
  have HB := Aside0.mk (Below.refl w.heap.size w)
  have H : (if (a0.size : Int) > 65536 then (some (([] : List Int), false)) else ((folkmootref01_Low.f k (IntKind.u64.wrap ((a0.size : Int))) 4).bind fun t132 => (if t132.length + a0.size < 140737488355328 then (some ((t132 ++ bytesOf a0), true)) else (none)))) = some (r1, r2) := h
  clear h
  by_cases c2 : (a0.size : Int) > 65536
  · rw [if_pos c2] at H
    have c2b0 : decide (65536 < (a0.size : Int)) = true := decide_eq_true c2
    have c2b1 : decide (65536 < a0.size) = true := decide_eq_true (by omega)
    clear c2
    simp only [Option.some.injEq, Prod.mk.injEq] at H
    obtain ⟨rfl, rfl⟩ := H
    go_enter Tryz.func84, Tryz.ntmps84
    go_wp2
    go_ret2
    exact ⟨_, by first | rfl | (simp [errW_none, errW_some] <;> rfl) | (simp [*, errW_none, errW_some] <;> rfl), by first | exact Kd.R_nil _ _ _ _ _ | exact Kd.N_nil _ _ _ _ _ | exact Kd.V_nil _ _ _ _ _ | exact Kd.Q_nil _ _ _ _ _ | exact Kd.S_nil _ _ _ _ _, by repeat (first | (with_reducible first | exact HB.out | apply below_alloc | apply pw_below_drewN | apply below_drew1) | exact HB.out)⟩
  · rw [if_neg c2] at H
    have c2b0 : decide (65536 < (a0.size : Int)) = false := decide_eq_false c2
    have c2b1 : decide (65536 < a0.size) = false := decide_eq_false (by omega)
    clear c2
    replace H := Option.bind_eq_some_iff.mp H
    obtain ⟨t132, A30, H⟩ := H
    replace H : (if t132.length + a0.size < 140737488355328 then (some ((t132 ++ bytesOf a0), true)) else (none)) = some (r1, r2) := H
    have A3 := Aside0.mk A30
    clear A30
    by_cases c4 : t132.length + a0.size < 140737488355328
    · rw [if_pos c4] at H
      have LMc4 := Aside0.mk c4
      clear c4
      obtain ⟨y135, hy135⟩ : ∃ y_ : List Int, y_ = (t132 ++ bytesOf a0) := ⟨_, rfl⟩
      replace H : (some (y135, true)) = some (r1, r2) := by first | (rw [hy135]; with_reducible exact H) | (have H2_ := (Option.bind_some _ _).symm.trans H; rw [hy135]; with_reducible exact H2_) | (have H2_ := (Option.bind_some _ _).symm.trans H; with_reducible exact H2_) | with_reducible exact H | (rw [hy135]; exact H) | exact H
      have Ny135 := Aside0.mk hy135
      clear hy135
      simp only [Option.some.injEq, Prod.mk.injEq] at H
      obtain ⟨rfl, rfl⟩ := H
      go_enter Tryz.func84, Tryz.ntmps84
      go_wp2_with (first | ((with_reducible refine gate_callee (f := 85) rfl ?_); refine goesL_ (some 11) rfl rfl Tryz.func85 (by kernel_rfl) rfl #[.int .u64 (IntKind.u64.wrap ((a0.size : Int))), .int .i64 4] rfl (by (try simp only [List.map_toArray, List.map_cons, List.map_nil]); first | done | rfl | (simp only [List.length_drop, List.length_take]; rfl)) ?_; (with_reducible refine (folkmootref01_Low.calls k (IntKind.u64.wrap ((a0.size : Int))) 4 t132 _ A3.out).mono ?_); rintro e w5 ⟨v133, rfl, ho0, hb⟩; refine ⟨_, rfl, ?_⟩; have n0_ := Aside0.mk (Kd.R_lower ho0 (below_size (by repeat (first | (with_reducible first | exact HB.out | apply below_alloc | apply pw_below_drewN | apply below_drew1) | exact HB.out)))); have n1_ := Aside0.mk (below_step (by repeat (first | (with_reducible first | exact HB.out | apply below_alloc | apply pw_below_drewN | apply below_drew1) | exact HB.out)) hb); clear HB; have HO134 := n0_; have HB := n1_; clear n0_ n1_; (try clear hb); (try clear hb2); (try clear hk); (try clear hi); (try clear ho0)) | (at_builtin; refine print_append_str (w0 := w) w.heap.size rfl (.tmp 12) _ 22 9 5 rfl Tryz.underlying22 Tryz.underlying9 info5 v133 t132 a0 rfl rfl ?aO ?aB ?aS ?aL ?_; (case aB => exact (by repeat (first | (with_reducible first | exact HB.out | apply below_alloc | apply pw_below_drewN | apply below_drew1) | exact HB.out))); (case aO => exact (Kd.own_of_R (by (with_reducible repeat (first | apply Kd.R_alloc | apply Kd.R_drewN | apply Kd.R_drew)); exact HO134.out))); (case aS => exact (below_size (by repeat (first | (with_reducible first | exact HB.out | apply below_alloc | apply pw_below_drewN | apply below_drew1) | exact HB.out)))); (case aL => have := LMc4.out; omega); intro v136 w6 ho0 hb hg; have ho := Kd.R_of_own (h1 := fun _ => rfl) (ok := fun _ => True) ho0 (fun _ _ => trivial); clear ho0; have hat := True.intro; rw [← Ny135.out] at ho; change Kd.R (Kd.int .u8) 5 w6 w.heap.size (fun _ => True) v136 y135 at ho; have n0_ := Aside0.mk (hb); have n1_ := Aside0.mk (ho); clear HB; clear HO134; have HB := n0_; have HO137 := n1_; clear n0_ n1_; clear ho hb hg hat))
      go_ret2
      exact ⟨_, by first | rfl | (simp [errW_none, errW_some] <;> rfl) | (simp [*, errW_none, errW_some] <;> rfl), by (with_reducible repeat (first | apply Kd.R_alloc | apply Kd.R_drewN | apply Kd.R_drew)); exact HO137.out, by repeat (first | (with_reducible first | exact HB.out | apply below_alloc | apply pw_below_drewN | apply below_drew1) | exact HB.out)⟩
    · rw [if_neg c4] at H
      exact absurd H (by simp)

end Go.Proofs.YtoomcdgnnibjlaaGreat.PA
-- WRITTEN BY hookprint.py (a program of this session, over the kit's print.py): not typed by hand
namespace Go.Proofs.YtoomcdgnnibjlaaGreat.PA
open Go.RowKit Go.Proofs.YtoomcdgnnibjlaaGreatW.PrintWords Go.Proofs.YtoomcdgnnibjlaaGreatW.PrintLast Go.Proofs.YtoomcdgnnibjlaaGreatW.PrintMore
attribute [local go_sem] max2_int min2_int max_two min_two max_three min_three max_four min_four   -- for this text's walks alone
set_option linter.unusedVariables false
set_option linter.unusedSimpArgs false

/-! ### folkmootref01_Int: function 107 -/
def folkmootref01_Int.f (k : Nat) (a0 : Int) : Option (List Int) := (folkmootref01_Low.f k (IntKind.u64.wrap (a0)) 8).bind fun t142 => (some t142)
theorem folkmootref01_Int.mono : ∀ a0 k, LeO (folkmootref01_Int.f k a0) (folkmootref01_Int.f (k + 1) a0) := by
  intro a0 k
  unfold folkmootref01_Int.f
  repeat' first
      | (with_reducible exact folkmootref01_Low.mono _ _ _)
      | (with_reducible exact LeO.refl _)
      | (with_reducible exact LeO.none _)
      | (with_reducible refine LeO.ite ?_ ?_)
      | (with_reducible refine LeO.bind ?_ (fun _ => ?_))
      | exact folkmootref01_Low.mono _ _ _
      | exact LeO.none _
      | refine LeO.ite ?_ ?_
      | refine LeO.bind ?_ (fun _ => ?_)
set_option maxHeartbeats 8000000 in
set_option maxRecDepth 100000 in
theorem folkmootref01_Int.calls (k : Nat) (a0 : Int) (r : List Int) (w : World) (h : folkmootref01_Int.f k a0 = some r) :
    Calls Tryz.prog 107 #[.int .i64 a0] w fun e w' => ∃ v0_ : Value, e = .returned (v0_) ∧ Kd.R (Kd.int .u8) 5 w' w.heap.size (fun _ => True) v0_ r ∧ Below w.heap.size w w' := by
  have HB := Aside0.mk (Below.refl w.heap.size w)
  have H : ((folkmootref01_Low.f k (IntKind.u64.wrap (a0)) 8).bind fun t142 => (some t142)) = some r := h
  clear h
  replace H := Option.bind_eq_some_iff.mp H
  obtain ⟨t142, A20, H⟩ := H
  replace H : (some t142) = some r := H
  have A2 := Aside0.mk A20
  clear A20
  obtain rfl := Option.some.inj H
  go_enter Tryz.func107, Tryz.ntmps107
  go_wp2_with (first | ((with_reducible refine gate_callee (f := 85) rfl ?_); refine goesL_ (some 5) rfl rfl Tryz.func85 (by kernel_rfl) rfl #[.int .u64 (IntKind.u64.wrap (a0)), .int .i64 8] rfl (by (try simp only [List.map_toArray, List.map_cons, List.map_nil]); first | done | rfl | (simp only [List.length_drop, List.length_take]; rfl)) ?_; (with_reducible refine (folkmootref01_Low.calls k (IntKind.u64.wrap (a0)) 8 t142 _ A2.out).mono ?_); rintro e w3 ⟨v143, rfl, ho0, hb⟩; refine ⟨_, rfl, ?_⟩; have n0_ := Aside0.mk (Kd.R_lower ho0 (below_size (by repeat (first | (with_reducible first | exact HB.out | apply below_alloc | apply pw_below_drewN | apply below_drew1) | exact HB.out)))); have n1_ := Aside0.mk (below_step (by repeat (first | (with_reducible first | exact HB.out | apply below_alloc | apply pw_below_drewN | apply below_drew1) | exact HB.out)) hb); clear HB; have HO144 := n0_; have HB := n1_; clear n0_ n1_; (try clear hb); (try clear hb2); (try clear hk); (try clear hi); (try clear ho0)))
  go_ret
  exact ⟨_, by first | rfl | (simp [errW_none, errW_some] <;> rfl) | (simp [*, errW_none, errW_some] <;> rfl), by (with_reducible repeat (first | apply Kd.R_alloc | apply Kd.R_drewN | apply Kd.R_drew)); exact HO144.out, by repeat (first | (with_reducible first | exact HB.out | apply below_alloc | apply pw_below_drewN | apply below_drew1) | exact HB.out)⟩

end Go.Proofs.YtoomcdgnnibjlaaGreat.PA
/- The document's writer: numbers, texts, flags, how many. -/
namespace Go.Proofs.YtoomcdgnnibjlaaGreat.Wr
open Go.RowKit Go.Proofs.YtoomcdgnnibjlaaGreatW.PrintWords Go.Proofs.YtoomcdgnnibjlaaGreatW.PrintLast Go.Proofs.YtoomcdgnnibjlaaGreat.PA
set_option linter.unusedVariables false

theorem u64_small {n : Int} (h0 : 0 ≤ n) (h1 : n < 18446744073709551616) : IntKind.u64.wrap n = n := by
  have h2 : (2 : Int) ^ IntKind.u64.bits = 18446744073709551616 := by decide
  unfold IntKind.wrap
  simp [IntKind.signed]
  rw [h2]
  omega
theorem low_l : ∀ (d i k : Nat) (v : Int) (acc : List Int), 0 ≤ v → v < 18446744073709551616 → i + d < 100 → d < k → acc.length ≤ i → folkmootref01_Low.l0 k v ((i + d : Nat) : Int) acc (i : Int) = some (acc ++ lows v d) := by
  intro d
  induction d with
  | zero =>
    intro i k v acc h0 h1 hi hk ha
    obtain ⟨k, rfl⟩ : ∃ m, k = m + 1 := ⟨k - 1, by omega⟩
    simp only [folkmootref01_Low.l0]
    rw [if_neg (by omega)]
    simp [lows]
  | succ d ih =>
    intro i k v acc h0 h1 hi hk ha
    obtain ⟨k, rfl⟩ : ∃ m, k = m + 1 := ⟨k - 1, by omega⟩
    simp only [folkmootref01_Low.l0]
    have e1 : Int.tdiv v 256 = v / 256 := Int.tdiv_eq_ediv_of_nonneg h0
    have e2 : Int.tmod v 256 = v % 256 := Int.tmod_eq_emod_of_nonneg h0
    have e3 : IntKind.u64.wrap (v / 256) = v / 256 := by
      exact u64_small (by omega) (by omega)
    have e4 : wrap64 ((i : Int) + 1) = ((i + 1 : Nat) : Int) := by unfold wrap64; omega
    have e5 : (v % 256) % 256 = v % 256 := by omega
    rw [if_pos (by omega), if_pos (by omega), e1, e2, e3, e4, e5]
    rw [show i + (d + 1) = (i + 1) + d by omega, ih (i + 1) k (v / 256) _ (by omega) (by omega) (by omega) (by omega) (by simp; omega)]
    simp [lows]
theorem low_eq (k : Nat) (v : Int) (n : Nat) (h0 : 0 ≤ v) (h1 : v < 18446744073709551616) (hn : n < 100) (hk : n < k) : folkmootref01_Low.f k v (n : Int) = some (lows v n) := by
  have := low_l n 0 k v [] h0 h1 (by omega) hk (by simp)
  simpa [folkmootref01_Low.f] using this
theorem number_eq (n : Int) : folkmootref01_Number.f 6 n = some (if 0 ≤ n ∧ n ≤ 1000000000 then lows n 4 else [], decide (0 ≤ n ∧ n ≤ 1000000000)) := by
  simp only [folkmootref01_Number.f]
  by_cases h1 : n < 0
  · rw [if_pos h1, if_neg (by omega), decide_eq_false (by omega)]
  · rw [if_neg h1]
    by_cases h2 : n > 1000000000
    · rw [if_pos h2, if_neg (by omega), decide_eq_false (by omega)]
    · have e3 : IntKind.u64.wrap n = n := u64_small (by omega) (by omega)
      rw [if_neg h2, e3, show (4 : Int) = ((4 : Nat) : Int) from rfl, low_eq 6 n 4 (by omega) (by omega) (by omega) (by omega), if_pos (by omega), decide_eq_true (by omega)]
      rfl
theorem text_eq (t : ByteArray) : folkmootref01_Text.f 6 t = some (if t.size ≤ 65536 then lows t.size 4 ++ bytesOf t else [], decide (t.size ≤ 65536)) := by
  simp only [folkmootref01_Text.f]
  by_cases h1 : (t.size : Int) > 65536
  · rw [if_pos h1, if_neg (by omega), decide_eq_false (by omega)]
  · have e3 : IntKind.u64.wrap (t.size : Int) = (t.size : Int) := u64_small (by omega) (by omega)
    rw [if_neg h1, e3, show (4 : Int) = ((4 : Nat) : Int) from rfl, low_eq 6 t.size 4 (by omega) (by omega) (by omega) (by omega), if_pos (by omega), decide_eq_true (by omega)]
    simp only [Option.bind_some]
    rw [if_pos (by rw [lows_length]; omega)]
theorem u64_mod (n : Int) : IntKind.u64.wrap n = n % 18446744073709551616 := by
  have h2 : (2 : Int) ^ IntKind.u64.bits = 18446744073709551616 := by decide
  unfold IntKind.wrap
  simp [IntKind.signed]
  rw [h2]
theorem int_eq (n : Int) : folkmootref01_Int.f 10 n = some (lows (n % 18446744073709551616) 8) := by
  simp only [folkmootref01_Int.f]
  rw [u64_mod, show (8 : Int) = ((8 : Nat) : Int) from rfl, low_eq 10 _ 8 (by omega) (by omega) (by omega) (by omega)]
  rfl

set_option maxRecDepth 100000 in
set_option maxHeartbeats 4000000 in
theorem lay_number_ (n : Int) (bytes_w : (0 ≤ n ∧ n ≤ 1000000000) → (lows n 4).length ≤ 4) {w0 w : World} {g : Nat} {v : Value} {s : LSt} (hS : LayAt w0 w g v s) (hm : s.1.length + 4 < 140737488355328) :
    Calls Tryz.prog 37 #[.pointer (some ⟨g, 0, none⟩), .int .i64 n] w (LDone w0 g w (eNum n) (4) s) := by
  have C1 := Lib.hid (PA.folkmootref01_Number.calls 6 n _ _ w (number_eq n))
  go_enter Tryz.func37, Tryz.ntmps37
  go_wp2_with fail
  refine C1.out.mono ?_
  rintro e w1 ⟨vb, rfl, hR, hb⟩
  obtain ⟨Ab, cb, rfl, hlc, hC⟩ := Kd.R_reads hR
  have S1 := hS.stays hb
  have hc := S1.cell
  have q0 : w1.cell? ⟨g, 0, none⟩ = some v := cell_blk hc 0 _ rfl
  have q1 : w1.cell? ⟨g, 1, none⟩ = some (.int .i64 s.2) := cell_blk hc 1 _ rfl
  have f0 : w1.frozen? ⟨g, 0, none⟩ = false := by simp [World.frozen?, hc]
  have f1 : w1.frozen? ⟨g, 1, none⟩ = false := by simp [World.frozen?, hc]
  have T1 : Stp SL w w1 := Stp.below hb
  clear hR hb hS
  by_cases h1 : 0 ≤ n ∧ n ≤ 1000000000
  · have hd : decide (0 ≤ n ∧ n ≤ 1000000000) = true := decide_eq_true h1
    obtain ⟨ys, hys⟩ : ∃ ys, lows n 4 = ys := ⟨_, rfl⟩
    have hE : eNum n = .ok ys := (if_pos h1).trans (by rw [hys])
    have hl2 : ys.length ≤ 4 := by rw [← hys]; have := bytes_w (by exact h1); simpa using this
    rw [if_pos h1, hys] at hC
    rw [if_pos h1, hd, hys]
    have hl : s.1.length + ys.length < 140737488355328 := by omega
    have S1' := Lib.hid S1
    have T1' := Lib.hid T1
    have hC' := Lib.hid hC
    have HE := Lib.hid hE
    clear S1 T1 hC hc hE
    go_wp2_with (((with_reducible refine gate_builtin (b := .append) (xs := #[.tmp 27, .tmp 28]) rfl ?_); at_builtin; refine Kd.R_append_rows (Kd.int .u8) (w0 := w0) w0.heap.size rfl (.tmp 27) (.tmp 28) 22 5 (.int .u8 0) 1 rfl Tryz.underlying22 info5 rfl (by decide) (by decide) v s.1 (ys) Ab _ cb (fun _ => True) (fun _ => False) rfl rfl S1'.out.row hC'.out (fun _ _ h => h) (fun _ h => h.elim) (fun _ _ => trivial) S1'.out.below S1'.out.below.size (by first | omega | (show (s.1.length + 0) * 1 ≤ _; omega)) ?_; intro v1 w2 ho hb hg hat; obtain ⟨A1, d1, hv1, _, _⟩ := Kd.R_reads ho; subst hv1; have q2 : w2.cell? ⟨g, 0, none⟩ = some v := (World.cell?_of_block (w := w1) (a := ⟨g, 0, none⟩) (hg.block g (blk_lt S1'.out.cell) S1'.out.ne)).trans q0; have f2 : w2.frozen? ⟨g, 0, none⟩ = false := by simp [World.frozen?, hg.block g (blk_lt S1'.out.cell) S1'.out.ne, S1'.out.cell]))
    go_end0
    obtain ⟨R1, R2⟩ := lay_put S1'.out ho hb hg
    rw [List.length_append] at R1 R2
    exact ⟨rfl, _, _, R1, T1'.out.trans R2, by simp; omega, fun _ => rfl, fun b h0 hb => (by rw [HE.out] at hb; cases hb; rw [h0]), fun c _ hc => (by rw [HE.out] at hc; cases hc)⟩
  · have hd : decide (0 ≤ n ∧ n ≤ 1000000000) = false := decide_eq_false h1
    have hE : eNum n = .error 1 := if_neg h1
    have HE := Lib.hid hE
    clear hE
    rw [if_neg h1] at *
    rw [hd]
    have hl : s.1.length < 140737488355328 := by omega
    by_cases h2 : s.2 = 0
    · obtain ⟨S2, T2⟩ := lay_err S1 1
      have S2' := Lib.hid S2
      have T2' := Lib.hid (T1.trans T2)
      have H2 := Lib.hid h2
      have hC' := Lib.hid (C_nil (W := w1.setCell ⟨g, 1, none⟩ (.int .i64 1)) (A := Ab))
      have q3 : (w1.setCell ⟨g, 1, none⟩ (.int .i64 1)).cell? ⟨g, 0, none⟩ = some v := by simp [World.cell?, S2.cell]
      have f3 : (w1.setCell ⟨g, 1, none⟩ (.int .i64 1)).frozen? ⟨g, 0, none⟩ = false := by simp [World.frozen?, S2.cell]
      clear S1 T1 hC hc S2 T2
      go_wp2_with (((with_reducible refine gate_builtin (b := .append) (xs := #[.tmp 27, .tmp 28]) rfl ?_); at_builtin; refine Kd.R_append_rows (Kd.int .u8) (w0 := w0) w0.heap.size rfl (.tmp 27) (.tmp 28) 22 5 (.int .u8 0) 1 rfl Tryz.underlying22 info5 rfl (by decide) (by decide) v s.1 ([]) Ab _ cb (fun _ => True) (fun _ => False) rfl rfl S2'.out.row hC'.out (fun _ _ h => h) (fun _ h => h.elim) (fun _ _ => trivial) S2'.out.below S2'.out.below.size (by first | omega | (show (s.1.length + 0) * 1 ≤ _; omega)) ?_; intro v1 w2 ho hb hg hat; obtain ⟨A1, d1, hv1, _, _⟩ := Kd.R_reads ho; subst hv1; have q2 : w2.cell? ⟨g, 0, none⟩ = some v := (World.cell?_of_block (w := w1.setCell ⟨g, 1, none⟩ (.int .i64 1)) (a := ⟨g, 0, none⟩) (hg.block g (blk_lt S2'.out.cell) S2'.out.ne)).trans q3; have f2 : w2.frozen? ⟨g, 0, none⟩ = false := by simp [World.frozen?, hg.block g (blk_lt S2'.out.cell) S2'.out.ne, S2'.out.cell]))
      go_end0
      obtain ⟨R1, R2⟩ := lay_put S2'.out ho hb hg
      rw [List.length_append] at R1 R2
      simp only [List.append_nil, List.length_nil, Nat.add_zero] at R1 R2
      exact ⟨rfl, _, (s.1, 1), R1, T2'.out.trans R2, by simp, fun h0 => absurd H2.out h0, fun b _ hb => (by rw [HE.out] at hb; cases hb), fun c _ hc => (by rw [HE.out] at hc; cases hc; exact ⟨rfl, by decide⟩)⟩
    · have S1' := Lib.hid S1
      have T1' := Lib.hid T1
      have hC' := Lib.hid hC
      clear S1 T1 hC hc
      go_wp2_with (((with_reducible refine gate_builtin (b := .append) (xs := #[.tmp 27, .tmp 28]) rfl ?_); at_builtin; refine Kd.R_append_rows (Kd.int .u8) (w0 := w0) w0.heap.size rfl (.tmp 27) (.tmp 28) 22 5 (.int .u8 0) 1 rfl Tryz.underlying22 info5 rfl (by decide) (by decide) v s.1 ([]) Ab _ cb (fun _ => True) (fun _ => False) rfl rfl S1'.out.row hC'.out (fun _ _ h => h) (fun _ h => h.elim) (fun _ _ => trivial) S1'.out.below S1'.out.below.size (by first | omega | (show (s.1.length + 0) * 1 ≤ _; omega)) ?_; intro v1 w2 ho hb hg hat; obtain ⟨A1, d1, hv1, _, _⟩ := Kd.R_reads ho; subst hv1; have q2 : w2.cell? ⟨g, 0, none⟩ = some v := (World.cell?_of_block (w := w1) (a := ⟨g, 0, none⟩) (hg.block g (blk_lt S1'.out.cell) S1'.out.ne)).trans q0; have f2 : w2.frozen? ⟨g, 0, none⟩ = false := by simp [World.frozen?, hg.block g (blk_lt S1'.out.cell) S1'.out.ne, S1'.out.cell]))
      go_end0
      obtain ⟨R1, R2⟩ := lay_put S1'.out ho hb hg
      rw [List.length_append] at R1 R2
      simp only [List.append_nil, List.length_nil, Nat.add_zero] at R1 R2
      exact ⟨rfl, _, s, R1, T1'.out.trans R2, LRel.len (LRel.skip nop _ s h2), fun _ => rfl, fun _ h0 => absurd h0 h2, fun _ h0 => absurd h0 h2⟩

set_option maxRecDepth 100000 in
set_option maxHeartbeats 4000000 in
theorem lay_text_ (t : ByteArray) (bytes_w : t.size ≤ 65536 → (lows t.size 4 ++ bytesOf t).length ≤ wText t) {w0 w : World} {g : Nat} {v : Value} {s : LSt} (hS : LayAt w0 w g v s) (hm : s.1.length + wText t < 140737488355328) :
    Calls Tryz.prog 62 #[.pointer (some ⟨g, 0, none⟩), .string t] w (LDone w0 g w (eText t) (wText t) s) := by
  have C1 := Lib.hid (PA.folkmootref01_Text.calls 6 t _ _ w (text_eq t))
  go_enter Tryz.func62, Tryz.ntmps62
  go_wp2_with fail
  refine C1.out.mono ?_
  rintro e w1 ⟨vb, rfl, hR, hb⟩
  obtain ⟨Ab, cb, rfl, hlc, hC⟩ := Kd.R_reads hR
  have S1 := hS.stays hb
  have hc := S1.cell
  have q0 : w1.cell? ⟨g, 0, none⟩ = some v := cell_blk hc 0 _ rfl
  have q1 : w1.cell? ⟨g, 1, none⟩ = some (.int .i64 s.2) := cell_blk hc 1 _ rfl
  have f0 : w1.frozen? ⟨g, 0, none⟩ = false := by simp [World.frozen?, hc]
  have f1 : w1.frozen? ⟨g, 1, none⟩ = false := by simp [World.frozen?, hc]
  have T1 : Stp SL w w1 := Stp.below hb
  clear hR hb hS
  by_cases h1 : t.size ≤ 65536
  · have hd : decide (t.size ≤ 65536) = true := decide_eq_true h1
    obtain ⟨ys, hys⟩ : ∃ ys, lows t.size 4 ++ bytesOf t = ys := ⟨_, rfl⟩
    have hE : eText t = .ok ys := (if_pos h1).trans (by rw [hys])
    have hl2 : ys.length ≤ wText t := by rw [← hys]; have := bytes_w (by exact h1); simpa using this
    rw [if_pos h1, hys] at hC
    rw [if_pos h1, hd, hys]
    have hl : s.1.length + ys.length < 140737488355328 := by omega
    have S1' := Lib.hid S1
    have T1' := Lib.hid T1
    have hC' := Lib.hid hC
    have HE := Lib.hid hE
    clear S1 T1 hC hc hE
    go_wp2_with (((with_reducible refine gate_builtin (b := .append) (xs := #[.tmp 27, .tmp 28]) rfl ?_); at_builtin; refine Kd.R_append_rows (Kd.int .u8) (w0 := w0) w0.heap.size rfl (.tmp 27) (.tmp 28) 22 5 (.int .u8 0) 1 rfl Tryz.underlying22 info5 rfl (by decide) (by decide) v s.1 (ys) Ab _ cb (fun _ => True) (fun _ => False) rfl rfl S1'.out.row hC'.out (fun _ _ h => h) (fun _ h => h.elim) (fun _ _ => trivial) S1'.out.below S1'.out.below.size (by first | omega | (show (s.1.length + 0) * 1 ≤ _; omega)) ?_; intro v1 w2 ho hb hg hat; obtain ⟨A1, d1, hv1, _, _⟩ := Kd.R_reads ho; subst hv1; have q2 : w2.cell? ⟨g, 0, none⟩ = some v := (World.cell?_of_block (w := w1) (a := ⟨g, 0, none⟩) (hg.block g (blk_lt S1'.out.cell) S1'.out.ne)).trans q0; have f2 : w2.frozen? ⟨g, 0, none⟩ = false := by simp [World.frozen?, hg.block g (blk_lt S1'.out.cell) S1'.out.ne, S1'.out.cell]))
    go_end0
    obtain ⟨R1, R2⟩ := lay_put S1'.out ho hb hg
    rw [List.length_append] at R1 R2
    exact ⟨rfl, _, _, R1, T1'.out.trans R2, by simp; omega, fun _ => rfl, fun b h0 hb => (by rw [HE.out] at hb; cases hb; rw [h0]), fun c _ hc => (by rw [HE.out] at hc; cases hc)⟩
  · have hd : decide (t.size ≤ 65536) = false := decide_eq_false h1
    have hE : eText t = .error 2 := if_neg h1
    have HE := Lib.hid hE
    clear hE
    rw [if_neg h1] at *
    rw [hd]
    have hl : s.1.length < 140737488355328 := by omega
    by_cases h2 : s.2 = 0
    · obtain ⟨S2, T2⟩ := lay_err S1 2
      have S2' := Lib.hid S2
      have T2' := Lib.hid (T1.trans T2)
      have H2 := Lib.hid h2
      have hC' := Lib.hid (C_nil (W := w1.setCell ⟨g, 1, none⟩ (.int .i64 2)) (A := Ab))
      have q3 : (w1.setCell ⟨g, 1, none⟩ (.int .i64 2)).cell? ⟨g, 0, none⟩ = some v := by simp [World.cell?, S2.cell]
      have f3 : (w1.setCell ⟨g, 1, none⟩ (.int .i64 2)).frozen? ⟨g, 0, none⟩ = false := by simp [World.frozen?, S2.cell]
      clear S1 T1 hC hc S2 T2
      go_wp2_with (((with_reducible refine gate_builtin (b := .append) (xs := #[.tmp 27, .tmp 28]) rfl ?_); at_builtin; refine Kd.R_append_rows (Kd.int .u8) (w0 := w0) w0.heap.size rfl (.tmp 27) (.tmp 28) 22 5 (.int .u8 0) 1 rfl Tryz.underlying22 info5 rfl (by decide) (by decide) v s.1 ([]) Ab _ cb (fun _ => True) (fun _ => False) rfl rfl S2'.out.row hC'.out (fun _ _ h => h) (fun _ h => h.elim) (fun _ _ => trivial) S2'.out.below S2'.out.below.size (by first | omega | (show (s.1.length + 0) * 1 ≤ _; omega)) ?_; intro v1 w2 ho hb hg hat; obtain ⟨A1, d1, hv1, _, _⟩ := Kd.R_reads ho; subst hv1; have q2 : w2.cell? ⟨g, 0, none⟩ = some v := (World.cell?_of_block (w := w1.setCell ⟨g, 1, none⟩ (.int .i64 2)) (a := ⟨g, 0, none⟩) (hg.block g (blk_lt S2'.out.cell) S2'.out.ne)).trans q3; have f2 : w2.frozen? ⟨g, 0, none⟩ = false := by simp [World.frozen?, hg.block g (blk_lt S2'.out.cell) S2'.out.ne, S2'.out.cell]))
      go_end0
      obtain ⟨R1, R2⟩ := lay_put S2'.out ho hb hg
      rw [List.length_append] at R1 R2
      simp only [List.append_nil, List.length_nil, Nat.add_zero] at R1 R2
      exact ⟨rfl, _, (s.1, 2), R1, T2'.out.trans R2, by simp, fun h0 => absurd H2.out h0, fun b _ hb => (by rw [HE.out] at hb; cases hb), fun c _ hc => (by rw [HE.out] at hc; cases hc; exact ⟨rfl, by decide⟩)⟩
    · have S1' := Lib.hid S1
      have T1' := Lib.hid T1
      have hC' := Lib.hid hC
      clear S1 T1 hC hc
      go_wp2_with (((with_reducible refine gate_builtin (b := .append) (xs := #[.tmp 27, .tmp 28]) rfl ?_); at_builtin; refine Kd.R_append_rows (Kd.int .u8) (w0 := w0) w0.heap.size rfl (.tmp 27) (.tmp 28) 22 5 (.int .u8 0) 1 rfl Tryz.underlying22 info5 rfl (by decide) (by decide) v s.1 ([]) Ab _ cb (fun _ => True) (fun _ => False) rfl rfl S1'.out.row hC'.out (fun _ _ h => h) (fun _ h => h.elim) (fun _ _ => trivial) S1'.out.below S1'.out.below.size (by first | omega | (show (s.1.length + 0) * 1 ≤ _; omega)) ?_; intro v1 w2 ho hb hg hat; obtain ⟨A1, d1, hv1, _, _⟩ := Kd.R_reads ho; subst hv1; have q2 : w2.cell? ⟨g, 0, none⟩ = some v := (World.cell?_of_block (w := w1) (a := ⟨g, 0, none⟩) (hg.block g (blk_lt S1'.out.cell) S1'.out.ne)).trans q0; have f2 : w2.frozen? ⟨g, 0, none⟩ = false := by simp [World.frozen?, hg.block g (blk_lt S1'.out.cell) S1'.out.ne, S1'.out.cell]))
      go_end0
      obtain ⟨R1, R2⟩ := lay_put S1'.out ho hb hg
      rw [List.length_append] at R1 R2
      simp only [List.append_nil, List.length_nil, Nat.add_zero] at R1 R2
      exact ⟨rfl, _, s, R1, T1'.out.trans R2, LRel.len (LRel.skip nop _ s h2), fun _ => rfl, fun _ h0 => absurd h0 h2, fun _ h0 => absurd h0 h2⟩
theorem lay_number (n : Int) {w0 w : World} {g : Nat} {v : Value} {s : LSt} (hS : LayAt w0 w g v s) (hm : s.1.length + 4 < 140737488355328) :
    Calls Tryz.prog 37 #[.pointer (some ⟨g, 0, none⟩), .int .i64 n] w (LDone w0 g w (eNum n) 4 s) := lay_number_ n (fun _ => by rw [lows_length]; omega) hS hm
theorem lay_text (t : ByteArray) {w0 w : World} {g : Nat} {v : Value} {s : LSt} (hS : LayAt w0 w g v s) (hm : s.1.length + wText t < 140737488355328) :
    Calls Tryz.prog 62 #[.pointer (some ⟨g, 0, none⟩), .string t] w (LDone w0 g w (eText t) (wText t) s) := lay_text_ t (fun h => by rw [List.length_append, lows_length, bytesOf_length, wText, if_pos h]; omega) hS hm
end Go.Proofs.YtoomcdgnnibjlaaGreat.Wr
/- The document's writer: whole numbers, flags, how many. -/
namespace Go.Proofs.YtoomcdgnnibjlaaGreat.Wr
open Go.RowKit Go.Proofs.YtoomcdgnnibjlaaGreatW.PrintWords Go.Proofs.YtoomcdgnnibjlaaGreatW.PrintLast Go.Proofs.YtoomcdgnnibjlaaGreat.PA
set_option linter.unusedVariables false
attribute [local go_sem ↓] Go.wp_at_zero Go.wp_at_succ

theorem cell_set_ne {w : World} {p q : Addr} {u v : Value} (h : w.cell? q = some v) (hne : q.block ≠ p.block) : (w.setCell p u).cell? q = some v :=
  (World.cell?_of_block (w := w) (Below.heap_setCell w p u q.block hne)).trans h
set_option maxRecDepth 100000 in
set_option maxHeartbeats 4000000 in
theorem lay_whole (n : Int) {w0 w : World} {g : Nat} {v : Value} {s : LSt} (hS : LayAt w0 w g v s) (hm : s.1.length + 8 < 140737488355328) :
    Calls Tryz.prog 104 #[.pointer (some ⟨g, 0, none⟩), .int .i64 n] w (LDone w0 g w (eInt n) 8 s) := by
  have C1 := Lib.hid (fun W => folkmootref01_Int.calls 10 n _ W (int_eq n))
  have hc := hS.cell
  have q0 : w.cell? ⟨g, 0, none⟩ = some v := cell_blk hc 0 _ rfl
  have HS := Lib.hid (hS.stays (w' := w.drew) ((Below.refl _ _).drew))
  have HT := Lib.hid (Stp.below (S := SL) (w := w) (w' := w.drew) ((Below.refl _ _).drew))
  clear hc hS
  go_enter Tryz.func104, Tryz.ntmps104
  go_region_law
    (first | ((refine goes_ Tryz.func107 (by kernel_rfl) rfl #[.int .i64 n] (by rfl) rfl rfl (by (try simp only [List.map_toArray, List.map_cons, List.map_nil]); rfl) ?_); refine (C1.out _).mono ?_; rintro e w1 ⟨vb, rfl, hR, hb1⟩; refine ⟨_, rfl, ?_⟩; obtain ⟨Ab, cb, rfl, hlc, hC⟩ := Kd.R_reads hR; have S1 := Lib.hid (HS.out.stays hb1); have T1 := Lib.hid (HT.out.trans (Stp.below hb1)); have hC' := Lib.hid hC; have q1 : w1.cell? ⟨g, 0, none⟩ = some v := cell_blk S1.out.cell 0 _ rfl; clear hR hC) | ((refine Kd.R_append_rows_step (Kd.int .u8) (w0 := w0) w0.heap.size (by rfl) (.tmp 8) (.tmp 10) 22 5 (.int .u8 0) 1 rfl Tryz.underlying22 info5 rfl (by decide) (by decide) v s.1 (lows (n % 18446744073709551616) 8) Ab _ cb (fun _ => True) (fun _ => False) (by rfl) (by rfl) S1.out.row hC'.out (fun _ _ h => h) (fun _ h => h.elim) (fun _ _ => trivial) S1.out.below S1.out.below.size (by rw [lows_length]; omega) ?_; intro v1 w2 ho hb hg hat; obtain ⟨A1, d1, hv1, _, _⟩ := Kd.R_reads ho; subst hv1; have q2 : w2.cell? ⟨g, 0, none⟩ = some v := (World.cell?_of_block (w := w1) (a := ⟨g, 0, none⟩) (hg.block g (blk_lt S1.out.cell) S1.out.ne)).trans (cell_blk S1.out.cell 0 _ rfl); have f2 : w2.frozen? ⟨g, 0, none⟩ = false := by simp [World.frozen?, hg.block g (blk_lt S1.out.cell) S1.out.ne, S1.out.cell])))
  all_goals go_wp2
  all_goals go_end0
  all_goals
    obtain ⟨R1, R2⟩ := lay_put S1.out ho hb hg
    rw [List.length_append] at R1 R2
    exact ⟨rfl, _, _, R1, T1.out.trans R2, by simp [lows_length], fun _ => rfl, fun b h0 hb => (by cases hb; rw [h0]), fun c _ hc => (by cases hc)⟩

set_option maxRecDepth 100000 in
set_option maxHeartbeats 4000000 in
theorem lay_flag_true {w0 w : World} {g : Nat} {v : Value} {s : LSt} (hS : LayAt w0 w g v s) (hm : s.1.length + 1 < 140737488355328) :
    Calls Tryz.prog 63 #[.pointer (some ⟨g, 0, none⟩), .bool true] w (LDone w0 g w (eFlag true) 1 s) := by
  have hc := hS.cell
  have q0 : w.cell? ⟨g, 0, none⟩ = some v := cell_blk hc 0 _ rfl
  have HS := Lib.hid hS
  clear hc hS
  go_enter Tryz.func63, Tryz.ntmps63
  go_wp2_with (((with_reducible refine gate_builtin (b := .append) (xs := #[.tmp 9, .tmp 10]) rfl ?_); at_builtin; refine Kd.R_append (Kd.int .u8) (w0 := w0) w0.heap.size rfl (.tmp 9) (.tmp 10) 22 5 (.int .u8 0) 1 rfl Tryz.underlying22 info5 rfl (by decide) (by decide) v s.1 1 [.int .u8 1] (fun _ => True) (fun _ => False) rfl rfl rfl (fun _ h => h.elim) (fun _ _ => trivial) HS.out.row HS.out.below HS.out.below.size (by omega) ?_; intro v1 w2 ho hb hg hat; obtain ⟨A1, d1, hv1, _, _⟩ := Kd.R_reads ho; subst hv1; have q2 : w2.cell? ⟨g, 0, none⟩ = some v := (World.cell?_of_block (w := w) (a := ⟨g, 0, none⟩) (hg.block g (blk_lt HS.out.cell) HS.out.ne)).trans q0; have f2 : w2.frozen? ⟨g, 0, none⟩ = false := by simp [World.frozen?, hg.block g (blk_lt HS.out.cell) HS.out.ne, HS.out.cell]))
  go_end0
  obtain ⟨R1, R2⟩ := lay_put HS.out ho hb hg
  rw [List.length_append] at R1 R2
  exact ⟨rfl, _, _, R1, R2, by simp, fun _ => rfl, fun b h0 hb => (by cases hb; rw [h0]; rfl), fun c _ hc => (by cases hc)⟩

set_option maxRecDepth 100000 in
set_option maxHeartbeats 4000000 in
theorem lay_flag_false {w0 w : World} {g : Nat} {v : Value} {s : LSt} (hS : LayAt w0 w g v s) (hm : s.1.length + 1 < 140737488355328) :
    Calls Tryz.prog 63 #[.pointer (some ⟨g, 0, none⟩), .bool false] w (LDone w0 g w (eFlag false) 1 s) := by
  have hc := hS.cell
  have q0 : w.cell? ⟨g, 0, none⟩ = some v := cell_blk hc 0 _ rfl
  have HS := Lib.hid hS
  clear hc hS
  go_enter Tryz.func63, Tryz.ntmps63
  go_wp2_with (((with_reducible refine gate_builtin (b := .append) (xs := #[.tmp 18, .tmp 19]) rfl ?_); at_builtin; refine Kd.R_append (Kd.int .u8) (w0 := w0) w0.heap.size rfl (.tmp 18) (.tmp 19) 22 5 (.int .u8 0) 1 rfl Tryz.underlying22 info5 rfl (by decide) (by decide) v s.1 0 [.int .u8 0] (fun _ => True) (fun _ => False) rfl rfl rfl (fun _ h => h.elim) (fun _ _ => trivial) HS.out.row HS.out.below HS.out.below.size (by omega) ?_; intro v1 w2 ho hb hg hat; obtain ⟨A1, d1, hv1, _, _⟩ := Kd.R_reads ho; subst hv1; have q2 : w2.cell? ⟨g, 0, none⟩ = some v := (World.cell?_of_block (w := w) (a := ⟨g, 0, none⟩) (hg.block g (blk_lt HS.out.cell) HS.out.ne)).trans q0; have f2 : w2.frozen? ⟨g, 0, none⟩ = false := by simp [World.frozen?, hg.block g (blk_lt HS.out.cell) HS.out.ne, HS.out.cell]))
  go_end0
  obtain ⟨R1, R2⟩ := lay_put HS.out ho hb hg
  rw [List.length_append] at R1 R2
  exact ⟨rfl, _, _, R1, R2, by simp, fun _ => rfl, fun b h0 hb => (by cases hb; rw [h0]; rfl), fun c _ hc => (by cases hc)⟩

theorem lay_flag (b : Bool) {w0 w : World} {g : Nat} {v : Value} {s : LSt} (hS : LayAt w0 w g v s) (hm : s.1.length + 1 < 140737488355328) :
    Calls Tryz.prog 63 #[.pointer (some ⟨g, 0, none⟩), .bool b] w (LDone w0 g w (eFlag b) 1 s) := by
  cases b
  · exact lay_flag_false hS hm
  · exact lay_flag_true hS hm

/-- What 'many' does: true: the number lies there, nothing was wrong; false: nothing was done, or the fault is told. -/
def LMany (w0 : World) (g : Nat) (w : World) (n : Int) (s : LSt) : Ending → World → Prop :=
  fun e w' => ∃ b : Bool, e = .returned (.bool b) ∧ ∃ v' s', LayAt w0 w' g v' s' ∧ Stp SL w w' ∧
    (b = true → s.2 = 0 ∧ n ≤ 4096 ∧ LRel (eNum n) 4 s s') ∧ (b = false → s'.1 = s.1 ∧ (s.2 ≠ 0 ∧ s'.2 = s.2 ∨ s.2 = 0 ∧ 4096 < n ∧ s'.2 = 2))
set_option maxRecDepth 100000 in
set_option maxHeartbeats 4000000 in
theorem lay_many (n : Int) {w0 w : World} {g : Nat} {v : Value} {s : LSt} (hS : LayAt w0 w g v s) (hm : n ≤ 4096 → s.1.length + 4 < 140737488355328) :
    Calls Tryz.prog 36 #[.pointer (some ⟨g, 0, none⟩), .int .i64 n] w (LMany w0 g w n s) := by
  have hc := hS.cell
  have q1 : w.cell? ⟨g, 1, none⟩ = some (.int .i64 s.2) := cell_blk hc 1 _ rfl
  have f1 : w.frozen? ⟨g, 1, none⟩ = false := by simp [World.frozen?, hc]
  by_cases h2 : s.2 = 0
  · by_cases h1 : n > 4096
    · have S1 := Lib.hid (lay_err hS 2)
      clear hS hc
      go_enter Tryz.func36, Tryz.ntmps36
      go_wp2
      go_ret
      exact ⟨false, rfl, _, _, S1.out.1, S1.out.2, fun h => absurd h (by decide), fun _ => ⟨rfl, .inr ⟨h2, by omega, rfl⟩⟩⟩
    · have C1 := Lib.hid (lay_number n hS (hm (by omega)))
      clear hS hc
      go_enter Tryz.func36, Tryz.ntmps36
      go_wp2_with fail
      refine C1.out.mono ?_
      rintro e w1 ⟨rfl, v1, s1, S1, T1, L1⟩
      clear q1 f1 C1
      have S1' := Lib.hid S1
      have T1' := Lib.hid T1
      have L1' := Lib.hid L1
      clear S1 T1 L1
      go_wp2
      go_ret
      exact ⟨true, rfl, _, _, S1'.out, T1'.out, fun _ => ⟨h2, by omega, L1'.out⟩, fun h => absurd h (by decide)⟩
  · have S1 := Lib.hid hS
    clear hS hc
    go_enter Tryz.func36, Tryz.ntmps36
    go_wp2
    go_ret
    exact ⟨false, rfl, _, _, S1.out, Stp.refl _ _, fun h => absurd h (by decide), fun _ => ⟨rfl, .inl ⟨h2, rfl⟩⟩⟩
end Go.Proofs.YtoomcdgnnibjlaaGreat.Wr
/- The program's codec and its writer: numbers, whole numbers, texts, flags. -/
namespace Go.Proofs.YtoomcdgnnibjlaaGreat.Wr
open Go.RowKit Go.Proofs.YtoomcdgnnibjlaaGreatW.PrintWords Go.Proofs.YtoomcdgnnibjlaaGreatW.PrintLast
set_option linter.unusedVariables false

/-- A new row of bytes and a fault's number. -/
def NewRow (w : World) (v : Value) (l : Bs) (w' : World) : Prop := (Kd.int .u8).R 5 w' w.heap.size (fun _ => True) v l ∧ Below w.heap.size w w'
set_option maxRecDepth 100000 in
set_option maxHeartbeats 4000000 in
theorem put_number (A : Option Addr) (c : Nat) {l : Bs} (n : Int) {w : World} (hA : (Kd.int .u8).C w A l.length l) (h : 0 ≤ n ∧ n ≤ 1000000000) (hl : l.length + 4 < 140737488355328) :
    Calls Tryz.prog 86 #[.slice A l.length c, .int .i64 n] w fun e w' => ∃ v', e = .returned (.tuple #[v', .int .i64 0]) ∧ NewRow w v' (l ++ lows n 4) w' := by
  obtain ⟨h0, h1⟩ := h
  have C1 := Lib.hid (laid_4 A c n hA h0 (by omega) hl)
  have e3 : IntKind.u64.wrap n = n := u64_small (by omega) (by omega)
  clear hA
  go_enter Tryz.func86, Tryz.ntmps86
  go_wp2_with fail
  try rw [e3]
  refine C1.out.mono ?_
  rintro e w1 ⟨v', rfl, hR, hb⟩
  have HR := Lib.hid hR
  have HB := Lib.hid hb
  clear hR hb C1 e3
  go_wp2
  go_ret2
  exact ⟨v', rfl, HR.out, HB.out⟩
set_option maxRecDepth 100000 in
set_option maxHeartbeats 4000000 in
theorem put_number_no (A : Option Addr) (c : Nat) {l : Bs} (n : Int) {w : World} (h : ¬ (0 ≤ n ∧ n ≤ 1000000000)) :
    Calls Tryz.prog 86 #[.slice A l.length c, .int .i64 n] w fun e w' => e = .returned (.tuple #[.slice none 0 0, .int .i64 1]) ∧ w = w' := by
  by_cases h0 : n < 0
  · clear h
    go_enter Tryz.func86, Tryz.ntmps86
    go_wp2
    go_ret2
    exact ⟨rfl, rfl⟩
  · have h1 : 1000000000 < n := by omega
    clear h
    go_enter Tryz.func86, Tryz.ntmps86
    go_wp2
    go_ret2
    exact ⟨rfl, rfl⟩
set_option maxRecDepth 100000 in
set_option maxHeartbeats 4000000 in
theorem put_int (A : Option Addr) (c : Nat) {l : Bs} (n : Int) {w : World} (hA : (Kd.int .u8).C w A l.length l) (hl : l.length + 8 < 140737488355328) :
    Calls Tryz.prog 105 #[.slice A l.length c, .int .i64 n] w fun e w' => ∃ v', e = .returned v' ∧ NewRow w v' (l ++ lows (n % 18446744073709551616) 8) w' := by
  have C1 := laid_8 A c (n % 18446744073709551616) hA (by omega) (by omega) hl
  have e3 := u64_mod n
  rw [← e3] at C1 ⊢
  have C1' := Lib.hid C1
  clear hA C1 e3
  go_enter Tryz.func105, Tryz.ntmps105
  go_wp2_with fail
  refine C1'.out.mono ?_
  rintro e w1 ⟨v', rfl, hR, hb⟩
  have HR := Lib.hid hR
  have HB := Lib.hid hb
  clear hR hb C1'
  go_wp2
  go_ret
  exact ⟨v', rfl, HR.out, HB.out⟩
theorem wr_new {w0 w w1 : World} {g : Nat} {v v' : Value} {l l' : Bs} (h : WAt w0 w g v l) (hn : NewRow w v' l' w1) : WAt w0 (w1.setCell ⟨g, 0, none⟩ v') g v' l' ∧ Stp SW w (w1.setCell ⟨g, 0, none⟩ v') :=
  wr_put h (Kd.R_lower hn.1 h.below.size) (h.below.trans (hn.2.mono h.below.size)) (grown_of_below hn.2 _)

set_option maxRecDepth 100000 in
set_option maxHeartbeats 4000000 in
theorem wr_number (n : Int) {w0 w : World} {g : Nat} {v : Value} {l : Bs} (hS : WAt w0 w g v l) (hm : l.length + 4 < 140737488355328) :
    Calls Tryz.prog 66 #[.pointer (some ⟨g, 0, none⟩), .int .i64 n] w (WDone w0 g w (eNum n) l) := by
  obtain ⟨A, c, rfl, hlc, hC⟩ := Kd.R_reads hS.row
  have q0 := cell_blk hS.cell 0 _ rfl
  by_cases h : 0 ≤ n ∧ n ≤ 1000000000
  · have C1 := Lib.hid (put_number A c n hC h hm)
    have HE := Lib.hid (show eNum n = .ok (lows n 4) from if_pos h)
    have HS := Lib.hid hS
    clear hC hS h
    go_enter Tryz.func66, Tryz.ntmps66
    go_wp2_with fail
    refine C1.out.mono ?_
    rintro e w1 ⟨v', rfl, hN⟩
    obtain ⟨z, hz⟩ : ∃ z, l ++ lows n 4 = z := ⟨_, rfl⟩
    rw [hz] at hN
    obtain ⟨A1, c1, rfl, _, _⟩ := Kd.R_reads hN.1
    have HZ := Lib.hid hz
    clear hz
    have q1 : w1.cell? ⟨g, 0, none⟩ = some (Value.slice A l.length c) := (hN.2.cell (p := ⟨g, 0, none⟩) (blk_lt HS.out.cell)).trans q0
    have f1 : w1.frozen? ⟨g, 0, none⟩ = false := by simp [World.frozen?, hN.2.block g (blk_lt HS.out.cell), HS.out.cell]
    have HN := Lib.hid hN
    clear hN C1 q0
    go_wp2
    go_end0
    obtain ⟨R1, R2⟩ := wr_new HS.out HN.out
    rw [← HZ.out] at R1 R2
    rw [← HZ.out]
    exact .inl ⟨_, HE.out, rfl, _, R1, R2⟩
  · have C1 := Lib.hid (put_number_no A c (l := l) n (w := w) h)
    have HE := Lib.hid (show eNum n = .error 1 from if_neg h)
    have HS := Lib.hid hS
    clear hC hS h
    go_enter Tryz.func66, Tryz.ntmps66
    go_wp2_with fail
    refine C1.out.mono ?_
    rintro e w1 ⟨rfl, rfl⟩
    clear C1 q0
    go_wp2
    exact ⟨rfl, .inr ⟨1, HE.out, rfl, HS.out.below, Stp.refl _ _⟩⟩

set_option maxRecDepth 100000 in
set_option maxHeartbeats 4000000 in
theorem put_text (A : Option Addr) (c : Nat) {l : Bs} (t : ByteArray) {w : World} (hA : (Kd.int .u8).C w A l.length l) (h : t.size ≤ 65536) (hl : l.length + (4 + t.size) < 140737488355328) :
    Calls Tryz.prog 92 #[.slice A l.length c, .string t] w fun e w' => ∃ v', e = .returned (.tuple #[v', .int .i64 0]) ∧ NewRow w v' (l ++ (lows t.size 4 ++ bytesOf t)) w' := by
  have C1 := Lib.hid (laid_4 A c (t.size : Int) hA (by omega) (by omega) (by omega))
  have e3 : IntKind.u64.wrap (t.size : Int) = (t.size : Int) := u64_small (by omega) (by omega)
  clear hA
  go_enter Tryz.func92, Tryz.ntmps92
  go_wp2_with fail
  try rw [e3]
  refine C1.out.mono ?_
  rintro e w1 ⟨v', rfl, hR, hb⟩
  obtain ⟨z, hz⟩ : ∃ z, l ++ lows t.size 4 = z := ⟨_, rfl⟩
  rw [hz] at hR
  obtain ⟨A1, c1, rfl, _, _⟩ := Kd.R_reads hR
  have hzl : z.length ≤ l.length + 4 := by rw [← hz, List.length_append, lows_length]; omega
  have HZ := Lib.hid hz
  have HR := Lib.hid hR
  have HB := Lib.hid hb
  clear hR hb C1 e3 hz
  go_wp2_with (((with_reducible refine gate_builtin (b := .append) (xs := #[.tmp 13, .tmp 14]) rfl ?_); at_builtin; refine print_append_str (w0 := w) w.heap.size rfl (.tmp 13) (.tmp 14) 22 9 5 rfl Tryz.underlying22 Tryz.underlying9 infoB (.slice A1 z.length c1) z t rfl rfl (Kd.own_of_R HR.out) HB.out HB.out.size (by omega) ?_; intro v1 w2 ho hb2 hg2; have HO := Lib.hid ho; have HB2 := Lib.hid hb2; clear ho hb2 hg2))
  go_ret2
  refine ⟨v1, rfl, ?_, HB2.out⟩
  rw [← List.append_assoc, HZ.out]
  exact Kd.R_of_own HO.out (fun _ _ => trivial)
set_option maxRecDepth 100000 in
set_option maxHeartbeats 4000000 in
theorem put_text_no (A : Option Addr) (c : Nat) {l : Bs} (t : ByteArray) {w : World} (h : ¬ t.size ≤ 65536) :
    Calls Tryz.prog 92 #[.slice A l.length c, .string t] w fun e w' => e = .returned (.tuple #[.slice none 0 0, .int .i64 2]) ∧ w = w' := by
  have h1 : (65536 : Int) < (t.size : Int) := by omega
  clear h
  go_enter Tryz.func92, Tryz.ntmps92
  go_wp2
  go_ret2
  exact ⟨rfl, rfl⟩

set_option maxRecDepth 100000 in
set_option maxHeartbeats 4000000 in
theorem wr_text (t : ByteArray) {w0 w : World} {g : Nat} {v : Value} {l : Bs} (hS : WAt w0 w g v l) (hm : l.length + wText t < 140737488355328) :
    Calls Tryz.prog 72 #[.pointer (some ⟨g, 0, none⟩), .string t] w (WDone w0 g w (eText t) l) := by
  obtain ⟨A, c, rfl, hlc, hC⟩ := Kd.R_reads hS.row
  have q0 := cell_blk hS.cell 0 _ rfl
  by_cases h : t.size ≤ 65536
  · have hm' : l.length + (4 + t.size) < 140737488355328 := by rw [wText, if_pos h] at hm; exact hm
    have C1 := Lib.hid (put_text A c t hC h hm')
    have HE := Lib.hid (show eText t = .ok (lows t.size 4 ++ bytesOf t) from if_pos h)
    have HS := Lib.hid hS
    clear hC hS h hm hm'
    go_enter Tryz.func72, Tryz.ntmps72
    go_wp2_with fail
    refine C1.out.mono ?_
    rintro e w1 ⟨v', rfl, hN⟩
    obtain ⟨z, hz⟩ : ∃ z, l ++ (lows t.size 4 ++ bytesOf t) = z := ⟨_, rfl⟩
    rw [hz] at hN
    obtain ⟨A1, c1, rfl, _, _⟩ := Kd.R_reads hN.1
    have HZ := Lib.hid hz
    clear hz
    have q1 : w1.cell? ⟨g, 0, none⟩ = some (Value.slice A l.length c) := (hN.2.cell (p := ⟨g, 0, none⟩) (blk_lt HS.out.cell)).trans q0
    have f1 : w1.frozen? ⟨g, 0, none⟩ = false := by simp [World.frozen?, hN.2.block g (blk_lt HS.out.cell), HS.out.cell]
    have HN := Lib.hid hN
    clear hN C1 q0
    go_wp2
    go_end0
    obtain ⟨R1, R2⟩ := wr_new HS.out HN.out
    rw [← HZ.out] at R1 R2
    rw [← HZ.out]
    exact .inl ⟨_, HE.out, rfl, _, R1, R2⟩
  · have C1 := Lib.hid (put_text_no A c (l := l) t (w := w) h)
    have HE := Lib.hid (show eText t = .error 2 from if_neg h)
    have HS := Lib.hid hS
    clear hC hS h hm
    go_enter Tryz.func72, Tryz.ntmps72
    go_wp2_with fail
    refine C1.out.mono ?_
    rintro e w1 ⟨rfl, rfl⟩
    clear C1 q0
    go_wp2
    exact ⟨rfl, .inr ⟨2, HE.out, rfl, HS.out.below, Stp.refl _ _⟩⟩
set_option maxRecDepth 100000 in
set_option maxHeartbeats 4000000 in
theorem wr_whole (n : Int) {w0 w : World} {g : Nat} {v : Value} {l : Bs} (hS : WAt w0 w g v l) (hm : l.length + 8 < 140737488355328) :
    Calls Tryz.prog 101 #[.pointer (some ⟨g, 0, none⟩), .int .i64 n] w (WDone w0 g w (eInt n) l) := by
  obtain ⟨A, c, rfl, hlc, hC⟩ := Kd.R_reads hS.row
  have q0 := cell_blk hS.cell 0 _ rfl
  have C1 := Lib.hid (put_int A c n hC hm)
  have HS := Lib.hid hS
  clear hC hS hm
  go_enter Tryz.func101, Tryz.ntmps101
  go_wp2_with fail
  refine C1.out.mono ?_
  rintro e w1 ⟨v', rfl, hN⟩
  obtain ⟨z, hz⟩ : ∃ z, l ++ lows (n % 18446744073709551616) 8 = z := ⟨_, rfl⟩
  rw [hz] at hN
  obtain ⟨A1, c1, rfl, _, _⟩ := Kd.R_reads hN.1
  have HZ := Lib.hid hz
  clear hz
  have q1 : w1.cell? ⟨g, 0, none⟩ = some (Value.slice A l.length c) := (hN.2.cell (p := ⟨g, 0, none⟩) (blk_lt HS.out.cell)).trans q0
  have f1 : w1.frozen? ⟨g, 0, none⟩ = false := by simp [World.frozen?, hN.2.block g (blk_lt HS.out.cell), HS.out.cell]
  have HN := Lib.hid hN
  clear hN C1 q0
  go_wp2
  go_end0
  obtain ⟨R1, R2⟩ := wr_new HS.out HN.out
  rw [← HZ.out] at R1 R2
  rw [← HZ.out]
  exact .inl ⟨_, rfl, rfl, _, R1, R2⟩

set_option maxRecDepth 100000 in
set_option maxHeartbeats 4000000 in
theorem wr_flag_true {w0 w : World} {g : Nat} {v : Value} {l : Bs} (hS : WAt w0 w g v l) (hm : l.length + 1 < 140737488355328) :
    Calls Tryz.prog 90 #[.pointer (some ⟨g, 0, none⟩), .bool true] w (WDone w0 g w (eFlag true) l) := by
  have q0 := cell_blk hS.cell 0 _ rfl
  have HS := Lib.hid hS
  clear hS
  go_enter Tryz.func90, Tryz.ntmps90
  go_wp2_with (((with_reducible refine gate_builtin (b := .append) (xs := #[.tmp 9, .tmp 10]) rfl ?_); at_builtin; refine Kd.R_append (Kd.int .u8) (w0 := w0) w0.heap.size rfl (.tmp 9) (.tmp 10) 22 5 (.int .u8 0) 1 rfl Tryz.underlying22 infoB rfl (by decide) (by decide) v l 1 [.int .u8 1] (fun _ => True) (fun _ => False) rfl rfl rfl (fun _ h => h.elim) (fun _ _ => trivial) HS.out.row HS.out.below HS.out.below.size (by omega) ?_; intro v1 w2 ho hb hg hat; obtain ⟨A1, d1, hv1, _, _⟩ := Kd.R_reads ho; subst hv1; have q2 : w2.cell? ⟨g, 0, none⟩ = some v := (World.cell?_of_block (w := w) (a := ⟨g, 0, none⟩) (hg.block g (blk_lt HS.out.cell) HS.out.ne)).trans q0; have f2 : w2.frozen? ⟨g, 0, none⟩ = false := by simp [World.frozen?, hg.block g (blk_lt HS.out.cell) HS.out.ne, HS.out.cell]))
  go_end0
  obtain ⟨R1, R2⟩ := wr_put HS.out ho hb hg
  rw [List.length_append] at R1 R2
  exact .inl ⟨_, rfl, rfl, _, R1, R2⟩

set_option maxRecDepth 100000 in
set_option maxHeartbeats 4000000 in
theorem wr_flag_false {w0 w : World} {g : Nat} {v : Value} {l : Bs} (hS : WAt w0 w g v l) (hm : l.length + 1 < 140737488355328) :
    Calls Tryz.prog 90 #[.pointer (some ⟨g, 0, none⟩), .bool false] w (WDone w0 g w (eFlag false) l) := by
  have q0 := cell_blk hS.cell 0 _ rfl
  have HS := Lib.hid hS
  clear hS
  go_enter Tryz.func90, Tryz.ntmps90
  go_wp2_with (((with_reducible refine gate_builtin (b := .append) (xs := #[.tmp 18, .tmp 19]) rfl ?_); at_builtin; refine Kd.R_append (Kd.int .u8) (w0 := w0) w0.heap.size rfl (.tmp 18) (.tmp 19) 22 5 (.int .u8 0) 1 rfl Tryz.underlying22 infoB rfl (by decide) (by decide) v l 0 [.int .u8 0] (fun _ => True) (fun _ => False) rfl rfl rfl (fun _ h => h.elim) (fun _ _ => trivial) HS.out.row HS.out.below HS.out.below.size (by omega) ?_; intro v1 w2 ho hb hg hat; obtain ⟨A1, d1, hv1, _, _⟩ := Kd.R_reads ho; subst hv1; have q2 : w2.cell? ⟨g, 0, none⟩ = some v := (World.cell?_of_block (w := w) (a := ⟨g, 0, none⟩) (hg.block g (blk_lt HS.out.cell) HS.out.ne)).trans q0; have f2 : w2.frozen? ⟨g, 0, none⟩ = false := by simp [World.frozen?, hg.block g (blk_lt HS.out.cell) HS.out.ne, HS.out.cell]))
  go_end0
  obtain ⟨R1, R2⟩ := wr_put HS.out ho hb hg
  rw [List.length_append] at R1 R2
  exact .inl ⟨_, rfl, rfl, _, R1, R2⟩

theorem wr_flag (b : Bool) {w0 w : World} {g : Nat} {v : Value} {l : Bs} (hS : WAt w0 w g v l) (hm : l.length + 1 < 140737488355328) :
    Calls Tryz.prog 90 #[.pointer (some ⟨g, 0, none⟩), .bool b] w (WDone w0 g w (eFlag b) l) := by
  cases b
  · exact wr_flag_false hS hm
  · exact wr_flag_true hS hm
/-- A copy of an element in a box of the round's own. -/
theorem wr_box {w0 wr W0 : World} {g : Nat} {v : Value} {s : Bs} (h : WAt w0 wr g v s) (T : Stp SW W0 wr) (cs : Array Value) (t : Nat) : ∃ W1, wr.alloc (.cells cs t) = W1 ∧ WAt w0 W1 g v s ∧ Stp SW W0 W1 :=
  have hb : Below wr.heap.size wr (wr.alloc (.cells cs t)) := (Below.refl _ _).alloc (Nat.le_refl _) _
  ⟨_, rfl, h.stays hb, T.trans (Stp.below hb)⟩
end Go.Proofs.YtoomcdgnnibjlaaGreat.Wr
/- Lists of the document's writer, by what they lay. -/
namespace Go.Proofs.YtoomcdgnnibjlaaGreat.Wr
open Go.RowKit Go.Proofs.YtoomcdgnnibjlaaGreatW.PrintWords Go.Proofs.YtoomcdgnnibjlaaGreatW.PrintLast
set_option linter.unusedVariables false
variable {α : Type} {e : α → Er} {w : α → Nat} {l : List α} {s s' s1 : LSt}
theorem LRel.list_no (h : s'.1 = s.1 ∧ (s.2 ≠ 0 ∧ s'.2 = s.2 ∨ s.2 = 0 ∧ 4096 < (l.length : Int) ∧ s'.2 = 2)) : LRel (eList e l) (wList w l) s s' ∧ s'.2 ≠ 0 := by
  obtain ⟨h1, h2 | h2⟩ := h
  · exact ⟨⟨by rw [h1]; omega, fun _ => h2.2, fun _ h0 => absurd h0 h2.1, fun _ h0 => absurd h0 h2.1⟩, by rw [h2.2]; exact h2.1⟩
  · have he : eList e l = .error 2 := by unfold eList; rw [if_pos (by omega)]
    exact ⟨⟨by rw [h1]; omega, fun h0 => absurd h2.1 h0, fun b _ hb => (by rw [he] at hb; cases hb), fun c _ hc => (by rw [he] at hc; cases hc; exact ⟨h2.2.2, by decide⟩)⟩, by rw [h2.2.2]; decide⟩
theorem LRel.list_start (h : LRel (eNum l.length) 4 s s1) : LRel (cat (eNum l.length) (cats ((l.take 0).map e))) (4 + wSum w (l.take 0)) s s1 := by
  have := LRel.seq h (LRel.nop s1)
  exact this
theorem LRel.list_step {k : Nat} (hk : k < l.length) (h : LRel (cat (eNum l.length) (cats ((l.take k).map e))) (4 + wSum w (l.take k)) s s1) (h1 : LRel (e l[k]) (w l[k]) s1 s') :
    LRel (cat (eNum l.length) (cats ((l.take (k + 1)).map e))) (4 + wSum w (l.take (k + 1))) s s' := by
  rw [cats_take e l k hk, wSum_take w l k hk, ← cat_assoc, ← Nat.add_assoc]
  exact LRel.seq h h1
theorem LRel.list_room {k : Nat} (hk : k < l.length) (h4 : ¬ 4096 < l.length) (hm : s.1.length + wList w l < 140737488355328) (h : LRel (cat (eNum l.length) (cats ((l.take k).map e))) (4 + wSum w (l.take k)) s s1) : s1.1.length + w l[k] < 140737488355328 := by
  have h1 := h.len
  have h2 := wSum_take w l k hk
  have h3 := wSum_le w l (k + 1)
  unfold wList at hm
  rw [if_neg h4] at hm
  omega
theorem LRel.list_yes {k : Nat} (hk : k = l.length) (h4 : ¬ 4096 < l.length) (h : LRel (cat (eNum l.length) (cats ((l.take k).map e))) (4 + wSum w (l.take k)) s s') : LRel (eList e l) (wList w l) s s' := by
  subst hk
  rw [List.take_length] at h
  unfold eList wList
  rw [if_neg h4, if_neg h4]
  exact h
theorem many_room (hm : s.1.length + wList w l < 140737488355328) (h0 : (l.length : Int) ≤ 4096) : s.1.length + 4 < 140737488355328 := by
  unfold wList at hm
  rw [if_neg (by omega)] at hm
  omega
/-- A copy of an element in a box of the round's own. -/
theorem lay_box {w0 wr W0 : World} {g : Nat} {v : Value} {s : LSt} (h : LayAt w0 wr g v s) (T : Stp SL W0 wr) (cs : Array Value) (t : Nat) : ∃ W1, wr.alloc (.cells cs t) = W1 ∧ LayAt w0 W1 g v s ∧ Stp SL W0 W1 ∧ W1.heap[wr.heap.size]? = some (.cells cs t (0, 0)) :=
  have hb : Below wr.heap.size wr (wr.alloc (.cells cs t)) := (Below.refl _ _).alloc (Nat.le_refl _) _
  ⟨_, rfl, h.stays hb, T.trans (Stp.below hb), blk_new wr _⟩
end Go.Proofs.YtoomcdgnnibjlaaGreat.Wr
/- The document's writer: rows of texts, numbers, columns. -/
namespace Go.Proofs.YtoomcdgnnibjlaaGreat.Wr
open Go.RowKit Go.Proofs.YtoomcdgnnibjlaaGreatW.PrintWords Go.Proofs.YtoomcdgnnibjlaaGreatW.PrintLast
set_option linter.unusedVariables false
set_option linter.unusedSimpArgs false

theorem at_text {w : World} {A : Option Addr} {n : Nat} {xs : List ByteArray} (h : Kd.string.C w A n xs) (i : Nat) (hi : i < xs.length) : ∃ ad, A = some ad ∧ w.cell? (ad.add i) = some (.string xs[i]) := by
  obtain ⟨ad, e, hc1⟩ := h.2.2 (by have := h.1; omega)
  obtain ⟨c, _, hK, hc0⟩ := hc1 i _ (List.getElem?_eq_getElem hi)
  have hK' : c = [.string xs[i]] := hK
  subst hK'
  exact ⟨ad, e, by have := hc0 0 _ rfl; simpa [show Kd.string.sz = 1 from rfl] using this⟩
theorem at_num {w : World} {A : Option Addr} {n : Nat} {xs : List Int} (h : (Kd.int .i64).C w A n xs) (i : Nat) (hi : i < xs.length) : ∃ ad, A = some ad ∧ w.cell? (ad.add i) = some (.int .i64 xs[i]) := by
  obtain ⟨ad, e, hc1⟩ := h.2.2 (by have := h.1; omega)
  obtain ⟨c, _, hK, hc0⟩ := hc1 i _ (List.getElem?_eq_getElem hi)
  have hK' : c = [.int .i64 xs[i]] := hK
  subst hK'
  exact ⟨ad, e, by have := hc0 0 _ rfl; simpa [show (Kd.int .i64).sz = 1 from rfl] using this⟩
set_option maxRecDepth 100000 in
set_option maxHeartbeats 16000000 in
theorem lay_texts (A : Option Addr) (c : Nat) {l : List ByteArray} {w0 w : World} {g : Nat} {v : Value} {s0 : LSt} (h0 : Kd.string.C w0 A l.length l) (hS : LayAt w0 w g v s0) (hr1 : s0.1.length + wList wText l < 140737488355328) :
    Calls Tryz.prog 61 #[.pointer (some ⟨g, 0, none⟩), .slice A l.length c] w (LDone w0 g w (eList eText l) (wList wText l) s0) := by
  have hx1 : l.length ≤ 9223372036854775807 := h0.2.1
  have S0 := Lib.hid hS
  clear hS
  go_enter Tryz.func61, Tryz.ntmps61
  go_wp2_with fail
  refine (lay_many (l.length : Int) S0.out (many_room hr1)).mono ?_
  rintro e w1 ⟨b, rfl, v1, s1, S1', T1', hyes, hno⟩
  cases b with
  | false =>
    obtain ⟨L1, _⟩ := LRel.list_no (e := eText) (w := wText) (hno rfl)
    have S1 := Lib.hid S1'
    have T1 := Lib.hid T1'
    have LN := Lib.hid L1
    clear S1' T1' hyes hno L1
    go_wp2
    first | go_end0 | refine bodyPost_ret (results_none rfl _ _ _) rfl ?_
    exact ⟨rfl, _, _, S1.out, T1.out, LN.out⟩
  | true =>
    obtain ⟨_, h4, L1'⟩ := hyes rfl
    have n41 : ¬ 4096 < l.length := by omega
    have S1 := Lib.hid S1'
    have T1 := Lib.hid T1'
    have L1s := Lib.hid (LRel.list_start (e := eText) (w := wText) L1')
    clear S1' T1' L1' hyes hno S0
    go_wp2
    go_loopw [4] (fun i wr => ∃ k : Nat, k ≤ l.length ∧ i = .int .i64 k ∧ ∃ vr sr, LayAt w0 wr g vr sr ∧ Stp SL w wr ∧ LRel (cat (eNum l.length) (cats ((l.take k).map eText))) (4 + wSum wText (l.take k)) s0 sr) (fun i _ => l.length - (intOf i).toNat)
    case atStart => exact ⟨0, Nat.zero_le _, rfl, _, _, S1.out, T1.out, L1s.out⟩
    case round =>
      obtain ⟨k, hk, rfl, vr, sr, hS, hT, hL⟩ := hrel
      have SR := Lib.hid hS
      have TR := Lib.hid hT
      have LR := Lib.hid hL
      clear hS hT hL S1 T1 L1s
      by_cases hlt : k < l.length
      · skip
        have hroom := LRel.list_room hlt n41 hr1 LR.out
        obtain ⟨ad, e0, g0⟩ := at_text h0 k hlt
        cases e0
        have g0' := pw_cell_below SR.out.below g0
        clear g0
        go_wp2_with fail
        clear g0'
        refine (lay_text l[k] SR.out hroom).mono ?_
        rintro e w' ⟨rfl, v', s', S', T', L'⟩
        have S1 := Lib.hid S'
        have T1 := Lib.hid (TR.out.trans T')
        have LL := Lib.hid (LRel.list_step hlt LR.out L')
        clear S' T' L' SR TR LR
        go_wp2
        go_roundw
        case rel => exact ⟨k + 1, by omega, by simp, _, _, S1.out, T1.out, LL.out⟩
        case measure => simp [intOf]; omega
      · have hke : k = l.length := by omega
        have L1 := Lib.hid (LRel.list_yes hke n41 LR.out)
        clear LR
        go_wp2
        go_end0
        exact ⟨rfl, _, _, SR.out, TR.out, L1.out⟩
set_option maxRecDepth 100000 in
set_option maxHeartbeats 16000000 in
theorem lay_columns (A : Option Addr) (c : Nat) {l : List TColumn} {w0 w : World} {g : Nat} {v : Value} {s0 : LSt} (h0 : kColumn.C w0 A l.length l) (hS : LayAt w0 w g v s0) (hr1 : s0.1.length + wList wColumn l < 140737488355328) :
    Calls Tryz.prog 97 #[.pointer (some ⟨g, 0, none⟩), .slice A l.length c] w (LDone w0 g w (eList eColumn l) (wList wColumn l) s0) := by
  have hx1 : l.length ≤ 9223372036854775807 := h0.2.1
  have S0 := Lib.hid hS
  clear hS
  go_enter Tryz.func97, Tryz.ntmps97
  go_wp2_with fail
  refine (lay_many (l.length : Int) S0.out (many_room hr1)).mono ?_
  rintro e w1 ⟨b, rfl, v1, s1, S1', T1', hyes, hno⟩
  cases b with
  | false =>
    obtain ⟨L1, _⟩ := LRel.list_no (e := eColumn) (w := wColumn) (hno rfl)
    have S1 := Lib.hid S1'
    have T1 := Lib.hid T1'
    have LN := Lib.hid L1
    clear S1' T1' hyes hno L1
    go_wp2
    first | go_end0 | refine bodyPost_ret (results_none rfl _ _ _) rfl ?_
    exact ⟨rfl, _, _, S1.out, T1.out, LN.out⟩
  | true =>
    obtain ⟨_, h4, L1'⟩ := hyes rfl
    have n41 : ¬ 4096 < l.length := by omega
    have S1 := Lib.hid S1'
    have T1 := Lib.hid T1'
    have L1s := Lib.hid (LRel.list_start (e := eColumn) (w := wColumn) L1')
    clear S1' T1' L1' hyes hno S0
    go_wp2
    go_loopw [4] (fun i wr => ∃ k : Nat, k ≤ l.length ∧ i = .int .i64 k ∧ ∃ vr sr, LayAt w0 wr g vr sr ∧ Stp SL w wr ∧ LRel (cat (eNum l.length) (cats ((l.take k).map eColumn))) (4 + wSum wColumn (l.take k)) s0 sr) (fun i _ => l.length - (intOf i).toNat)
    case atStart => exact ⟨0, Nat.zero_le _, rfl, _, _, S1.out, T1.out, L1s.out⟩
    case round =>
      obtain ⟨k, hk, rfl, vr, sr, hS, hT, hL⟩ := hrel
      have SR := Lib.hid hS
      have TR := Lib.hid hT
      have LR := Lib.hid hL
      clear hS hT hL S1 T1 L1s
      by_cases hlt : k < l.length
      · skip
        have hroom := LRel.list_room hlt n41 hr1 LR.out
        obtain ⟨ad, e0, g0, g1, g2⟩ := atColumn h0 k hlt
        cases e0
        have hroom' : sr.1.length + (wText l[k].1 + (4 + (1))) < 140737488355328 := hroom
        clear hroom
        have Z0 := Lib.hid SR.out
        have Y0 := Lib.hid TR.out
        have g0' := pw_cell_below Z0.out.below g0
        go_wp2_with fail
        clear g0'
        refine (lay_text (l[k].1) Z0.out (by omega)).mono ?_
        rintro e w' ⟨rfl, u1, z1, Z1', Y1', X1'⟩
        have y1 : z1.1.length ≤ sr.1.length + (wText l[k].1) := by have := X1'.len; omega
        have Z1 := Lib.hid Z1'
        have Y1 := Lib.hid (Y0.out.trans Y1')
        have X1 := Lib.hid X1'
        clear Z1' Y1' X1' Z0 Y0
        have g1' := pw_cell_below Z1.out.below g1
        go_wp2_with fail
        clear g1'
        refine (lay_number (l[k].2.1) Z1.out (by have := y1; omega)).mono ?_
        rintro e w' ⟨rfl, u2, z2, Z2', Y2', X2'⟩
        have y2 : z2.1.length ≤ sr.1.length + (wText l[k].1 + (4)) := by have := X2'.len; have := y1; omega
        have Z2 := Lib.hid Z2'
        have Y2 := Lib.hid (Y1.out.trans Y2')
        have X2 := Lib.hid X2'
        clear Z2' Y2' X2' Z1 Y1
        have g2' := pw_cell_below Z2.out.below g2
        go_wp2_with fail
        clear g2'
        refine (lay_flag (l[k].2.2) Z2.out (by have := y2; omega)).mono ?_
        rintro e w' ⟨rfl, u3, z3, Z3', Y3', X3'⟩
        have y3 : z3.1.length ≤ sr.1.length + (wText l[k].1 + (4 + (1))) := by have := X3'.len; have := y2; omega
        have Z3 := Lib.hid Z3'
        have Y3 := Lib.hid (Y2.out.trans Y3')
        have X3 := Lib.hid X3'
        clear Z3' Y3' X3' Z2 Y2
        have LL := Lib.hid (LRel.list_step (e := eColumn) (w := wColumn) hlt LR.out (show LRel (eColumn l[k]) (wColumn l[k]) sr z3 from LRel.seq X1.out (LRel.seq X2.out (X3.out))))
        have S1 := Lib.hid Z3.out
        have T1 := Lib.hid Y3.out
        clear Z3 Y3 SR TR LR X1 y1 X2 y2 X3 y3
        go_wp2
        go_roundw
        case rel => exact ⟨k + 1, by omega, by simp, _, _, S1.out, T1.out, LL.out⟩
        case measure => simp [intOf]; omega
      · have hke : k = l.length := by omega
        have L1 := Lib.hid (LRel.list_yes hke n41 LR.out)
        clear LR
        go_wp2
        go_end0
        exact ⟨rfl, _, _, SR.out, TR.out, L1.out⟩
end Go.Proofs.YtoomcdgnnibjlaaGreat.Wr
/- The program's writer. -/
namespace Go.Proofs.YtoomcdgnnibjlaaGreat.Wr
open Go.RowKit Go.Proofs.YtoomcdgnnibjlaaGreatW.PrintWords Go.Proofs.YtoomcdgnnibjlaaGreatW.PrintLast
set_option linter.unusedVariables false
set_option linter.unusedSimpArgs false

set_option maxRecDepth 100000 in
set_option maxHeartbeats 16000000 in
theorem wr_many_text (A : Option Addr) (c : Nat) {l : List ByteArray} {w0 w : World} {g : Nat} {v : Value} {z0 : Bs} (h0 : Kd.string.C w0 A l.length l) (hS : WAt w0 w g v z0) (hr : z0.length + wList wText l < 140737488355328) :
    Calls Tryz.prog 100 #[.pointer (some ⟨g, 0, none⟩), .slice A l.length c, .func (.func 72) #[] #[]] w (WDone w0 g w (eList eText l) z0) := by
  have hx1 : l.length ≤ 9223372036854775807 := h0.2.1
  have S0 := Lib.hid hS
  clear hS
  by_cases h4 : 4096 < l.length
  · have HE := Lib.hid (show eList eText l = .error 2 from if_pos h4)
    have h4' : (4096 : Int) < (l.length : Int) := by omega
    clear h4 hr
    go_enter Tryz.func100, Tryz.ntmps100
    go_wp2
    exact ⟨rfl, .inr ⟨2, HE.out, rfl, S0.out.below, Stp.refl _ _⟩⟩
  · have hlen : eList eText l = cat (eNum l.length) (cats (l.map eText)) := if_neg h4
    have hnum : eNum (l.length : Int) = .ok (lows (l.length : Int) 4) := if_pos ⟨by omega, by omega⟩
    have hwl : wList wText l = 4 + wSum wText l := if_neg h4
    rw [hwl] at hr
    rw [hnum] at hlen
    clear hwl
    have HL := Lib.hid hlen
    have HN := Lib.hid hnum
    clear hlen hnum
    have h4' : (l.length : Int) ≤ 4096 := by omega
    go_enter Tryz.func100, Tryz.ntmps100
    go_wp2_with fail
    refine (wr_number (l.length : Int) S0.out (by omega)).mono ?_
    rintro e w1 (⟨b1, hb1, rfl, v1, S1', T1'⟩ | ⟨c1, hc1, _⟩)
    rotate_left
    · exact absurd (HN.out.symm.trans hc1) (by simp)
    rw [HN.out] at hb1
    cases hb1
    have S1 := Lib.hid S1'
    have T1 := Lib.hid T1'
    clear S1' T1' S0
    go_wp2_with fail
    go_loopw [19] (fun i wr => ∃ k : Nat, k ≤ l.length ∧ i = .int .i64 k ∧ ∃ vr b, cats ((l.take k).map eText) = .ok b ∧ WAt w0 wr g vr (z0 ++ lows (l.length : Int) 4 ++ b) ∧ Stp SW w wr) (fun i _ => l.length - (intOf i).toNat)
    case atStart => exact ⟨0, Nat.zero_le _, rfl, v1, [], rfl, by rw [List.append_nil]; exact S1.out, T1.out⟩
    case round =>
      obtain ⟨k, hk, rfl, vr, b, hb, hS, hT⟩ := hrel
      have SR := Lib.hid hS
      have TR := Lib.hid hT
      have HBK := Lib.hid hb
      clear hS hT hb S1 T1
      by_cases hlt : k < l.length
      · have hroom : (z0 ++ lows (l.length : Int) 4 ++ b).length + wText l[k] < 140737488355328 := by
          have h1 := cats_len cod_text.len _ _ HBK.out
          have h2 := wSum_take wText l k hlt
          have h3 := wSum_le wText l (k + 1)
          rw [List.length_append, List.length_append, lows_length]
          omega
        obtain ⟨ad, e0, g0⟩ := at_text h0 k hlt
        cases e0
        have g0' := pw_cell_below SR.out.below g0
        clear g0
        go_wp2_with fail
        clear g0'
        refine (wr_text l[k] SR.out hroom).mono ?_
        rintro e w2 (⟨b2, hb2, rfl, v2, S2', T2'⟩ | ⟨c2, hc2, rfl, hbe, T2'⟩)
        rotate_left
        · exact ⟨rfl, .inr ⟨c2, by rw [HL.out, cats_fault _ l k hlt HBK.out hc2]; rfl, rfl, hbe, TR.out.trans T2'⟩⟩
        have hb3 : cats ((l.take (k + 1)).map eText) = .ok (b ++ b2) := by rw [cats_take _ l k hlt, HBK.out, hb2]; rfl
        rw [List.append_assoc] at S2'
        have S2 := Lib.hid S2'
        have T2 := Lib.hid (TR.out.trans T2')
        have HB3 := Lib.hid hb3
        clear S2' T2' hb3 hb2 SR TR HBK hroom
        go_wp2
        go_roundw
        case rel => exact ⟨k + 1, by omega, by simp, _, _, HB3.out, S2.out, T2.out⟩
        case measure => simp [intOf]; omega
      · have hke : k = l.length := by omega
        have HF := Lib.hid hke
        clear hke
        go_wp2
        go_end0
        have hb := HBK.out
        rw [HF.out, List.take_length] at hb
        have hs := SR.out
        rw [List.append_assoc] at hs
        exact .inl ⟨_, by rw [HL.out, hb]; rfl, rfl, _, hs, TR.out⟩
set_option maxRecDepth 100000 in
set_option maxHeartbeats 16000000 in
theorem wr_many_num (A : Option Addr) (c : Nat) {l : List Int} {w0 w : World} {g : Nat} {v : Value} {z0 : Bs} (h0 : (Kd.int .i64).C w0 A l.length l) (hS : WAt w0 w g v z0) (hr : z0.length + wList (fun _ => 4) l < 140737488355328) :
    Calls Tryz.prog 91 #[.pointer (some ⟨g, 0, none⟩), .slice A l.length c, .func (.func 66) #[] #[]] w (WDone w0 g w (eList eNum l) z0) := by
  have hx1 : l.length ≤ 9223372036854775807 := h0.2.1
  have S0 := Lib.hid hS
  clear hS
  by_cases h4 : 4096 < l.length
  · have HE := Lib.hid (show eList eNum l = .error 2 from if_pos h4)
    have h4' : (4096 : Int) < (l.length : Int) := by omega
    clear h4 hr
    go_enter Tryz.func91, Tryz.ntmps91
    go_wp2
    exact ⟨rfl, .inr ⟨2, HE.out, rfl, S0.out.below, Stp.refl _ _⟩⟩
  · have hlen : eList eNum l = cat (eNum l.length) (cats (l.map eNum)) := if_neg h4
    have hnum : eNum (l.length : Int) = .ok (lows (l.length : Int) 4) := if_pos ⟨by omega, by omega⟩
    have hwl : wList (fun _ => 4) l = 4 + wSum (fun _ => 4) l := if_neg h4
    rw [hwl] at hr
    rw [hnum] at hlen
    clear hwl
    have HL := Lib.hid hlen
    have HN := Lib.hid hnum
    clear hlen hnum
    have h4' : (l.length : Int) ≤ 4096 := by omega
    go_enter Tryz.func91, Tryz.ntmps91
    go_wp2_with fail
    refine (wr_number (l.length : Int) S0.out (by omega)).mono ?_
    rintro e w1 (⟨b1, hb1, rfl, v1, S1', T1'⟩ | ⟨c1, hc1, _⟩)
    rotate_left
    · exact absurd (HN.out.symm.trans hc1) (by simp)
    rw [HN.out] at hb1
    cases hb1
    have S1 := Lib.hid S1'
    have T1 := Lib.hid T1'
    clear S1' T1' S0
    go_wp2_with fail
    go_loopw [19] (fun i wr => ∃ k : Nat, k ≤ l.length ∧ i = .int .i64 k ∧ ∃ vr b, cats ((l.take k).map eNum) = .ok b ∧ WAt w0 wr g vr (z0 ++ lows (l.length : Int) 4 ++ b) ∧ Stp SW w wr) (fun i _ => l.length - (intOf i).toNat)
    case atStart => exact ⟨0, Nat.zero_le _, rfl, v1, [], rfl, by rw [List.append_nil]; exact S1.out, T1.out⟩
    case round =>
      obtain ⟨k, hk, rfl, vr, b, hb, hS, hT⟩ := hrel
      have SR := Lib.hid hS
      have TR := Lib.hid hT
      have HBK := Lib.hid hb
      clear hS hT hb S1 T1
      by_cases hlt : k < l.length
      · have hroom : (z0 ++ lows (l.length : Int) 4 ++ b).length + 4 < 140737488355328 := by
          have h1 := cats_len cod_num.len _ _ HBK.out
          have h2 := wSum_take (fun _ => 4) l k hlt
          have h3 := wSum_le (fun _ => 4) l (k + 1)
          rw [List.length_append, List.length_append, lows_length]
          omega
        obtain ⟨ad, e0, g0⟩ := at_num h0 k hlt
        cases e0
        have g0' := pw_cell_below SR.out.below g0
        clear g0
        go_wp2_with fail
        clear g0'
        refine (wr_number l[k] SR.out hroom).mono ?_
        rintro e w2 (⟨b2, hb2, rfl, v2, S2', T2'⟩ | ⟨c2, hc2, rfl, hbe, T2'⟩)
        rotate_left
        · exact ⟨rfl, .inr ⟨c2, by rw [HL.out, cats_fault _ l k hlt HBK.out hc2]; rfl, rfl, hbe, TR.out.trans T2'⟩⟩
        have hb3 : cats ((l.take (k + 1)).map eNum) = .ok (b ++ b2) := by rw [cats_take _ l k hlt, HBK.out, hb2]; rfl
        rw [List.append_assoc] at S2'
        have S2 := Lib.hid S2'
        have T2 := Lib.hid (TR.out.trans T2')
        have HB3 := Lib.hid hb3
        clear S2' T2' hb3 hb2 SR TR HBK hroom
        go_wp2
        go_roundw
        case rel => exact ⟨k + 1, by omega, by simp, _, _, HB3.out, S2.out, T2.out⟩
        case measure => simp [intOf]; omega
      · have hke : k = l.length := by omega
        have HF := Lib.hid hke
        clear hke
        go_wp2
        go_end0
        have hb := HBK.out
        rw [HF.out, List.take_length] at hb
        have hs := SR.out
        rw [List.append_assoc] at hs
        exact .inl ⟨_, by rw [HL.out, hb]; rfl, rfl, _, hs, TR.out⟩
set_option maxRecDepth 100000 in
set_option maxHeartbeats 16000000 in
theorem wr_column (x : TColumn)  {w0 w : World} {g : Nat} {v : Value} {z0 : Bs}  (hS : WAt w0 w g v z0) (hm : z0.length + wColumn x < 140737488355328) :
    Calls Tryz.prog 88 #[.pointer (some ⟨g, 0, none⟩), .agg #[.string x.1, .int .i64 x.2.1, .bool x.2.2]] w (WDone w0 g w (eColumn x) z0) := by
  have hm' : z0.length + (wText x.1 + (4 + (1))) < 140737488355328 := hm
  clear hm
  have hb0 : Below w.heap.size w (w.alloc (.cells #[.string x.1, .int .i64 x.2.1, .bool x.2.2] 167)) := (Below.refl _ _).alloc (Nat.le_refl _) _
  have hx0 := blk_new w (.cells #[.string x.1, .int .i64 x.2.1, .bool x.2.2] 167)
  obtain ⟨W0, hW0⟩ : ∃ W0, w.alloc (.cells #[.string x.1, .int .i64 x.2.1, .bool x.2.2] 167) = W0 := ⟨_, rfl⟩
  rw [hW0] at hb0 hx0
  have S0 := Lib.hid (hS.stays hb0)
  have HB := Lib.hid hx0
  have T0 := Lib.hid (Stp.refl SW W0)
  have TW := Lib.hid (Stp.below (S := SW) hb0)
  have HW := Lib.hid hW0
  clear hb0 hx0 hW0 hS
  go_enter Tryz.func88, Tryz.ntmps88
  have q0 := cell_blk (T0.out.keep HB.out (by decide)) 0 _ rfl
  go_wp2_with fail
  rw [HW.out]
  clear HW
  clear q0
  refine (wr_text (x.1)   S0.out (by omega)).mono ?_
  rintro e w1 (⟨b1, hb1, rfl, v1, S1', T1'⟩ | ⟨c, hc, rfl, hbe, T1'⟩)
  rotate_left
  · exact ⟨rfl, .inr ⟨c, by simp only [eColumn, hc, cat_err, cat_ok_err, cat_ok_ok], rfl, hbe, TW.out.trans (T0.out.trans T1')⟩⟩
  have hn1 : b1.length = wText x.1 := cod_text.len _ _ hb1
  obtain ⟨z1, hz1⟩ : ∃ z, z0 ++ b1 = z := ⟨_, rfl⟩
  rw [hz1] at S1'
  have hl1 : z1.length ≤ z0.length + (wText x.1) := by rw [← hz1, List.length_append]; omega
  have S1 := Lib.hid S1'
  have T1 := Lib.hid (T0.out.trans T1')
  have HE1 := Lib.hid hb1
  have HZ1 := Lib.hid hz1
  clear S1' T1' hb1 hz1 hn1 S0 T0
  have q1 := cell_blk (T1.out.keep HB.out (by decide)) 1 _ rfl
  go_wp2_with fail
  clear q1
  refine (wr_number (x.2.1)   S1.out (by have := hl1; omega)).mono ?_
  rintro e w2 (⟨b2, hb2, rfl, v2, S2', T2'⟩ | ⟨c, hc, rfl, hbe, T2'⟩)
  rotate_left
  · exact ⟨rfl, .inr ⟨c, by simp only [eColumn, HE1.out, hc, cat_err, cat_ok_err, cat_ok_ok], rfl, hbe, TW.out.trans (T1.out.trans T2')⟩⟩
  have hn2 : b2.length = 4 := cod_num.len _ _ hb2
  obtain ⟨z2, hz2⟩ : ∃ z, z1 ++ b2 = z := ⟨_, rfl⟩
  rw [hz2] at S2'
  have hl2 : z2.length ≤ z0.length + (wText x.1 + (4)) := by rw [← hz2, List.length_append]; have := hl1; omega
  have S2 := Lib.hid S2'
  have T2 := Lib.hid (T1.out.trans T2')
  have HE2 := Lib.hid hb2
  have HZ2 := Lib.hid hz2
  clear S2' T2' hb2 hz2 hn2 S1 T1 hl1
  have q2 := cell_blk (T2.out.keep HB.out (by decide)) 2 _ rfl
  go_wp2_with fail
  clear q2
  refine (wr_flag (x.2.2)   S2.out (by have := hl2; omega)).mono ?_
  rintro e w3 (⟨b3, hb3, rfl, v3, S3', T3'⟩ | ⟨c, hc, rfl, hbe, T3'⟩)
  rotate_left
  · exact ⟨rfl, .inr ⟨c, by simp only [eColumn, HE1.out, HE2.out, hc, cat_err, cat_ok_err, cat_ok_ok], rfl, hbe, TW.out.trans (T2.out.trans T3')⟩⟩
  have hn3 : b3.length = 1 := cod_flag.len _ _ hb3
  obtain ⟨z3, hz3⟩ : ∃ z, z2 ++ b3 = z := ⟨_, rfl⟩
  rw [hz3] at S3'
  have hl3 : z3.length ≤ z0.length + (wText x.1 + (4 + (1))) := by rw [← hz3, List.length_append]; have := hl2; omega
  have S3 := Lib.hid S3'
  have T3 := Lib.hid (T2.out.trans T3')
  have HE3 := Lib.hid hb3
  have HZ3 := Lib.hid hz3
  clear S3' T3' hb3 hz3 hn3 S2 T2 hl2
  go_wp2
  go_end0
  have SF := S3.out
  rw [← HZ3.out, ← HZ2.out, ← HZ1.out] at SF
  refine .inl ⟨_, by simp only [eColumn, HE1.out, HE2.out, HE3.out, cat_ok_ok]; rfl, rfl, v3, ?_, TW.out.trans T3.out⟩
  simpa only [List.append_assoc] using SF
set_option maxRecDepth 100000 in
set_option maxHeartbeats 16000000 in
theorem wr_many_Column (A : Option Addr) (c : Nat) {l : List TColumn} {w0 w : World} {g : Nat} {v : Value} {z0 : Bs} (h0 : kColumn.C w0 A l.length l) (hS : WAt w0 w g v z0) (hr : z0.length + wList wColumn l < 140737488355328) :
    Calls Tryz.prog 87 #[.pointer (some ⟨g, 0, none⟩), .slice A l.length c, .func (.func 88) #[] #[]] w (WDone w0 g w (eList eColumn l) z0) := by
  have hx1 : l.length ≤ 9223372036854775807 := h0.2.1
  have S0 := Lib.hid hS
  clear hS
  by_cases h4 : 4096 < l.length
  · have HE := Lib.hid (show eList eColumn l = .error 2 from if_pos h4)
    have h4' : (4096 : Int) < (l.length : Int) := by omega
    clear h4 hr
    go_enter Tryz.func87, Tryz.ntmps87
    go_wp2
    exact ⟨rfl, .inr ⟨2, HE.out, rfl, S0.out.below, Stp.refl _ _⟩⟩
  · have hlen : eList eColumn l = cat (eNum l.length) (cats (l.map eColumn)) := if_neg h4
    have hnum : eNum (l.length : Int) = .ok (lows (l.length : Int) 4) := if_pos ⟨by omega, by omega⟩
    have hwl : wList wColumn l = 4 + wSum wColumn l := if_neg h4
    rw [hwl] at hr
    rw [hnum] at hlen
    clear hwl
    have HL := Lib.hid hlen
    have HN := Lib.hid hnum
    clear hlen hnum
    have h4' : (l.length : Int) ≤ 4096 := by omega
    go_enter Tryz.func87, Tryz.ntmps87
    go_wp2_with fail
    refine (wr_number (l.length : Int) S0.out (by omega)).mono ?_
    rintro e w1 (⟨b1, hb1, rfl, v1, S1', T1'⟩ | ⟨c1, hc1, _⟩)
    rotate_left
    · exact absurd (HN.out.symm.trans hc1) (by simp)
    rw [HN.out] at hb1
    cases hb1
    have S1 := Lib.hid S1'
    have T1 := Lib.hid T1'
    clear S1' T1' S0
    go_wp2_with fail
    go_loopw [19] (fun i wr => ∃ k : Nat, k ≤ l.length ∧ i = .int .i64 k ∧ ∃ vr b, cats ((l.take k).map eColumn) = .ok b ∧ WAt w0 wr g vr (z0 ++ lows (l.length : Int) 4 ++ b) ∧ Stp SW w wr) (fun i _ => l.length - (intOf i).toNat)
    case atStart => exact ⟨0, Nat.zero_le _, rfl, v1, [], rfl, by rw [List.append_nil]; exact S1.out, T1.out⟩
    case round =>
      obtain ⟨k, hk, rfl, vr, b, hb, hS, hT⟩ := hrel
      have SR := Lib.hid hS
      have TR := Lib.hid hT
      have HBK := Lib.hid hb
      clear hS hT hb S1 T1
      by_cases hlt : k < l.length
      · have hroom : (z0 ++ lows (l.length : Int) 4 ++ b).length + wColumn l[k] < 140737488355328 := by
          have h1 := cats_len codColumn.len _ _ HBK.out
          have h2 := wSum_take wColumn l k hlt
          have h3 := wSum_le wColumn l (k + 1)
          rw [List.length_append, List.length_append, lows_length]
          omega
        obtain ⟨ad, e0, g0, g1, g2⟩ := atColumn h0 k hlt
        cases e0
        have g0' := pw_cell_below SR.out.below g0
        clear g0
        have g1' := pw_cell_below SR.out.below g1
        clear g1
        have g2' := pw_cell_below SR.out.below g2
        clear g2
        obtain ⟨W1, hW1, Z0', TB'⟩ := wr_box SR.out TR.out #[.string l[k].1, .int .i64 l[k].2.1, .bool l[k].2.2] 167
        clear SR TR
        have SR := Lib.hid Z0'
        have TR := Lib.hid TB'
        have HW1 := Lib.hid hW1
        clear Z0' TB' hW1
        go_wp2_with fail
        clear g0' g1' g2'
        rw [HW1.out]
        clear HW1
        refine (wr_column l[k]   SR.out hroom).mono ?_
        rintro e w2 (⟨b2, hb2, rfl, v2, S2', T2'⟩ | ⟨c2, hc2, rfl, hbe, T2'⟩)
        rotate_left
        · exact ⟨rfl, .inr ⟨c2, by rw [HL.out, cats_fault _ l k hlt HBK.out hc2]; rfl, rfl, hbe, TR.out.trans T2'⟩⟩
        have hb3 : cats ((l.take (k + 1)).map eColumn) = .ok (b ++ b2) := by rw [cats_take _ l k hlt, HBK.out, hb2]; rfl
        rw [List.append_assoc] at S2'
        have S2 := Lib.hid S2'
        have T2 := Lib.hid (TR.out.trans T2')
        have HB3 := Lib.hid hb3
        clear S2' T2' hb3 hb2 SR TR HBK hroom
        go_wp2
        go_roundw
        case rel => exact ⟨k + 1, by omega, by simp, _, _, HB3.out, S2.out, T2.out⟩
        case measure => simp [intOf]; omega
      · have hke : k = l.length := by omega
        have HF := Lib.hid hke
        clear hke
        go_wp2
        go_end0
        have hb := HBK.out
        rw [HF.out, List.take_length] at hb
        have hs := SR.out
        rw [List.append_assoc] at hs
        exact .inl ⟨_, by rw [HL.out, hb]; rfl, rfl, _, hs, TR.out⟩
set_option maxRecDepth 100000 in
set_option maxHeartbeats 16000000 in
theorem wr_config (x : TConfig) (A0 : Option Addr) (c0 : Nat) (A1 : Option Addr) (c1 : Nat) {w0 w : World} {g : Nat} {v : Value} {z0 : Bs} (h0 : (Kd.int .i64).C w0 A0 x.1.length x.1) (h1 : (Kd.int .i64).C w0 A1 x.2.length x.2) (hS : WAt w0 w g v z0) (hm : z0.length + wConfig x < 140737488355328) :
    Calls Tryz.prog 71 #[.pointer (some ⟨g, 0, none⟩), .agg #[.slice A0 x.1.length c0, .slice A1 x.2.length c1]] w (WDone w0 g w (eConfig x) z0) := by
  have hm' : z0.length + ((wList (fun _ => 4)) x.1 + ((wList (fun _ => 4)) x.2)) < 140737488355328 := hm
  clear hm
  have hb0 : Below w.heap.size w (w.alloc (.cells #[.slice A0 x.1.length c0, .slice A1 x.2.length c1] 78)) := (Below.refl _ _).alloc (Nat.le_refl _) _
  have hx0 := blk_new w (.cells #[.slice A0 x.1.length c0, .slice A1 x.2.length c1] 78)
  obtain ⟨W0, hW0⟩ : ∃ W0, w.alloc (.cells #[.slice A0 x.1.length c0, .slice A1 x.2.length c1] 78) = W0 := ⟨_, rfl⟩
  rw [hW0] at hb0 hx0
  have S0 := Lib.hid (hS.stays hb0)
  have HB := Lib.hid hx0
  have T0 := Lib.hid (Stp.refl SW W0)
  have TW := Lib.hid (Stp.below (S := SW) hb0)
  have HW := Lib.hid hW0
  clear hb0 hx0 hW0 hS
  go_enter Tryz.func71, Tryz.ntmps71
  have q0 := cell_blk (T0.out.keep HB.out (by decide)) 0 _ rfl
  go_wp2_with fail
  rw [HW.out]
  clear HW
  clear q0
  refine (wr_many_num A0 c0 (l := x.1) h0 S0.out (by omega)).mono ?_
  rintro e w1 (⟨b1, hb1, rfl, v1, S1', T1'⟩ | ⟨c, hc, rfl, hbe, T1'⟩)
  rotate_left
  · exact ⟨rfl, .inr ⟨c, by simp only [eConfig, hc, cat_err, cat_ok_err, cat_ok_ok], rfl, hbe, TW.out.trans (T0.out.trans T1')⟩⟩
  have hn1 : b1.length = (wList (fun _ => 4)) x.1 := (cod_list cod_num).len _ _ hb1
  obtain ⟨z1, hz1⟩ : ∃ z, z0 ++ b1 = z := ⟨_, rfl⟩
  rw [hz1] at S1'
  have hl1 : z1.length ≤ z0.length + ((wList (fun _ => 4)) x.1) := by rw [← hz1, List.length_append]; omega
  have S1 := Lib.hid S1'
  have T1 := Lib.hid (T0.out.trans T1')
  have HE1 := Lib.hid hb1
  have HZ1 := Lib.hid hz1
  clear S1' T1' hb1 hz1 hn1 S0 T0
  have q1 := cell_blk (T1.out.keep HB.out (by decide)) 1 _ rfl
  go_wp2_with fail
  clear q1
  refine (wr_many_num A1 c1 (l := x.2) h1 S1.out (by have := hl1; omega)).mono ?_
  rintro e w2 (⟨b2, hb2, rfl, v2, S2', T2'⟩ | ⟨c, hc, rfl, hbe, T2'⟩)
  rotate_left
  · exact ⟨rfl, .inr ⟨c, by simp only [eConfig, HE1.out, hc, cat_err, cat_ok_err, cat_ok_ok], rfl, hbe, TW.out.trans (T1.out.trans T2')⟩⟩
  have hn2 : b2.length = (wList (fun _ => 4)) x.2 := (cod_list cod_num).len _ _ hb2
  obtain ⟨z2, hz2⟩ : ∃ z, z1 ++ b2 = z := ⟨_, rfl⟩
  rw [hz2] at S2'
  have hl2 : z2.length ≤ z0.length + ((wList (fun _ => 4)) x.1 + ((wList (fun _ => 4)) x.2)) := by rw [← hz2, List.length_append]; have := hl1; omega
  have S2 := Lib.hid S2'
  have T2 := Lib.hid (T1.out.trans T2')
  have HE2 := Lib.hid hb2
  have HZ2 := Lib.hid hz2
  clear S2' T2' hb2 hz2 hn2 S1 T1 hl1
  go_wp2
  go_end0
  have SF := S2.out
  rw [← HZ2.out, ← HZ1.out] at SF
  refine .inl ⟨_, by simp only [eConfig, HE1.out, HE2.out, cat_ok_ok]; rfl, rfl, v2, ?_, TW.out.trans T2.out⟩
  simpa only [List.append_assoc] using SF
end Go.Proofs.YtoomcdgnnibjlaaGreat.Wr
/- The program's writer. -/
namespace Go.Proofs.YtoomcdgnnibjlaaGreat.Wr
open Go.RowKit Go.Proofs.YtoomcdgnnibjlaaGreatW.PrintWords Go.Proofs.YtoomcdgnnibjlaaGreatW.PrintLast
set_option linter.unusedVariables false
set_option linter.unusedSimpArgs false

set_option maxRecDepth 100000 in
set_option maxHeartbeats 16000000 in
theorem wr_rule (x : TRule) (A2 : Option Addr) (c2 : Nat) {w0 w : World} {g : Nat} {v : Value} {z0 : Bs} (h2 : Kd.string.C w0 A2 x.2.2.1.length x.2.2.1) (hS : WAt w0 w g v z0) (hm : z0.length + wRule x < 140737488355328) :
    Calls Tryz.prog 89 #[.pointer (some ⟨g, 0, none⟩), .agg #[.string x.1, .int .i64 x.2.1, .slice A2 x.2.2.1.length c2, .int .i64 x.2.2.2.1, .int .i64 x.2.2.2.2.1, .string x.2.2.2.2.2.1, .string x.2.2.2.2.2.2.1, .string x.2.2.2.2.2.2.2]] w (WDone w0 g w (eRule x) z0) := by
  have hm' : z0.length + (wText x.1 + (4 + ((wList wText) x.2.2.1 + (8 + (8 + (wText x.2.2.2.2.2.1 + (wText x.2.2.2.2.2.2.1 + (wText x.2.2.2.2.2.2.2)))))))) < 140737488355328 := hm
  clear hm
  have hb0 : Below w.heap.size w (w.alloc (.cells #[.string x.1, .int .i64 x.2.1, .slice A2 x.2.2.1.length c2, .int .i64 x.2.2.2.1, .int .i64 x.2.2.2.2.1, .string x.2.2.2.2.2.1, .string x.2.2.2.2.2.2.1, .string x.2.2.2.2.2.2.2] 64)) := (Below.refl _ _).alloc (Nat.le_refl _) _
  have hx0 := blk_new w (.cells #[.string x.1, .int .i64 x.2.1, .slice A2 x.2.2.1.length c2, .int .i64 x.2.2.2.1, .int .i64 x.2.2.2.2.1, .string x.2.2.2.2.2.1, .string x.2.2.2.2.2.2.1, .string x.2.2.2.2.2.2.2] 64)
  obtain ⟨W0, hW0⟩ : ∃ W0, w.alloc (.cells #[.string x.1, .int .i64 x.2.1, .slice A2 x.2.2.1.length c2, .int .i64 x.2.2.2.1, .int .i64 x.2.2.2.2.1, .string x.2.2.2.2.2.1, .string x.2.2.2.2.2.2.1, .string x.2.2.2.2.2.2.2] 64) = W0 := ⟨_, rfl⟩
  rw [hW0] at hb0 hx0
  have S0 := Lib.hid (hS.stays hb0)
  have HB := Lib.hid hx0
  have T0 := Lib.hid (Stp.refl SW W0)
  have TW := Lib.hid (Stp.below (S := SW) hb0)
  have HW := Lib.hid hW0
  clear hb0 hx0 hW0 hS
  go_enter Tryz.func89, Tryz.ntmps89
  have q0 := cell_blk (T0.out.keep HB.out (by decide)) 0 _ rfl
  go_wp2_with fail
  rw [HW.out]
  clear HW
  clear q0
  refine (wr_text (x.1)   S0.out (by omega)).mono ?_
  rintro e w1 (⟨b1, hb1, rfl, v1, S1', T1'⟩ | ⟨c, hc, rfl, hbe, T1'⟩)
  rotate_left
  · exact ⟨rfl, .inr ⟨c, by simp only [eRule, hc, cat_err, cat_ok_err, cat_ok_ok], rfl, hbe, TW.out.trans (T0.out.trans T1')⟩⟩
  have hn1 : b1.length = wText x.1 := cod_text.len _ _ hb1
  obtain ⟨z1, hz1⟩ : ∃ z, z0 ++ b1 = z := ⟨_, rfl⟩
  rw [hz1] at S1'
  have hl1 : z1.length ≤ z0.length + (wText x.1) := by rw [← hz1, List.length_append]; omega
  have S1 := Lib.hid S1'
  have T1 := Lib.hid (T0.out.trans T1')
  have HE1 := Lib.hid hb1
  have HZ1 := Lib.hid hz1
  clear S1' T1' hb1 hz1 hn1 S0 T0
  have q1 := cell_blk (T1.out.keep HB.out (by decide)) 1 _ rfl
  go_wp2_with fail
  clear q1
  refine (wr_number (x.2.1)   S1.out (by have := hl1; omega)).mono ?_
  rintro e w2 (⟨b2, hb2, rfl, v2, S2', T2'⟩ | ⟨c, hc, rfl, hbe, T2'⟩)
  rotate_left
  · exact ⟨rfl, .inr ⟨c, by simp only [eRule, HE1.out, hc, cat_err, cat_ok_err, cat_ok_ok], rfl, hbe, TW.out.trans (T1.out.trans T2')⟩⟩
  have hn2 : b2.length = 4 := cod_num.len _ _ hb2
  obtain ⟨z2, hz2⟩ : ∃ z, z1 ++ b2 = z := ⟨_, rfl⟩
  rw [hz2] at S2'
  have hl2 : z2.length ≤ z0.length + (wText x.1 + (4)) := by rw [← hz2, List.length_append]; have := hl1; omega
  have S2 := Lib.hid S2'
  have T2 := Lib.hid (T1.out.trans T2')
  have HE2 := Lib.hid hb2
  have HZ2 := Lib.hid hz2
  clear S2' T2' hb2 hz2 hn2 S1 T1 hl1
  have q2 := cell_blk (T2.out.keep HB.out (by decide)) 2 _ rfl
  go_wp2_with fail
  clear q2
  refine (wr_many_text A2 c2 (l := x.2.2.1) h2 S2.out (by have := hl2; omega)).mono ?_
  rintro e w3 (⟨b3, hb3, rfl, v3, S3', T3'⟩ | ⟨c, hc, rfl, hbe, T3'⟩)
  rotate_left
  · exact ⟨rfl, .inr ⟨c, by simp only [eRule, HE1.out, HE2.out, hc, cat_err, cat_ok_err, cat_ok_ok], rfl, hbe, TW.out.trans (T2.out.trans T3')⟩⟩
  have hn3 : b3.length = (wList wText) x.2.2.1 := (cod_list cod_text).len _ _ hb3
  obtain ⟨z3, hz3⟩ : ∃ z, z2 ++ b3 = z := ⟨_, rfl⟩
  rw [hz3] at S3'
  have hl3 : z3.length ≤ z0.length + (wText x.1 + (4 + ((wList wText) x.2.2.1))) := by rw [← hz3, List.length_append]; have := hl2; omega
  have S3 := Lib.hid S3'
  have T3 := Lib.hid (T2.out.trans T3')
  have HE3 := Lib.hid hb3
  have HZ3 := Lib.hid hz3
  clear S3' T3' hb3 hz3 hn3 S2 T2 hl2
  have q3 := cell_blk (T3.out.keep HB.out (by decide)) 3 _ rfl
  go_wp2_with fail
  clear q3
  refine (wr_whole (x.2.2.2.1)   S3.out (by have := hl3; omega)).mono ?_
  rintro e w4 (⟨b4, hb4, rfl, v4, S4', T4'⟩ | ⟨c, hc, rfl, hbe, T4'⟩)
  rotate_left
  · exact ⟨rfl, .inr ⟨c, by simp only [eRule, HE1.out, HE2.out, HE3.out, hc, cat_err, cat_ok_err, cat_ok_ok], rfl, hbe, TW.out.trans (T3.out.trans T4')⟩⟩
  have hn4 : b4.length = 8 := cod_int.len _ _ hb4
  obtain ⟨z4, hz4⟩ : ∃ z, z3 ++ b4 = z := ⟨_, rfl⟩
  rw [hz4] at S4'
  have hl4 : z4.length ≤ z0.length + (wText x.1 + (4 + ((wList wText) x.2.2.1 + (8)))) := by rw [← hz4, List.length_append]; have := hl3; omega
  have S4 := Lib.hid S4'
  have T4 := Lib.hid (T3.out.trans T4')
  have HE4 := Lib.hid hb4
  have HZ4 := Lib.hid hz4
  clear S4' T4' hb4 hz4 hn4 S3 T3 hl3
  have q4 := cell_blk (T4.out.keep HB.out (by decide)) 4 _ rfl
  go_wp2_with fail
  clear q4
  refine (wr_whole (x.2.2.2.2.1)   S4.out (by have := hl4; omega)).mono ?_
  rintro e w5 (⟨b5, hb5, rfl, v5, S5', T5'⟩ | ⟨c, hc, rfl, hbe, T5'⟩)
  rotate_left
  · exact ⟨rfl, .inr ⟨c, by simp only [eRule, HE1.out, HE2.out, HE3.out, HE4.out, hc, cat_err, cat_ok_err, cat_ok_ok], rfl, hbe, TW.out.trans (T4.out.trans T5')⟩⟩
  have hn5 : b5.length = 8 := cod_int.len _ _ hb5
  obtain ⟨z5, hz5⟩ : ∃ z, z4 ++ b5 = z := ⟨_, rfl⟩
  rw [hz5] at S5'
  have hl5 : z5.length ≤ z0.length + (wText x.1 + (4 + ((wList wText) x.2.2.1 + (8 + (8))))) := by rw [← hz5, List.length_append]; have := hl4; omega
  have S5 := Lib.hid S5'
  have T5 := Lib.hid (T4.out.trans T5')
  have HE5 := Lib.hid hb5
  have HZ5 := Lib.hid hz5
  clear S5' T5' hb5 hz5 hn5 S4 T4 hl4
  have q5 := cell_blk (T5.out.keep HB.out (by decide)) 5 _ rfl
  go_wp2_with fail
  clear q5
  refine (wr_text (x.2.2.2.2.2.1)   S5.out (by have := hl5; omega)).mono ?_
  rintro e w6 (⟨b6, hb6, rfl, v6, S6', T6'⟩ | ⟨c, hc, rfl, hbe, T6'⟩)
  rotate_left
  · exact ⟨rfl, .inr ⟨c, by simp only [eRule, HE1.out, HE2.out, HE3.out, HE4.out, HE5.out, hc, cat_err, cat_ok_err, cat_ok_ok], rfl, hbe, TW.out.trans (T5.out.trans T6')⟩⟩
  have hn6 : b6.length = wText x.2.2.2.2.2.1 := cod_text.len _ _ hb6
  obtain ⟨z6, hz6⟩ : ∃ z, z5 ++ b6 = z := ⟨_, rfl⟩
  rw [hz6] at S6'
  have hl6 : z6.length ≤ z0.length + (wText x.1 + (4 + ((wList wText) x.2.2.1 + (8 + (8 + (wText x.2.2.2.2.2.1)))))) := by rw [← hz6, List.length_append]; have := hl5; omega
  have S6 := Lib.hid S6'
  have T6 := Lib.hid (T5.out.trans T6')
  have HE6 := Lib.hid hb6
  have HZ6 := Lib.hid hz6
  clear S6' T6' hb6 hz6 hn6 S5 T5 hl5
  have q6 := cell_blk (T6.out.keep HB.out (by decide)) 6 _ rfl
  go_wp2_with fail
  clear q6
  refine (wr_text (x.2.2.2.2.2.2.1)   S6.out (by have := hl6; omega)).mono ?_
  rintro e w7 (⟨b7, hb7, rfl, v7, S7', T7'⟩ | ⟨c, hc, rfl, hbe, T7'⟩)
  rotate_left
  · exact ⟨rfl, .inr ⟨c, by simp only [eRule, HE1.out, HE2.out, HE3.out, HE4.out, HE5.out, HE6.out, hc, cat_err, cat_ok_err, cat_ok_ok], rfl, hbe, TW.out.trans (T6.out.trans T7')⟩⟩
  have hn7 : b7.length = wText x.2.2.2.2.2.2.1 := cod_text.len _ _ hb7
  obtain ⟨z7, hz7⟩ : ∃ z, z6 ++ b7 = z := ⟨_, rfl⟩
  rw [hz7] at S7'
  have hl7 : z7.length ≤ z0.length + (wText x.1 + (4 + ((wList wText) x.2.2.1 + (8 + (8 + (wText x.2.2.2.2.2.1 + (wText x.2.2.2.2.2.2.1))))))) := by rw [← hz7, List.length_append]; have := hl6; omega
  have S7 := Lib.hid S7'
  have T7 := Lib.hid (T6.out.trans T7')
  have HE7 := Lib.hid hb7
  have HZ7 := Lib.hid hz7
  clear S7' T7' hb7 hz7 hn7 S6 T6 hl6
  have q7 := cell_blk (T7.out.keep HB.out (by decide)) 7 _ rfl
  go_wp2_with fail
  clear q7
  refine (wr_text (x.2.2.2.2.2.2.2)   S7.out (by have := hl7; omega)).mono ?_
  rintro e w8 (⟨b8, hb8, rfl, v8, S8', T8'⟩ | ⟨c, hc, rfl, hbe, T8'⟩)
  rotate_left
  · exact ⟨rfl, .inr ⟨c, by simp only [eRule, HE1.out, HE2.out, HE3.out, HE4.out, HE5.out, HE6.out, HE7.out, hc, cat_err, cat_ok_err, cat_ok_ok], rfl, hbe, TW.out.trans (T7.out.trans T8')⟩⟩
  have hn8 : b8.length = wText x.2.2.2.2.2.2.2 := cod_text.len _ _ hb8
  obtain ⟨z8, hz8⟩ : ∃ z, z7 ++ b8 = z := ⟨_, rfl⟩
  rw [hz8] at S8'
  have hl8 : z8.length ≤ z0.length + (wText x.1 + (4 + ((wList wText) x.2.2.1 + (8 + (8 + (wText x.2.2.2.2.2.1 + (wText x.2.2.2.2.2.2.1 + (wText x.2.2.2.2.2.2.2)))))))) := by rw [← hz8, List.length_append]; have := hl7; omega
  have S8 := Lib.hid S8'
  have T8 := Lib.hid (T7.out.trans T8')
  have HE8 := Lib.hid hb8
  have HZ8 := Lib.hid hz8
  clear S8' T8' hb8 hz8 hn8 S7 T7 hl7
  go_wp2
  go_end0
  have SF := S8.out
  rw [← HZ8.out, ← HZ7.out, ← HZ6.out, ← HZ5.out, ← HZ4.out, ← HZ3.out, ← HZ2.out, ← HZ1.out] at SF
  refine .inl ⟨_, by simp only [eRule, HE1.out, HE2.out, HE3.out, HE4.out, HE5.out, HE6.out, HE7.out, HE8.out, cat_ok_ok]; rfl, rfl, v8, ?_, TW.out.trans T8.out⟩
  simpa only [List.append_assoc] using SF
set_option maxRecDepth 100000 in
set_option maxHeartbeats 16000000 in
theorem wr_command (x : TCommand) (A6 : Option Addr) (c6 : Nat) (A9 : Option Addr) (c9 : Nat) {w0 w : World} {g : Nat} {v : Value} {z0 : Bs} (h6 : kColumn.C w0 A6 x.2.2.2.2.2.2.1.length x.2.2.2.2.2.2.1) (h9 : Kd.string.C w0 A9 x.2.2.2.2.2.2.2.1.2.2.1.length x.2.2.2.2.2.2.2.1.2.2.1) (hS : WAt w0 w g v z0) (hm : z0.length + wCommand x < 140737488355328) :
    Calls Tryz.prog 67 #[.pointer (some ⟨g, 0, none⟩), .agg #[.int .i64 x.1, .string x.2.1, .string x.2.2.1, .string x.2.2.2.1, .string x.2.2.2.2.1, .string x.2.2.2.2.2.1, .slice A6 x.2.2.2.2.2.2.1.length c6, .string x.2.2.2.2.2.2.2.1.1, .int .i64 x.2.2.2.2.2.2.2.1.2.1, .slice A9 x.2.2.2.2.2.2.2.1.2.2.1.length c9, .int .i64 x.2.2.2.2.2.2.2.1.2.2.2.1, .int .i64 x.2.2.2.2.2.2.2.1.2.2.2.2.1, .string x.2.2.2.2.2.2.2.1.2.2.2.2.2.1, .string x.2.2.2.2.2.2.2.1.2.2.2.2.2.2.1, .string x.2.2.2.2.2.2.2.1.2.2.2.2.2.2.2, .int .i64 x.2.2.2.2.2.2.2.2.1, .bool x.2.2.2.2.2.2.2.2.2]] w (WDone w0 g w (eCommand x) z0) := by
  have hm' : z0.length + (4 + (wText x.2.1 + (wText x.2.2.1 + (wText x.2.2.2.1 + (wText x.2.2.2.2.1 + (wText x.2.2.2.2.2.1 + ((wList wColumn) x.2.2.2.2.2.2.1 + (wRule x.2.2.2.2.2.2.2.1 + (4 + (1)))))))))) < 140737488355328 := hm
  clear hm
  have hb0 : Below w.heap.size w (w.alloc (.cells #[.int .i64 x.1, .string x.2.1, .string x.2.2.1, .string x.2.2.2.1, .string x.2.2.2.2.1, .string x.2.2.2.2.2.1, .slice A6 x.2.2.2.2.2.2.1.length c6, .string x.2.2.2.2.2.2.2.1.1, .int .i64 x.2.2.2.2.2.2.2.1.2.1, .slice A9 x.2.2.2.2.2.2.2.1.2.2.1.length c9, .int .i64 x.2.2.2.2.2.2.2.1.2.2.2.1, .int .i64 x.2.2.2.2.2.2.2.1.2.2.2.2.1, .string x.2.2.2.2.2.2.2.1.2.2.2.2.2.1, .string x.2.2.2.2.2.2.2.1.2.2.2.2.2.2.1, .string x.2.2.2.2.2.2.2.1.2.2.2.2.2.2.2, .int .i64 x.2.2.2.2.2.2.2.2.1, .bool x.2.2.2.2.2.2.2.2.2] 67)) := (Below.refl _ _).alloc (Nat.le_refl _) _
  have hx0 := blk_new w (.cells #[.int .i64 x.1, .string x.2.1, .string x.2.2.1, .string x.2.2.2.1, .string x.2.2.2.2.1, .string x.2.2.2.2.2.1, .slice A6 x.2.2.2.2.2.2.1.length c6, .string x.2.2.2.2.2.2.2.1.1, .int .i64 x.2.2.2.2.2.2.2.1.2.1, .slice A9 x.2.2.2.2.2.2.2.1.2.2.1.length c9, .int .i64 x.2.2.2.2.2.2.2.1.2.2.2.1, .int .i64 x.2.2.2.2.2.2.2.1.2.2.2.2.1, .string x.2.2.2.2.2.2.2.1.2.2.2.2.2.1, .string x.2.2.2.2.2.2.2.1.2.2.2.2.2.2.1, .string x.2.2.2.2.2.2.2.1.2.2.2.2.2.2.2, .int .i64 x.2.2.2.2.2.2.2.2.1, .bool x.2.2.2.2.2.2.2.2.2] 67)
  obtain ⟨W0, hW0⟩ : ∃ W0, w.alloc (.cells #[.int .i64 x.1, .string x.2.1, .string x.2.2.1, .string x.2.2.2.1, .string x.2.2.2.2.1, .string x.2.2.2.2.2.1, .slice A6 x.2.2.2.2.2.2.1.length c6, .string x.2.2.2.2.2.2.2.1.1, .int .i64 x.2.2.2.2.2.2.2.1.2.1, .slice A9 x.2.2.2.2.2.2.2.1.2.2.1.length c9, .int .i64 x.2.2.2.2.2.2.2.1.2.2.2.1, .int .i64 x.2.2.2.2.2.2.2.1.2.2.2.2.1, .string x.2.2.2.2.2.2.2.1.2.2.2.2.2.1, .string x.2.2.2.2.2.2.2.1.2.2.2.2.2.2.1, .string x.2.2.2.2.2.2.2.1.2.2.2.2.2.2.2, .int .i64 x.2.2.2.2.2.2.2.2.1, .bool x.2.2.2.2.2.2.2.2.2] 67) = W0 := ⟨_, rfl⟩
  rw [hW0] at hb0 hx0
  have S0 := Lib.hid (hS.stays hb0)
  have HB := Lib.hid hx0
  have T0 := Lib.hid (Stp.refl SW W0)
  have TW := Lib.hid (Stp.below (S := SW) hb0)
  have HW := Lib.hid hW0
  clear hb0 hx0 hW0 hS
  go_enter Tryz.func67, Tryz.ntmps67
  have q0 := cell_blk (T0.out.keep HB.out (by decide)) 0 _ rfl
  go_wp2_with fail
  rw [HW.out]
  clear HW
  clear q0
  refine (wr_number (x.1)   S0.out (by omega)).mono ?_
  rintro e w1 (⟨b1, hb1, rfl, v1, S1', T1'⟩ | ⟨c, hc, rfl, hbe, T1'⟩)
  rotate_left
  · exact ⟨rfl, .inr ⟨c, by simp only [eCommand, hc, cat_err, cat_ok_err, cat_ok_ok], rfl, hbe, TW.out.trans (T0.out.trans T1')⟩⟩
  have hn1 : b1.length = 4 := cod_num.len _ _ hb1
  obtain ⟨z1, hz1⟩ : ∃ z, z0 ++ b1 = z := ⟨_, rfl⟩
  rw [hz1] at S1'
  have hl1 : z1.length ≤ z0.length + (4) := by rw [← hz1, List.length_append]; omega
  have S1 := Lib.hid S1'
  have T1 := Lib.hid (T0.out.trans T1')
  have HE1 := Lib.hid hb1
  have HZ1 := Lib.hid hz1
  clear S1' T1' hb1 hz1 hn1 S0 T0
  have q1 := cell_blk (T1.out.keep HB.out (by decide)) 1 _ rfl
  go_wp2_with fail
  clear q1
  refine (wr_text (x.2.1)   S1.out (by have := hl1; omega)).mono ?_
  rintro e w2 (⟨b2, hb2, rfl, v2, S2', T2'⟩ | ⟨c, hc, rfl, hbe, T2'⟩)
  rotate_left
  · exact ⟨rfl, .inr ⟨c, by simp only [eCommand, HE1.out, hc, cat_err, cat_ok_err, cat_ok_ok], rfl, hbe, TW.out.trans (T1.out.trans T2')⟩⟩
  have hn2 : b2.length = wText x.2.1 := cod_text.len _ _ hb2
  obtain ⟨z2, hz2⟩ : ∃ z, z1 ++ b2 = z := ⟨_, rfl⟩
  rw [hz2] at S2'
  have hl2 : z2.length ≤ z0.length + (4 + (wText x.2.1)) := by rw [← hz2, List.length_append]; have := hl1; omega
  have S2 := Lib.hid S2'
  have T2 := Lib.hid (T1.out.trans T2')
  have HE2 := Lib.hid hb2
  have HZ2 := Lib.hid hz2
  clear S2' T2' hb2 hz2 hn2 S1 T1 hl1
  have q2 := cell_blk (T2.out.keep HB.out (by decide)) 2 _ rfl
  go_wp2_with fail
  clear q2
  refine (wr_text (x.2.2.1)   S2.out (by have := hl2; omega)).mono ?_
  rintro e w3 (⟨b3, hb3, rfl, v3, S3', T3'⟩ | ⟨c, hc, rfl, hbe, T3'⟩)
  rotate_left
  · exact ⟨rfl, .inr ⟨c, by simp only [eCommand, HE1.out, HE2.out, hc, cat_err, cat_ok_err, cat_ok_ok], rfl, hbe, TW.out.trans (T2.out.trans T3')⟩⟩
  have hn3 : b3.length = wText x.2.2.1 := cod_text.len _ _ hb3
  obtain ⟨z3, hz3⟩ : ∃ z, z2 ++ b3 = z := ⟨_, rfl⟩
  rw [hz3] at S3'
  have hl3 : z3.length ≤ z0.length + (4 + (wText x.2.1 + (wText x.2.2.1))) := by rw [← hz3, List.length_append]; have := hl2; omega
  have S3 := Lib.hid S3'
  have T3 := Lib.hid (T2.out.trans T3')
  have HE3 := Lib.hid hb3
  have HZ3 := Lib.hid hz3
  clear S3' T3' hb3 hz3 hn3 S2 T2 hl2
  have q3 := cell_blk (T3.out.keep HB.out (by decide)) 3 _ rfl
  go_wp2_with fail
  clear q3
  refine (wr_text (x.2.2.2.1)   S3.out (by have := hl3; omega)).mono ?_
  rintro e w4 (⟨b4, hb4, rfl, v4, S4', T4'⟩ | ⟨c, hc, rfl, hbe, T4'⟩)
  rotate_left
  · exact ⟨rfl, .inr ⟨c, by simp only [eCommand, HE1.out, HE2.out, HE3.out, hc, cat_err, cat_ok_err, cat_ok_ok], rfl, hbe, TW.out.trans (T3.out.trans T4')⟩⟩
  have hn4 : b4.length = wText x.2.2.2.1 := cod_text.len _ _ hb4
  obtain ⟨z4, hz4⟩ : ∃ z, z3 ++ b4 = z := ⟨_, rfl⟩
  rw [hz4] at S4'
  have hl4 : z4.length ≤ z0.length + (4 + (wText x.2.1 + (wText x.2.2.1 + (wText x.2.2.2.1)))) := by rw [← hz4, List.length_append]; have := hl3; omega
  have S4 := Lib.hid S4'
  have T4 := Lib.hid (T3.out.trans T4')
  have HE4 := Lib.hid hb4
  have HZ4 := Lib.hid hz4
  clear S4' T4' hb4 hz4 hn4 S3 T3 hl3
  have q4 := cell_blk (T4.out.keep HB.out (by decide)) 4 _ rfl
  go_wp2_with fail
  clear q4
  refine (wr_text (x.2.2.2.2.1)   S4.out (by have := hl4; omega)).mono ?_
  rintro e w5 (⟨b5, hb5, rfl, v5, S5', T5'⟩ | ⟨c, hc, rfl, hbe, T5'⟩)
  rotate_left
  · exact ⟨rfl, .inr ⟨c, by simp only [eCommand, HE1.out, HE2.out, HE3.out, HE4.out, hc, cat_err, cat_ok_err, cat_ok_ok], rfl, hbe, TW.out.trans (T4.out.trans T5')⟩⟩
  have hn5 : b5.length = wText x.2.2.2.2.1 := cod_text.len _ _ hb5
  obtain ⟨z5, hz5⟩ : ∃ z, z4 ++ b5 = z := ⟨_, rfl⟩
  rw [hz5] at S5'
  have hl5 : z5.length ≤ z0.length + (4 + (wText x.2.1 + (wText x.2.2.1 + (wText x.2.2.2.1 + (wText x.2.2.2.2.1))))) := by rw [← hz5, List.length_append]; have := hl4; omega
  have S5 := Lib.hid S5'
  have T5 := Lib.hid (T4.out.trans T5')
  have HE5 := Lib.hid hb5
  have HZ5 := Lib.hid hz5
  clear S5' T5' hb5 hz5 hn5 S4 T4 hl4
  have q5 := cell_blk (T5.out.keep HB.out (by decide)) 5 _ rfl
  go_wp2_with fail
  clear q5
  refine (wr_text (x.2.2.2.2.2.1)   S5.out (by have := hl5; omega)).mono ?_
  rintro e w6 (⟨b6, hb6, rfl, v6, S6', T6'⟩ | ⟨c, hc, rfl, hbe, T6'⟩)
  rotate_left
  · exact ⟨rfl, .inr ⟨c, by simp only [eCommand, HE1.out, HE2.out, HE3.out, HE4.out, HE5.out, hc, cat_err, cat_ok_err, cat_ok_ok], rfl, hbe, TW.out.trans (T5.out.trans T6')⟩⟩
  have hn6 : b6.length = wText x.2.2.2.2.2.1 := cod_text.len _ _ hb6
  obtain ⟨z6, hz6⟩ : ∃ z, z5 ++ b6 = z := ⟨_, rfl⟩
  rw [hz6] at S6'
  have hl6 : z6.length ≤ z0.length + (4 + (wText x.2.1 + (wText x.2.2.1 + (wText x.2.2.2.1 + (wText x.2.2.2.2.1 + (wText x.2.2.2.2.2.1)))))) := by rw [← hz6, List.length_append]; have := hl5; omega
  have S6 := Lib.hid S6'
  have T6 := Lib.hid (T5.out.trans T6')
  have HE6 := Lib.hid hb6
  have HZ6 := Lib.hid hz6
  clear S6' T6' hb6 hz6 hn6 S5 T5 hl5
  have q6 := cell_blk (T6.out.keep HB.out (by decide)) 6 _ rfl
  go_wp2_with fail
  clear q6
  refine (wr_many_Column A6 c6 (l := x.2.2.2.2.2.2.1) h6 S6.out (by have := hl6; omega)).mono ?_
  rintro e w7 (⟨b7, hb7, rfl, v7, S7', T7'⟩ | ⟨c, hc, rfl, hbe, T7'⟩)
  rotate_left
  · exact ⟨rfl, .inr ⟨c, by simp only [eCommand, HE1.out, HE2.out, HE3.out, HE4.out, HE5.out, HE6.out, hc, cat_err, cat_ok_err, cat_ok_ok], rfl, hbe, TW.out.trans (T6.out.trans T7')⟩⟩
  have hn7 : b7.length = (wList wColumn) x.2.2.2.2.2.2.1 := (cod_list codColumn).len _ _ hb7
  obtain ⟨z7, hz7⟩ : ∃ z, z6 ++ b7 = z := ⟨_, rfl⟩
  rw [hz7] at S7'
  have hl7 : z7.length ≤ z0.length + (4 + (wText x.2.1 + (wText x.2.2.1 + (wText x.2.2.2.1 + (wText x.2.2.2.2.1 + (wText x.2.2.2.2.2.1 + ((wList wColumn) x.2.2.2.2.2.2.1))))))) := by rw [← hz7, List.length_append]; have := hl6; omega
  have S7 := Lib.hid S7'
  have T7 := Lib.hid (T6.out.trans T7')
  have HE7 := Lib.hid hb7
  have HZ7 := Lib.hid hz7
  clear S7' T7' hb7 hz7 hn7 S6 T6 hl6
  have HR := Lib.hid (range_blk [.int .i64 x.1, .string x.2.1, .string x.2.2.1, .string x.2.2.2.1, .string x.2.2.2.2.1, .string x.2.2.2.2.2.1, .slice A6 x.2.2.2.2.2.2.1.length c6] [.string x.2.2.2.2.2.2.2.1.1, .int .i64 x.2.2.2.2.2.2.2.1.2.1, .slice A9 x.2.2.2.2.2.2.2.1.2.2.1.length c9, .int .i64 x.2.2.2.2.2.2.2.1.2.2.2.1, .int .i64 x.2.2.2.2.2.2.2.1.2.2.2.2.1, .string x.2.2.2.2.2.2.2.1.2.2.2.2.2.1, .string x.2.2.2.2.2.2.2.1.2.2.2.2.2.2.1, .string x.2.2.2.2.2.2.2.1.2.2.2.2.2.2.2] [.int .i64 x.2.2.2.2.2.2.2.2.1, .bool x.2.2.2.2.2.2.2.2.2] (T7.out.keep HB.out (by decide)))
  go_wp2_with (((with_reducible refine gate_load (t := 64) rfl ?_); refine wpList_load_mid rfl 64 _ rfl w.heap.size 7 rfl [.string x.2.2.2.2.2.2.2.1.1, .int .i64 x.2.2.2.2.2.2.2.1.2.1, .slice A9 x.2.2.2.2.2.2.2.1.2.2.1.length c9, .int .i64 x.2.2.2.2.2.2.2.1.2.2.2.1, .int .i64 x.2.2.2.2.2.2.2.1.2.2.2.2.1, .string x.2.2.2.2.2.2.2.1.2.2.2.2.2.1, .string x.2.2.2.2.2.2.2.1.2.2.2.2.2.2.1, .string x.2.2.2.2.2.2.2.1.2.2.2.2.2.2.2] _ HR.out Tryz.underlying64 rfl (by kernel_rfl) ?_))
  clear HR
  refine (wr_rule (x.2.2.2.2.2.2.2.1) A9 c9 h9 S7.out (by have := hl7; omega)).mono ?_
  rintro e w8 (⟨b8, hb8, rfl, v8, S8', T8'⟩ | ⟨c, hc, rfl, hbe, T8'⟩)
  rotate_left
  · exact ⟨rfl, .inr ⟨c, by simp only [eCommand, HE1.out, HE2.out, HE3.out, HE4.out, HE5.out, HE6.out, HE7.out, hc, cat_err, cat_ok_err, cat_ok_ok], rfl, hbe, TW.out.trans (T7.out.trans T8')⟩⟩
  have hn8 : b8.length = wRule x.2.2.2.2.2.2.2.1 := codRule.len _ _ hb8
  obtain ⟨z8, hz8⟩ : ∃ z, z7 ++ b8 = z := ⟨_, rfl⟩
  rw [hz8] at S8'
  have hl8 : z8.length ≤ z0.length + (4 + (wText x.2.1 + (wText x.2.2.1 + (wText x.2.2.2.1 + (wText x.2.2.2.2.1 + (wText x.2.2.2.2.2.1 + ((wList wColumn) x.2.2.2.2.2.2.1 + (wRule x.2.2.2.2.2.2.2.1)))))))) := by rw [← hz8, List.length_append]; have := hl7; omega
  have S8 := Lib.hid S8'
  have T8 := Lib.hid (T7.out.trans T8')
  have HE8 := Lib.hid hb8
  have HZ8 := Lib.hid hz8
  clear S8' T8' hb8 hz8 hn8 S7 T7 hl7
  have q15 := cell_blk (T8.out.keep HB.out (by decide)) 15 _ rfl
  go_wp2_with fail
  clear q15
  refine (wr_number (x.2.2.2.2.2.2.2.2.1)   S8.out (by have := hl8; omega)).mono ?_
  rintro e w9 (⟨b9, hb9, rfl, v9, S9', T9'⟩ | ⟨c, hc, rfl, hbe, T9'⟩)
  rotate_left
  · exact ⟨rfl, .inr ⟨c, by simp only [eCommand, HE1.out, HE2.out, HE3.out, HE4.out, HE5.out, HE6.out, HE7.out, HE8.out, hc, cat_err, cat_ok_err, cat_ok_ok], rfl, hbe, TW.out.trans (T8.out.trans T9')⟩⟩
  have hn9 : b9.length = 4 := cod_num.len _ _ hb9
  obtain ⟨z9, hz9⟩ : ∃ z, z8 ++ b9 = z := ⟨_, rfl⟩
  rw [hz9] at S9'
  have hl9 : z9.length ≤ z0.length + (4 + (wText x.2.1 + (wText x.2.2.1 + (wText x.2.2.2.1 + (wText x.2.2.2.2.1 + (wText x.2.2.2.2.2.1 + ((wList wColumn) x.2.2.2.2.2.2.1 + (wRule x.2.2.2.2.2.2.2.1 + (4))))))))) := by rw [← hz9, List.length_append]; have := hl8; omega
  have S9 := Lib.hid S9'
  have T9 := Lib.hid (T8.out.trans T9')
  have HE9 := Lib.hid hb9
  have HZ9 := Lib.hid hz9
  clear S9' T9' hb9 hz9 hn9 S8 T8 hl8
  have q16 := cell_blk (T9.out.keep HB.out (by decide)) 16 _ rfl
  go_wp2_with fail
  clear q16
  refine (wr_flag (x.2.2.2.2.2.2.2.2.2)   S9.out (by have := hl9; omega)).mono ?_
  rintro e w10 (⟨b10, hb10, rfl, v10, S10', T10'⟩ | ⟨c, hc, rfl, hbe, T10'⟩)
  rotate_left
  · exact ⟨rfl, .inr ⟨c, by simp only [eCommand, HE1.out, HE2.out, HE3.out, HE4.out, HE5.out, HE6.out, HE7.out, HE8.out, HE9.out, hc, cat_err, cat_ok_err, cat_ok_ok], rfl, hbe, TW.out.trans (T9.out.trans T10')⟩⟩
  have hn10 : b10.length = 1 := cod_flag.len _ _ hb10
  obtain ⟨z10, hz10⟩ : ∃ z, z9 ++ b10 = z := ⟨_, rfl⟩
  rw [hz10] at S10'
  have hl10 : z10.length ≤ z0.length + (4 + (wText x.2.1 + (wText x.2.2.1 + (wText x.2.2.2.1 + (wText x.2.2.2.2.1 + (wText x.2.2.2.2.2.1 + ((wList wColumn) x.2.2.2.2.2.2.1 + (wRule x.2.2.2.2.2.2.2.1 + (4 + (1)))))))))) := by rw [← hz10, List.length_append]; have := hl9; omega
  have S10 := Lib.hid S10'
  have T10 := Lib.hid (T9.out.trans T10')
  have HE10 := Lib.hid hb10
  have HZ10 := Lib.hid hz10
  clear S10' T10' hb10 hz10 hn10 S9 T9 hl9
  go_wp2
  go_end0
  have SF := S10.out
  rw [← HZ10.out, ← HZ9.out, ← HZ8.out, ← HZ7.out, ← HZ6.out, ← HZ5.out, ← HZ4.out, ← HZ3.out, ← HZ2.out, ← HZ1.out] at SF
  refine .inl ⟨_, by simp only [eCommand, HE1.out, HE2.out, HE3.out, HE4.out, HE5.out, HE6.out, HE7.out, HE8.out, HE9.out, HE10.out, cat_ok_ok]; rfl, rfl, v10, ?_, TW.out.trans T10.out⟩
  simpa only [List.append_assoc] using SF
end Go.Proofs.YtoomcdgnnibjlaaGreat.Wr
/- The program's writer. -/
namespace Go.Proofs.YtoomcdgnnibjlaaGreat.Wr
open Go.RowKit Go.Proofs.YtoomcdgnnibjlaaGreatW.PrintWords Go.Proofs.YtoomcdgnnibjlaaGreatW.PrintLast
set_option linter.unusedVariables false
set_option linter.unusedSimpArgs false

set_option maxRecDepth 100000 in
set_option maxHeartbeats 16000000 in
theorem wr_op (x : TOp) (A9 : Option Addr) (c9 : Nat) (A12 : Option Addr) (c12 : Nat) {w0 w : World} {g : Nat} {v : Value} {z0 : Bs} (h9 : kColumn.C w0 A9 x.2.2.2.1.2.2.2.2.2.2.1.length x.2.2.2.1.2.2.2.2.2.2.1) (h12 : Kd.string.C w0 A12 x.2.2.2.1.2.2.2.2.2.2.2.1.2.2.1.length x.2.2.2.1.2.2.2.2.2.2.2.1.2.2.1) (hS : WAt w0 w g v z0) (hm : z0.length + wOp x < 140737488355328) :
    Calls Tryz.prog 39 #[.pointer (some ⟨g, 0, none⟩), .agg #[.int .i64 x.1, .int .i64 x.2.1, .int .i64 x.2.2.1, .int .i64 x.2.2.2.1.1, .string x.2.2.2.1.2.1, .string x.2.2.2.1.2.2.1, .string x.2.2.2.1.2.2.2.1, .string x.2.2.2.1.2.2.2.2.1, .string x.2.2.2.1.2.2.2.2.2.1, .slice A9 x.2.2.2.1.2.2.2.2.2.2.1.length c9, .string x.2.2.2.1.2.2.2.2.2.2.2.1.1, .int .i64 x.2.2.2.1.2.2.2.2.2.2.2.1.2.1, .slice A12 x.2.2.2.1.2.2.2.2.2.2.2.1.2.2.1.length c12, .int .i64 x.2.2.2.1.2.2.2.2.2.2.2.1.2.2.2.1, .int .i64 x.2.2.2.1.2.2.2.2.2.2.2.1.2.2.2.2.1, .string x.2.2.2.1.2.2.2.2.2.2.2.1.2.2.2.2.2.1, .string x.2.2.2.1.2.2.2.2.2.2.2.1.2.2.2.2.2.2.1, .string x.2.2.2.1.2.2.2.2.2.2.2.1.2.2.2.2.2.2.2, .int .i64 x.2.2.2.1.2.2.2.2.2.2.2.2.1, .bool x.2.2.2.1.2.2.2.2.2.2.2.2.2, .int .i64 x.2.2.2.2.1, .int .i64 x.2.2.2.2.2.1, .int .i64 x.2.2.2.2.2.2]] w (WDone w0 g w (eOp x) z0) := by
  have hm' : z0.length + (4 + (4 + (4 + (wCommand x.2.2.2.1 + (4 + (4 + (4))))))) < 140737488355328 := hm
  clear hm
  have hb0 : Below w.heap.size w (w.alloc (.cells #[.int .i64 x.1, .int .i64 x.2.1, .int .i64 x.2.2.1, .int .i64 x.2.2.2.1.1, .string x.2.2.2.1.2.1, .string x.2.2.2.1.2.2.1, .string x.2.2.2.1.2.2.2.1, .string x.2.2.2.1.2.2.2.2.1, .string x.2.2.2.1.2.2.2.2.2.1, .slice A9 x.2.2.2.1.2.2.2.2.2.2.1.length c9, .string x.2.2.2.1.2.2.2.2.2.2.2.1.1, .int .i64 x.2.2.2.1.2.2.2.2.2.2.2.1.2.1, .slice A12 x.2.2.2.1.2.2.2.2.2.2.2.1.2.2.1.length c12, .int .i64 x.2.2.2.1.2.2.2.2.2.2.2.1.2.2.2.1, .int .i64 x.2.2.2.1.2.2.2.2.2.2.2.1.2.2.2.2.1, .string x.2.2.2.1.2.2.2.2.2.2.2.1.2.2.2.2.2.1, .string x.2.2.2.1.2.2.2.2.2.2.2.1.2.2.2.2.2.2.1, .string x.2.2.2.1.2.2.2.2.2.2.2.1.2.2.2.2.2.2.2, .int .i64 x.2.2.2.1.2.2.2.2.2.2.2.2.1, .bool x.2.2.2.1.2.2.2.2.2.2.2.2.2, .int .i64 x.2.2.2.2.1, .int .i64 x.2.2.2.2.2.1, .int .i64 x.2.2.2.2.2.2] 69)) := (Below.refl _ _).alloc (Nat.le_refl _) _
  have hx0 := blk_new w (.cells #[.int .i64 x.1, .int .i64 x.2.1, .int .i64 x.2.2.1, .int .i64 x.2.2.2.1.1, .string x.2.2.2.1.2.1, .string x.2.2.2.1.2.2.1, .string x.2.2.2.1.2.2.2.1, .string x.2.2.2.1.2.2.2.2.1, .string x.2.2.2.1.2.2.2.2.2.1, .slice A9 x.2.2.2.1.2.2.2.2.2.2.1.length c9, .string x.2.2.2.1.2.2.2.2.2.2.2.1.1, .int .i64 x.2.2.2.1.2.2.2.2.2.2.2.1.2.1, .slice A12 x.2.2.2.1.2.2.2.2.2.2.2.1.2.2.1.length c12, .int .i64 x.2.2.2.1.2.2.2.2.2.2.2.1.2.2.2.1, .int .i64 x.2.2.2.1.2.2.2.2.2.2.2.1.2.2.2.2.1, .string x.2.2.2.1.2.2.2.2.2.2.2.1.2.2.2.2.2.1, .string x.2.2.2.1.2.2.2.2.2.2.2.1.2.2.2.2.2.2.1, .string x.2.2.2.1.2.2.2.2.2.2.2.1.2.2.2.2.2.2.2, .int .i64 x.2.2.2.1.2.2.2.2.2.2.2.2.1, .bool x.2.2.2.1.2.2.2.2.2.2.2.2.2, .int .i64 x.2.2.2.2.1, .int .i64 x.2.2.2.2.2.1, .int .i64 x.2.2.2.2.2.2] 69)
  obtain ⟨W0, hW0⟩ : ∃ W0, w.alloc (.cells #[.int .i64 x.1, .int .i64 x.2.1, .int .i64 x.2.2.1, .int .i64 x.2.2.2.1.1, .string x.2.2.2.1.2.1, .string x.2.2.2.1.2.2.1, .string x.2.2.2.1.2.2.2.1, .string x.2.2.2.1.2.2.2.2.1, .string x.2.2.2.1.2.2.2.2.2.1, .slice A9 x.2.2.2.1.2.2.2.2.2.2.1.length c9, .string x.2.2.2.1.2.2.2.2.2.2.2.1.1, .int .i64 x.2.2.2.1.2.2.2.2.2.2.2.1.2.1, .slice A12 x.2.2.2.1.2.2.2.2.2.2.2.1.2.2.1.length c12, .int .i64 x.2.2.2.1.2.2.2.2.2.2.2.1.2.2.2.1, .int .i64 x.2.2.2.1.2.2.2.2.2.2.2.1.2.2.2.2.1, .string x.2.2.2.1.2.2.2.2.2.2.2.1.2.2.2.2.2.1, .string x.2.2.2.1.2.2.2.2.2.2.2.1.2.2.2.2.2.2.1, .string x.2.2.2.1.2.2.2.2.2.2.2.1.2.2.2.2.2.2.2, .int .i64 x.2.2.2.1.2.2.2.2.2.2.2.2.1, .bool x.2.2.2.1.2.2.2.2.2.2.2.2.2, .int .i64 x.2.2.2.2.1, .int .i64 x.2.2.2.2.2.1, .int .i64 x.2.2.2.2.2.2] 69) = W0 := ⟨_, rfl⟩
  rw [hW0] at hb0 hx0
  have S0 := Lib.hid (hS.stays hb0)
  have HB := Lib.hid hx0
  have T0 := Lib.hid (Stp.refl SW W0)
  have TW := Lib.hid (Stp.below (S := SW) hb0)
  have HW := Lib.hid hW0
  clear hb0 hx0 hW0 hS
  go_enter Tryz.func39, Tryz.ntmps39
  have q0 := cell_blk (T0.out.keep HB.out (by decide)) 0 _ rfl
  go_wp2_with fail
  rw [HW.out]
  clear HW
  clear q0
  refine (wr_number (x.1)   S0.out (by omega)).mono ?_
  rintro e w1 (⟨b1, hb1, rfl, v1, S1', T1'⟩ | ⟨c, hc, rfl, hbe, T1'⟩)
  rotate_left
  · exact ⟨rfl, .inr ⟨c, by simp only [eOp, hc, cat_err, cat_ok_err, cat_ok_ok], rfl, hbe, TW.out.trans (T0.out.trans T1')⟩⟩
  have hn1 : b1.length = 4 := cod_num.len _ _ hb1
  obtain ⟨z1, hz1⟩ : ∃ z, z0 ++ b1 = z := ⟨_, rfl⟩
  rw [hz1] at S1'
  have hl1 : z1.length ≤ z0.length + (4) := by rw [← hz1, List.length_append]; omega
  have S1 := Lib.hid S1'
  have T1 := Lib.hid (T0.out.trans T1')
  have HE1 := Lib.hid hb1
  have HZ1 := Lib.hid hz1
  clear S1' T1' hb1 hz1 hn1 S0 T0
  have q1 := cell_blk (T1.out.keep HB.out (by decide)) 1 _ rfl
  go_wp2_with fail
  clear q1
  refine (wr_number (x.2.1)   S1.out (by have := hl1; omega)).mono ?_
  rintro e w2 (⟨b2, hb2, rfl, v2, S2', T2'⟩ | ⟨c, hc, rfl, hbe, T2'⟩)
  rotate_left
  · exact ⟨rfl, .inr ⟨c, by simp only [eOp, HE1.out, hc, cat_err, cat_ok_err, cat_ok_ok], rfl, hbe, TW.out.trans (T1.out.trans T2')⟩⟩
  have hn2 : b2.length = 4 := cod_num.len _ _ hb2
  obtain ⟨z2, hz2⟩ : ∃ z, z1 ++ b2 = z := ⟨_, rfl⟩
  rw [hz2] at S2'
  have hl2 : z2.length ≤ z0.length + (4 + (4)) := by rw [← hz2, List.length_append]; have := hl1; omega
  have S2 := Lib.hid S2'
  have T2 := Lib.hid (T1.out.trans T2')
  have HE2 := Lib.hid hb2
  have HZ2 := Lib.hid hz2
  clear S2' T2' hb2 hz2 hn2 S1 T1 hl1
  have q2 := cell_blk (T2.out.keep HB.out (by decide)) 2 _ rfl
  go_wp2_with fail
  clear q2
  refine (wr_number (x.2.2.1)   S2.out (by have := hl2; omega)).mono ?_
  rintro e w3 (⟨b3, hb3, rfl, v3, S3', T3'⟩ | ⟨c, hc, rfl, hbe, T3'⟩)
  rotate_left
  · exact ⟨rfl, .inr ⟨c, by simp only [eOp, HE1.out, HE2.out, hc, cat_err, cat_ok_err, cat_ok_ok], rfl, hbe, TW.out.trans (T2.out.trans T3')⟩⟩
  have hn3 : b3.length = 4 := cod_num.len _ _ hb3
  obtain ⟨z3, hz3⟩ : ∃ z, z2 ++ b3 = z := ⟨_, rfl⟩
  rw [hz3] at S3'
  have hl3 : z3.length ≤ z0.length + (4 + (4 + (4))) := by rw [← hz3, List.length_append]; have := hl2; omega
  have S3 := Lib.hid S3'
  have T3 := Lib.hid (T2.out.trans T3')
  have HE3 := Lib.hid hb3
  have HZ3 := Lib.hid hz3
  clear S3' T3' hb3 hz3 hn3 S2 T2 hl2
  have HR := Lib.hid (range_blk [.int .i64 x.1, .int .i64 x.2.1, .int .i64 x.2.2.1] [.int .i64 x.2.2.2.1.1, .string x.2.2.2.1.2.1, .string x.2.2.2.1.2.2.1, .string x.2.2.2.1.2.2.2.1, .string x.2.2.2.1.2.2.2.2.1, .string x.2.2.2.1.2.2.2.2.2.1, .slice A9 x.2.2.2.1.2.2.2.2.2.2.1.length c9, .string x.2.2.2.1.2.2.2.2.2.2.2.1.1, .int .i64 x.2.2.2.1.2.2.2.2.2.2.2.1.2.1, .slice A12 x.2.2.2.1.2.2.2.2.2.2.2.1.2.2.1.length c12, .int .i64 x.2.2.2.1.2.2.2.2.2.2.2.1.2.2.2.1, .int .i64 x.2.2.2.1.2.2.2.2.2.2.2.1.2.2.2.2.1, .string x.2.2.2.1.2.2.2.2.2.2.2.1.2.2.2.2.2.1, .string x.2.2.2.1.2.2.2.2.2.2.2.1.2.2.2.2.2.2.1, .string x.2.2.2.1.2.2.2.2.2.2.2.1.2.2.2.2.2.2.2, .int .i64 x.2.2.2.1.2.2.2.2.2.2.2.2.1, .bool x.2.2.2.1.2.2.2.2.2.2.2.2.2] [.int .i64 x.2.2.2.2.1, .int .i64 x.2.2.2.2.2.1, .int .i64 x.2.2.2.2.2.2] (T3.out.keep HB.out (by decide)))
  go_wp2_with (((with_reducible refine gate_load (t := 67) rfl ?_); refine wpList_load_mid rfl 67 _ rfl w.heap.size 3 rfl [.int .i64 x.2.2.2.1.1, .string x.2.2.2.1.2.1, .string x.2.2.2.1.2.2.1, .string x.2.2.2.1.2.2.2.1, .string x.2.2.2.1.2.2.2.2.1, .string x.2.2.2.1.2.2.2.2.2.1, .slice A9 x.2.2.2.1.2.2.2.2.2.2.1.length c9, .string x.2.2.2.1.2.2.2.2.2.2.2.1.1, .int .i64 x.2.2.2.1.2.2.2.2.2.2.2.1.2.1, .slice A12 x.2.2.2.1.2.2.2.2.2.2.2.1.2.2.1.length c12, .int .i64 x.2.2.2.1.2.2.2.2.2.2.2.1.2.2.2.1, .int .i64 x.2.2.2.1.2.2.2.2.2.2.2.1.2.2.2.2.1, .string x.2.2.2.1.2.2.2.2.2.2.2.1.2.2.2.2.2.1, .string x.2.2.2.1.2.2.2.2.2.2.2.1.2.2.2.2.2.2.1, .string x.2.2.2.1.2.2.2.2.2.2.2.1.2.2.2.2.2.2.2, .int .i64 x.2.2.2.1.2.2.2.2.2.2.2.2.1, .bool x.2.2.2.1.2.2.2.2.2.2.2.2.2] _ HR.out Tryz.underlying67 rfl (by kernel_rfl) ?_))
  clear HR
  refine (wr_command (x.2.2.2.1) A9 c9 A12 c12 h9 h12 S3.out (by have := hl3; omega)).mono ?_
  rintro e w4 (⟨b4, hb4, rfl, v4, S4', T4'⟩ | ⟨c, hc, rfl, hbe, T4'⟩)
  rotate_left
  · exact ⟨rfl, .inr ⟨c, by simp only [eOp, HE1.out, HE2.out, HE3.out, hc, cat_err, cat_ok_err, cat_ok_ok], rfl, hbe, TW.out.trans (T3.out.trans T4')⟩⟩
  have hn4 : b4.length = wCommand x.2.2.2.1 := codCommand.len _ _ hb4
  obtain ⟨z4, hz4⟩ : ∃ z, z3 ++ b4 = z := ⟨_, rfl⟩
  rw [hz4] at S4'
  have hl4 : z4.length ≤ z0.length + (4 + (4 + (4 + (wCommand x.2.2.2.1)))) := by rw [← hz4, List.length_append]; have := hl3; omega
  have S4 := Lib.hid S4'
  have T4 := Lib.hid (T3.out.trans T4')
  have HE4 := Lib.hid hb4
  have HZ4 := Lib.hid hz4
  clear S4' T4' hb4 hz4 hn4 S3 T3 hl3
  have q20 := cell_blk (T4.out.keep HB.out (by decide)) 20 _ rfl
  go_wp2_with fail
  clear q20
  refine (wr_number (x.2.2.2.2.1)   S4.out (by have := hl4; omega)).mono ?_
  rintro e w5 (⟨b5, hb5, rfl, v5, S5', T5'⟩ | ⟨c, hc, rfl, hbe, T5'⟩)
  rotate_left
  · exact ⟨rfl, .inr ⟨c, by simp only [eOp, HE1.out, HE2.out, HE3.out, HE4.out, hc, cat_err, cat_ok_err, cat_ok_ok], rfl, hbe, TW.out.trans (T4.out.trans T5')⟩⟩
  have hn5 : b5.length = 4 := cod_num.len _ _ hb5
  obtain ⟨z5, hz5⟩ : ∃ z, z4 ++ b5 = z := ⟨_, rfl⟩
  rw [hz5] at S5'
  have hl5 : z5.length ≤ z0.length + (4 + (4 + (4 + (wCommand x.2.2.2.1 + (4))))) := by rw [← hz5, List.length_append]; have := hl4; omega
  have S5 := Lib.hid S5'
  have T5 := Lib.hid (T4.out.trans T5')
  have HE5 := Lib.hid hb5
  have HZ5 := Lib.hid hz5
  clear S5' T5' hb5 hz5 hn5 S4 T4 hl4
  have q21 := cell_blk (T5.out.keep HB.out (by decide)) 21 _ rfl
  go_wp2_with fail
  clear q21
  refine (wr_number (x.2.2.2.2.2.1)   S5.out (by have := hl5; omega)).mono ?_
  rintro e w6 (⟨b6, hb6, rfl, v6, S6', T6'⟩ | ⟨c, hc, rfl, hbe, T6'⟩)
  rotate_left
  · exact ⟨rfl, .inr ⟨c, by simp only [eOp, HE1.out, HE2.out, HE3.out, HE4.out, HE5.out, hc, cat_err, cat_ok_err, cat_ok_ok], rfl, hbe, TW.out.trans (T5.out.trans T6')⟩⟩
  have hn6 : b6.length = 4 := cod_num.len _ _ hb6
  obtain ⟨z6, hz6⟩ : ∃ z, z5 ++ b6 = z := ⟨_, rfl⟩
  rw [hz6] at S6'
  have hl6 : z6.length ≤ z0.length + (4 + (4 + (4 + (wCommand x.2.2.2.1 + (4 + (4)))))) := by rw [← hz6, List.length_append]; have := hl5; omega
  have S6 := Lib.hid S6'
  have T6 := Lib.hid (T5.out.trans T6')
  have HE6 := Lib.hid hb6
  have HZ6 := Lib.hid hz6
  clear S6' T6' hb6 hz6 hn6 S5 T5 hl5
  have q22 := cell_blk (T6.out.keep HB.out (by decide)) 22 _ rfl
  go_wp2_with fail
  clear q22
  refine (wr_number (x.2.2.2.2.2.2)   S6.out (by have := hl6; omega)).mono ?_
  rintro e w7 (⟨b7, hb7, rfl, v7, S7', T7'⟩ | ⟨c, hc, rfl, hbe, T7'⟩)
  rotate_left
  · exact ⟨rfl, .inr ⟨c, by simp only [eOp, HE1.out, HE2.out, HE3.out, HE4.out, HE5.out, HE6.out, hc, cat_err, cat_ok_err, cat_ok_ok], rfl, hbe, TW.out.trans (T6.out.trans T7')⟩⟩
  have hn7 : b7.length = 4 := cod_num.len _ _ hb7
  obtain ⟨z7, hz7⟩ : ∃ z, z6 ++ b7 = z := ⟨_, rfl⟩
  rw [hz7] at S7'
  have hl7 : z7.length ≤ z0.length + (4 + (4 + (4 + (wCommand x.2.2.2.1 + (4 + (4 + (4))))))) := by rw [← hz7, List.length_append]; have := hl6; omega
  have S7 := Lib.hid S7'
  have T7 := Lib.hid (T6.out.trans T7')
  have HE7 := Lib.hid hb7
  have HZ7 := Lib.hid hz7
  clear S7' T7' hb7 hz7 hn7 S6 T6 hl6
  go_wp2
  go_end0
  have SF := S7.out
  rw [← HZ7.out, ← HZ6.out, ← HZ5.out, ← HZ4.out, ← HZ3.out, ← HZ2.out, ← HZ1.out] at SF
  refine .inl ⟨_, by simp only [eOp, HE1.out, HE2.out, HE3.out, HE4.out, HE5.out, HE6.out, HE7.out, cat_ok_ok]; rfl, rfl, v7, ?_, TW.out.trans T7.out⟩
  simpa only [List.append_assoc] using SF
end Go.Proofs.YtoomcdgnnibjlaaGreat.Wr
/- What is thrown is caught: the deferred calls of layer 3. -/
namespace Go.Proofs.YtoomcdgnnibjlaaGreat.Wr
open Go.RowKit Go.Proofs.YtoomcdgnnibjlaaGreatW.PrintWords Go.Proofs.YtoomcdgnnibjlaaGreatW.PrintLast
set_option linter.unusedVariables false
set_option linter.unusedSimpArgs false

theorem caught_thrown (p : Addr) (x c : Int) (w : World) (hc : w.cell? p = some (.int .i64 x)) (hz : w.frozen? p = false) :
    CallsD Tryz.prog 21 #[.pointer (some p)] (.panicking ({ v := fault c, recovered := false } :: [])) w fun e u' w' =>
      e = .returned (.tuple #[]) ∧ u' = .panicking ({ v := fault c, recovered := true } :: []) ∧ w' = w.setCell p (.int .i64 c) := by
  unfold fault
  have hf : ∀ (w : World), (Instr.field 123 (.agg #[.int .i64 c]) 0).run Tryz.prog w = .ok (.int .i64 c) w := fun _ => by kernel_rfl
  have ht : ∀ (w : World), (Instr.typeAssert (.iface 123 (.agg #[.int .i64 c])) 20 123 false).run Tryz.prog w = .ok (.agg #[.int .i64 c]) w := fun _ => by kernel_rfl
  refine callsD_of_wpS Tryz.func21 rfl fun c₀ cs hu => ?_
  apply wpS_seq
  apply wpS_region
  simp [wpOpsS, go_sem, recoverD, hu, Tryz.ntmps21, Exit.thenS]
  apply wpS_seq
  apply wpS_region
  simp [wpOpsS, go_sem, Exit.thenS]
  refine wpS_cond (t := true) (by simp [Act.eval, Array.replicate]) ?_
  simp only [if_true]
  apply wpS_region
  simp [wpOpsS, go_sem, ht, hf, hc, hz, bodyPostS, results, Tryz.results21]
theorem caught_idle (p : Addr) (w : World) :
    CallsD Tryz.prog 21 #[.pointer (some p)] .returning w fun e u' w' => e = .returned (.tuple #[]) ∧ u' = .returning ∧ w' = w := by
  refine callsD_of_wpS Tryz.func21 rfl fun c₀ cs hu => ?_
  apply wpS_seq
  apply wpS_region
  simp [wpOpsS, go_sem, recoverD, hu, Tryz.ntmps21, Exit.thenS]
  apply wpS_seq
  apply wpS_region
  simp [wpOpsS, go_sem, Exit.thenS]
  refine wpS_cond (t := false) (by simp [Act.eval, Array.replicate]) ?_
  simp only [Bool.false_eq_true, if_false]
  refine wpS_of_wp (wp_skip ?_)
  cases c₀
  simp_all [bodyPostS, results, Tryz.results21]
/-- put's world when the writer is called: the thing's box, the two results, the writer. -/
theorem put_world (w : World) (arr : Array Value) (t : Nat) : ∃ W, (((w.alloc (.cells arr t)).alloc (.cells #[.slice none 0 0] 22)).alloc (.cells #[.int .i64 0] 39)).alloc (.cells #[.slice none 0 0] 160) = W ∧ Below w.heap.size w W ∧
    W.heap[w.heap.size]? = some (.cells arr t (0, 0)) ∧ W.heap[w.heap.size + 1]? = some (.cells #[.slice none 0 0] 22 (0, 0)) ∧ W.heap[w.heap.size + 2]? = some (.cells #[.int .i64 0] 39 (0, 0)) ∧ W.heap[w.heap.size + 3]? = some (.cells #[.slice none 0 0] 160 (0, 0)) := by
  refine ⟨_, rfl, ?_, ?_, ?_, ?_, ?_⟩
  · exact ((((Below.refl _ _).alloc (Nat.le_refl _) _).alloc (by simp only [World.size_alloc]; omega) _).alloc (by simp only [World.size_alloc]; omega) _).alloc (by simp only [World.size_alloc]; omega) _
  · rw [Below.heap_alloc _ _ _ (by simp only [World.size_alloc]; omega), Below.heap_alloc _ _ _ (by simp only [World.size_alloc]; omega), Below.heap_alloc _ _ _ (by simp only [World.size_alloc]; omega)]
    exact blk_new w _
  · rw [Below.heap_alloc _ _ _ (by simp only [World.size_alloc]; omega), Below.heap_alloc _ _ _ (by simp only [World.size_alloc]; omega)]
    have := blk_new (w.alloc (.cells arr t)) (.cells #[.slice none 0 0] 22)
    rwa [World.size_alloc] at this
  · rw [Below.heap_alloc _ _ _ (by simp only [World.size_alloc]; omega)]
    have := blk_new ((w.alloc (.cells arr t)).alloc (.cells #[.slice none 0 0] 22)) (.cells #[.int .i64 0] 39)
    rwa [World.size_alloc, World.size_alloc] at this
  · have := blk_new (((w.alloc (.cells arr t)).alloc (.cells #[.slice none 0 0] 22)).alloc (.cells #[.int .i64 0] 39)) (.cells #[.slice none 0 0] 160)
    rwa [World.size_alloc, World.size_alloc, World.size_alloc] at this
theorem two_stores {w : World} {g1 g2 t1 t2 : Nat} {a b : Value} (h1 : w.heap[g1]? = some (.cells #[a] t1 (0, 0))) (h2 : w.heap[g2]? = some (.cells #[b] t2 (0, 0))) (hne : g1 ≠ g2) (u v : Value) :
    ∃ W, (w.setCell ⟨g1, 0, none⟩ u).setCell ⟨g2, 0, none⟩ v = W ∧ W.heap[g1]? = some (.cells #[u] t1 (0, 0)) ∧ W.heap[g2]? = some (.cells #[v] t2 (0, 0)) ∧ (∀ B, B ≤ g1 → B ≤ g2 → Below B w W) ∧ Stp [t1, t2] w W := by
  refine ⟨_, rfl, ?_, ?_, ?_, ?_⟩
  · rw [Below.heap_setCell _ ⟨g2, 0, none⟩ _ _ hne, blk_set h1]; rfl
  · have := (Below.heap_setCell w ⟨g1, 0, none⟩ u g2 (fun e => hne e.symm)).trans h2
    rw [blk_set this]; rfl
  · intro B hB1 hB2
    exact ((Below.refl _ _).setCell (p := ⟨g1, 0, none⟩) hB1 _).setCell (p := ⟨g2, 0, none⟩) hB2 _
  · refine Stp.trans (Stp.set (i := 0) h1 (by simp) u) (Stp.set (i := 0) ((Below.heap_setCell w ⟨g1, 0, none⟩ u g2 (fun e => hne e.symm)).trans h2) (by simp) v)
theorem frozen_blk {w : World} {g t : Nat} {cs : Array Value} (h : w.heap[g]? = some (.cells cs t (0, 0))) (j : Nat) : w.frozen? ⟨g, j, none⟩ = false := by simp [World.frozen?, h]
end Go.Proofs.YtoomcdgnnibjlaaGreat.Wr
/- The document's bytes of a thing, or the first fault. -/
namespace Go.Proofs.YtoomcdgnnibjlaaGreat.Wr
open Go.RowKit Go.Proofs.YtoomcdgnnibjlaaGreatW.PrintWords Go.Proofs.YtoomcdgnnibjlaaGreatW.PrintLast
set_option linter.unusedVariables false
set_option linter.unusedSimpArgs false

def resB : Er → Bs
  | .ok b => b
  | .error _ => []
def resE : Er → Int
  | .ok _ => 0
  | .error c => c
/-- Bytes and a fault's number are handed back; the bytes are new. -/
def PutTold (w : World) (r : Er) : Ending → World → Prop :=
  fun e w' => ∃ v, e = .returned (.tuple #[v, .int .i64 (resE r)]) ∧ (Kd.int .u8).R 5 w' w.heap.size (fun _ => True) v (resB r) ∧ Below w.heap.size w w'
set_option maxRecDepth 100000 in
set_option maxHeartbeats 4000000 in
theorem lay_out {w0 w : World} {g : Nat} {v : Value} {s : LSt} (hS : LayAt w0 w g v s) :
    Calls Tryz.prog 16 #[.pointer (some ⟨g, 0, none⟩)] w fun e w' => ∃ v', e = .returned (.tuple #[v', .int .i64 s.2]) ∧ (Kd.int .u8).R 5 w' w0.heap.size (fun _ => True) v' (if s.2 = 0 then s.1 else []) ∧ Below w.heap.size w w' := by
  have hc := hS.cell
  obtain ⟨A, c, hv, _, _⟩ := Kd.R_reads hS.row
  have q0 : w.cell? ⟨g, 0, none⟩ = some v := cell_blk hc 0 _ rfl
  have q1 : w.cell? ⟨g, 1, none⟩ = some (.int .i64 s.2) := cell_blk hc 1 _ rfl
  have HR := Lib.hid hS.row
  subst hv
  clear hS hc
  by_cases h2 : s.2 = 0
  · rw [if_pos h2]
    go_enter Tryz.func16, Tryz.ntmps16
    go_wp2
    go_ret2
    exact ⟨_, by simp [h2], HR.out, Below.refl _ _⟩
  · rw [if_neg h2]
    go_enter Tryz.func16, Tryz.ntmps16
    go_wp2
    go_region
    all_goals (try go_wp2)
    all_goals go_ret2
    all_goals exact ⟨_, rfl, Kd.R_nil _ _ _ _ _, by repeat (first | (with_reducible exact Below.refl _ _) | apply pw_below_drewN | apply below_drew1 | exact Below.refl _ _)⟩

theorem PutTold.of_alloc {w : World} {o : Obj} {r : Er} {f : FuncId} {args : Array Value} (h : Calls Tryz.prog f args (w.alloc o) (PutTold (w.alloc o) r)) : Calls Tryz.prog f args (w.alloc o) (PutTold w r) :=
  h.mono fun e w' ⟨v, he, hr, hb⟩ => ⟨v, he, Kd.R_lower hr (by simp), ((Below.refl _ _).alloc (Nat.le_refl _) _).trans (hb.mono (by simp))⟩
theorem told_of {r : Er} {n : Nat} {s : LSt} (h : LRel r n ([], 0) s) : s.2 = resE r ∧ (if s.2 = 0 then s.1 else []) = resB r := by
  cases r with
  | ok b => rw [h.ok b rfl rfl]; exact ⟨rfl, rfl⟩
  | error c =>
    obtain ⟨h1, h2⟩ := h.err c rfl rfl
    exact ⟨h1, by rw [if_neg (by rw [h1]; exact h2)]; rfl⟩

theorem told_out {w0 w : World} {g n : Nat} {v : Value} {s : LSt} {r : Er} (hS : LayAt w0 w g v s) (hL : LRel r n ([], 0) s) :
    Calls Tryz.prog 16 #[.pointer (some ⟨g, 0, none⟩)] w fun e w' => ∃ v', e = .returned (.tuple #[v', .int .i64 (resE r)]) ∧ (Kd.int .u8).R 5 w' w0.heap.size (fun _ => True) v' (resB r) ∧ Below w.heap.size w w' := by
  have h := lay_out hS
  rw [(told_of hL).2, (told_of hL).1] at h
  exact h
end Go.Proofs.YtoomcdgnnibjlaaGreat.Wr
