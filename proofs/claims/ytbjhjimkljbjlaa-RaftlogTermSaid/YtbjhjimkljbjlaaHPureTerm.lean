/- Plain laws: the term of a number. -/
import Derived.Test.YtbjhjimkljbjlaaHPure
import Derived.Test.YtbjhjimkljbjlaaHOpen
import Derived.Test.YtbjhjimkljbjlaaPAx8
import Derived.Test.YtbjhjimkljbjlaaPAx9
import Derived.OpenShut
namespace Go.Proofs.Ytbjhjimkljbjlaa.PA
open Go.RowKit Go.Proofs.YtbjhjimkljbjlaaW.PrintWords Go.Proofs.YtbjhjimkljbjlaaW.PrintLast

/-- In a log that goes on the numbers are known by their places. -/
theorem nums {si : Int} {es : List S54} (hc : chk si es = true) (hw : ∀ e ∈ es, entWf e) : ∀ (j : Nat) (h : j < es.length), es[j].f0 = si + 1 + j := by
  intro j h
  simp only [chk, Bool.and_eq_true, decide_eq_true_eq] at hc
  have h1 := okFrom_all si es es.length 0 hc.2 j (by omega) (by omega)
  simp only [okAt, Bool.and_eq_true, decide_eq_true_eq] at h1
  rw [List.getD_eq_getElem?_getD, List.getElem?_eq_getElem h] at h1
  simp only [Option.getD_some] at h1
  have h2 := bounds_i64 (hw _ (List.getElem_mem h)).1
  have e1 : wrap64 (es[j].f0 - 1) = es[j].f0 - 1 := by unfold wrap64; omega
  have e2 : wrap64 (es[j].f0 - 1 - (j : Int)) = es[j].f0 - 1 - j := by unfold wrap64; omega
  rw [e1, e2] at h1
  omega
theorem chk_si {si : Int} {es : List S54} (hc : chk si es = true) : 0 ≤ si ∧ es.length ≤ 10000 := by
  simp only [chk, Bool.and_eq_true, decide_eq_true_eq] at hc
  exact hc.1

/-- The entry of a number. -/
def entAt (si : Int) (es : List S54) (index : Int) : Option S54 := if si < index then es[(index - si - 1).toNat]? else none

theorem find_num {si : Int} {es : List S54} (hn : ∀ (j : Nat) (h : j < es.length), es[j].f0 = si + 1 + j) (index : Int) : es.find? (fun e => e.f0 == index) = entAt si es index := by
  unfold entAt
  by_cases h : si < index ∧ (index - si - 1).toNat < es.length
  · obtain ⟨h1, h2⟩ := h
    rw [if_pos h1, List.getElem?_eq_getElem h2, List.find?_eq_some_iff_getElem]
    refine ⟨by rw [hn _ h2]; simp; omega, _, h2, rfl, fun j hj => ?_⟩
    rw [hn j (by omega)]
    simp
    omega
  · have hnone : (if si < index then es[(index - si - 1).toNat]? else none) = none := by
      by_cases h1 : si < index
      · rw [if_pos h1, List.getElem?_eq_none (by omega)]
      · rw [if_neg h1]
    rw [hnone, List.find?_eq_none]
    intro e he
    obtain ⟨j, hj, rfl⟩ := List.getElem_of_mem he
    rw [hn j hj]
    simp
    omega
theorem find_rev {si : Int} {es : List S54} (hn : ∀ (j : Nat) (h : j < es.length), es[j].f0 = si + 1 + j) (index : Int) : es.reverse.find? (fun e => e.f0 == index) = entAt si es index := by
  unfold entAt
  by_cases h : si < index ∧ (index - si - 1).toNat < es.length
  · obtain ⟨h1, h2⟩ := h
    rw [if_pos h1, List.getElem?_eq_getElem h2, List.find?_eq_some_iff_getElem]
    refine ⟨by rw [hn _ h2]; simp; omega, es.length - 1 - (index - si - 1).toNat, by simp; omega, ?_, fun j hj => ?_⟩
    · rw [List.getElem_reverse]
      congr 1
      omega
    · rw [List.getElem_reverse, hn _ (by omega)]
      simp
      omega
  · have hnone : (if si < index then es[(index - si - 1).toNat]? else none) = none := by
      by_cases h1 : si < index
      · rw [if_pos h1, List.getElem?_eq_none (by omega)]
      · rw [if_neg h1]
    rw [hnone, List.find?_eq_none]
    intro e he
    obtain ⟨j, hj, rfl⟩ := List.getElem_of_mem (List.mem_reverse.1 he)
    rw [hn j hj]
    simp
    omega

theorem termR_eq {si st : Int} {es : List S54} (hn : ∀ (j : Nat) (h : j < es.length), es[j].f0 = si + 1 + j) (index : Int) :
    termR si st es index = if index = si then (st, (0 : Int)) else match entAt si es index with
      | some e => (e.f1, (0 : Int))
      | none => ((0 : Int), (150 : Int)) := by
  unfold termR backL
  rw [List.find?_append, List.find?_map]
  have : ((fun x : Int × Int => x.1 == index) ∘ fun e : S54 => (e.f0, e.f1)) = fun e : S54 => e.f0 == index := rfl
  rw [this, find_rev hn]
  by_cases h : index = si
  · subst h
    rw [if_pos rfl]
    have : entAt index es index = none := by simp [entAt]
    rw [this]
    simp
  · rw [if_neg h]
    cases entAt si es index with
    | some e => simp
    | none => simp [Ne.symm h]

theorem refTerm_l (si st : Int) (es : List S54) (hl : es.length ≤ 9223372036854775807) (t v : Int) (vo le : List Int) (da : ByteArray) (index : Int) : ∀ (d i k : Nat), i + d = es.length → d < k →
    folkmootref16_Term.l0 k index (i : Int) t v si st vo le da es = some (match (es.drop i).find? (fun e => e.f0 == index) with
      | some e => (e.f1, 0)
      | none => (0, 150)) := by
  intro d
  induction d with
  | zero =>
    intro i k h hk
    obtain ⟨k, rfl⟩ : ∃ m, k = m + 1 := ⟨k - 1, by omega⟩
    simp only [folkmootref16_Term.l0]
    rw [if_neg (by omega), List.drop_of_length_le (by omega)]
    rfl
  | succ d ih =>
    intro i k h hk
    obtain ⟨k, rfl⟩ : ∃ m, k = m + 1 := ⟨k - 1, by omega⟩
    simp only [folkmootref16_Term.l0]
    rw [if_pos (by omega), if_pos (by omega)]
    have hrd : rd_T54 es (i : Int) = es[i] := by simp [rd_T54, List.getElem?_eq_getElem (show i < es.length by omega)]
    rw [hrd, List.drop_eq_getElem_cons (show i < es.length by omega), List.find?_cons]
    have hw : wrap64 ((i : Int) + 1) = ((i + 1 : Nat) : Int) := by unfold wrap64; omega
    by_cases h1 : es[i].f0 = index
    · rw [if_pos h1]
      simp [h1]
    · rw [if_neg h1, hw, ih (i + 1) k (by omega) (by omega)]
      have : (es[i].f0 == index) = false := by simpa using h1
      rw [this]

theorem refTerm_eq (k : Nat) (t v si st : Int) (vo le : List Int) (da : ByteArray) (es : List S54) (index : Int) (hk : es.length + 3 ≤ k) (hs : es.length ≤ 9223372036854775807) (hw : ∀ e ∈ es, entWf e) :
    folkmootref16_Term.f k t v si st vo le da es index = some (if chk si es = true then termR si st es index else (0, 1)) := by
  simp only [folkmootref16_Term.f]
  rw [on_eq k t v si st vo le da es hk]
  simp only [Option.bind_some]
  cases hc : chk si es with
  | false => simp
  | true =>
    simp only [if_true]
    have hn := nums hc hw
    rw [termR_eq hn]
    by_cases h : index = si
    · rw [if_pos h, if_pos h]
    · rw [if_neg h, if_neg h]
      have := refTerm_l si st es hs t v vo le da index es.length 0 k (by omega) (by omega)
      rw [show ((0 : Nat) : Int) = 0 from rfl] at this
      rw [this, List.drop_zero, find_num hn]

theorem terms_true : folkmootlaw16_terms.f = some true := by
  simp only [folkmootlaw16_terms.f, folkmootlaw16_one.f, Option.bind_some, raftlog_Term.f, chk_one, if_true]
  simp [termR, backL]
end Go.Proofs.Ytbjhjimkljbjlaa.PA
