/- Plain laws of the log. -/
import Derived.Test.YtbjhjimkljbjlaaHChk
import Derived.Test.YtbjhjimkljbjlaaPAx1
import Derived.Test.YtbjhjimkljbjlaaPAx4
import Derived.Test.YtbjhjimkljbjlaaPAx5
namespace Go.Proofs.Ytbjhjimkljbjlaa.PA
open Go.RowKit Go.Proofs.YtbjhjimkljbjlaaW.PrintWords Go.Proofs.YtbjhjimkljbjlaaW.PrintLast

theorem large_l1 (l : List S54) (hl : l.length ≤ 9223372036854775807) : ∀ (d i k : Nat) (n : Int), i + d = l.length → d < k → ∃ b, folkmootlaw16_large.l1 k l n (i : Int) = some b := by
  intro d
  induction d with
  | zero =>
    intro i k n h hk
    obtain ⟨k, rfl⟩ : ∃ m, k = m + 1 := ⟨k - 1, by omega⟩
    simp only [folkmootlaw16_large.l1]
    rw [if_neg (by omega)]
    exact ⟨_, rfl⟩
  | succ d ih =>
    intro i k n h hk
    obtain ⟨k, rfl⟩ : ∃ m, k = m + 1 := ⟨k - 1, by omega⟩
    simp only [folkmootlaw16_large.l1]
    rw [if_pos (by omega)]
    by_cases h1 : n ≤ 3000
    · rw [if_pos h1, if_pos (by omega)]
      have hw : wrap64 ((i : Int) + 1) = ((i + 1 : Nat) : Int) := by unfold wrap64; omega
      rw [hw]
      exact ih (i + 1) k _ (by omega) (by omega)
    · rw [if_neg h1]; exact ⟨_, rfl⟩

theorem large_l0 (l : List S54) (hl : l.length ≤ 9223372036854775807) (t v si st : Int) (vo le : List Int) (da : ByteArray) (es : List S54) (he : es.length ≤ 9223372036854775807) :
    ∀ (d i k : Nat) (n : Int), i + d = es.length → d + l.length + 2 < k → ∃ b, folkmootlaw16_large.l0 k l n (i : Int) t v si st vo le da es = some b := by
  intro d
  induction d with
  | zero =>
    intro i k n h hk
    obtain ⟨k, rfl⟩ : ∃ m, k = m + 2 := ⟨k - 2, by omega⟩
    simp only [folkmootlaw16_large.l0]
    rw [if_neg (by omega)]
    simp only [folkmootlaw16_large.j1]
    exact large_l1 l hl l.length 0 k _ (by omega) (by omega)
  | succ d ih =>
    intro i k n h hk
    obtain ⟨k, rfl⟩ : ∃ m, k = m + 2 := ⟨k - 2, by omega⟩
    rw [folkmootlaw16_large.l0]
    rw [if_pos (by omega)]
    by_cases h1 : n ≤ 3000
    · rw [if_pos h1, if_pos (by omega)]
      have hw : wrap64 ((i : Int) + 1) = ((i + 1 : Nat) : Int) := by unfold wrap64; omega
      rw [hw]
      exact ih (i + 1) (k + 1) _ (by omega) (by omega)
    · rw [if_neg h1]
      simp only [folkmootlaw16_large.j1]
      exact large_l1 l hl l.length 0 k _ (by omega) (by omega)

theorem large_some (k : Nat) (t v si st : Int) (vo le : List Int) (da : ByteArray) (es l : List S54) (he : es.length ≤ 9223372036854775807) (hl : l.length ≤ 9223372036854775807) (hk : es.length + l.length + 3 ≤ k) :
    ∃ b, folkmootlaw16_large.f k t v si st vo le da es l = some b := by
  simp only [folkmootlaw16_large.f]
  have := large_l0 l hl t v si st vo le da es he es.length 0 k (wrap64 ((wrap64 ((wrap64 ((es.length : Int) + (l.length : Int))) + (vo.length : Int))) + (le.length : Int))) (by omega) (by omega)
  exact this

theorem refLast_eq (k : Nat) (t v si st : Int) (vo le : List Int) (da : ByteArray) (es : List S54) (hk : es.length + 3 ≤ k) (hs : es.length ≤ 9223372036854775807) :
    folkmootref16_Last.f k t v si st vo le da es = some (if chk si es = true then lastP si st es else (0, 0)) := by
  simp only [folkmootref16_Last.f]
  rw [on_eq k t v si st vo le da es hk]
  simp only [Option.bind_some]
  cases hc : chk si es with
  | false => simp
  | true =>
    simp only [if_true]
    by_cases h0 : es.length = 0
    · have : es = [] := List.eq_nil_of_length_eq_zero h0
      subst this
      simp [lastP]
    · have hw : wrap64 ((es.length : Int) - 1) = ((es.length - 1 : Nat) : Int) := by unfold wrap64; omega
      rw [if_neg (by omega), hw, if_pos (by omega), if_pos (by omega)]
      have hg : es.getLast? = some (es.getD (es.length - 1) z54) := by
        rw [List.getLast?_eq_getElem?, List.getD_eq_getElem?_getD, List.getElem?_eq_getElem (by omega)]
        rfl
      simp [lastP, hg, rd_T54]

theorem chk_one : chk 2 [(⟨3, 1, 0, (⟨([] : List Int), ([] : List Int)⟩ : S25), (⟨#[]⟩ : ByteArray)⟩ : S54), (⟨4, 2, 0, (⟨([] : List Int), ([] : List Int)⟩ : S25), (⟨#[]⟩ : ByteArray)⟩ : S54)] = true := by simp [chk, okFrom, okAt, wrap64]
end Go.Proofs.Ytbjhjimkljbjlaa.PA
