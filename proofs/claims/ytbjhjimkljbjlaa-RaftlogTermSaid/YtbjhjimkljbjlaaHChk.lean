/- Plain laws: what Check and On compute. -/
import Derived.Test.YtbjhjimkljbjlaaPAx2
import Derived.Test.YtbjhjimkljbjlaaPAx3
namespace Go.Proofs.Ytbjhjimkljbjlaa.PA
open Go.RowKit Go.Proofs.YtbjhjimkljbjlaaW.PrintWords Go.Proofs.YtbjhjimkljbjlaaW.PrintLast

def okAt (si : Int) (es : List S54) (i : Nat) : Bool := decide (1 ≤ (es.getD i z54).f0) && decide (wrap64 (wrap64 ((es.getD i z54).f0 - 1) - i) = si)
def okFrom (si : Int) (es : List S54) : Nat → Nat → Bool
  | 0, _ => true
  | d + 1, i => okAt si es i && okFrom si es d (i + 1)
def chk (si : Int) (es : List S54) : Bool := decide (0 ≤ si) && decide (es.length ≤ 10000) && okFrom si es es.length 0

theorem okFrom_all (si : Int) (es : List S54) : ∀ d i, okFrom si es d i = true → ∀ j, i ≤ j → j < i + d → okAt si es j = true := by
  intro d
  induction d with
  | zero => intro i _ j h1 h2; omega
  | succ d ih =>
    intro i h j h1 h2
    simp only [okFrom, Bool.and_eq_true] at h
    rcases Nat.eq_or_lt_of_le h1 with e | h3
    · subst e; exact h.1
    · exact ih (i + 1) h.2 j h3 (by omega)
theorem okFrom_of (si : Int) (es : List S54) : ∀ d i, (∀ j, i ≤ j → j < i + d → okAt si es j = true) → okFrom si es d i = true := by
  intro d
  induction d with
  | zero => intro i _; rfl
  | succ d ih =>
    intro i h
    simp only [okFrom, Bool.and_eq_true]
    exact ⟨h i (Nat.le_refl _) (by omega), ih (i + 1) (fun j h1 h2 => h j (by omega) (by omega))⟩

theorem check_l (si : Int) (es : List S54) (hl : es.length ≤ 10000) (t v st : Int) (vo le : List Int) (da : ByteArray) : ∀ (d i k : Nat), i + d = es.length → d < k →
    raftlog_Check.l0 k es (es.length : Int) (i : Int) t v si st vo le da es = some (if okFrom si es d i = true then 0 else 1) := by
  intro d
  induction d with
  | zero =>
    intro i k h hk
    obtain ⟨k, rfl⟩ : ∃ m, k = m + 1 := ⟨k - 1, by omega⟩
    simp only [raftlog_Check.l0]
    rw [if_neg (by omega)]
    rfl
  | succ d ih =>
    intro i k h hk
    obtain ⟨k, rfl⟩ : ∃ m, k = m + 1 := ⟨k - 1, by omega⟩
    simp only [raftlog_Check.l0]
    rw [if_pos (by omega), if_pos (by omega), if_pos (by omega)]
    have hrd : rd_T54 es (i : Int) = es.getD i z54 := by simp [rd_T54]
    rw [hrd]
    have hw : wrap64 ((i : Int) + 1) = ((i + 1 : Nat) : Int) := by unfold wrap64; omega
    by_cases h1 : (es.getD i z54).f0 < 1
    · rw [if_pos h1]
      have : okAt si es i = false := by simp only [okAt, Bool.and_eq_false_iff, decide_eq_false_iff_not]; left; omega
      simp [okFrom, this]
    · rw [if_neg h1]
      by_cases h2 : wrap64 (wrap64 ((es.getD i z54).f0 - 1) - i) = si
      · rw [if_pos h2, hw, ih (i + 1) k (by omega) (by omega)]
        have : okAt si es i = true := by simp only [okAt, Bool.and_eq_true, decide_eq_true_eq]; exact ⟨by omega, h2⟩
        simp [okFrom, this]
      · rw [if_neg h2]
        have : okAt si es i = false := by simp only [okAt, Bool.and_eq_false_iff, decide_eq_false_iff_not]; right; exact h2
        simp [okFrom, this]

theorem check_eq (k : Nat) (t v si st : Int) (vo le : List Int) (da : ByteArray) (es : List S54) (hk : es.length + 3 ≤ k) :
    raftlog_Check.f k t v si st vo le da es = some (if chk si es = true then 0 else 1) := by
  obtain ⟨k, rfl⟩ : ∃ m, k = m + 1 := ⟨k - 1, by omega⟩
  simp only [raftlog_Check.f, raftlog_Check.j0]
  by_cases h1 : si < 0
  · rw [if_pos h1]
    have : chk si es = false := by simp [chk]; omega
    simp [this]
  · rw [if_neg h1]
    by_cases h2 : (es.length : Int) > 10000
    · have : chk si es = false := by simp [chk]; omega
      simp [this, h2]
    · have hl : es.length ≤ 10000 := by omega
      rw [if_neg (by simpa using h2)]
      have := check_l si es hl t v st vo le da es.length 0 k (by omega) (by omega)
      rw [show ((0 : Nat) : Int) = 0 from rfl] at this
      rw [this]
      have h3 : chk si es = okFrom si es es.length 0 := by simp [chk, hl]; omega
      rw [h3]

theorem on_l (si : Int) (es : List S54) (hl : es.length ≤ 10000) (t v st : Int) (vo le : List Int) (da : ByteArray) : ∀ (d i k : Nat), i + d = es.length → d < k →
    folkmootref16_On.l0 k (i : Int) t v si st vo le da es = some (okFrom si es d i) := by
  intro d
  induction d with
  | zero =>
    intro i k h hk
    obtain ⟨k, rfl⟩ : ∃ m, k = m + 1 := ⟨k - 1, by omega⟩
    simp only [folkmootref16_On.l0]
    rw [if_neg (by omega)]
    rfl
  | succ d ih =>
    intro i k h hk
    obtain ⟨k, rfl⟩ : ∃ m, k = m + 1 := ⟨k - 1, by omega⟩
    simp only [folkmootref16_On.l0]
    rw [if_pos (by omega), if_pos (by omega)]
    have hrd : rd_T54 es (i : Int) = es.getD i z54 := by simp [rd_T54]
    rw [hrd]
    have hw : wrap64 ((i : Int) + 1) = ((i + 1 : Nat) : Int) := by unfold wrap64; omega
    by_cases h1 : (es.getD i z54).f0 < 1
    · rw [if_pos h1]
      have : okAt si es i = false := by simp only [okAt, Bool.and_eq_false_iff, decide_eq_false_iff_not]; left; omega
      simp [okFrom, this]
    · rw [if_neg h1]
      by_cases h2 : wrap64 (wrap64 ((es.getD i z54).f0 - 1) - i) = si
      · rw [if_pos h2, hw, ih (i + 1) k (by omega) (by omega)]
        have : okAt si es i = true := by simp only [okAt, Bool.and_eq_true, decide_eq_true_eq]; exact ⟨by omega, h2⟩
        simp [okFrom, this]
      · rw [if_neg h2]
        have : okAt si es i = false := by simp only [okAt, Bool.and_eq_false_iff, decide_eq_false_iff_not]; right; exact h2
        simp [okFrom, this]

theorem on_eq (k : Nat) (t v si st : Int) (vo le : List Int) (da : ByteArray) (es : List S54) (hk : es.length + 3 ≤ k) :
    folkmootref16_On.f k t v si st vo le da es = some (chk si es) := by
  obtain ⟨k, rfl⟩ : ∃ m, k = m + 1 := ⟨k - 1, by omega⟩
  simp only [folkmootref16_On.f, folkmootref16_On.j0]
  by_cases h1 : si < 0
  · rw [if_pos h1]
    have : chk si es = false := by simp [chk]; omega
    simp [this]
  · rw [if_neg h1]
    by_cases h2 : (es.length : Int) > 10000
    · have : chk si es = false := by simp [chk]; omega
      simp [this, h2]
    · have hl : es.length ≤ 10000 := by omega
      rw [if_neg (by simpa using h2)]
      have := on_l si es hl t v st vo le da es.length 0 k (by omega) (by omega)
      rw [show ((0 : Nat) : Int) = 0 from rfl] at this
      rw [this]
      have h3 : chk si es = okFrom si es es.length 0 := by simp [chk, hl]; omega
      rw [h3]

/-- The last number and term. -/
def lastP (si st : Int) (es : List S54) : Int × Int := match es.getLast? with
  | some e => (e.f0, e.f1)
  | none => (si, st)
def raftlog_Last.f (_t _v si st : Int) (_vo _le : List Int) (_da : ByteArray) (es : List S54) : Option (Int × Int) := some (if chk si es = true then lastP si st es else (0, 0))
/-- The numbers and terms from the last one on, then the snapshot's; the term of a number. -/
def backL (si st : Int) (es : List S54) : List (Int × Int) := (es.reverse.map fun e => (e.f0, e.f1)) ++ [(si, st)]
def termR (si st : Int) (es : List S54) (index : Int) : Int × Int := match (backL si st es).find? (fun x => x.1 == index) with
  | some x => (x.2, 0)
  | none => (0, 150)
def raftlog_Term.f (_t _v si st : Int) (_vo _le : List Int) (_da : ByteArray) (es : List S54) (index : Int) : Option (Int × Int) :=
  some (if chk si es = true then termR si st es index else (0, 1))
end Go.Proofs.Ytbjhjimkljbjlaa.PA
