/- Texts put together: HPureSlice. -/
import Derived.Test.YtbjhjimkljbjlaaZMsb
import Derived.Test.YtbjhjimkljbjlaaZMsa
import Derived.Test.YtbjhjimkljbjlaaZMsd
/- Plain laws: copies of logs and parts of them. -/
namespace Go.Proofs.Ytbjhjimkljbjlaa.PA
open Go.RowKit Go.Proofs.YtbjhjimkljbjlaaW.PrintWords Go.Proofs.YtbjhjimkljbjlaaW.PrintLast

theorem config_eq {a b : List Int} (ha : rowSmall a.length) (hb : rowSmall b.length) : folkmootref15_config.f a b = some (a, b) := by
  have ha' : a.length < 17592186044416 := ha
  have hb' : b.length < 17592186044416 := hb
  simp [folkmootref15_config.f, ha', hb']
theorem ownConfig_eq {a b : List Int} (ha : rowSmall a.length) (hb : rowSmall b.length) : raftlog_ownConfig.f a b = some (a, b) := by
  have ha' : a.length < 17592186044416 := ha
  have hb' : b.length < 17592186044416 := hb
  simp [raftlog_ownConfig.f, ha', hb']
theorem entry_eq {e : S54} (h : entSmall e) : folkmootref15_Entry.f e.f0 e.f1 e.f2 e.f3.f0 e.f3.f1 e.f4 = some (e.f0, e.f1, e.f2, e.f3.f0, e.f3.f1, e.f4) := by
  simp [folkmootref15_Entry.f, config_eq h.1 h.2]
theorem own_eq' {e : S54} (h : entSmall e) : raftlog_own.f e.f0 e.f1 e.f2 e.f3.f0 e.f3.f1 e.f4 = some (e.f0, e.f1, e.f2, e.f3.f0, e.f3.f1, e.f4) := by
  simp [raftlog_own.f, ownConfig_eq h.1 h.2]
theorem wrap_succ {i n : Nat} (h : i < n) (hn : n ≤ 9223372036854775807) : wrap64 ((i : Int) + 1) = ((i + 1 : Nat) : Int) := by unfold wrap64; omega
theorem rd_at {es : List S54} {i : Nat} (h : i < es.length) : rd_T54 es (i : Int) = es[i] := by simp [rd_T54, List.getElem?_eq_getElem h]

theorem ownLog_l (es : List S54) (hl : rowFew es.length) (hs : ∀ e ∈ es, entSmall e) (t v si st : Int) (vo le : List Int) (da : ByteArray) (t' v' si' st' : Int) (vo' le' : List Int) (da' : ByteArray) : ∀ (d i k : Nat) (acc : List S54), i + d = es.length → d < k → acc.length = i →
    folkmootref15_Own.l0 k (i : Int) t v si st vo le da es t' v' si' st' vo' le' da' acc = some (t', v', si', st', vo', le', da', acc ++ es.drop i) := by
  intro d
  have hl' : es.length ≤ 1599289640401 := hl
  induction d with
  | zero =>
    intro i k acc h hk ha
    obtain ⟨k, rfl⟩ : ∃ m, k = m + 1 := ⟨k - 1, by omega⟩
    simp only [folkmootref15_Own.l0]
    rw [if_neg (by omega), List.drop_of_length_le (by omega), List.append_nil]
  | succ d ih =>
    intro i k acc h hk ha
    obtain ⟨k, rfl⟩ : ∃ m, k = m + 1 := ⟨k - 1, by omega⟩
    have hi : i < es.length := by omega
    simp only [folkmootref15_Own.l0]
    rw [if_pos (by omega), if_pos (by omega), rd_at hi, entry_eq (hs _ (List.getElem_mem hi)), Option.bind_some, if_pos (by omega), wrap_succ hi (by omega)]
    rw [ih (i + 1) k _ (by omega) (by omega) (by simp [ha])]
    rw [List.drop_eq_getElem_cons hi, List.append_assoc]
    rfl

theorem ownLog_eq (k : Nat) (t v si st : Int) (vo le : List Int) (da : ByteArray) (es : List S54) (hk : es.length < k) (h4 : rowSmall vo.length) (h5 : rowSmall le.length) (h7 : rowFew es.length) (hs : ∀ e ∈ es, entSmall e) :
    folkmootref15_Own.f k t v si st vo le da es = some (t, v, si, st, vo, le, da, es) := by
  simp only [folkmootref15_Own.f, folkmootref15_Snap.f, config_eq h4 h5, Option.bind_some]
  have := ownLog_l es h7 hs t v si st vo le da t v si st vo le da es.length 0 k [] (by omega) hk rfl
  simpa using this

theorem sets_refl (x : List Int) (hx : x.length ≤ 9223372036854775807) : ∀ (d i k : Nat), i + d = x.length → d < k → folkmootref15_sets.l0 k x x (i : Int) = some true := by
  intro d
  induction d with
  | zero =>
    intro i k h hk
    obtain ⟨k, rfl⟩ : ∃ m, k = m + 1 := ⟨k - 1, by omega⟩
    simp only [folkmootref15_sets.l0]
    rw [if_neg (by omega)]
  | succ d ih =>
    intro i k h hk
    obtain ⟨k, rfl⟩ : ∃ m, k = m + 1 := ⟨k - 1, by omega⟩
    simp only [folkmootref15_sets.l0]
    rw [if_pos (by omega), if_pos (by omega), if_pos (by omega), if_pos trivial, wrap_succ (show i < x.length by omega) hx]
    exact ih (i + 1) k (by omega) (by omega)
theorem sets_same (k : Nat) (x : List Int) (hx : rowSmall x.length) (hk : x.length < k) : folkmootref15_sets.f k x x = some true := by
  have hx' : x.length < 17592186044416 := hx
  simp only [folkmootref15_sets.f, if_true]
  exact sets_refl x (by omega) x.length 0 k (by omega) hk
theorem configs_same (k : Nat) (x y : List Int) (hx : rowSmall x.length) (hk : x.length < k) (hy : rowSmall y.length) (hk' : y.length < k) : folkmootref15_Configs.f k x y x y = some true := by
  simp [folkmootref15_Configs.f, sets_same k x hx hk, sets_same k y hy hk']
/-- Every set of an entry is shorter than M. -/
def entIn (M : Nat) (e : S54) : Prop := e.f3.f0.length < M ∧ e.f3.f1.length < M
theorem entries_same (k : Nat) (e : S54) (h : entSmall e) (hk : entIn k e) : folkmootref15_Entries.f k e.f0 e.f1 e.f2 e.f3.f0 e.f3.f1 e.f4 e.f0 e.f1 e.f2 e.f3.f0 e.f3.f1 e.f4 = some true := by
  simp [folkmootref15_Entries.f, configs_same k _ _ h.1 hk.1 h.2 hk.2]
theorem entIn_le {M N : Nat} (h : M ≤ N) {e : S54} (he : entIn M e) : entIn N e := ⟨Nat.lt_of_lt_of_le he.1 h, Nat.lt_of_lt_of_le he.2 h⟩
theorem entIn_all (es : List S54) : ∃ M, ∀ e ∈ es, entIn M e := by
  induction es with
  | nil => exact ⟨0, fun e h => by cases h⟩
  | cons a es ih =>
    obtain ⟨M, hM⟩ := ih
    refine ⟨M + a.f3.f0.length + a.f3.f1.length + 1, fun e he => ?_⟩
    rcases List.mem_cons.1 he with rfl | he
    · exact ⟨by omega, by omega⟩
    · exact entIn_le (by omega) (hM e he)

theorem rows_l (es : List S54) (hl : rowFew es.length) (hs : ∀ e ∈ es, entSmall e) (M : Nat) (hM : ∀ e ∈ es, entIn M e) : ∀ (d i k : Nat), i + d = es.length → d + M < k → folkmootref16_Rows.l0 k es es (i : Int) = some true := by
  intro d
  have hl' : es.length ≤ 1599289640401 := hl
  induction d with
  | zero =>
    intro i k h hk
    obtain ⟨k, rfl⟩ : ∃ m, k = m + 1 := ⟨k - 1, by omega⟩
    simp only [folkmootref16_Rows.l0]
    rw [if_neg (by omega)]
  | succ d ih =>
    intro i k h hk
    obtain ⟨k, rfl⟩ : ∃ m, k = m + 1 := ⟨k - 1, by omega⟩
    have hi : i < es.length := by omega
    simp only [folkmootref16_Rows.l0]
    rw [if_pos (by omega), if_pos (by omega), if_pos (by omega), rd_at hi, entries_same k _ (hs _ (List.getElem_mem hi)) (entIn_le (by omega) (hM _ (List.getElem_mem hi))), Option.bind_some, if_pos rfl, wrap_succ hi (by omega)]
    exact ih (i + 1) k (by omega) (by omega)
theorem rows_same (k : Nat) (es : List S54) (hl : rowFew es.length) (hs : ∀ e ∈ es, entSmall e) (M : Nat) (hM : ∀ e ∈ es, entIn M e) (hk : es.length + M < k) : folkmootref16_Rows.f k es es = some true := by
  simp only [folkmootref16_Rows.f, if_true]
  exact rows_l es hl hs M hM es.length 0 k (by omega) hk

theorem same_l (es : List S54) (hl : rowFew es.length) (hs : ∀ e ∈ es, entSmall e) (M : Nat) (hM : ∀ e ∈ es, entIn M e) (t v si st : Int) (vo le : List Int) (da : ByteArray) (t' v' si' st' : Int) (vo' le' : List Int) (da' : ByteArray) :
    ∀ (d i k : Nat), i + d = es.length → d + M < k → folkmootref15_Same.l0 k (i : Int) t v si st vo le da es t' v' si' st' vo' le' da' es = some true := by
  intro d
  have hl' : es.length ≤ 1599289640401 := hl
  induction d with
  | zero =>
    intro i k h hk
    obtain ⟨k, rfl⟩ : ∃ m, k = m + 1 := ⟨k - 1, by omega⟩
    simp only [folkmootref15_Same.l0]
    rw [if_neg (by omega)]
  | succ d ih =>
    intro i k h hk
    obtain ⟨k, rfl⟩ : ∃ m, k = m + 1 := ⟨k - 1, by omega⟩
    have hi : i < es.length := by omega
    simp only [folkmootref15_Same.l0]
    rw [if_pos (by omega), if_pos (by omega), if_pos (by omega), rd_at hi, entries_same k _ (hs _ (List.getElem_mem hi)) (entIn_le (by omega) (hM _ (List.getElem_mem hi))), Option.bind_some, if_pos rfl, wrap_succ hi (by omega)]
    exact ih (i + 1) k (by omega) (by omega)
theorem same_eq (k : Nat) (t v si st : Int) (vo le : List Int) (da : ByteArray) (es : List S54) (h4 : rowSmall vo.length) (h5 : rowSmall le.length) (hl : rowFew es.length) (hs : ∀ e ∈ es, entSmall e) (M : Nat) (hM : ∀ e ∈ es, entIn M e) (hk : es.length + M + 1 < k) (hk4 : vo.length < k) (hk5 : le.length < k) :
    folkmootref15_Same.f k t v si st vo le da es t v si st vo le da es = some true := by
  obtain ⟨k', rfl⟩ : ∃ m, k = m + 1 := ⟨k - 1, by omega⟩
  have e1 : folkmootref15_Snaps.f (k' + 1) si st vo le da si st vo le da = some true := by
    simp [folkmootref15_Snaps.f, configs_same (k' + 1) vo le h4 hk4 h5 hk5]
  simp only [folkmootref15_Same.f, if_true, e1, Option.bind_some, folkmootref15_Same.j0, bne_self_eq_false, Bool.false_eq_true, if_false]
  exact same_l es hl hs M hM t v si st vo le da t v si st vo le da es.length 0 k' (by omega) (by omega)

/-- What the program's Slice answers. -/
def sliceR (si st : Int) (es : List S54) (a1 a2 : Int) : List S54 × Int :=
  if chk si es = true then (if a1 ≤ si ∨ a1 - 1 > (lastP si st es).1 then ([], 150) else ((es.drop (a1 - 1 - si).toNat).take a2.toNat, 0)) else ([], 1)

theorem slice_l (y : List S54) (hl : rowFew y.length) (hs : ∀ e ∈ y, entSmall e) (a2 : Int) : ∀ (d i k : Nat) (acc : List S54), i + d = y.length → d < k → acc.length ≤ i →
    raftlog_Slice.l0 k a2 acc y (y.length : Int) (i : Int) = some (acc ++ (y.drop i).take (a2 - acc.length).toNat, 0) := by
  intro d
  have hl' : y.length ≤ 1599289640401 := hl
  induction d with
  | zero =>
    intro i k acc h hk ha
    obtain ⟨k, rfl⟩ : ∃ m, k = m + 1 := ⟨k - 1, by omega⟩
    simp only [raftlog_Slice.l0]
    rw [if_neg (by omega), List.drop_of_length_le (by omega)]
    simp
  | succ d ih =>
    intro i k acc h hk ha
    obtain ⟨k, rfl⟩ : ∃ m, k = m + 1 := ⟨k - 1, by omega⟩
    have hi : i < y.length := by omega
    simp only [raftlog_Slice.l0]
    rw [if_pos (by omega), if_pos (by omega), if_pos (by omega)]
    by_cases h1 : (acc.length : Int) ≥ a2
    · rw [if_pos h1]
      have : (a2 - acc.length).toNat = 0 := by omega
      rw [this]
      simp
    · rw [if_neg h1, rd_at hi, own_eq' (hs _ (List.getElem_mem hi)), Option.bind_some, if_pos (by omega), wrap_succ hi (by omega)]
      rw [ih (i + 1) k _ (by omega) (by omega) (by simp; omega)]
      rw [List.drop_eq_getElem_cons hi]
      obtain ⟨n, hn⟩ : ∃ n, (a2 - (acc.length : Int)).toNat = n + 1 := ⟨(a2 - (acc.length : Int)).toNat - 1, by omega⟩
      have hn' : (a2 - ((acc ++ [(⟨y[i].f0, y[i].f1, y[i].f2, (⟨y[i].f3.f0, y[i].f3.f1⟩ : S25), y[i].f4⟩ : S54)]).length : Int)).toNat = n := by simp; omega
      rw [hn, hn', List.take_succ_cons, List.append_assoc]
      rfl

theorem refSlice_l (y : List S54) (hl : rowFew y.length) (hs : ∀ e ∈ y, entSmall e) (t v si st : Int) (vo le : List Int) (da : ByteArray) (a1 a2 : Int) : ∀ (d i k : Nat) (acc : List S54), i + d = y.length → d < k → acc.length ≤ i →
    folkmootref16_Slice.l0 k a1 a2 acc (i : Int) t v si st vo le da y = some (acc ++ ((y.drop i).filter (fun e => decide (a1 ≤ e.f0))).take (a2 - acc.length).toNat, 0) := by
  intro d
  have hl' : y.length ≤ 1599289640401 := hl
  induction d with
  | zero =>
    intro i k acc h hk ha
    obtain ⟨k, rfl⟩ : ∃ m, k = m + 1 := ⟨k - 1, by omega⟩
    simp only [folkmootref16_Slice.l0]
    rw [if_neg (by omega), List.drop_of_length_le (by omega)]
    simp
  | succ d ih =>
    intro i k acc h hk ha
    obtain ⟨k, rfl⟩ : ∃ m, k = m + 1 := ⟨k - 1, by omega⟩
    have hi : i < y.length := by omega
    simp only [folkmootref16_Slice.l0]
    rw [if_pos (by omega), if_pos (by omega), rd_at hi, List.drop_eq_getElem_cons hi, List.filter_cons]
    by_cases h0 : y[i].f0 ≥ a1
    · have h0' : decide (a1 ≤ y[i].f0) = true := decide_eq_true h0
      rw [if_pos h0, if_pos h0']
      by_cases h1 : (acc.length : Int) < a2
      · rw [if_pos h1, entry_eq (hs _ (List.getElem_mem hi)), Option.bind_some, if_pos (by omega), wrap_succ hi (by omega)]
        rw [ih (i + 1) k _ (by omega) (by omega) (by simp; omega)]
        obtain ⟨n, hn⟩ : ∃ n, (a2 - (acc.length : Int)).toNat = n + 1 := ⟨(a2 - (acc.length : Int)).toNat - 1, by omega⟩
        have hn' : (a2 - ((acc ++ [(⟨y[i].f0, y[i].f1, y[i].f2, (⟨y[i].f3.f0, y[i].f3.f1⟩ : S25), y[i].f4⟩ : S54)]).length : Int)).toNat = n := by simp; omega
        rw [hn, hn', List.take_succ_cons, List.append_assoc]
        rfl
      · rw [if_neg h1, wrap_succ hi (by omega), ih (i + 1) k _ (by omega) (by omega) (by omega)]
        have : (a2 - (acc.length : Int)).toNat = 0 := by omega
        rw [this]
        simp
    · have h0' : ¬ decide (a1 ≤ y[i].f0) = true := by simpa using h0
      rw [if_neg h0, if_neg h0', wrap_succ hi (by omega), ih (i + 1) k _ (by omega) (by omega) (by omega)]

theorem filter_num {si : Int} {es : List S54} (hn : ∀ (j : Nat) (h : j < es.length), es[j].f0 = si + 1 + j) (a1 : Int) (h : si < a1) : es.filter (fun e => decide (a1 ≤ e.f0)) = es.drop (a1 - 1 - si).toNat := by
  obtain ⟨n, hnn⟩ : ∃ n, (a1 - 1 - si).toNat = n := ⟨_, rfl⟩
  rw [hnn]
  conv => lhs; rw [← List.take_append_drop n es]
  rw [List.filter_append]
  have e1 : (es.take n).filter (fun e => decide (a1 ≤ e.f0)) = [] := by
    rw [List.filter_eq_nil_iff]
    intro e he
    obtain ⟨j, hj, rfl⟩ := List.getElem_of_mem he
    rw [List.getElem_take, hn j (by simp at hj; omega)]
    simp at hj ⊢
    omega
  have e2 : (es.drop n).filter (fun e => decide (a1 ≤ e.f0)) = es.drop n := by
    rw [List.filter_eq_self]
    intro e he
    obtain ⟨j, hj, rfl⟩ := List.getElem_of_mem he
    rw [List.getElem_drop, hn (n + j) (by simp at hj; omega)]
    simp at hj ⊢
    omega
  rw [e1, e2, List.nil_append]

theorem last_num {si st : Int} {es : List S54} (hn : ∀ (j : Nat) (h : j < es.length), es[j].f0 = si + 1 + j) : (lastP si st es).1 = si + es.length := by
  unfold lastP
  rcases Nat.eq_zero_or_pos es.length with h0 | h0
  · obtain rfl : es = [] := List.eq_nil_of_length_eq_zero h0
    simp
  · rw [List.getLast?_eq_getElem?, List.getElem?_eq_getElem (show es.length - 1 < es.length by omega)]
    show (es[es.length - 1]).f0 = _
    rw [hn]
    omega

theorem slice_eq (k : Nat) (t v si st : Int) (vo le : List Int) (da : ByteArray) (es : List S54) (a1 a2 : Int) (hk : es.length + 3 ≤ k) (hl : rowFew es.length) (hw : ∀ e ∈ es, entWf e) (hs : ∀ e ∈ es, entSmall e) (hsi : wf64 si) (h1 : wf64 a1) :
    raftlog_Slice.f k t v si st vo le da es a1 a2 = some (sliceR si st es a1 a2) := by
  have hl' : es.length ≤ 1599289640401 := hl
  have b1 := bounds_i64 h1
  have b2 := bounds_i64 hsi
  simp only [raftlog_Slice.f, check_eq k t v si st vo le da es hk, raftlog_Last.f, Option.bind_some, sliceR]
  obtain ⟨k, rfl⟩ : ∃ m, k = m + 1 := ⟨k - 1, by omega⟩
  cases hc : chk si es with
  | false => simp
  | true =>
    simp only [if_true, raftlog_Slice.j0]
    have hn := log_nums hc hw
    have hsi0 := chk_si hc
    rw [last_num hn]
    by_cases c1 : a1 ≤ si
    · rw [if_pos c1, if_pos (Or.inl c1)]
    · rw [if_neg c1]
      have e1 : wrap64 (a1 - 1) = a1 - 1 := by unfold wrap64; omega
      have e2 : wrap64 (a1 - 1 - si) = a1 - 1 - si := by unfold wrap64; omega
      rw [e1, e2]
      by_cases c2 : a1 - 1 > si + es.length
      · rw [if_pos (decide_eq_true c2), if_pos (Or.inr c2)]
      · rw [if_neg (by simpa using c2), if_pos (by omega), if_pos (by omega), if_neg (by omega)]
        rw [Option.bind_some]
        have := slice_l (es.drop (a1 - 1 - si).toNat) (show _ ≤ 1599289640401 by simp; omega) (fun e he => hs e (List.mem_of_mem_drop he)) a2 (es.drop (a1 - 1 - si).toNat).length 0 k [] (by omega) (by simp; omega) (by simp)
        simpa using this

theorem refSlice_eq (k : Nat) (t v si st : Int) (vo le : List Int) (da : ByteArray) (es : List S54) (a1 a2 : Int) (hk : es.length + 3 ≤ k) (hl : rowFew es.length) (hw : ∀ e ∈ es, entWf e) (hs : ∀ e ∈ es, entSmall e) (hsi : wf64 si) (h1 : wf64 a1) :
    folkmootref16_Slice.f k t v si st vo le da es a1 a2 = some (sliceR si st es a1 a2) := by
  have hl' : es.length ≤ 1599289640401 := hl
  have b1 := bounds_i64 h1
  have b2 := bounds_i64 hsi
  simp only [folkmootref16_Slice.f, on_eq k t v si st vo le da es hk, refLast_eq k t v si st vo le da es hk (by omega), Option.bind_some, sliceR]
  obtain ⟨k, rfl⟩ : ∃ m, k = m + 1 := ⟨k - 1, by omega⟩
  cases hc : chk si es with
  | false => simp
  | true =>
    simp only [if_true, folkmootref16_Slice.j0]
    have hn := log_nums hc hw
    have hsi0 := chk_si hc
    rw [last_num hn]
    by_cases c1 : a1 ≤ si
    · rw [if_pos c1, if_pos (Or.inl c1)]
    · rw [if_neg c1]
      have e1 : wrap64 (a1 - 1) = a1 - 1 := by unfold wrap64; omega
      rw [e1]
      by_cases c2 : a1 - 1 > si + es.length
      · rw [if_pos (decide_eq_true c2), if_pos (Or.inr c2)]
      · rw [if_neg (by simpa using c2), if_neg (by omega)]
        have := refSlice_l es hl hs t v si st vo le da a1 a2 es.length 0 k [] (by omega) (by omega) (by simp)
        rw [show ((0 : Nat) : Int) = 0 from rfl] at this
        rw [this, List.drop_zero, filter_num hn a1 (by omega)]
        simp

theorem sliceR_mem {si st : Int} {es : List S54} {a1 a2 : Int} : (sliceR si st es a1 a2).1.length ≤ es.length ∧ ∀ e ∈ (sliceR si st es a1 a2).1, e ∈ es := by
  unfold sliceR
  split
  · split
    · exact ⟨by simp, fun e h => by cases h⟩
    · exact ⟨by simp; omega, fun e h => List.mem_of_mem_drop (List.mem_of_mem_take h)⟩
  · exact ⟨by simp, fun e h => by cases h⟩

/-- The law's own log. -/
def one16 : List S54 := [(⟨3, 1, 0, (⟨([] : List Int), ([] : List Int)⟩ : S25), (⟨#[]⟩ : ByteArray)⟩ : S54), (⟨4, 2, 0, (⟨([] : List Int), ([] : List Int)⟩ : S25), (⟨#[]⟩ : ByteArray)⟩ : S54)]
theorem one16_ok : ∀ e ∈ one16, entWf e ∧ entSmall e := by
  intro e he
  simp only [one16, List.mem_cons, List.not_mem_nil, or_false] at he
  rcases he with rfl | rfl <;> exact ⟨⟨by decide, by decide, by decide⟩, ⟨show (0 : Nat) < _ by decide, show (0 : Nat) < _ by decide⟩⟩
theorem slices_true (k : Nat) (hk : 8 ≤ k) : folkmootlaw16_slices.f k = some true := by
  have h := fun (a1 a2 : Int) (h1 : wf64 a1) => slice_eq k 0 0 2 1 [] [] ⟨#[]⟩ one16 a1 a2 (show 2 + 3 ≤ k by omega) (show (2 : Nat) ≤ 1599289640401 by decide) (fun e he => (one16_ok e he).1) (fun e he => (one16_ok e he).2) (show (Lit.int .i64 2).wf = true by decide) h1
  have h4 := h 4 5 (show (Lit.int .i64 4).wf = true by decide)
  have h2 := h 2 5 (show (Lit.int .i64 2).wf = true by decide)
  unfold one16 at h4 h2
  simp only [folkmootlaw16_slices.f, folkmootlaw16_one.f, Option.bind_some]
  rw [h4, h2]
  simp [sliceR, chk_one, lastP, rd_T54]

theorem law6 (t v si st : Int) (A4 : Option Addr) (c4 : Nat) (l4 : List Int) (A5 : Option Addr) (c5 : Nat) (l5 : List Int) (da : ByteArray) (A7 : Option Addr) (c7 : Nat) (l7 : List S54) (a1 a2 : Int) (w : World) (hL : LogIs w A4 c4 l4 A5 c5 l5 A7 c7 l7)
    (hw : wf64 si ∧ wf64 st ∧ ∀ e ∈ l7, entWf e) (h4 : rowSmall l4.length) (h5 : rowSmall l5.length) (h7 : rowFew l7.length) (hs : ∀ e ∈ l7, entSmall e) (h1 : wf64 a1) :
    Calls Try.prog 6 #[.agg #[.int .i64 t, .int .i64 v, .int .i64 si, .int .i64 st, .slice A4 l4.length c4, .slice A5 l5.length c5, .string da, .slice A7 l7.length c7], .int .i64 a1, .int .i64 a2] w fun e w' => e = .returned (.bool true) ∧ Below w.heap.size w w' := by
  obtain ⟨M, hM⟩ := entIn_all l7
  obtain ⟨k, hk⟩ : ∃ k, k = l7.length + M + l4.length + l5.length + 10 := ⟨_, rfl⟩
  have hl' : l7.length ≤ 1599289640401 := h7
  obtain ⟨b, hb⟩ := large_some k t v si st l4 l5 da l7 [] (by omega) (by simp) (by simp; omega)
  cases b with
  | true => exact lawSlice_large t v si st A4 c4 l4 A5 c5 l5 da A7 c7 l7 a1 a2 w hL k hb
  | false =>
    obtain ⟨m1, m2⟩ := @sliceR_mem si st l7 a1 a2
    exact lawSlice_small t v si st A4 c4 l4 A5 c5 l5 da A7 c7 l7 a1 a2 w hL k (sliceR si st l7 a1 a2).1 (sliceR si st l7 a1 a2).2 hb (ownLog_eq k t v si st l4 l5 da l7 (by omega) h4 h5 h7 hs)
      (slice_eq k t v si st l4 l5 da l7 a1 a2 (by omega) h7 hw.2.2 hs hw.1 h1) (refSlice_eq k t v si st l4 l5 da l7 a1 a2 (by omega) h7 hw.2.2 hs hw.1 h1)
      (rows_same k _ (Nat.le_trans m1 hl') (fun e he => hs e (m2 e he)) M (fun e he => hM e (m2 e he)) (by omega)) (slices_true k (by omega)) (same_eq k t v si st l4 l5 da l7 h4 h5 h7 hs M hM (by omega) (by omega) (by omega))
end Go.Proofs.Ytbjhjimkljbjlaa.PA
