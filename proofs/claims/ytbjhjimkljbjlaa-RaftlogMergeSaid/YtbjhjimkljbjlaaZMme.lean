/- Texts put together: HPureSlice, HIndex, HMerge, HRecord, HRecords. -/
import Derived.Test.YtbjhjimkljbjlaaZMmb
import Derived.Test.YtbjhjimkljbjlaaZMma
import Derived.Test.YtbjhjimkljbjlaaZMmd
import Derived.Outline
import Derived.Lib.Hide
import Derived.Test.YtbjhjimkljbjlaaZMmc
/- Plain laws: copies of logs and parts of them. -/
namespace Go.Proofs.Ytbjhjimkljbjlaa.PA
open Go.RowKit Go.Proofs.YtbjhjimkljbjlaaW.PrintWords Go.Proofs.YtbjhjimkljbjlaaW.PrintLast

theorem config_eq {a b : List Int} (ha : rowSmall a.length) (hb : rowSmall b.length) : folkmootref15_config.f a b = some (a, b) := by
  have ha' : a.length < 17592186044416 := ha
  have hb' : b.length < 17592186044416 := hb
  simp [folkmootref15_config.f, ha', hb']
theorem ownConfig_eq {a b : List Int} (ha : rowSmall a.length) (hb : rowSmall b.length) : raftlog_ownConfig.f a b = some (a, b) := by
  have ha' : a.length < 17592186044416 := ha
  have hb' : b.length < 17592186044416 := hb
  simp [raftlog_ownConfig.f, ha', hb']
theorem entry_eq {e : S54} (h : entSmall e) : folkmootref15_Entry.f e.f0 e.f1 e.f2 e.f3.f0 e.f3.f1 e.f4 = some (e.f0, e.f1, e.f2, e.f3.f0, e.f3.f1, e.f4) := by
  simp [folkmootref15_Entry.f, config_eq h.1 h.2]
theorem own_eq' {e : S54} (h : entSmall e) : raftlog_own.f e.f0 e.f1 e.f2 e.f3.f0 e.f3.f1 e.f4 = some (e.f0, e.f1, e.f2, e.f3.f0, e.f3.f1, e.f4) := by
  simp [raftlog_own.f, ownConfig_eq h.1 h.2]
theorem wrap_succ {i n : Nat} (h : i < n) (hn : n ≤ 9223372036854775807) : wrap64 ((i : Int) + 1) = ((i + 1 : Nat) : Int) := by unfold wrap64; omega
theorem rd_at {es : List S54} {i : Nat} (h : i < es.length) : rd_T54 es (i : Int) = es[i] := by simp [rd_T54, List.getElem?_eq_getElem h]

theorem ownLog_l (es : List S54) (hl : rowFew es.length) (hs : ∀ e ∈ es, entSmall e) (t v si st : Int) (vo le : List Int) (da : ByteArray) (t' v' si' st' : Int) (vo' le' : List Int) (da' : ByteArray) : ∀ (d i k : Nat) (acc : List S54), i + d = es.length → d < k → acc.length = i →
    folkmootref15_Own.l0 k (i : Int) t v si st vo le da es t' v' si' st' vo' le' da' acc = some (t', v', si', st', vo', le', da', acc ++ es.drop i) := by
  intro d
  have hl' : es.length ≤ 1599289640401 := hl
  induction d with
  | zero =>
    intro i k acc h hk ha
    obtain ⟨k, rfl⟩ : ∃ m, k = m + 1 := ⟨k - 1, by omega⟩
    simp only [folkmootref15_Own.l0]
    rw [if_neg (by omega), List.drop_of_length_le (by omega), List.append_nil]
  | succ d ih =>
    intro i k acc h hk ha
    obtain ⟨k, rfl⟩ : ∃ m, k = m + 1 := ⟨k - 1, by omega⟩
    have hi : i < es.length := by omega
    simp only [folkmootref15_Own.l0]
    rw [if_pos (by omega), if_pos (by omega), rd_at hi, entry_eq (hs _ (List.getElem_mem hi)), Option.bind_some, if_pos (by omega), wrap_succ hi (by omega)]
    rw [ih (i + 1) k _ (by omega) (by omega) (by simp [ha])]
    rw [List.drop_eq_getElem_cons hi, List.append_assoc]
    rfl

theorem ownLog_eq (k : Nat) (t v si st : Int) (vo le : List Int) (da : ByteArray) (es : List S54) (hk : es.length < k) (h4 : rowSmall vo.length) (h5 : rowSmall le.length) (h7 : rowFew es.length) (hs : ∀ e ∈ es, entSmall e) :
    folkmootref15_Own.f k t v si st vo le da es = some (t, v, si, st, vo, le, da, es) := by
  simp only [folkmootref15_Own.f, folkmootref15_Snap.f, config_eq h4 h5, Option.bind_some]
  have := ownLog_l es h7 hs t v si st vo le da t v si st vo le da es.length 0 k [] (by omega) hk rfl
  simpa using this

theorem sets_refl (x : List Int) (hx : x.length ≤ 9223372036854775807) : ∀ (d i k : Nat), i + d = x.length → d < k → folkmootref15_sets.l0 k x x (i : Int) = some true := by
  intro d
  induction d with
  | zero =>
    intro i k h hk
    obtain ⟨k, rfl⟩ : ∃ m, k = m + 1 := ⟨k - 1, by omega⟩
    simp only [folkmootref15_sets.l0]
    rw [if_neg (by omega)]
  | succ d ih =>
    intro i k h hk
    obtain ⟨k, rfl⟩ : ∃ m, k = m + 1 := ⟨k - 1, by omega⟩
    simp only [folkmootref15_sets.l0]
    rw [if_pos (by omega), if_pos (by omega), if_pos (by omega), if_pos trivial, wrap_succ (show i < x.length by omega) hx]
    exact ih (i + 1) k (by omega) (by omega)
theorem sets_same (k : Nat) (x : List Int) (hx : rowSmall x.length) (hk : x.length < k) : folkmootref15_sets.f k x x = some true := by
  have hx' : x.length < 17592186044416 := hx
  simp only [folkmootref15_sets.f, if_true]
  exact sets_refl x (by omega) x.length 0 k (by omega) hk
theorem configs_same (k : Nat) (x y : List Int) (hx : rowSmall x.length) (hk : x.length < k) (hy : rowSmall y.length) (hk' : y.length < k) : folkmootref15_Configs.f k x y x y = some true := by
  simp [folkmootref15_Configs.f, sets_same k x hx hk, sets_same k y hy hk']
/-- Every set of an entry is shorter than M. -/
def entIn (M : Nat) (e : S54) : Prop := e.f3.f0.length < M ∧ e.f3.f1.length < M
theorem entries_same (k : Nat) (e : S54) (h : entSmall e) (hk : entIn k e) : folkmootref15_Entries.f k e.f0 e.f1 e.f2 e.f3.f0 e.f3.f1 e.f4 e.f0 e.f1 e.f2 e.f3.f0 e.f3.f1 e.f4 = some true := by
  simp [folkmootref15_Entries.f, configs_same k _ _ h.1 hk.1 h.2 hk.2]
theorem entIn_le {M N : Nat} (h : M ≤ N) {e : S54} (he : entIn M e) : entIn N e := ⟨Nat.lt_of_lt_of_le he.1 h, Nat.lt_of_lt_of_le he.2 h⟩
theorem entIn_all (es : List S54) : ∃ M, ∀ e ∈ es, entIn M e := by
  induction es with
  | nil => exact ⟨0, fun e h => by cases h⟩
  | cons a es ih =>
    obtain ⟨M, hM⟩ := ih
    refine ⟨M + a.f3.f0.length + a.f3.f1.length + 1, fun e he => ?_⟩
    rcases List.mem_cons.1 he with rfl | he
    · exact ⟨by omega, by omega⟩
    · exact entIn_le (by omega) (hM e he)

theorem rows_l (es : List S54) (hl : rowFew es.length) (hs : ∀ e ∈ es, entSmall e) (M : Nat) (hM : ∀ e ∈ es, entIn M e) : ∀ (d i k : Nat), i + d = es.length → d + M < k → folkmootref16_Rows.l0 k es es (i : Int) = some true := by
  intro d
  have hl' : es.length ≤ 1599289640401 := hl
  induction d with
  | zero =>
    intro i k h hk
    obtain ⟨k, rfl⟩ : ∃ m, k = m + 1 := ⟨k - 1, by omega⟩
    simp only [folkmootref16_Rows.l0]
    rw [if_neg (by omega)]
  | succ d ih =>
    intro i k h hk
    obtain ⟨k, rfl⟩ : ∃ m, k = m + 1 := ⟨k - 1, by omega⟩
    have hi : i < es.length := by omega
    simp only [folkmootref16_Rows.l0]
    rw [if_pos (by omega), if_pos (by omega), if_pos (by omega), rd_at hi, entries_same k _ (hs _ (List.getElem_mem hi)) (entIn_le (by omega) (hM _ (List.getElem_mem hi))), Option.bind_some, if_pos rfl, wrap_succ hi (by omega)]
    exact ih (i + 1) k (by omega) (by omega)
theorem rows_same (k : Nat) (es : List S54) (hl : rowFew es.length) (hs : ∀ e ∈ es, entSmall e) (M : Nat) (hM : ∀ e ∈ es, entIn M e) (hk : es.length + M < k) : folkmootref16_Rows.f k es es = some true := by
  simp only [folkmootref16_Rows.f, if_true]
  exact rows_l es hl hs M hM es.length 0 k (by omega) hk

theorem same_l (es : List S54) (hl : rowFew es.length) (hs : ∀ e ∈ es, entSmall e) (M : Nat) (hM : ∀ e ∈ es, entIn M e) (t v si st : Int) (vo le : List Int) (da : ByteArray) (t' v' si' st' : Int) (vo' le' : List Int) (da' : ByteArray) :
    ∀ (d i k : Nat), i + d = es.length → d + M < k → folkmootref15_Same.l0 k (i : Int) t v si st vo le da es t' v' si' st' vo' le' da' es = some true := by
  intro d
  have hl' : es.length ≤ 1599289640401 := hl
  induction d with
  | zero =>
    intro i k h hk
    obtain ⟨k, rfl⟩ : ∃ m, k = m + 1 := ⟨k - 1, by omega⟩
    simp only [folkmootref15_Same.l0]
    rw [if_neg (by omega)]
  | succ d ih =>
    intro i k h hk
    obtain ⟨k, rfl⟩ : ∃ m, k = m + 1 := ⟨k - 1, by omega⟩
    have hi : i < es.length := by omega
    simp only [folkmootref15_Same.l0]
    rw [if_pos (by omega), if_pos (by omega), if_pos (by omega), rd_at hi, entries_same k _ (hs _ (List.getElem_mem hi)) (entIn_le (by omega) (hM _ (List.getElem_mem hi))), Option.bind_some, if_pos rfl, wrap_succ hi (by omega)]
    exact ih (i + 1) k (by omega) (by omega)
theorem same_eq (k : Nat) (t v si st : Int) (vo le : List Int) (da : ByteArray) (es : List S54) (h4 : rowSmall vo.length) (h5 : rowSmall le.length) (hl : rowFew es.length) (hs : ∀ e ∈ es, entSmall e) (M : Nat) (hM : ∀ e ∈ es, entIn M e) (hk : es.length + M + 1 < k) (hk4 : vo.length < k) (hk5 : le.length < k) :
    folkmootref15_Same.f k t v si st vo le da es t v si st vo le da es = some true := by
  obtain ⟨k', rfl⟩ : ∃ m, k = m + 1 := ⟨k - 1, by omega⟩
  have e1 : folkmootref15_Snaps.f (k' + 1) si st vo le da si st vo le da = some true := by
    simp [folkmootref15_Snaps.f, configs_same (k' + 1) vo le h4 hk4 h5 hk5]
  simp only [folkmootref15_Same.f, if_true, e1, Option.bind_some, folkmootref15_Same.j0, bne_self_eq_false, Bool.false_eq_true, if_false]
  exact same_l es hl hs M hM t v si st vo le da t v si st vo le da es.length 0 k' (by omega) (by omega)

theorem last_num {si st : Int} {es : List S54} (hn : ∀ (j : Nat) (h : j < es.length), es[j].f0 = si + 1 + j) : (lastP si st es).1 = si + es.length := by
  unfold lastP
  rcases Nat.eq_zero_or_pos es.length with h0 | h0
  · obtain rfl : es = [] := List.eq_nil_of_length_eq_zero h0
    simp
  · rw [List.getLast?_eq_getElem?, List.getElem?_eq_getElem (show es.length - 1 < es.length by omega)]
    show (es[es.length - 1]).f0 = _
    rw [hn]
    omega

/-- The law's own log. -/
def one16 : List S54 := [(⟨3, 1, 0, (⟨([] : List Int), ([] : List Int)⟩ : S25), (⟨#[]⟩ : ByteArray)⟩ : S54), (⟨4, 2, 0, (⟨([] : List Int), ([] : List Int)⟩ : S25), (⟨#[]⟩ : ByteArray)⟩ : S54)]
end Go.Proofs.Ytbjhjimkljbjlaa.PA
/- slices.IndexFunc with raftlog.Merge's closure: the first entry that the log doesn't hold. -/
namespace Go.Proofs.Ytbjhjimkljbjlaa.PA
open Go.RowKit Go.Proofs.YtbjhjimkljbjlaaW.PrintWords Go.Proofs.YtbjhjimkljbjlaaW.PrintLast
set_option linter.unusedVariables false

/-- Does a log not hold an entry? -/
def freshR (si st : Int) (es : List S54) (x : S54) : Bool :=
  decide (si < x.f0) && (decide ((if chk si es = true then termR si st es x.f0 else (0, 1)).2 ≠ 0) || decide ((if chk si es = true then termR si st es x.f0 else (0, 1)).1 ≠ x.f1))
def indexR (si st : Int) (es : List S54) (l : List S54) : Int := match l.findIdx? (freshR si st es) with
  | some i => i
  | none => -1
def api_Entry.f (l : List S54) (_t _v si st : Int) (_vo _le : List Int) (_da : ByteArray) (es : List S54) : Option Int := some (indexR si st es l)

set_option maxRecDepth 100000 in
set_option maxHeartbeats 4000000 in
theorem closure43 (t v si st : Int) (A4 : Option Addr) (c4 : Nat) (l4 : List Int) (A5 : Option Addr) (c5 : Nat) (l5 : List Int) (da : ByteArray) (A7 : Option Addr) (c7 : Nat) (l7 : List S54) (bk : Nat) (x : S54) (A3' : Option Addr) (n3 c3' : Nat) (A4' : Option Addr) (n4 c4' : Nat) (w : World)
    (hL : LogIs w A4 c4 l4 A5 c5 l5 A7 c7 l7) (hbk : w.heap[bk]? = some (.cells #[.int .i64 t, .int .i64 v, .int .i64 si, .int .i64 st, .slice A4 l4.length c4, .slice A5 l5.length c5, .string da, .slice A7 l7.length c7] 30)) :
    Calls Try.prog 43 #[.agg #[.int .i64 x.f0, .int .i64 x.f1, .int .i64 x.f2, .slice A3' n3 c3', .slice A4' n4 c4', .string x.f4], .pointer (some ⟨bk, 0, none⟩)] w fun e w' => e = .returned (.bool (freshR si st l7 x)) ∧ Below w.heap.size w w' := by
  have cc1 : ∀ W, Below w.heap.size w W → Calls Try.prog 15 #[.agg #[.int .i64 t, .int .i64 v, .int .i64 si, .int .i64 st, .slice A4 l4.length c4, .slice A5 l5.length c5, .string da, .slice A7 l7.length c7], .int .i64 x.f0] W fun e w' => e = .returned (.tuple #[.int .i64 (if chk si l7 = true then termR si st l7 x.f0 else (0, 1)).1, .int .i64 (if chk si l7 = true then termR si st l7 x.f0 else (0, 1)).2]) ∧ Below W.heap.size W w' := fun W hb =>
    let H := hL.below hb
    raftlog_Term.calls _ _ _ _ _ _ _ _ _ _ _ _ _ _ _ _ _ W H.r4 H.h4 H.r5 H.h5 H.r7 H.h7 rfl
  have C1 := Lib.hid cc1
  clear cc1
  unfold freshR
  obtain ⟨p, hp⟩ : ∃ p, (if chk si l7 = true then termR si st l7 x.f0 else (0, 1)) = p := ⟨_, rfl⟩
  rw [hp] at C1 ⊢
  have hkb := blk_lt hbk
  go_enter Try.func43, Try.ntmps43
  have k1 := (((Below.refl w.heap.size w).alloc (Nat.le_refl _) (.cells #[.int .i64 x.f0, .int .i64 x.f1, .int .i64 x.f2, .slice A3' n3 c3', .slice A4' n4 c4', .string x.f4] 54)).block _ hkb).trans hbk
  obtain ⟨q0, q1, q2, q3, q4, q5, q6, q7⟩ := cells8 k1
  go_wp2_with fail
  have b1 : Below w.heap.size w (w.alloc (.cells #[.int .i64 x.f0, .int .i64 x.f1, .int .i64 x.f2, .slice A3' n3 c3', .slice A4' n4 c4', .string x.f4] 54)) := (Below.refl _ _).alloc (Nat.le_refl _) _
  refine (C1.out _ b1).mono ?_
  rintro e w1 ⟨rfl, hb1⟩
  have x2 := (hb1.block w.heap.size (by simp)).trans (World.alloc_heap_new w (.cells #[.int .i64 x.f0, .int .i64 x.f1, .int .i64 x.f2, .slice A3' n3 c3', .slice A4' n4 c4', .string x.f4] 54))
  have k2 := (hb1.block bk (by simp; omega)).trans k1
  have b2 := b1.trans (hb1.mono (by simp))
  clear q0 q1 q2 q3 q4 q5 q6 q7 k1 hb1 b1 C1 hL
  have y0 : w1.cell? ⟨w.heap.size, 0, none⟩ = some (.int .i64 x.f0) := by simp [World.cell?, x2]
  have y1 : w1.cell? ⟨w.heap.size, 1, none⟩ = some (.int .i64 x.f1) := by simp [World.cell?, x2]
  have q2 : w1.cell? ⟨bk, 2, none⟩ = some (.int .i64 si) := by simp [World.cell?, k2]
  clear x2 k2 hp
  by_cases d1 : si < x.f0
  · by_cases d2 : p.2 = 0
    · by_cases d3 : p.1 = x.f1
      · go_wp2
        go_ret
        exact ⟨by simp [d1, d2, d3], b2⟩
      · go_wp2
        go_ret
        exact ⟨by simp [d1, d2, d3], b2⟩
    · go_wp2
      go_ret
      exact ⟨by simp [d1, d2], b2⟩
  · go_wp2
    go_ret
    exact ⟨by simp; omega, b2⟩

set_option maxRecDepth 100000 in
set_option maxHeartbeats 4000000 in
theorem api_Entry.calls (A3 : Option Addr) (c3 : Nat) (l3 : List S54) (t v si st : Int) (A4 : Option Addr) (c4 : Nat) (l4 : List Int) (A5 : Option Addr) (c5 : Nat) (l5 : List Int) (da : ByteArray) (A7 : Option Addr) (c7 : Nat) (l7 : List S54) (bk : Nat) (r : Int) (w : World)
    (hr3 : Kd.C k54 w A3 l3.length l3) (hc3 : l3.length ≤ c3) (hr4 : Kd.C (Kd.int .i64) w A4 l4.length l4) (hc4 : l4.length ≤ c4) (hr5 : Kd.C (Kd.int .i64) w A5 l5.length l5) (hc5 : l5.length ≤ c5) (hr7 : Kd.C k54 w A7 l7.length l7) (hc7 : l7.length ≤ c7)
    (hbk : w.heap[bk]? = some (.cells #[.int .i64 t, .int .i64 v, .int .i64 si, .int .i64 st, .slice A4 l4.length c4, .slice A5 l5.length c5, .string da, .slice A7 l7.length c7] 30)) (h : api_Entry.f l3 t v si st l4 l5 da l7 = some r) :
    Calls Try.prog 42 #[.slice A3 l3.length c3, .func (.func 43) #[] #[.pointer (some ⟨bk, 0, none⟩)]] w fun e w' => e = .returned (.int .i64 r) ∧ Below w.heap.size w w' := by
  simp only [api_Entry.f, Option.some.injEq, indexR] at h
  have hL : LogIs w A4 c4 l4 A5 c5 l5 A7 c7 l7 := ⟨hr4, hc4, hr5, hc5, hr7, hc7⟩
  have cc : ∀ W i, Below w.heap.size w W → (h : i < l3.length) → ∀ A3' n3 c3' A4' n4 c4', Calls Try.prog 43 #[.agg #[.int .i64 l3[i].f0, .int .i64 l3[i].f1, .int .i64 l3[i].f2, .slice A3' n3 c3', .slice A4' n4 c4', .string l3[i].f4], .pointer (some ⟨bk, 0, none⟩)] W fun e w' => e = .returned (.bool (freshR si st l7 l3[i])) ∧ Below W.heap.size W w' := fun W i hb hi A3' n3 c3' A4' n4 c4' =>
    closure43 t v si st A4 c4 l4 A5 c5 l5 da A7 c7 l7 bk l3[i] A3' n3 c3' A4' n4 c4' W (hL.below hb) ((hb.block _ (blk_lt hbk)).trans hbk)
  have C := Lib.hid cc
  have hlen : l3.length ≤ 9223372036854775807 := hr3.2.1
  have HR := Lib.hid hr3
  clear cc hr3 hr4 hr5 hr7 hL hbk
  go_enter Try.func42, Try.ntmps42
  go_wp2
  go_loopw [5, 8] (fun _ i wr => ∃ k : Nat, k ≤ l3.length ∧ i = .int .i64 k ∧ Below w.heap.size w wr ∧ ∀ j, j < k → (hj : j < l3.length) → freshR si st l7 l3[j] = false) (fun _ i _ => l3.length - (intOf i).toNat)
  case atStart => exact ⟨0, Nat.zero_le _, rfl, Below.refl _ _, fun j hj => absurd hj (by omega)⟩
  case round =>
    obtain ⟨k, hk, rfl, hb, hall⟩ := hrel
    have HALL := Lib.hid hall
    clear hall
    by_cases hlt : k < l3.length
    · obtain ⟨ad, B3, b3, B4, b4, e0, g0, g1, g2, g3, g4, g5, _, _, _, _⟩ := at_T54 HR.out (k : Int) (by omega) (by omega)
      cases e0
      have hrd : rd_T54 l3 (k : Int) = l3[k] := by simp [rd_T54, List.getElem?_eq_getElem hlt]
      rw [hrd, Int.toNat_natCast] at g0 g1 g2 g3 g4 g5
      replace g0 := (hb.cell (World.block_lt_of_cell? w _ g0)).trans g0
      replace g1 := (hb.cell (World.block_lt_of_cell? w _ g1)).trans g1
      replace g2 := (hb.cell (World.block_lt_of_cell? w _ g2)).trans g2
      replace g3 := (hb.cell (World.block_lt_of_cell? w _ g3)).trans g3
      replace g4 := (hb.cell (World.block_lt_of_cell? w _ g4)).trans g4
      replace g5 := (hb.cell (World.block_lt_of_cell? w _ g5)).trans g5
      go_wp2_with fail
      go_at_call 43
      refine (C.out _ k hb hlt _ _ _ _ _ _).mono ?_
      rintro e w1 ⟨rfl, hb1⟩
      have hb2 := hb.trans (hb1.mono hb.size)
      clear g0 g1 g2 g3 g4 g5 hb1
      cases hf : freshR si st l7 l3[k] with
      | true =>
        have hn : l3.findIdx? (freshR si st l7) = some k := by
          rw [List.findIdx?_eq_some_iff_getElem]
          exact ⟨hlt, hf, fun j hj => by rw [HALL.out j hj (by omega)]; simp⟩
        rw [hn] at h
        subst h
        go_wp2
        go_ret
        exact ⟨rfl, hb2⟩
      | false =>
        go_wp2
        go_roundw
        case rel =>
          refine ⟨k + 1, by omega, by simp, hb2, fun j hj hl => ?_⟩
          rcases Nat.lt_or_ge j k with h1 | h1
          · exact HALL.out j h1 hl
          · obtain rfl : j = k := by omega
            exact hf
        case measure => simp [intOf]; omega
    · have : k = l3.length := by omega
      have hn : l3.findIdx? (freshR si st l7) = none := by
        rw [List.findIdx?_eq_none_iff]
        intro x hx
        obtain ⟨j, hj, rfl⟩ := List.getElem_of_mem hx
        exact HALL.out j (by omega) hj
      rw [hn] at h
      subst h
      go_wp2
      go_ret
      exact ⟨rfl, hb⟩
end Go.Proofs.Ytbjhjimkljbjlaa.PA
-- WRITTEN BY hookprint.py and patch_merge.py (programs of this session, over the kit's print.py)
namespace Go.Proofs.Ytbjhjimkljbjlaa.PA
open Go.RowKit Go.Proofs.YtbjhjimkljbjlaaW.PrintWords Go.Proofs.YtbjhjimkljbjlaaW.PrintLast Go.Proofs.YtbjhjimkljbjlaaW.PrintMore
attribute [local go_sem] max2_int min2_int max_two min_two max_three min_three max_four min_four   -- for this text's walks alone
set_option linter.unusedVariables false
set_option linter.unusedSimpArgs false

/-! ### raftlog_Merge: function 28 -/
mutual
def raftlog_Merge.l0 : Nat → Int → Int → List (S54) → Int → List (S54) → Int → Int → Int → Int → Int → Int → List Int → List Int → ByteArray → List (S54) → Option ((List (S57)) × Int × Int)
  | 0, _, _, _, _, _, _, _, _, _, _, _, _, _, _, _ => none
  | k + 1, x1, x2, x3, x11, x25, x26, x27, x432000, x432001, x432002, x432003, x432004, x432005, x432006, x432007 => if x27 < x26 then (if 0 ≤ x27 then (if x27 < (x25.length : Int) then (if ((rd_T54 x25 x27).f0) ≤ x1 then (raftlog_Merge.l0 k x1 x2 x3 1 x25 x26 (wrap64 (x27 + 1)) x432000 x432001 x432002 x432003 x432004 x432005 x432006 x432007) else (if (wrap64 ((wrap64 (((rd_T54 x25 x27).f0) - 1)) - x27)) = x1 then (raftlog_Merge.l0 k x1 x2 x3 x11 x25 x26 (wrap64 (x27 + 1)) x432000 x432001 x432002 x432003 x432004 x432005 x432006 x432007) else (raftlog_Merge.l0 k x1 x2 x3 1 x25 x26 (wrap64 (x27 + 1)) x432000 x432001 x432002 x432003 x432004 x432005 x432006 x432007))) else (none)) else (none)) else (if x11 = 0 then ((raftlog_Last.f x432000 x432001 x432002 x432003 x432004 x432005 x432006 x432007).bind fun bt435 => ((raftlog_Term.f x432000 x432001 x432002 x432003 x432004 x432005 x432006 x432007 x1).bind fun bt437 => (if x1 > bt435.1 then (raftlog_Merge.j1 k x1 x3 bt435.1 true x432000 x432001 x432002 x432003 x432004 x432005 x432006 x432007) else (if x1 ≥ x432002 then (raftlog_Merge.j1 k x1 x3 bt435.1 (bt437.1 != x2) x432000 x432001 x432002 x432003 x432004 x432005 x432006 x432007) else (raftlog_Merge.j1 k x1 x3 bt435.1 false x432000 x432001 x432002 x432003 x432004 x432005 x432006 x432007))))) else (some (([] : List (S57)), 0, x11)))
def raftlog_Merge.j1 : Nat → Int → List (S54) → Int → Bool → Int → Int → Int → Int → List Int → List Int → ByteArray → List (S54) → Option ((List (S57)) × Int × Int)
  | 0, _, _, _, _, _, _, _, _, _, _, _, _ => none
  | k + 1, x1, x3, x14, x74, x432000, x432001, x432002, x432003, x432004, x432005, x432006, x432007 => if x74 = true then (some (([] : List (S57)), 0, 150)) else ((api_Entry.f x3 x432000 x432001 x432002 x432003 x432004 x432005 x432006 x432007).bind fun t439 => (if t439 < 0 then (some (([] : List (S57)), mx (wrap64 (x1 + (x3.length : Int))) x432002, 0)) else (if 0 ≤ t439 then (if t439 < (x3.length : Int) then (if ((rd_T54 x3 t439).f0) ≤ x14 then (if ([] : List (S57)).length < 703687441776 then (raftlog_Merge.j2 k x3 (mx (wrap64 (x1 + (x3.length : Int))) x432002) t439 (([] : List (S57)) ++ [(⟨3, 0, 0, (⟨0, 0, 0, (⟨([] : List Int), ([] : List Int)⟩ : S25), (⟨#[]⟩ : ByteArray)⟩ : S54), (rd_T54 x3 t439).f0, (⟨0, 0, (⟨([] : List Int), ([] : List Int)⟩ : S25), (⟨#[]⟩ : ByteArray)⟩ : S27)⟩ : S57)])) else (none)) else (raftlog_Merge.j2 k x3 (mx (wrap64 (x1 + (x3.length : Int))) x432002) t439 ([] : List (S57)))) else (none)) else (none))))
def raftlog_Merge.j2 : Nat → List (S54) → Int → Int → List (S57) → Option ((List (S57)) × Int × Int)
  | 0, _, _, _, _ => none
  | k + 1, x3, x18, x19, x20 => if 0 ≤ x19 then (if x19 ≤ (x3.length : Int) then ((some (x3.drop (x19 : Int).toNat : List (S54))).bind fun y445 => (raftlog_Merge.l1 k x18 x20 y445 (y445.length : Int) 0)) else (none)) else (none)
def raftlog_Merge.l1 : Nat → Int → List (S57) → List (S54) → Int → Int → Option ((List (S57)) × Int × Int)
  | 0, _, _, _, _, _ => none
  | k + 1, x18, x20, x107, x108, x109 => if x109 < x108 then (if 0 ≤ x109 then (if x109 < (x107.length : Int) then ((raftlog_own.f ((rd_T54 x107 x109).f0) ((rd_T54 x107 x109).f1) ((rd_T54 x107 x109).f2) ((rd_T54 x107 x109).f3.f0) ((rd_T54 x107 x109).f3.f1) ((rd_T54 x107 x109).f4)).bind fun bt451 => (if x20.length < 703687441776 then (raftlog_Merge.l1 k x18 (x20 ++ [(⟨2, 0, 0, (⟨bt451.1, bt451.2.1, bt451.2.2.1, (⟨bt451.2.2.2.1, bt451.2.2.2.2.1⟩ : S25), bt451.2.2.2.2.2⟩ : S54), 0, (⟨0, 0, (⟨([] : List Int), ([] : List Int)⟩ : S25), (⟨#[]⟩ : ByteArray)⟩ : S27)⟩ : S57)]) x107 x108 (wrap64 (x109 + 1))) else (none))) else (none)) else (none)) else (some (x20, x18, 0))
end
def raftlog_Merge.f (k : Nat) (a0_0 : Int) (a0_1 : Int) (a0_2 : Int) (a0_3 : Int) (l0_4 : List Int) (l0_5 : List Int) (a0_6 : ByteArray) (l0_7 : List (S54)) (a1 : Int) (a2 : Int) (l3 : List (S54)) : Option ((List (S57)) × Int × Int) := (raftlog_Check.f k a0_0 a0_1 a0_2 a0_3 l0_4 l0_5 a0_6 l0_7).bind fun t432 => (raftlog_Merge.l0 k a1 a2 l3 t432 l3 (l3.length : Int) 0 a0_0 a0_1 a0_2 a0_3 l0_4 l0_5 a0_6 l0_7)
set_option maxHeartbeats 8000000 in
set_option maxRecDepth 100000 in
theorem raftlog_Merge.calls (k : Nat) (a0_0 : Int) (a0_1 : Int) (a0_2 : Int) (a0_3 : Int) (A0_4 : Option Addr) (c0_4 : Nat) (l0_4 : List Int) (A0_5 : Option Addr) (c0_5 : Nat) (l0_5 : List Int) (a0_6 : ByteArray) (A0_7 : Option Addr) (c0_7 : Nat) (l0_7 : List (S54)) (a1 : Int) (a2 : Int) (A3 : Option Addr) (c3 : Nat) (l3 : List (S54)) (r1 : List (S57)) (r2 : Int) (r3 : Int) (w : World) (hr0_4 : Kd.C (Kd.int .i64) w A0_4 l0_4.length l0_4) (hc0_4 : l0_4.length ≤ c0_4) (hr0_5 : Kd.C (Kd.int .i64) w A0_5 l0_5.length l0_5) (hc0_5 : l0_5.length ≤ c0_5) (hr0_7 : Kd.C k54 w A0_7 l0_7.length l0_7) (hc0_7 : l0_7.length ≤ c0_7) (hr3 : Kd.C k54 w A3 l3.length l3) (hc3 : l3.length ≤ c3) (h : raftlog_Merge.f k a0_0 a0_1 a0_2 a0_3 l0_4 l0_5 a0_6 l0_7 a1 a2 l3 = some (r1, r2, r3)) :
    Calls Try.prog 28 #[.agg #[.int .i64 a0_0, .int .i64 a0_1, .int .i64 a0_2, .int .i64 a0_3, .slice A0_4 l0_4.length c0_4, .slice A0_5 l0_5.length c0_5, .string a0_6, .slice A0_7 l0_7.length c0_7], .int .i64 a1, .int .i64 a2, .slice A3 l3.length c3] w fun e w' => ∃ v0_ : Value, e = .returned (.tuple #[v0_, .int .i64 r2, .int .i64 r3]) ∧ Kd.S k57 57 w' w.heap.size (fun _ => True) v0_ r1 ∧ Below w.heap.size w w' := by
  have hu30 := Try.underlying30
  have hu54 := Try.underlying54
  have hu57 := Try.underlying57
  have HR0_4 := Aside0.mk hr0_4
  have HC0_4 := Aside0.mk hc0_4
  clear hr0_4 hc0_4
  have HR0_5 := Aside0.mk hr0_5
  have HC0_5 := Aside0.mk hc0_5
  clear hr0_5 hc0_5
  have HR0_7 := Aside0.mk hr0_7
  have HC0_7 := Aside0.mk hc0_7
  clear hr0_7 hc0_7
  have HR3 := Aside0.mk hr3
  have HC3 := Aside0.mk hc3
  clear hr3 hc3
  have HB := Aside0.mk (Below.refl w.heap.size w)
  have H : ((raftlog_Check.f k a0_0 a0_1 a0_2 a0_3 l0_4 l0_5 a0_6 l0_7).bind fun t432 => (raftlog_Merge.l0 k a1 a2 l3 t432 l3 (l3.length : Int) 0 a0_0 a0_1 a0_2 a0_3 l0_4 l0_5 a0_6 l0_7)) = some (r1, r2, r3) := h
  clear h
  replace H := Option.bind_eq_some_iff.mp H
  obtain ⟨t432, A50, H⟩ := H
  replace H : (raftlog_Merge.l0 k a1 a2 l3 t432 l3 (l3.length : Int) 0 a0_0 a0_1 a0_2 a0_3 l0_4 l0_5 a0_6 l0_7) = some (r1, r2, r3) := H
  have A5 := Aside0.mk A50
  clear A50
  have H' := Aside0.mk H
  clear H
  go_enter Try.func28, Try.ntmps28
  go_wp2_with (first | ((with_reducible refine gate_dst (N := 4) rfl ?_); refine box_event ?hg (N := 4) ?hd (cs := #[.int .i64 a0_0, .int .i64 a0_1, .int .i64 a0_2, .int .i64 a0_3, .slice A0_4 l0_4.length c0_4, .slice A0_5 l0_5.length c0_5, .string a0_6, .slice A0_7 l0_7.length c0_7]) (t := 30) ?hr ?_; (case hd => rfl); (case hg => rfl); (case hr => first | (go_simp; done) | (go_simp; rfl)); intro gb431 hg w6 hbox hb; have n0_ := Aside0.mk (below_step (by repeat (first | (with_reducible first | exact HB.out | apply below_alloc | apply pw_below_drewN | apply below_drew1) | exact HB.out)) hb); have n1_ := Aside0.mk (hbox); have n2_ := Aside0.mk ((by rw [hg]; exact (below_size (by repeat (first | (with_reducible first | exact HB.out | apply below_alloc | apply pw_below_drewN | apply below_drew1) | exact HB.out))) : w.heap.size ≤ gb431)); have n3_ := Aside0.mk ((by rw [hg]; exact (below_size (by repeat (first | (with_reducible first | exact HB.out | apply below_alloc | apply pw_below_drewN | apply below_drew1) | exact HB.out))) : w.heap.size ≤ gb431)); clear HB; have HB := n0_; have BK431 := n1_; have GW431 := n2_; have GE431 := n3_; clear n0_ n1_ n2_ n3_; clear hb hbox hg; have hcz7_0 : w6.cell? ⟨gb431, 0, none⟩ = some (.int .i64 a0_0) := (blk_cell BK431.out 0).trans rfl; have hcz7_1 : w6.cell? ⟨gb431, 1, none⟩ = some (.int .i64 a0_1) := (blk_cell BK431.out 1).trans rfl; have hcz7_2 : w6.cell? ⟨gb431, 2, none⟩ = some (.int .i64 a0_2) := (blk_cell BK431.out 2).trans rfl; have hcz7_3 : w6.cell? ⟨gb431, 3, none⟩ = some (.int .i64 a0_3) := (blk_cell BK431.out 3).trans rfl; have hcz7_4 : w6.cell? ⟨gb431, 4, none⟩ = some (.slice A0_4 l0_4.length c0_4) := (blk_cell BK431.out 4).trans rfl; have hcz7_5 : w6.cell? ⟨gb431, 5, none⟩ = some (.slice A0_5 l0_5.length c0_5) := (blk_cell BK431.out 5).trans rfl; have hcz7_6 : w6.cell? ⟨gb431, 6, none⟩ = some (.string a0_6) := (blk_cell BK431.out 6).trans rfl; have hcz7_7 : w6.cell? ⟨gb431, 7, none⟩ = some (.slice A0_7 l0_7.length c0_7) := (blk_cell BK431.out 7).trans rfl; have hfz7_0 := blk_frozen BK431.out 0; have hfz7_1 := blk_frozen BK431.out 1; have hfz7_2 := blk_frozen BK431.out 2; have hfz7_3 := blk_frozen BK431.out 3; have hfz7_4 := blk_frozen BK431.out 4; have hfz7_5 := blk_frozen BK431.out 5; have hfz7_6 := blk_frozen BK431.out 6; have hfz7_7 := blk_frozen BK431.out 7) | ((with_reducible refine gate_callee (f := 12) rfl ?_); refine goesL_ (some 24) rfl rfl Try.func12 (by kernel_rfl) rfl #[.agg #[.int .i64 a0_0, .int .i64 a0_1, .int .i64 a0_2, .int .i64 a0_3, .slice A0_4 l0_4.length c0_4, .slice A0_5 l0_5.length c0_5, .string a0_6, .slice A0_7 l0_7.length c0_7]] rfl (by (try simp only [List.map_toArray, List.map_cons, List.map_nil]); first | done | rfl | (simp only [List.length_drop, List.length_take]; rfl)) ?_; (with_reducible refine (raftlog_Check.calls k a0_0 a0_1 a0_2 a0_3 _ _ l0_4 _ _ l0_5 a0_6 _ _ l0_7 t432 _ ?side1 ?side2 ?side3 ?side4 ?side5 ?side6 A5.out).mono ?_); (case side1 => repeat (first | exact (Kd.C_below HR0_4.out HB.out) | (with_reducible refine Kd.C_alloc ?_ _) | (with_reducible refine Kd.C_drewN ?_ _) | (with_reducible refine Kd.C_drew ?_))); (case side2 => exact HC0_4.out); (case side3 => repeat (first | exact (Kd.C_below HR0_5.out HB.out) | (with_reducible refine Kd.C_alloc ?_ _) | (with_reducible refine Kd.C_drewN ?_ _) | (with_reducible refine Kd.C_drew ?_))); (case side4 => exact HC0_5.out); (case side5 => repeat (first | exact (Kd.C_below HR0_7.out HB.out) | (with_reducible refine Kd.C_alloc ?_ _) | (with_reducible refine Kd.C_drewN ?_ _) | (with_reducible refine Kd.C_drew ?_))); (case side6 => exact HC0_7.out); rintro e w8 ⟨rfl, hb⟩; refine ⟨_, rfl, ?_⟩; have n0_ := Aside0.mk (blk_below (g := gb431) (o := .cells #[.int .i64 a0_0, .int .i64 a0_1, .int .i64 a0_2, .int .i64 a0_3, .slice A0_4 l0_4.length c0_4, .slice A0_5 l0_5.length c0_5, .string a0_6, .slice A0_7 l0_7.length c0_7] 30 (0, 0)) (by (with_reducible repeat (first | refine blk_drewN ?_ _ | refine blk_drew ?_ | refine blk_alloc ?_ _)); exact BK431.out) hb); have n1_ := Aside0.mk (below_step (by repeat (first | (with_reducible first | exact HB.out | apply below_alloc | apply pw_below_drewN | apply below_drew1 | refine below_set ?_ GE431.out) | exact HB.out)) hb); clear BK431; clear HB; have BK431 := n0_; have HB := n1_; clear n0_ n1_; (try clear hb); (try clear hb2); (try clear hk); (try clear hi)))
  go_loopg [11, 27] k (fun kq v11 v27 w' => ∃ (x11_1 : Int) (x27_1 : Int), v11 = .int .i64 x11_1 ∧ v27 = .int .i64 x27_1 ∧ Aside0 (raftlog_Merge.l0 kq a1 a2 l3 x11_1 l3 (l3.length : Int) x27_1 a0_0 a0_1 a0_2 a0_3 l0_4 l0_5 a0_6 l0_7 = some (r1, r2, r3)) ∧ Aside0 (kq ≤ k) ∧ Aside0 (w'.heap[gb431]? = some (.cells #[.int .i64 a0_0, .int .i64 a0_1, .int .i64 a0_2, .int .i64 a0_3, (.slice A0_4 l0_4.length c0_4), (.slice A0_5 l0_5.length c0_5), .string a0_6, (.slice A0_7 l0_7.length c0_7)] 30 (0, 0))) ∧ Aside0 (Below w.heap.size w w'))
  case atStart => exact ⟨(t432), (0), (by first | rfl | (simp; done) | (simp [*]; done)), (by first | rfl | (simp; done) | (simp [*]; done)), H', ⟨Nat.le_refl _⟩, ⟨by (with_reducible repeat (first | refine blk_drewN ?_ _ | refine blk_drew ?_ | refine blk_alloc ?_ _)); exact BK431.out⟩, ⟨by repeat (first | (with_reducible first | exact HB.out | apply below_alloc | apply pw_below_drewN | apply below_drew1 | refine below_set ?_ GE431.out) | exact HB.out)⟩⟩
  case round =>
    clear H'
    try clear c1
    try clear c2
    try clear p2
    try clear c3
    try clear hcz7_0
    try clear hcz7_1
    try clear hcz7_2
    try clear hcz7_3
    try clear hcz7_4
    try clear hcz7_5
    try clear hcz7_6
    try clear hcz7_7
    try clear hfz7_0
    try clear hfz7_1
    try clear hfz7_2
    try clear hfz7_3
    try clear hfz7_4
    try clear hfz7_5
    try clear hfz7_6
    try clear hfz7_7
    obtain ⟨x11_1, x27_1, rfl, rfl, HA, HK1, BK431, HB⟩ := hrel
    cases gk with
    | zero => exact absurd HA.out (by simp [raftlog_Merge.l0])
    | succ k1 =>
      have H := HA.out
      clear HA
      simp only [raftlog_Merge.l0] at H
      by_cases c9 : x27_1 < (l3.length : Int)
      · rw [if_pos c9] at H
        have c9b0 : decide (x27_1 < (l3.length : Int)) = true := decide_eq_true c9
        clear c9
        by_cases c10 : 0 ≤ x27_1
        · rw [if_pos c10] at H
          have c10b0 : decide (0 ≤ x27_1) = true := decide_eq_true c10
          clear c10
          by_cases c11 : x27_1 < (l3.length : Int)
          · rw [if_pos c11] at H
            have c11b0 : decide (x27_1 < (l3.length : Int)) = true := decide_eq_true c11
            clear c11
            by_cases c12 : ((rd_T54 l3 x27_1).f0) ≤ a1
            · rw [if_pos c12] at H
              have c12b0 : decide (((rd_T54 l3 x27_1).f0) ≤ a1) = true := decide_eq_true c12
              clear c12
              have H' := Aside0.mk H
              clear H
              have p433 : 0 ≤ (x27_1 : Int) := of_decide_eq_true (by first | (with_reducible assumption) | assumption)
              have q433 : x27_1 < (l3.length : Int) := of_decide_eq_true (by first | (with_reducible assumption) | assumption)
              obtain ⟨ad433, A433_3, c433_3, A433_4, c433_4, e433, hx433_0, hx433_1, hx433_2, hx433_3, hx433_4, hx433_5, hl433_3, hi433_3, hl433_4, hi433_4⟩ := at_T54 HR3.out x27_1 p433 q433
              cases e433
              replace hx433_0 := (HB.out.cell (World.block_lt_of_cell? w _ hx433_0)).trans hx433_0
              replace hx433_1 := (HB.out.cell (World.block_lt_of_cell? w _ hx433_1)).trans hx433_1
              replace hx433_2 := (HB.out.cell (World.block_lt_of_cell? w _ hx433_2)).trans hx433_2
              replace hx433_3 := (HB.out.cell (World.block_lt_of_cell? w _ hx433_3)).trans hx433_3
              replace hx433_4 := (HB.out.cell (World.block_lt_of_cell? w _ hx433_4)).trans hx433_4
              replace hx433_5 := (HB.out.cell (World.block_lt_of_cell? w _ hx433_5)).trans hx433_5
              have HR433_3 := Aside0.mk hi433_3
              have HC433_3 := Aside0.mk hl433_3
              clear hi433_3 hl433_3
              have HR433_4 := Aside0.mk hi433_4
              have HC433_4 := Aside0.mk hl433_4
              clear hi433_4 hl433_4
              replace p433 := eq_true p433
              replace q433 := eq_true q433
              go_wp2_with (first | ((with_reducible refine gate_dst (N := 13) rfl ?_); refine box_event ?hg (N := 13) ?hd (cs := #[.int .i64 0, .int .i64 0, .int .i64 0, .slice none 0 0, .slice none 0 0, .string (⟨#[]⟩ : ByteArray)]) (t := 54) ?hr ?_; (case hd => rfl); (case hg => rfl); (case hr => first | (go_simp; done) | (go_simp; rfl)); intro gb434 hg w13 hbox hb; have n0_ := Aside0.mk (blk_below (g := gb431) (o := .cells #[.int .i64 a0_0, .int .i64 a0_1, .int .i64 a0_2, .int .i64 a0_3, .slice A0_4 l0_4.length c0_4, .slice A0_5 l0_5.length c0_5, .string a0_6, .slice A0_7 l0_7.length c0_7] 30 (0, 0)) (by (with_reducible repeat (first | refine blk_drewN ?_ _ | refine blk_drew ?_ | refine blk_alloc ?_ _)); exact BK431.out) hb); have n1_ := Aside0.mk (below_step (by repeat (first | (with_reducible first | exact HB.out | apply below_alloc | apply pw_below_drewN | apply below_drew1 | refine below_set ?_ GE431.out) | exact HB.out)) hb); have n2_ := Aside0.mk (hbox); have n3_ := Aside0.mk ((by rw [hg]; exact (below_size (by repeat (first | (with_reducible first | exact HB.out | apply below_alloc | apply pw_below_drewN | apply below_drew1 | refine below_set ?_ GE431.out) | exact HB.out))) : w.heap.size ≤ gb434)); have n4_ := Aside0.mk ((by rw [hg]; exact (below_size (by repeat (first | (with_reducible first | exact HB.out | apply below_alloc | apply pw_below_drewN | apply below_drew1 | refine below_set ?_ GE431.out) | exact HB.out))) : w.heap.size ≤ gb434)); have n5_ := Aside0.mk ((by rw [hg]; exact Nat.ne_of_lt (blk_lt (g := gb431) (o := .cells #[.int .i64 a0_0, .int .i64 a0_1, .int .i64 a0_2, .int .i64 a0_3, .slice A0_4 l0_4.length c0_4, .slice A0_5 l0_5.length c0_5, .string a0_6, .slice A0_7 l0_7.length c0_7] 30 (0, 0)) (by (with_reducible repeat (first | refine blk_drewN ?_ _ | refine blk_drew ?_ | refine blk_alloc ?_ _)); exact BK431.out)) : gb431 ≠ gb434)); have n6_ := Aside0.mk ((by rw [hg]; exact Nat.ne_of_gt (blk_lt (g := gb431) (o := .cells #[.int .i64 a0_0, .int .i64 a0_1, .int .i64 a0_2, .int .i64 a0_3, .slice A0_4 l0_4.length c0_4, .slice A0_5 l0_5.length c0_5, .string a0_6, .slice A0_7 l0_7.length c0_7] 30 (0, 0)) (by (with_reducible repeat (first | refine blk_drewN ?_ _ | refine blk_drew ?_ | refine blk_alloc ?_ _)); exact BK431.out)) : gb434 ≠ gb431)); clear BK431; clear HB; have BK431 := n0_; have HB := n1_; have BK434 := n2_; have GW434 := n3_; have GE434 := n4_; have NB431_434 := n5_; have NB434_431 := n6_; clear n0_ n1_ n2_ n3_ n4_ n5_ n6_; clear hb hbox hg; have hnb14 := NB434_431.out; have hnc14 := NB431_434.out; have hcz15_0 : w13.cell? ⟨gb434, 0, none⟩ = some (.int .i64 0) := (blk_cell BK434.out 0).trans rfl; have hcz15_1 : w13.cell? ⟨gb434, 1, none⟩ = some (.int .i64 0) := (blk_cell BK434.out 1).trans rfl; have hcz15_2 : w13.cell? ⟨gb434, 2, none⟩ = some (.int .i64 0) := (blk_cell BK434.out 2).trans rfl; have hcz15_3 : w13.cell? ⟨gb434, 3, none⟩ = some (.slice none 0 0) := (blk_cell BK434.out 3).trans rfl; have hcz15_4 : w13.cell? ⟨gb434, 4, none⟩ = some (.slice none 0 0) := (blk_cell BK434.out 4).trans rfl; have hcz15_5 : w13.cell? ⟨gb434, 5, none⟩ = some (.string (⟨#[]⟩ : ByteArray)) := (blk_cell BK434.out 5).trans rfl; have hfz15_0 := blk_frozen BK434.out 0; have hfz15_1 := blk_frozen BK434.out 1; have hfz15_2 := blk_frozen BK434.out 2; have hfz15_3 := blk_frozen BK434.out 3; have hfz15_4 := blk_frozen BK434.out 4; have hfz15_5 := blk_frozen BK434.out 5))
              go_roundg k1
              case measure => have := HK1.out; omega
              case rel => exact ⟨(1), (wrap64 (x27_1 + 1)), (by first | rfl | (simp; done) | (simp [*]; done)), (by first | rfl | (simp; done) | (simp [*]; done)), H', ⟨by have := HK1.out; omega⟩, ⟨by (with_reducible repeat (first | refine blk_drewN ?_ _ | refine blk_drew ?_ | refine blk_alloc ?_ _)); refine blk_far ?_ NB431_434.out _; (with_reducible repeat (first | refine blk_drewN ?_ _ | refine blk_drew ?_ | refine blk_alloc ?_ _)); refine blk_far ?_ NB431_434.out _; (with_reducible repeat (first | refine blk_drewN ?_ _ | refine blk_drew ?_ | refine blk_alloc ?_ _)); refine blk_far ?_ NB431_434.out _; (with_reducible repeat (first | refine blk_drewN ?_ _ | refine blk_drew ?_ | refine blk_alloc ?_ _)); refine blk_far ?_ NB431_434.out _; (with_reducible repeat (first | refine blk_drewN ?_ _ | refine blk_drew ?_ | refine blk_alloc ?_ _)); refine blk_far ?_ NB431_434.out _; (with_reducible repeat (first | refine blk_drewN ?_ _ | refine blk_drew ?_ | refine blk_alloc ?_ _)); refine blk_far ?_ NB431_434.out _; (with_reducible repeat (first | refine blk_drewN ?_ _ | refine blk_drew ?_ | refine blk_alloc ?_ _)); exact BK431.out⟩, ⟨by repeat (first | (with_reducible first | exact HB.out | apply below_alloc | apply pw_below_drewN | apply below_drew1 | refine below_set ?_ GE431.out | refine below_set ?_ GE434.out) | exact HB.out)⟩⟩
            · rw [if_neg c12] at H
              have c12b0 : decide (((rd_T54 l3 x27_1).f0) ≤ a1) = false := decide_eq_false c12
              clear c12
              by_cases c16 : (wrap64 ((wrap64 (((rd_T54 l3 x27_1).f0) - 1)) - x27_1)) = a1
              · rw [if_pos c16] at H
                have c16b0 : ((wrap64 ((wrap64 (((rd_T54 l3 x27_1).f0) - 1)) - x27_1)) == a1) = true := beq_iff_eq.mpr c16
                have c16b1 : ((wrap64 ((wrap64 (((rd_T54 l3 x27_1).f0) - 1)) - x27_1)) != a1) = false := bne_eq_false_iff_eq.mpr c16
                clear c16
                have H' := Aside0.mk H
                clear H
                have p433 : 0 ≤ (x27_1 : Int) := of_decide_eq_true (by first | (with_reducible assumption) | assumption)
                have q433 : x27_1 < (l3.length : Int) := of_decide_eq_true (by first | (with_reducible assumption) | assumption)
                obtain ⟨ad433, A433_3, c433_3, A433_4, c433_4, e433, hx433_0, hx433_1, hx433_2, hx433_3, hx433_4, hx433_5, hl433_3, hi433_3, hl433_4, hi433_4⟩ := at_T54 HR3.out x27_1 p433 q433
                cases e433
                replace hx433_0 := (HB.out.cell (World.block_lt_of_cell? w _ hx433_0)).trans hx433_0
                replace hx433_1 := (HB.out.cell (World.block_lt_of_cell? w _ hx433_1)).trans hx433_1
                replace hx433_2 := (HB.out.cell (World.block_lt_of_cell? w _ hx433_2)).trans hx433_2
                replace hx433_3 := (HB.out.cell (World.block_lt_of_cell? w _ hx433_3)).trans hx433_3
                replace hx433_4 := (HB.out.cell (World.block_lt_of_cell? w _ hx433_4)).trans hx433_4
                replace hx433_5 := (HB.out.cell (World.block_lt_of_cell? w _ hx433_5)).trans hx433_5
                have HR433_3 := Aside0.mk hi433_3
                have HC433_3 := Aside0.mk hl433_3
                clear hi433_3 hl433_3
                have HR433_4 := Aside0.mk hi433_4
                have HC433_4 := Aside0.mk hl433_4
                clear hi433_4 hl433_4
                replace p433 := eq_true p433
                replace q433 := eq_true q433
                go_wp2_with (first | ((with_reducible refine gate_dst (N := 13) rfl ?_); refine box_event ?hg (N := 13) ?hd (cs := #[.int .i64 0, .int .i64 0, .int .i64 0, .slice none 0 0, .slice none 0 0, .string (⟨#[]⟩ : ByteArray)]) (t := 54) ?hr ?_; (case hd => rfl); (case hg => rfl); (case hr => first | (go_simp; done) | (go_simp; rfl)); intro gb434 hg w17 hbox hb; have n0_ := Aside0.mk (blk_below (g := gb431) (o := .cells #[.int .i64 a0_0, .int .i64 a0_1, .int .i64 a0_2, .int .i64 a0_3, .slice A0_4 l0_4.length c0_4, .slice A0_5 l0_5.length c0_5, .string a0_6, .slice A0_7 l0_7.length c0_7] 30 (0, 0)) (by (with_reducible repeat (first | refine blk_drewN ?_ _ | refine blk_drew ?_ | refine blk_alloc ?_ _)); exact BK431.out) hb); have n1_ := Aside0.mk (below_step (by repeat (first | (with_reducible first | exact HB.out | apply below_alloc | apply pw_below_drewN | apply below_drew1 | refine below_set ?_ GE431.out) | exact HB.out)) hb); have n2_ := Aside0.mk (hbox); have n3_ := Aside0.mk ((by rw [hg]; exact (below_size (by repeat (first | (with_reducible first | exact HB.out | apply below_alloc | apply pw_below_drewN | apply below_drew1 | refine below_set ?_ GE431.out) | exact HB.out))) : w.heap.size ≤ gb434)); have n4_ := Aside0.mk ((by rw [hg]; exact (below_size (by repeat (first | (with_reducible first | exact HB.out | apply below_alloc | apply pw_below_drewN | apply below_drew1 | refine below_set ?_ GE431.out) | exact HB.out))) : w.heap.size ≤ gb434)); have n5_ := Aside0.mk ((by rw [hg]; exact Nat.ne_of_lt (blk_lt (g := gb431) (o := .cells #[.int .i64 a0_0, .int .i64 a0_1, .int .i64 a0_2, .int .i64 a0_3, .slice A0_4 l0_4.length c0_4, .slice A0_5 l0_5.length c0_5, .string a0_6, .slice A0_7 l0_7.length c0_7] 30 (0, 0)) (by (with_reducible repeat (first | refine blk_drewN ?_ _ | refine blk_drew ?_ | refine blk_alloc ?_ _)); exact BK431.out)) : gb431 ≠ gb434)); have n6_ := Aside0.mk ((by rw [hg]; exact Nat.ne_of_gt (blk_lt (g := gb431) (o := .cells #[.int .i64 a0_0, .int .i64 a0_1, .int .i64 a0_2, .int .i64 a0_3, .slice A0_4 l0_4.length c0_4, .slice A0_5 l0_5.length c0_5, .string a0_6, .slice A0_7 l0_7.length c0_7] 30 (0, 0)) (by (with_reducible repeat (first | refine blk_drewN ?_ _ | refine blk_drew ?_ | refine blk_alloc ?_ _)); exact BK431.out)) : gb434 ≠ gb431)); clear BK431; clear HB; have BK431 := n0_; have HB := n1_; have BK434 := n2_; have GW434 := n3_; have GE434 := n4_; have NB431_434 := n5_; have NB434_431 := n6_; clear n0_ n1_ n2_ n3_ n4_ n5_ n6_; clear hb hbox hg; have hnb18 := NB434_431.out; have hnc18 := NB431_434.out; have hcz19_0 : w17.cell? ⟨gb434, 0, none⟩ = some (.int .i64 0) := (blk_cell BK434.out 0).trans rfl; have hcz19_1 : w17.cell? ⟨gb434, 1, none⟩ = some (.int .i64 0) := (blk_cell BK434.out 1).trans rfl; have hcz19_2 : w17.cell? ⟨gb434, 2, none⟩ = some (.int .i64 0) := (blk_cell BK434.out 2).trans rfl; have hcz19_3 : w17.cell? ⟨gb434, 3, none⟩ = some (.slice none 0 0) := (blk_cell BK434.out 3).trans rfl; have hcz19_4 : w17.cell? ⟨gb434, 4, none⟩ = some (.slice none 0 0) := (blk_cell BK434.out 4).trans rfl; have hcz19_5 : w17.cell? ⟨gb434, 5, none⟩ = some (.string (⟨#[]⟩ : ByteArray)) := (blk_cell BK434.out 5).trans rfl; have hfz19_0 := blk_frozen BK434.out 0; have hfz19_1 := blk_frozen BK434.out 1; have hfz19_2 := blk_frozen BK434.out 2; have hfz19_3 := blk_frozen BK434.out 3; have hfz19_4 := blk_frozen BK434.out 4; have hfz19_5 := blk_frozen BK434.out 5))
                go_roundg k1
                case measure => have := HK1.out; omega
                case rel => exact ⟨(x11_1), (wrap64 (x27_1 + 1)), (by first | rfl | (simp; done) | (simp [*]; done)), (by first | rfl | (simp; done) | (simp [*]; done)), H', ⟨by have := HK1.out; omega⟩, ⟨by (with_reducible repeat (first | refine blk_drewN ?_ _ | refine blk_drew ?_ | refine blk_alloc ?_ _)); refine blk_far ?_ NB431_434.out _; (with_reducible repeat (first | refine blk_drewN ?_ _ | refine blk_drew ?_ | refine blk_alloc ?_ _)); refine blk_far ?_ NB431_434.out _; (with_reducible repeat (first | refine blk_drewN ?_ _ | refine blk_drew ?_ | refine blk_alloc ?_ _)); refine blk_far ?_ NB431_434.out _; (with_reducible repeat (first | refine blk_drewN ?_ _ | refine blk_drew ?_ | refine blk_alloc ?_ _)); refine blk_far ?_ NB431_434.out _; (with_reducible repeat (first | refine blk_drewN ?_ _ | refine blk_drew ?_ | refine blk_alloc ?_ _)); refine blk_far ?_ NB431_434.out _; (with_reducible repeat (first | refine blk_drewN ?_ _ | refine blk_drew ?_ | refine blk_alloc ?_ _)); refine blk_far ?_ NB431_434.out _; (with_reducible repeat (first | refine blk_drewN ?_ _ | refine blk_drew ?_ | refine blk_alloc ?_ _)); exact BK431.out⟩, ⟨by repeat (first | (with_reducible first | exact HB.out | apply below_alloc | apply pw_below_drewN | apply below_drew1 | refine below_set ?_ GE431.out | refine below_set ?_ GE434.out) | exact HB.out)⟩⟩
              · rw [if_neg c16] at H
                have c16b0 : ((wrap64 ((wrap64 (((rd_T54 l3 x27_1).f0) - 1)) - x27_1)) == a1) = false := beq_eq_false_iff_ne.mpr c16
                have c16b1 : ((wrap64 ((wrap64 (((rd_T54 l3 x27_1).f0) - 1)) - x27_1)) != a1) = true := bne_iff_ne.mpr c16
                have H' := Aside0.mk H
                clear H
                have p433 : 0 ≤ (x27_1 : Int) := of_decide_eq_true (by first | (with_reducible assumption) | assumption)
                have q433 : x27_1 < (l3.length : Int) := of_decide_eq_true (by first | (with_reducible assumption) | assumption)
                obtain ⟨ad433, A433_3, c433_3, A433_4, c433_4, e433, hx433_0, hx433_1, hx433_2, hx433_3, hx433_4, hx433_5, hl433_3, hi433_3, hl433_4, hi433_4⟩ := at_T54 HR3.out x27_1 p433 q433
                cases e433
                replace hx433_0 := (HB.out.cell (World.block_lt_of_cell? w _ hx433_0)).trans hx433_0
                replace hx433_1 := (HB.out.cell (World.block_lt_of_cell? w _ hx433_1)).trans hx433_1
                replace hx433_2 := (HB.out.cell (World.block_lt_of_cell? w _ hx433_2)).trans hx433_2
                replace hx433_3 := (HB.out.cell (World.block_lt_of_cell? w _ hx433_3)).trans hx433_3
                replace hx433_4 := (HB.out.cell (World.block_lt_of_cell? w _ hx433_4)).trans hx433_4
                replace hx433_5 := (HB.out.cell (World.block_lt_of_cell? w _ hx433_5)).trans hx433_5
                have HR433_3 := Aside0.mk hi433_3
                have HC433_3 := Aside0.mk hl433_3
                clear hi433_3 hl433_3
                have HR433_4 := Aside0.mk hi433_4
                have HC433_4 := Aside0.mk hl433_4
                clear hi433_4 hl433_4
                replace p433 := eq_true p433
                replace q433 := eq_true q433
                go_wp2_with (first | ((with_reducible refine gate_dst (N := 13) rfl ?_); refine box_event ?hg (N := 13) ?hd (cs := #[.int .i64 0, .int .i64 0, .int .i64 0, .slice none 0 0, .slice none 0 0, .string (⟨#[]⟩ : ByteArray)]) (t := 54) ?hr ?_; (case hd => rfl); (case hg => rfl); (case hr => first | (go_simp; done) | (go_simp; rfl)); intro gb434 hg w20 hbox hb; have n0_ := Aside0.mk (blk_below (g := gb431) (o := .cells #[.int .i64 a0_0, .int .i64 a0_1, .int .i64 a0_2, .int .i64 a0_3, .slice A0_4 l0_4.length c0_4, .slice A0_5 l0_5.length c0_5, .string a0_6, .slice A0_7 l0_7.length c0_7] 30 (0, 0)) (by (with_reducible repeat (first | refine blk_drewN ?_ _ | refine blk_drew ?_ | refine blk_alloc ?_ _)); exact BK431.out) hb); have n1_ := Aside0.mk (below_step (by repeat (first | (with_reducible first | exact HB.out | apply below_alloc | apply pw_below_drewN | apply below_drew1 | refine below_set ?_ GE431.out) | exact HB.out)) hb); have n2_ := Aside0.mk (hbox); have n3_ := Aside0.mk ((by rw [hg]; exact (below_size (by repeat (first | (with_reducible first | exact HB.out | apply below_alloc | apply pw_below_drewN | apply below_drew1 | refine below_set ?_ GE431.out) | exact HB.out))) : w.heap.size ≤ gb434)); have n4_ := Aside0.mk ((by rw [hg]; exact (below_size (by repeat (first | (with_reducible first | exact HB.out | apply below_alloc | apply pw_below_drewN | apply below_drew1 | refine below_set ?_ GE431.out) | exact HB.out))) : w.heap.size ≤ gb434)); have n5_ := Aside0.mk ((by rw [hg]; exact Nat.ne_of_lt (blk_lt (g := gb431) (o := .cells #[.int .i64 a0_0, .int .i64 a0_1, .int .i64 a0_2, .int .i64 a0_3, .slice A0_4 l0_4.length c0_4, .slice A0_5 l0_5.length c0_5, .string a0_6, .slice A0_7 l0_7.length c0_7] 30 (0, 0)) (by (with_reducible repeat (first | refine blk_drewN ?_ _ | refine blk_drew ?_ | refine blk_alloc ?_ _)); exact BK431.out)) : gb431 ≠ gb434)); have n6_ := Aside0.mk ((by rw [hg]; exact Nat.ne_of_gt (blk_lt (g := gb431) (o := .cells #[.int .i64 a0_0, .int .i64 a0_1, .int .i64 a0_2, .int .i64 a0_3, .slice A0_4 l0_4.length c0_4, .slice A0_5 l0_5.length c0_5, .string a0_6, .slice A0_7 l0_7.length c0_7] 30 (0, 0)) (by (with_reducible repeat (first | refine blk_drewN ?_ _ | refine blk_drew ?_ | refine blk_alloc ?_ _)); exact BK431.out)) : gb434 ≠ gb431)); clear BK431; clear HB; have BK431 := n0_; have HB := n1_; have BK434 := n2_; have GW434 := n3_; have GE434 := n4_; have NB431_434 := n5_; have NB434_431 := n6_; clear n0_ n1_ n2_ n3_ n4_ n5_ n6_; clear hb hbox hg; have hnb21 := NB434_431.out; have hnc21 := NB431_434.out; have hcz22_0 : w20.cell? ⟨gb434, 0, none⟩ = some (.int .i64 0) := (blk_cell BK434.out 0).trans rfl; have hcz22_1 : w20.cell? ⟨gb434, 1, none⟩ = some (.int .i64 0) := (blk_cell BK434.out 1).trans rfl; have hcz22_2 : w20.cell? ⟨gb434, 2, none⟩ = some (.int .i64 0) := (blk_cell BK434.out 2).trans rfl; have hcz22_3 : w20.cell? ⟨gb434, 3, none⟩ = some (.slice none 0 0) := (blk_cell BK434.out 3).trans rfl; have hcz22_4 : w20.cell? ⟨gb434, 4, none⟩ = some (.slice none 0 0) := (blk_cell BK434.out 4).trans rfl; have hcz22_5 : w20.cell? ⟨gb434, 5, none⟩ = some (.string (⟨#[]⟩ : ByteArray)) := (blk_cell BK434.out 5).trans rfl; have hfz22_0 := blk_frozen BK434.out 0; have hfz22_1 := blk_frozen BK434.out 1; have hfz22_2 := blk_frozen BK434.out 2; have hfz22_3 := blk_frozen BK434.out 3; have hfz22_4 := blk_frozen BK434.out 4; have hfz22_5 := blk_frozen BK434.out 5))
                go_roundg k1
                case measure => have := HK1.out; omega
                case rel => exact ⟨(1), (wrap64 (x27_1 + 1)), (by first | rfl | (simp; done) | (simp [*]; done)), (by first | rfl | (simp; done) | (simp [*]; done)), H', ⟨by have := HK1.out; omega⟩, ⟨by (with_reducible repeat (first | refine blk_drewN ?_ _ | refine blk_drew ?_ | refine blk_alloc ?_ _)); refine blk_far ?_ NB431_434.out _; (with_reducible repeat (first | refine blk_drewN ?_ _ | refine blk_drew ?_ | refine blk_alloc ?_ _)); refine blk_far ?_ NB431_434.out _; (with_reducible repeat (first | refine blk_drewN ?_ _ | refine blk_drew ?_ | refine blk_alloc ?_ _)); refine blk_far ?_ NB431_434.out _; (with_reducible repeat (first | refine blk_drewN ?_ _ | refine blk_drew ?_ | refine blk_alloc ?_ _)); refine blk_far ?_ NB431_434.out _; (with_reducible repeat (first | refine blk_drewN ?_ _ | refine blk_drew ?_ | refine blk_alloc ?_ _)); refine blk_far ?_ NB431_434.out _; (with_reducible repeat (first | refine blk_drewN ?_ _ | refine blk_drew ?_ | refine blk_alloc ?_ _)); refine blk_far ?_ NB431_434.out _; (with_reducible repeat (first | refine blk_drewN ?_ _ | refine blk_drew ?_ | refine blk_alloc ?_ _)); exact BK431.out⟩, ⟨by repeat (first | (with_reducible first | exact HB.out | apply below_alloc | apply pw_below_drewN | apply below_drew1 | refine below_set ?_ GE431.out | refine below_set ?_ GE434.out) | exact HB.out)⟩⟩
          · rw [if_neg c11] at H
            exact absurd H (by simp)
        · rw [if_neg c10] at H
          exact absurd H (by simp)
      · rw [if_neg c9] at H
        have c9b0 : decide (x27_1 < (l3.length : Int)) = false := decide_eq_false c9
        clear c9
        by_cases c23 : x11_1 = 0
        · rw [if_pos c23] at H
          have c23b0 : (x11_1 == 0) = true := beq_iff_eq.mpr c23
          have c23b1 : (x11_1 != 0) = false := bne_eq_false_iff_eq.mpr c23
          clear c23
          replace H := Option.bind_eq_some_iff.mp H
          obtain ⟨⟨t435, t436⟩, A240, H⟩ := H
          replace H : ((raftlog_Term.f a0_0 a0_1 a0_2 a0_3 l0_4 l0_5 a0_6 l0_7 a1).bind fun bt437 => (if a1 > t435 then (raftlog_Merge.j1 k1 a1 l3 t435 true a0_0 a0_1 a0_2 a0_3 l0_4 l0_5 a0_6 l0_7) else (if a1 ≥ a0_2 then (raftlog_Merge.j1 k1 a1 l3 t435 (bt437.1 != a2) a0_0 a0_1 a0_2 a0_3 l0_4 l0_5 a0_6 l0_7) else (raftlog_Merge.j1 k1 a1 l3 t435 false a0_0 a0_1 a0_2 a0_3 l0_4 l0_5 a0_6 l0_7)))) = some (r1, r2, r3) := H
          have A24 := Aside0.mk A240
          clear A240
          replace H := Option.bind_eq_some_iff.mp H
          obtain ⟨⟨t437, t438⟩, A250, H⟩ := H
          replace H : (if a1 > t435 then (raftlog_Merge.j1 k1 a1 l3 t435 true a0_0 a0_1 a0_2 a0_3 l0_4 l0_5 a0_6 l0_7) else (if a1 ≥ a0_2 then (raftlog_Merge.j1 k1 a1 l3 t435 (t437 != a2) a0_0 a0_1 a0_2 a0_3 l0_4 l0_5 a0_6 l0_7) else (raftlog_Merge.j1 k1 a1 l3 t435 false a0_0 a0_1 a0_2 a0_3 l0_4 l0_5 a0_6 l0_7))) = some (r1, r2, r3) := H
          have A25 := Aside0.mk A250
          clear A250
          have HC26 := Aside0.mk H
          clear H
          have hcz27_0 : wr.cell? ⟨gb431, 0, none⟩ = some (.int .i64 a0_0) := (blk_cell BK431.out 0).trans rfl
          have hcz27_1 : wr.cell? ⟨gb431, 1, none⟩ = some (.int .i64 a0_1) := (blk_cell BK431.out 1).trans rfl
          have hcz27_2 : wr.cell? ⟨gb431, 2, none⟩ = some (.int .i64 a0_2) := (blk_cell BK431.out 2).trans rfl
          have hcz27_3 : wr.cell? ⟨gb431, 3, none⟩ = some (.int .i64 a0_3) := (blk_cell BK431.out 3).trans rfl
          have hcz27_4 : wr.cell? ⟨gb431, 4, none⟩ = some (.slice A0_4 l0_4.length c0_4) := (blk_cell BK431.out 4).trans rfl
          have hcz27_5 : wr.cell? ⟨gb431, 5, none⟩ = some (.slice A0_5 l0_5.length c0_5) := (blk_cell BK431.out 5).trans rfl
          have hcz27_6 : wr.cell? ⟨gb431, 6, none⟩ = some (.string a0_6) := (blk_cell BK431.out 6).trans rfl
          have hcz27_7 : wr.cell? ⟨gb431, 7, none⟩ = some (.slice A0_7 l0_7.length c0_7) := (blk_cell BK431.out 7).trans rfl
          have hfz27_0 := blk_frozen BK431.out 0
          have hfz27_1 := blk_frozen BK431.out 1
          have hfz27_2 := blk_frozen BK431.out 2
          have hfz27_3 := blk_frozen BK431.out 3
          have hfz27_4 := blk_frozen BK431.out 4
          have hfz27_5 := blk_frozen BK431.out 5
          have hfz27_6 := blk_frozen BK431.out 6
          have hfz27_7 := blk_frozen BK431.out 7
          go_upto_region 12 with (first | ((with_reducible refine gate_callee (f := 10) rfl ?_); refine goesL_ (some 51) rfl rfl Try.func10 (by kernel_rfl) rfl #[.agg #[.int .i64 a0_0, .int .i64 a0_1, .int .i64 a0_2, .int .i64 a0_3, .slice A0_4 l0_4.length c0_4, .slice A0_5 l0_5.length c0_5, .string a0_6, .slice A0_7 l0_7.length c0_7]] rfl (by (try simp only [List.map_toArray, List.map_cons, List.map_nil]); first | done | rfl | (simp only [List.length_drop, List.length_take]; rfl)) ?_; (with_reducible refine (raftlog_Last.calls a0_0 a0_1 a0_2 a0_3 _ _ l0_4 _ _ l0_5 a0_6 _ _ l0_7 t435 t436 _ ?side1 ?side2 ?side3 ?side4 ?side5 ?side6 A24.out).mono ?_); (case side1 => repeat (first | exact (Kd.C_below HR0_4.out HB.out) | (with_reducible refine Kd.C_alloc ?_ _) | (with_reducible refine Kd.C_drewN ?_ _) | (with_reducible refine Kd.C_drew ?_))); (case side2 => exact HC0_4.out); (case side3 => repeat (first | exact (Kd.C_below HR0_5.out HB.out) | (with_reducible refine Kd.C_alloc ?_ _) | (with_reducible refine Kd.C_drewN ?_ _) | (with_reducible refine Kd.C_drew ?_))); (case side4 => exact HC0_5.out); (case side5 => repeat (first | exact (Kd.C_below HR0_7.out HB.out) | (with_reducible refine Kd.C_alloc ?_ _) | (with_reducible refine Kd.C_drewN ?_ _) | (with_reducible refine Kd.C_drew ?_))); (case side6 => exact HC0_7.out); rintro e w28 ⟨rfl, hb⟩; refine ⟨_, rfl, ?_⟩; have n0_ := Aside0.mk (blk_below (g := gb431) (o := .cells #[.int .i64 a0_0, .int .i64 a0_1, .int .i64 a0_2, .int .i64 a0_3, .slice A0_4 l0_4.length c0_4, .slice A0_5 l0_5.length c0_5, .string a0_6, .slice A0_7 l0_7.length c0_7] 30 (0, 0)) (by (with_reducible repeat (first | refine blk_drewN ?_ _ | refine blk_drew ?_ | refine blk_alloc ?_ _)); exact BK431.out) hb); have n1_ := Aside0.mk (below_step (by repeat (first | (with_reducible first | exact HB.out | apply below_alloc | apply pw_below_drewN | apply below_drew1 | refine below_set ?_ GE431.out) | exact HB.out)) hb); clear BK431; clear HB; have BK431 := n0_; have HB := n1_; clear n0_ n1_; (try clear hb); (try clear hb2); (try clear hk); (try clear hi); have hcz29_0 : w28.cell? ⟨gb431, 0, none⟩ = some (.int .i64 a0_0) := (blk_cell BK431.out 0).trans rfl; have hcz29_1 : w28.cell? ⟨gb431, 1, none⟩ = some (.int .i64 a0_1) := (blk_cell BK431.out 1).trans rfl; have hcz29_2 : w28.cell? ⟨gb431, 2, none⟩ = some (.int .i64 a0_2) := (blk_cell BK431.out 2).trans rfl; have hcz29_3 : w28.cell? ⟨gb431, 3, none⟩ = some (.int .i64 a0_3) := (blk_cell BK431.out 3).trans rfl; have hcz29_4 : w28.cell? ⟨gb431, 4, none⟩ = some (.slice A0_4 l0_4.length c0_4) := (blk_cell BK431.out 4).trans rfl; have hcz29_5 : w28.cell? ⟨gb431, 5, none⟩ = some (.slice A0_5 l0_5.length c0_5) := (blk_cell BK431.out 5).trans rfl; have hcz29_6 : w28.cell? ⟨gb431, 6, none⟩ = some (.string a0_6) := (blk_cell BK431.out 6).trans rfl; have hcz29_7 : w28.cell? ⟨gb431, 7, none⟩ = some (.slice A0_7 l0_7.length c0_7) := (blk_cell BK431.out 7).trans rfl; have hfz29_0 := blk_frozen BK431.out 0; have hfz29_1 := blk_frozen BK431.out 1; have hfz29_2 := blk_frozen BK431.out 2; have hfz29_3 := blk_frozen BK431.out 3; have hfz29_4 := blk_frozen BK431.out 4; have hfz29_5 := blk_frozen BK431.out 5; have hfz29_6 := blk_frozen BK431.out 6; have hfz29_7 := blk_frozen BK431.out 7) | ((with_reducible refine gate_callee (f := 15) rfl ?_); refine goesL_ (some 57) rfl rfl Try.func15 (by kernel_rfl) rfl #[.agg #[.int .i64 a0_0, .int .i64 a0_1, .int .i64 a0_2, .int .i64 a0_3, .slice A0_4 l0_4.length c0_4, .slice A0_5 l0_5.length c0_5, .string a0_6, .slice A0_7 l0_7.length c0_7], .int .i64 a1] rfl (by (try simp only [List.map_toArray, List.map_cons, List.map_nil]); first | done | rfl | (simp only [List.length_drop, List.length_take]; rfl)) ?_; (with_reducible refine (raftlog_Term.calls a0_0 a0_1 a0_2 a0_3 _ _ l0_4 _ _ l0_5 a0_6 _ _ l0_7 a1 t437 t438 _ ?side1 ?side2 ?side3 ?side4 ?side5 ?side6 A25.out).mono ?_); (case side1 => repeat (first | exact (Kd.C_below HR0_4.out HB.out) | (with_reducible refine Kd.C_alloc ?_ _) | (with_reducible refine Kd.C_drewN ?_ _) | (with_reducible refine Kd.C_drew ?_))); (case side2 => exact HC0_4.out); (case side3 => repeat (first | exact (Kd.C_below HR0_5.out HB.out) | (with_reducible refine Kd.C_alloc ?_ _) | (with_reducible refine Kd.C_drewN ?_ _) | (with_reducible refine Kd.C_drew ?_))); (case side4 => exact HC0_5.out); (case side5 => repeat (first | exact (Kd.C_below HR0_7.out HB.out) | (with_reducible refine Kd.C_alloc ?_ _) | (with_reducible refine Kd.C_drewN ?_ _) | (with_reducible refine Kd.C_drew ?_))); (case side6 => exact HC0_7.out); rintro e w30 ⟨rfl, hb⟩; refine ⟨_, rfl, ?_⟩; have n0_ := Aside0.mk (blk_below (g := gb431) (o := .cells #[.int .i64 a0_0, .int .i64 a0_1, .int .i64 a0_2, .int .i64 a0_3, .slice A0_4 l0_4.length c0_4, .slice A0_5 l0_5.length c0_5, .string a0_6, .slice A0_7 l0_7.length c0_7] 30 (0, 0)) (by (with_reducible repeat (first | refine blk_drewN ?_ _ | refine blk_drew ?_ | refine blk_alloc ?_ _)); exact BK431.out) hb); have n1_ := Aside0.mk (below_step (by repeat (first | (with_reducible first | exact HB.out | apply below_alloc | apply pw_below_drewN | apply below_drew1 | refine below_set ?_ GE431.out) | exact HB.out)) hb); clear BK431; clear HB; have BK431 := n0_; have HB := n1_; clear n0_ n1_; (try clear hb); (try clear hb2); (try clear hk); (try clear hi)))
          (try simp only [Act.put, List.setIfInBounds_toArray, List.set_cons_zero, List.set_cons_succ])
          go_cut [74] (fun v74 wc => ∃ (kq : Nat) (x74_25 : Bool), v74 = .bool x74_25 ∧ Aside0 (raftlog_Merge.j1 kq a1 l3 t435 x74_25 a0_0 a0_1 a0_2 a0_3 l0_4 l0_5 a0_6 l0_7 = some (r1, r2, r3)) ∧ Aside0 (kq ≤ k1) ∧ Aside0 (wc.heap[gb431]? = some (.cells #[.int .i64 a0_0, .int .i64 a0_1, .int .i64 a0_2, .int .i64 a0_3, (.slice A0_4 l0_4.length c0_4), (.slice A0_5 l0_5.length c0_5), .string a0_6, (.slice A0_7 l0_7.length c0_7)] 30 (0, 0))) ∧ Aside0 (Below w.heap.size w wc))
          case first =>
            have H := HC26.out
            clear HC26
            by_cases c31 : a1 > t435
            · rw [if_pos c31] at H
              have c31b0 : decide (t435 < a1) = true := decide_eq_true c31
              clear c31
              (first | rw [c31b0] | (simp only [i64_w, i32_w]; rw [c31b0]) | skip)
              have H' := Aside0.mk H
              clear H
              go_wp2
              go_meet
              case rel => exact ⟨_, (true), (by first | rfl | (simp; done) | (simp [*]; done)), H', ⟨by have := HK1.out; first | omega | exact Nat.le_refl _⟩, ⟨by (with_reducible repeat (first | refine blk_drewN ?_ _ | refine blk_drew ?_ | refine blk_alloc ?_ _)); exact BK431.out⟩, ⟨by repeat (first | (with_reducible first | exact HB.out | apply below_alloc | apply pw_below_drewN | apply below_drew1 | refine below_set ?_ GE431.out) | exact HB.out)⟩⟩
            · rw [if_neg c31] at H
              have c31b0 : decide (t435 < a1) = false := decide_eq_false c31
              clear c31
              (first | rw [c31b0] | (simp only [i64_w, i32_w]; rw [c31b0]) | skip)
              by_cases c32 : a1 ≥ a0_2
              · rw [if_pos c32] at H
                have c32b0 : decide (a0_2 ≤ a1) = true := decide_eq_true c32
                clear c32
                have H' := Aside0.mk H
                clear H
                have hcz33_0 : w30.cell? ⟨gb431, 0, none⟩ = some (.int .i64 a0_0) := (blk_cell BK431.out 0).trans rfl
                have hcz33_1 : w30.cell? ⟨gb431, 1, none⟩ = some (.int .i64 a0_1) := (blk_cell BK431.out 1).trans rfl
                have hcz33_2 : w30.cell? ⟨gb431, 2, none⟩ = some (.int .i64 a0_2) := (blk_cell BK431.out 2).trans rfl
                have hcz33_3 : w30.cell? ⟨gb431, 3, none⟩ = some (.int .i64 a0_3) := (blk_cell BK431.out 3).trans rfl
                have hcz33_4 : w30.cell? ⟨gb431, 4, none⟩ = some (.slice A0_4 l0_4.length c0_4) := (blk_cell BK431.out 4).trans rfl
                have hcz33_5 : w30.cell? ⟨gb431, 5, none⟩ = some (.slice A0_5 l0_5.length c0_5) := (blk_cell BK431.out 5).trans rfl
                have hcz33_6 : w30.cell? ⟨gb431, 6, none⟩ = some (.string a0_6) := (blk_cell BK431.out 6).trans rfl
                have hcz33_7 : w30.cell? ⟨gb431, 7, none⟩ = some (.slice A0_7 l0_7.length c0_7) := (blk_cell BK431.out 7).trans rfl
                have hfz33_0 := blk_frozen BK431.out 0
                have hfz33_1 := blk_frozen BK431.out 1
                have hfz33_2 := blk_frozen BK431.out 2
                have hfz33_3 := blk_frozen BK431.out 3
                have hfz33_4 := blk_frozen BK431.out 4
                have hfz33_5 := blk_frozen BK431.out 5
                have hfz33_6 := blk_frozen BK431.out 6
                have hfz33_7 := blk_frozen BK431.out 7
                go_wp2
                go_meet
                case rel => exact ⟨_, ((t437 != a2)), (by first | rfl | (simp; done) | (simp [*]; done)), H', ⟨by have := HK1.out; first | omega | exact Nat.le_refl _⟩, ⟨by (with_reducible repeat (first | refine blk_drewN ?_ _ | refine blk_drew ?_ | refine blk_alloc ?_ _)); exact BK431.out⟩, ⟨by repeat (first | (with_reducible first | exact HB.out | apply below_alloc | apply pw_below_drewN | apply below_drew1 | refine below_set ?_ GE431.out) | exact HB.out)⟩⟩
              · rw [if_neg c32] at H
                have c32b0 : decide (a0_2 ≤ a1) = false := decide_eq_false c32
                clear c32
                have H' := Aside0.mk H
                clear H
                have hcz34_0 : w30.cell? ⟨gb431, 0, none⟩ = some (.int .i64 a0_0) := (blk_cell BK431.out 0).trans rfl
                have hcz34_1 : w30.cell? ⟨gb431, 1, none⟩ = some (.int .i64 a0_1) := (blk_cell BK431.out 1).trans rfl
                have hcz34_2 : w30.cell? ⟨gb431, 2, none⟩ = some (.int .i64 a0_2) := (blk_cell BK431.out 2).trans rfl
                have hcz34_3 : w30.cell? ⟨gb431, 3, none⟩ = some (.int .i64 a0_3) := (blk_cell BK431.out 3).trans rfl
                have hcz34_4 : w30.cell? ⟨gb431, 4, none⟩ = some (.slice A0_4 l0_4.length c0_4) := (blk_cell BK431.out 4).trans rfl
                have hcz34_5 : w30.cell? ⟨gb431, 5, none⟩ = some (.slice A0_5 l0_5.length c0_5) := (blk_cell BK431.out 5).trans rfl
                have hcz34_6 : w30.cell? ⟨gb431, 6, none⟩ = some (.string a0_6) := (blk_cell BK431.out 6).trans rfl
                have hcz34_7 : w30.cell? ⟨gb431, 7, none⟩ = some (.slice A0_7 l0_7.length c0_7) := (blk_cell BK431.out 7).trans rfl
                have hfz34_0 := blk_frozen BK431.out 0
                have hfz34_1 := blk_frozen BK431.out 1
                have hfz34_2 := blk_frozen BK431.out 2
                have hfz34_3 := blk_frozen BK431.out 3
                have hfz34_4 := blk_frozen BK431.out 4
                have hfz34_5 := blk_frozen BK431.out 5
                have hfz34_6 := blk_frozen BK431.out 6
                have hfz34_7 := blk_frozen BK431.out 7
                go_wp2
                go_meet
                case rel => exact ⟨_, (false), (by first | rfl | (simp; done) | (simp [*]; done)), H', ⟨by have := HK1.out; first | omega | exact Nat.le_refl _⟩, ⟨by (with_reducible repeat (first | refine blk_drewN ?_ _ | refine blk_drew ?_ | refine blk_alloc ?_ _)); exact BK431.out⟩, ⟨by repeat (first | (with_reducible first | exact HB.out | apply below_alloc | apply pw_below_drewN | apply below_drew1 | refine below_set ?_ GE431.out) | exact HB.out)⟩⟩
          case rest =>
            clear HC26
            try clear c1
            try clear c2
            try clear p2
            try clear c3
            try clear c4
            try clear p4
            try clear q4
            try clear hx4
            try clear p6
            try clear c9
            try clear c9b0
            try clear c10
            try clear c10b0
            try clear c11
            try clear c11b0
            try clear c12
            try clear c12b0
            try clear c14
            try clear c15
            try clear c16
            try clear c16b0
            try clear c16b1
            try clear c18
            try clear c21
            try clear c23
            try clear c23b0
            try clear c23b1
            try clear c28
            try clear c31
            try clear c31b0
            try clear c32
            try clear c32b0
            try clear hcz15_0
            try clear hcz15_1
            try clear hcz15_2
            try clear hcz15_3
            try clear hcz15_4
            try clear hcz15_5
            try clear hcz19_0
            try clear hcz19_1
            try clear hcz19_2
            try clear hcz19_3
            try clear hcz19_4
            try clear hcz19_5
            try clear hcz22_0
            try clear hcz22_1
            try clear hcz22_2
            try clear hcz22_3
            try clear hcz22_4
            try clear hcz22_5
            try clear hcz27_0
            try clear hcz27_1
            try clear hcz27_2
            try clear hcz27_3
            try clear hcz27_4
            try clear hcz27_5
            try clear hcz27_6
            try clear hcz27_7
            try clear hcz29_0
            try clear hcz29_1
            try clear hcz29_2
            try clear hcz29_3
            try clear hcz29_4
            try clear hcz29_5
            try clear hcz29_6
            try clear hcz29_7
            try clear hcz33_0
            try clear hcz33_1
            try clear hcz33_2
            try clear hcz33_3
            try clear hcz33_4
            try clear hcz33_5
            try clear hcz33_6
            try clear hcz33_7
            try clear hcz34_0
            try clear hcz34_1
            try clear hcz34_2
            try clear hcz34_3
            try clear hcz34_4
            try clear hcz34_5
            try clear hcz34_6
            try clear hcz34_7
            try clear hcz7_0
            try clear hcz7_1
            try clear hcz7_2
            try clear hcz7_3
            try clear hcz7_4
            try clear hcz7_5
            try clear hcz7_6
            try clear hcz7_7
            try clear hfz15_0
            try clear hfz15_1
            try clear hfz15_2
            try clear hfz15_3
            try clear hfz15_4
            try clear hfz15_5
            try clear hfz19_0
            try clear hfz19_1
            try clear hfz19_2
            try clear hfz19_3
            try clear hfz19_4
            try clear hfz19_5
            try clear hfz22_0
            try clear hfz22_1
            try clear hfz22_2
            try clear hfz22_3
            try clear hfz22_4
            try clear hfz22_5
            try clear hfz27_0
            try clear hfz27_1
            try clear hfz27_2
            try clear hfz27_3
            try clear hfz27_4
            try clear hfz27_5
            try clear hfz27_6
            try clear hfz27_7
            try clear hfz29_0
            try clear hfz29_1
            try clear hfz29_2
            try clear hfz29_3
            try clear hfz29_4
            try clear hfz29_5
            try clear hfz29_6
            try clear hfz29_7
            try clear hfz33_0
            try clear hfz33_1
            try clear hfz33_2
            try clear hfz33_3
            try clear hfz33_4
            try clear hfz33_5
            try clear hfz33_6
            try clear hfz33_7
            try clear hfz34_0
            try clear hfz34_1
            try clear hfz34_2
            try clear hfz34_3
            try clear hfz34_4
            try clear hfz34_5
            try clear hfz34_6
            try clear hfz34_7
            try clear hfz7_0
            try clear hfz7_1
            try clear hfz7_2
            try clear hfz7_3
            try clear hfz7_4
            try clear hfz7_5
            try clear hfz7_6
            try clear hfz7_7
            try clear hx433_0
            try clear hx433_1
            try clear hx433_2
            try clear hx433_3
            try clear hx433_4
            try clear hx433_5
            try clear p2
            try clear p433
            try clear q433
            obtain ⟨kq, x74_25, rfl, HA, HJ25, BK431, HB⟩ := hcut
            cases kq with
            | zero => exact absurd HA.out (by simp [raftlog_Merge.j1])
            | succ kj25 =>
              have H := HA.out
              clear HA
              simp only [raftlog_Merge.j1] at H
              by_cases c35 : x74_25 = true
              · subst c35
                have H1 : (some (([] : List (S57)), 0, 150)) = some (r1, r2, r3) := by rw [if_pos rfl] at H; exact H
                clear H
                have H := H1
                clear H1
                simp only [Option.some.injEq, Prod.mk.injEq] at H
                obtain ⟨rfl, rfl, rfl⟩ := H
                go_wp2
                go_ret3
                exact ⟨_, by first | rfl | (simp [errW_none, errW_some] <;> rfl) | (simp [*, errW_none, errW_some] <;> rfl), by first | exact Kd.S_nil _ _ _ _ _ | exact Kd.N_nil _ _ _ _ _ | exact Kd.V_nil _ _ _ _ _ | exact Kd.Q_nil _ _ _ _ _ | exact Kd.R_nil _ _ _ _ _, by repeat (first | (with_reducible first | exact HB.out | apply below_alloc | apply pw_below_drewN | apply below_drew1 | refine below_set ?_ GE431.out) | exact HB.out)⟩
              · replace c35 := Bool.eq_false_iff.mpr c35
                subst c35
                have H1 : ((api_Entry.f l3 a0_0 a0_1 a0_2 a0_3 l0_4 l0_5 a0_6 l0_7).bind fun t439 => (if t439 < 0 then (some (([] : List (S57)), mx (wrap64 (a1 + (l3.length : Int))) a0_2, 0)) else (if 0 ≤ t439 then (if t439 < (l3.length : Int) then (if ((rd_T54 l3 t439).f0) ≤ t435 then (if ([] : List (S57)).length < 703687441776 then (raftlog_Merge.j2 kj25 l3 (mx (wrap64 (a1 + (l3.length : Int))) a0_2) t439 (([] : List (S57)) ++ [(⟨3, 0, 0, (⟨0, 0, 0, (⟨([] : List Int), ([] : List Int)⟩ : S25), (⟨#[]⟩ : ByteArray)⟩ : S54), (rd_T54 l3 t439).f0, (⟨0, 0, (⟨([] : List Int), ([] : List Int)⟩ : S25), (⟨#[]⟩ : ByteArray)⟩ : S27)⟩ : S57)])) else (none)) else (raftlog_Merge.j2 kj25 l3 (mx (wrap64 (a1 + (l3.length : Int))) a0_2) t439 ([] : List (S57)))) else (none)) else (none)))) = some (r1, r2, r3) := by rw [if_neg (show ¬ (false = true) by decide)] at H; exact H
                clear H
                have H := H1
                clear H1
                obtain ⟨ji36, hji36⟩ : ∃ j_ : Int, (mx (wrap64 (a1 + (l3.length : Int))) a0_2) = j_ := ⟨_, rfl⟩
                replace H : ((api_Entry.f l3 a0_0 a0_1 a0_2 a0_3 l0_4 l0_5 a0_6 l0_7).bind fun t439 => (if t439 < 0 then (some (([] : List (S57)), ji36, 0)) else (if 0 ≤ t439 then (if t439 < (l3.length : Int) then (if ((rd_T54 l3 t439).f0) ≤ t435 then (if ([] : List (S57)).length < 703687441776 then (raftlog_Merge.j2 kj25 l3 ji36 t439 (([] : List (S57)) ++ [(⟨3, 0, 0, (⟨0, 0, 0, (⟨([] : List Int), ([] : List Int)⟩ : S25), (⟨#[]⟩ : ByteArray)⟩ : S54), (rd_T54 l3 t439).f0, (⟨0, 0, (⟨([] : List Int), ([] : List Int)⟩ : S25), (⟨#[]⟩ : ByteArray)⟩ : S27)⟩ : S57)])) else (none)) else (raftlog_Merge.j2 kj25 l3 ji36 t439 ([] : List (S57)))) else (none)) else (none)))) = some (r1, r2, r3) := by first | (rw [hji36] at H; exact H) | (simp only [hji36] at H ⊢; exact H)
                have hji36_ : (if (wrap64 (a1 + (l3.length : Int))) < a0_2 then a0_2 else (wrap64 (a1 + (l3.length : Int)))) = ji36 := hji36
                replace H := Option.bind_eq_some_iff.mp H
                obtain ⟨t439, A370, H⟩ := H
                replace H : (if t439 < 0 then (some (([] : List (S57)), ji36, 0)) else (if 0 ≤ t439 then (if t439 < (l3.length : Int) then (if ((rd_T54 l3 t439).f0) ≤ t435 then (if ([] : List (S57)).length < 703687441776 then (raftlog_Merge.j2 kj25 l3 ji36 t439 (([] : List (S57)) ++ [(⟨3, 0, 0, (⟨0, 0, 0, (⟨([] : List Int), ([] : List Int)⟩ : S25), (⟨#[]⟩ : ByteArray)⟩ : S54), (rd_T54 l3 t439).f0, (⟨0, 0, (⟨([] : List Int), ([] : List Int)⟩ : S25), (⟨#[]⟩ : ByteArray)⟩ : S27)⟩ : S57)])) else (none)) else (raftlog_Merge.j2 kj25 l3 ji36 t439 ([] : List (S57)))) else (none)) else (none))) = some (r1, r2, r3) := H
                have A37 := Aside0.mk A370
                clear A370
                by_cases c38 : t439 < 0
                · rw [if_pos c38] at H
                  have c38b0 : decide (t439 < 0) = true := decide_eq_true c38
                  clear c38
                  simp only [Option.some.injEq, Prod.mk.injEq] at H
                  obtain ⟨rfl, rfl, rfl⟩ := H
                  have hcz39_0 : wc.cell? ⟨gb431, 0, none⟩ = some (.int .i64 a0_0) := (blk_cell BK431.out 0).trans rfl
                  have hcz39_1 : wc.cell? ⟨gb431, 1, none⟩ = some (.int .i64 a0_1) := (blk_cell BK431.out 1).trans rfl
                  have hcz39_2 : wc.cell? ⟨gb431, 2, none⟩ = some (.int .i64 a0_2) := (blk_cell BK431.out 2).trans rfl
                  have hcz39_3 : wc.cell? ⟨gb431, 3, none⟩ = some (.int .i64 a0_3) := (blk_cell BK431.out 3).trans rfl
                  have hcz39_4 : wc.cell? ⟨gb431, 4, none⟩ = some (.slice A0_4 l0_4.length c0_4) := (blk_cell BK431.out 4).trans rfl
                  have hcz39_5 : wc.cell? ⟨gb431, 5, none⟩ = some (.slice A0_5 l0_5.length c0_5) := (blk_cell BK431.out 5).trans rfl
                  have hcz39_6 : wc.cell? ⟨gb431, 6, none⟩ = some (.string a0_6) := (blk_cell BK431.out 6).trans rfl
                  have hcz39_7 : wc.cell? ⟨gb431, 7, none⟩ = some (.slice A0_7 l0_7.length c0_7) := (blk_cell BK431.out 7).trans rfl
                  have hfz39_0 := blk_frozen BK431.out 0
                  have hfz39_1 := blk_frozen BK431.out 1
                  have hfz39_2 := blk_frozen BK431.out 2
                  have hfz39_3 := blk_frozen BK431.out 3
                  have hfz39_4 := blk_frozen BK431.out 4
                  have hfz39_5 := blk_frozen BK431.out 5
                  have hfz39_6 := blk_frozen BK431.out 6
                  have hfz39_7 := blk_frozen BK431.out 7
                  go_wp2_with (first | ((with_reducible refine gate_callee (f := 42) rfl ?_); refine goesL_ (some 85) rfl rfl Try.func42 (by kernel_rfl) rfl #[.slice A3 l3.length c3, .func (.func 43) #[] #[.pointer (some ⟨gb431, 0, none⟩)]] rfl (by (try simp only [List.map_toArray, List.map_cons, List.map_nil]); first | done | rfl | (simp only [List.length_drop, List.length_take]; rfl)) ?_; (with_reducible refine (api_Entry.calls _ _ l3 a0_0 a0_1 a0_2 a0_3 _ _ l0_4 _ _ l0_5 a0_6 _ _ l0_7 gb431 t439 _ ?side1 ?side2 ?side3 ?side4 ?side5 ?side6 ?side7 ?side8 (by (with_reducible repeat (first | refine blk_drewN ?_ _ | refine blk_drew ?_ | refine blk_alloc ?_ _)); exact BK431.out) A37.out).mono ?_); (case side1 => repeat (first | exact (Kd.C_below HR3.out HB.out) | (with_reducible refine Kd.C_alloc ?_ _) | (with_reducible refine Kd.C_drewN ?_ _) | (with_reducible refine Kd.C_drew ?_))); (case side2 => exact HC3.out); (case side3 => repeat (first | exact (Kd.C_below HR0_4.out HB.out) | (with_reducible refine Kd.C_alloc ?_ _) | (with_reducible refine Kd.C_drewN ?_ _) | (with_reducible refine Kd.C_drew ?_))); (case side4 => exact HC0_4.out); (case side5 => repeat (first | exact (Kd.C_below HR0_5.out HB.out) | (with_reducible refine Kd.C_alloc ?_ _) | (with_reducible refine Kd.C_drewN ?_ _) | (with_reducible refine Kd.C_drew ?_))); (case side6 => exact HC0_5.out); (case side7 => repeat (first | exact (Kd.C_below HR0_7.out HB.out) | (with_reducible refine Kd.C_alloc ?_ _) | (with_reducible refine Kd.C_drewN ?_ _) | (with_reducible refine Kd.C_drew ?_))); (case side8 => exact HC0_7.out); rintro e w40 ⟨rfl, hb⟩; refine ⟨_, rfl, ?_⟩; have n0_ := Aside0.mk (blk_below (g := gb431) (o := .cells #[.int .i64 a0_0, .int .i64 a0_1, .int .i64 a0_2, .int .i64 a0_3, .slice A0_4 l0_4.length c0_4, .slice A0_5 l0_5.length c0_5, .string a0_6, .slice A0_7 l0_7.length c0_7] 30 (0, 0)) (by (with_reducible repeat (first | refine blk_drewN ?_ _ | refine blk_drew ?_ | refine blk_alloc ?_ _)); exact BK431.out) hb); have n1_ := Aside0.mk (below_step (by repeat (first | (with_reducible first | exact HB.out | apply below_alloc | apply pw_below_drewN | apply below_drew1 | refine below_set ?_ GE431.out) | exact HB.out)) hb); clear BK431; clear HB; have BK431 := n0_; have HB := n1_; clear n0_ n1_; (try clear hb); (try clear hb2); (try clear hk); (try clear hi)))
                  go_ret3
                  exact ⟨_, by first | rfl | (simp [errW_none, errW_some] <;> rfl) | (simp only [← hji36]; first | rfl | (simp [errW_none, errW_some] <;> rfl)) | (simp [*, errW_none, errW_some] <;> rfl), by first | exact Kd.S_nil _ _ _ _ _ | exact Kd.N_nil _ _ _ _ _ | exact Kd.V_nil _ _ _ _ _ | exact Kd.Q_nil _ _ _ _ _ | exact Kd.R_nil _ _ _ _ _, by repeat (first | (with_reducible first | exact HB.out | apply below_alloc | apply pw_below_drewN | apply below_drew1 | refine below_set ?_ GE431.out) | exact HB.out)⟩
                · rw [if_neg c38] at H
                  have c38b0 : decide (t439 < 0) = false := decide_eq_false c38
                  clear c38
                  by_cases c41 : 0 ≤ t439
                  · rw [if_pos c41] at H
                    have c41b0 : decide (0 ≤ t439) = true := decide_eq_true c41
                    clear c41
                    by_cases c42 : t439 < (l3.length : Int)
                    · rw [if_pos c42] at H
                      have c42b0 : decide (t439 < (l3.length : Int)) = true := decide_eq_true c42
                      clear c42
                      have HC43 := Aside0.mk H
                      clear H
                      have hcz44_0 : wc.cell? ⟨gb431, 0, none⟩ = some (.int .i64 a0_0) := (blk_cell BK431.out 0).trans rfl
                      have hcz44_1 : wc.cell? ⟨gb431, 1, none⟩ = some (.int .i64 a0_1) := (blk_cell BK431.out 1).trans rfl
                      have hcz44_2 : wc.cell? ⟨gb431, 2, none⟩ = some (.int .i64 a0_2) := (blk_cell BK431.out 2).trans rfl
                      have hcz44_3 : wc.cell? ⟨gb431, 3, none⟩ = some (.int .i64 a0_3) := (blk_cell BK431.out 3).trans rfl
                      have hcz44_4 : wc.cell? ⟨gb431, 4, none⟩ = some (.slice A0_4 l0_4.length c0_4) := (blk_cell BK431.out 4).trans rfl
                      have hcz44_5 : wc.cell? ⟨gb431, 5, none⟩ = some (.slice A0_5 l0_5.length c0_5) := (blk_cell BK431.out 5).trans rfl
                      have hcz44_6 : wc.cell? ⟨gb431, 6, none⟩ = some (.string a0_6) := (blk_cell BK431.out 6).trans rfl
                      have hcz44_7 : wc.cell? ⟨gb431, 7, none⟩ = some (.slice A0_7 l0_7.length c0_7) := (blk_cell BK431.out 7).trans rfl
                      have hfz44_0 := blk_frozen BK431.out 0
                      have hfz44_1 := blk_frozen BK431.out 1
                      have hfz44_2 := blk_frozen BK431.out 2
                      have hfz44_3 := blk_frozen BK431.out 3
                      have hfz44_4 := blk_frozen BK431.out 4
                      have hfz44_5 := blk_frozen BK431.out 5
                      have hfz44_6 := blk_frozen BK431.out 6
                      have hfz44_7 := blk_frozen BK431.out 7
                      go_upto_if 95 with (first | ((with_reducible refine gate_callee (f := 42) rfl ?_); refine goesL_ (some 85) rfl rfl Try.func42 (by kernel_rfl) rfl #[.slice A3 l3.length c3, .func (.func 43) #[] #[.pointer (some ⟨gb431, 0, none⟩)]] rfl (by (try simp only [List.map_toArray, List.map_cons, List.map_nil]); first | done | rfl | (simp only [List.length_drop, List.length_take]; rfl)) ?_; (with_reducible refine (api_Entry.calls _ _ l3 a0_0 a0_1 a0_2 a0_3 _ _ l0_4 _ _ l0_5 a0_6 _ _ l0_7 gb431 t439 _ ?side1 ?side2 ?side3 ?side4 ?side5 ?side6 ?side7 ?side8 (by (with_reducible repeat (first | refine blk_drewN ?_ _ | refine blk_drew ?_ | refine blk_alloc ?_ _)); exact BK431.out) A37.out).mono ?_); (case side1 => repeat (first | exact (Kd.C_below HR3.out HB.out) | (with_reducible refine Kd.C_alloc ?_ _) | (with_reducible refine Kd.C_drewN ?_ _) | (with_reducible refine Kd.C_drew ?_))); (case side2 => exact HC3.out); (case side3 => repeat (first | exact (Kd.C_below HR0_4.out HB.out) | (with_reducible refine Kd.C_alloc ?_ _) | (with_reducible refine Kd.C_drewN ?_ _) | (with_reducible refine Kd.C_drew ?_))); (case side4 => exact HC0_4.out); (case side5 => repeat (first | exact (Kd.C_below HR0_5.out HB.out) | (with_reducible refine Kd.C_alloc ?_ _) | (with_reducible refine Kd.C_drewN ?_ _) | (with_reducible refine Kd.C_drew ?_))); (case side6 => exact HC0_5.out); (case side7 => repeat (first | exact (Kd.C_below HR0_7.out HB.out) | (with_reducible refine Kd.C_alloc ?_ _) | (with_reducible refine Kd.C_drewN ?_ _) | (with_reducible refine Kd.C_drew ?_))); (case side8 => exact HC0_7.out); rintro e w45 ⟨rfl, hb⟩; refine ⟨_, rfl, ?_⟩; have n0_ := Aside0.mk (blk_below (g := gb431) (o := .cells #[.int .i64 a0_0, .int .i64 a0_1, .int .i64 a0_2, .int .i64 a0_3, .slice A0_4 l0_4.length c0_4, .slice A0_5 l0_5.length c0_5, .string a0_6, .slice A0_7 l0_7.length c0_7] 30 (0, 0)) (by (with_reducible repeat (first | refine blk_drewN ?_ _ | refine blk_drew ?_ | refine blk_alloc ?_ _)); exact BK431.out) hb); have n1_ := Aside0.mk (below_step (by repeat (first | (with_reducible first | exact HB.out | apply below_alloc | apply pw_below_drewN | apply below_drew1 | refine below_set ?_ GE431.out) | exact HB.out)) hb); clear BK431; clear HB; have BK431 := n0_; have HB := n1_; clear n0_ n1_; (try clear hb); (try clear hb2); (try clear hk); (try clear hi); have p440 : 0 ≤ (t439 : Int) := of_decide_eq_true (by first | (with_reducible assumption) | assumption); have q440 : t439 < (l3.length : Int) := of_decide_eq_true (by first | (with_reducible assumption) | assumption); obtain ⟨ad440, A440_3, c440_3, A440_4, c440_4, e440, hx440_0, hx440_1, hx440_2, hx440_3, hx440_4, hx440_5, hl440_3, hi440_3, hl440_4, hi440_4⟩ := at_T54 HR3.out t439 p440 q440; cases e440; replace hx440_0 := (HB.out.cell (World.block_lt_of_cell? w _ hx440_0)).trans hx440_0; replace hx440_1 := (HB.out.cell (World.block_lt_of_cell? w _ hx440_1)).trans hx440_1; replace hx440_2 := (HB.out.cell (World.block_lt_of_cell? w _ hx440_2)).trans hx440_2; replace hx440_3 := (HB.out.cell (World.block_lt_of_cell? w _ hx440_3)).trans hx440_3; replace hx440_4 := (HB.out.cell (World.block_lt_of_cell? w _ hx440_4)).trans hx440_4; replace hx440_5 := (HB.out.cell (World.block_lt_of_cell? w _ hx440_5)).trans hx440_5; have HR440_3 := Aside0.mk hi440_3; have HC440_3 := Aside0.mk hl440_3; clear hi440_3 hl440_3; have HR440_4 := Aside0.mk hi440_4; have HC440_4 := Aside0.mk hl440_4; clear hi440_4 hl440_4; replace p440 := eq_true p440; replace q440 := eq_true q440))
                      (try simp only [Act.put, List.setIfInBounds_toArray, List.set_cons_zero, List.set_cons_succ])
                      go_cut [20] (fun v20 wc => ∃ (kq : Nat) (x20_42 : List (S57)), Aside0 (raftlog_Merge.j2 kq l3 ji36 t439 x20_42 = some (r1, r2, r3)) ∧ Aside0 (kq ≤ kj25) ∧ Aside0 (Kd.S k57 57 wc w.heap.size (fun _ => True) v20 x20_42) ∧ Aside0 (wc.heap[gb431]? = some (.cells #[.int .i64 a0_0, .int .i64 a0_1, .int .i64 a0_2, .int .i64 a0_3, (.slice A0_4 l0_4.length c0_4), (.slice A0_5 l0_5.length c0_5), .string a0_6, (.slice A0_7 l0_7.length c0_7)] 30 (0, 0))) ∧ Aside0 (Below w.heap.size w wc))
                      case first =>
                        have H := HC43.out
                        clear HC43
                        by_cases c46 : ((rd_T54 l3 t439).f0) ≤ t435
                        · rw [if_pos c46] at H
                          have c46b0 : decide (((rd_T54 l3 t439).f0) ≤ t435) = true := decide_eq_true c46
                          clear c46
                          (first | rw [c46b0] | (simp only [i64_w, i32_w]; rw [c46b0]) | skip)
                          by_cases c47 : ([] : List (S57)).length < 703687441776
                          · rw [if_pos c47] at H
                            have LMc47 := Aside0.mk c47
                            clear c47
                            obtain ⟨y442, hy442⟩ : ∃ y_ : List (S57), y_ = (([] : List (S57)) ++ [(⟨3, 0, 0, (⟨0, 0, 0, (⟨([] : List Int), ([] : List Int)⟩ : S25), (⟨#[]⟩ : ByteArray)⟩ : S54), (rd_T54 l3 t439).f0, (⟨0, 0, (⟨([] : List Int), ([] : List Int)⟩ : S25), (⟨#[]⟩ : ByteArray)⟩ : S27)⟩ : S57)]) := ⟨_, rfl⟩
                            replace H : (raftlog_Merge.j2 kj25 l3 ji36 t439 y442) = some (r1, r2, r3) := by first | (rw [hy442]; with_reducible exact H) | (have H2_ := (Option.bind_some _ _).symm.trans H; rw [hy442]; with_reducible exact H2_) | (have H2_ := (Option.bind_some _ _).symm.trans H; with_reducible exact H2_) | with_reducible exact H | (rw [hy442]; exact H) | exact H
                            have Ny442 := Aside0.mk hy442
                            clear hy442
                            have H' := Aside0.mk H
                            clear H
                            have p441 : 0 ≤ (t439 : Int) := of_decide_eq_true (by first | (with_reducible assumption) | assumption)
                            have q441 : t439 < (l3.length : Int) := of_decide_eq_true (by first | (with_reducible assumption) | assumption)
                            obtain ⟨ad441, A441_3, c441_3, A441_4, c441_4, e441, hx441_0, hx441_1, hx441_2, hx441_3, hx441_4, hx441_5, hl441_3, hi441_3, hl441_4, hi441_4⟩ := at_T54 HR3.out t439 p441 q441
                            obtain rfl : ad440 = ad441 := (by injection e441)
                            replace hx441_0 := (HB.out.cell (World.block_lt_of_cell? w _ hx441_0)).trans hx441_0
                            replace hx441_1 := (HB.out.cell (World.block_lt_of_cell? w _ hx441_1)).trans hx441_1
                            replace hx441_2 := (HB.out.cell (World.block_lt_of_cell? w _ hx441_2)).trans hx441_2
                            replace hx441_3 := (HB.out.cell (World.block_lt_of_cell? w _ hx441_3)).trans hx441_3
                            replace hx441_4 := (HB.out.cell (World.block_lt_of_cell? w _ hx441_4)).trans hx441_4
                            replace hx441_5 := (HB.out.cell (World.block_lt_of_cell? w _ hx441_5)).trans hx441_5
                            have HR441_3 := Aside0.mk hi441_3
                            have HC441_3 := Aside0.mk hl441_3
                            clear hi441_3 hl441_3
                            have HR441_4 := Aside0.mk hi441_4
                            have HC441_4 := Aside0.mk hl441_4
                            clear hi441_4 hl441_4
                            replace p441 := eq_true p441
                            replace q441 := eq_true q441
                            go_wp2_with (first | ((with_reducible refine gate_builtin (b := .append) (xs := #[.tmp 96, .tmp 103]) rfl ?_); at_builtin; refine Kd.S_append k57 (w0 := w) w.heap.size rfl (.tmp 96) (.tmp 103) 48 57 (.agg #[(.int .i64 0), (.int .i64 0), (.int .i64 0), (.int .i64 0), (.int .i64 0), (.int .i64 0), (.slice none 0 0), (.slice none 0 0), (.string ⟨#[]⟩), (.int .i64 0), (.int .i64 0), (.int .i64 0), (.slice none 0 0), (.slice none 0 0), (.string ⟨#[]⟩)]) 200 rfl Try.underlying48 info57 rfl (by decide) (by omega) (.slice none 0 0) ([] : List (S57)) (⟨3, 0, 0, (⟨0, 0, 0, (⟨([] : List Int), ([] : List Int)⟩ : S25), (⟨#[]⟩ : ByteArray)⟩ : S54), (rd_T54 l3 t439).f0, (⟨0, 0, (⟨([] : List Int), ([] : List Int)⟩ : S25), (⟨#[]⟩ : ByteArray)⟩ : S27)⟩ : S57) [.int .i64 3, .int .i64 0, .int .i64 0, .int .i64 0, .int .i64 0, .int .i64 0, .slice none 0 0, .slice none 0 0, .string (⟨#[]⟩ : ByteArray), .int .i64 ((rd_T54 l3 t439).f0), .int .i64 0, .int .i64 0, .slice none 0 0, .slice none 0 0, .string (⟨#[]⟩ : ByteArray)] (fun _ => True) (fun _ => False) rfl rfl ?aP (fun k_ hk_ => hk_.elim) ?aF ?aO ?aB ?aS ?aL ?_; (case aP => exact k57_mkM _ _ _ (⟨3, 0, 0, (⟨0, 0, 0, (⟨([] : List Int), ([] : List Int)⟩ : S25), (⟨#[]⟩ : ByteArray)⟩ : S54), (rd_T54 l3 t439).f0, (⟨0, 0, (⟨([] : List Int), ([] : List Int)⟩ : S25), (⟨#[]⟩ : ByteArray)⟩ : S27)⟩ : S57) (Kd.R_nil _ _ _ _ _) (Kd.R_nil _ _ _ _ _) (Kd.R_nil _ _ _ _ _) (Kd.R_nil _ _ _ _ _)); (case aB => exact (by repeat (first | (with_reducible first | exact HB.out | apply below_alloc | apply pw_below_drewN | apply below_drew1 | refine below_set ?_ GE431.out) | exact HB.out))); (case aF => exact (fun _ _ => trivial)); (case aO => exact ((Kd.S_nil _ _ _ _ _))); (case aS => exact (below_size (by repeat (first | (with_reducible first | exact HB.out | apply below_alloc | apply pw_below_drewN | apply below_drew1 | refine below_set ?_ GE431.out) | exact HB.out)))); (case aL => have := LMc47.out; omega); intro v443 w48 ho hb hg hat; rw [← Ny442.out] at ho; have n0_ := Aside0.mk (blk_grown (g := gb431) (o := .cells #[.int .i64 a0_0, .int .i64 a0_1, .int .i64 a0_2, .int .i64 a0_3, .slice A0_4 l0_4.length c0_4, .slice A0_5 l0_5.length c0_5, .string a0_6, .slice A0_7 l0_7.length c0_7] 30 (0, 0)) (by (with_reducible repeat (first | refine blk_drewN ?_ _ | refine blk_drew ?_ | refine blk_alloc ?_ _)); exact BK431.out) hg (by simp [Value.ownBlock])); have n1_ := Aside0.mk (hb); have n2_ := Aside0.mk (ho); clear BK431; clear HB; have BK431 := n0_; have HB := n1_; have HO444 := n2_; clear n0_ n1_ n2_; clear ho hb hg hat))
                            go_meet
                            case rel => exact ⟨_, (y442), H', ⟨by have := HK1.out; have := HJ25.out; first | omega | exact Nat.le_refl _⟩, ⟨by (with_reducible repeat (first | apply Kd.S_alloc | apply Kd.S_drewN | apply Kd.S_drew)); exact HO444.out⟩, ⟨by (with_reducible repeat (first | refine blk_drewN ?_ _ | refine blk_drew ?_ | refine blk_alloc ?_ _)); exact BK431.out⟩, ⟨by repeat (first | (with_reducible first | exact HB.out | apply below_alloc | apply pw_below_drewN | apply below_drew1 | refine below_set ?_ GE431.out) | exact HB.out)⟩⟩
                          · rw [if_neg c47] at H
                            exact absurd H (by simp)
                        · rw [if_neg c46] at H
                          have c46b0 : decide (((rd_T54 l3 t439).f0) ≤ t435) = false := decide_eq_false c46
                          clear c46
                          (first | rw [c46b0] | (simp only [i64_w, i32_w]; rw [c46b0]) | skip)
                          have H' := Aside0.mk H
                          clear H
                          go_wp2
                          go_meet
                          case rel => exact ⟨_, (([] : List (S57))), H', ⟨by have := HK1.out; have := HJ25.out; first | omega | exact Nat.le_refl _⟩, ⟨by first | exact Kd.S_nil _ _ _ _ _ | exact Kd.N_nil _ _ _ _ _ | exact Kd.V_nil _ _ _ _ _ | exact Kd.Q_nil _ _ _ _ _ | exact Kd.R_nil _ _ _ _ _⟩, ⟨by (with_reducible repeat (first | refine blk_drewN ?_ _ | refine blk_drew ?_ | refine blk_alloc ?_ _)); exact BK431.out⟩, ⟨by repeat (first | (with_reducible first | exact HB.out | apply below_alloc | apply pw_below_drewN | apply below_drew1 | refine below_set ?_ GE431.out) | exact HB.out)⟩⟩
                      case rest =>
                        clear HC43
                        try clear c1
                        try clear c2
                        try clear p2
                        try clear c3
                        try clear c4
                        try clear p4
                        try clear q4
                        try clear hx4
                        try clear p6
                        try clear c9
                        try clear c9b0
                        try clear c10
                        try clear c10b0
                        try clear c11
                        try clear c11b0
                        try clear c12
                        try clear c12b0
                        try clear c14
                        try clear c15
                        try clear c16
                        try clear c16b0
                        try clear c16b1
                        try clear c18
                        try clear c21
                        try clear c23
                        try clear c23b0
                        try clear c23b1
                        try clear c28
                        try clear c31
                        try clear c31b0
                        try clear c32
                        try clear c32b0
                        try clear c35
                        try clear c38
                        try clear c38b0
                        try clear c41
                        try clear c41b0
                        try clear c42
                        try clear c42b0
                        try clear c43
                        try clear p43
                        try clear q43
                        try clear hx43
                        try clear c44
                        try clear p44
                        try clear q44
                        try clear hx44
                        try clear c46
                        try clear c46b0
                        try clear c47
                        try clear hcz15_0
                        try clear hcz15_1
                        try clear hcz15_2
                        try clear hcz15_3
                        try clear hcz15_4
                        try clear hcz15_5
                        try clear hcz19_0
                        try clear hcz19_1
                        try clear hcz19_2
                        try clear hcz19_3
                        try clear hcz19_4
                        try clear hcz19_5
                        try clear hcz22_0
                        try clear hcz22_1
                        try clear hcz22_2
                        try clear hcz22_3
                        try clear hcz22_4
                        try clear hcz22_5
                        try clear hcz27_0
                        try clear hcz27_1
                        try clear hcz27_2
                        try clear hcz27_3
                        try clear hcz27_4
                        try clear hcz27_5
                        try clear hcz27_6
                        try clear hcz27_7
                        try clear hcz29_0
                        try clear hcz29_1
                        try clear hcz29_2
                        try clear hcz29_3
                        try clear hcz29_4
                        try clear hcz29_5
                        try clear hcz29_6
                        try clear hcz29_7
                        try clear hcz33_0
                        try clear hcz33_1
                        try clear hcz33_2
                        try clear hcz33_3
                        try clear hcz33_4
                        try clear hcz33_5
                        try clear hcz33_6
                        try clear hcz33_7
                        try clear hcz34_0
                        try clear hcz34_1
                        try clear hcz34_2
                        try clear hcz34_3
                        try clear hcz34_4
                        try clear hcz34_5
                        try clear hcz34_6
                        try clear hcz34_7
                        try clear hcz39_0
                        try clear hcz39_1
                        try clear hcz39_2
                        try clear hcz39_3
                        try clear hcz39_4
                        try clear hcz39_5
                        try clear hcz39_6
                        try clear hcz39_7
                        try clear hcz44_0
                        try clear hcz44_1
                        try clear hcz44_2
                        try clear hcz44_3
                        try clear hcz44_4
                        try clear hcz44_5
                        try clear hcz44_6
                        try clear hcz44_7
                        try clear hcz7_0
                        try clear hcz7_1
                        try clear hcz7_2
                        try clear hcz7_3
                        try clear hcz7_4
                        try clear hcz7_5
                        try clear hcz7_6
                        try clear hcz7_7
                        try clear hfz15_0
                        try clear hfz15_1
                        try clear hfz15_2
                        try clear hfz15_3
                        try clear hfz15_4
                        try clear hfz15_5
                        try clear hfz19_0
                        try clear hfz19_1
                        try clear hfz19_2
                        try clear hfz19_3
                        try clear hfz19_4
                        try clear hfz19_5
                        try clear hfz22_0
                        try clear hfz22_1
                        try clear hfz22_2
                        try clear hfz22_3
                        try clear hfz22_4
                        try clear hfz22_5
                        try clear hfz27_0
                        try clear hfz27_1
                        try clear hfz27_2
                        try clear hfz27_3
                        try clear hfz27_4
                        try clear hfz27_5
                        try clear hfz27_6
                        try clear hfz27_7
                        try clear hfz29_0
                        try clear hfz29_1
                        try clear hfz29_2
                        try clear hfz29_3
                        try clear hfz29_4
                        try clear hfz29_5
                        try clear hfz29_6
                        try clear hfz29_7
                        try clear hfz33_0
                        try clear hfz33_1
                        try clear hfz33_2
                        try clear hfz33_3
                        try clear hfz33_4
                        try clear hfz33_5
                        try clear hfz33_6
                        try clear hfz33_7
                        try clear hfz34_0
                        try clear hfz34_1
                        try clear hfz34_2
                        try clear hfz34_3
                        try clear hfz34_4
                        try clear hfz34_5
                        try clear hfz34_6
                        try clear hfz34_7
                        try clear hfz39_0
                        try clear hfz39_1
                        try clear hfz39_2
                        try clear hfz39_3
                        try clear hfz39_4
                        try clear hfz39_5
                        try clear hfz39_6
                        try clear hfz39_7
                        try clear hfz44_0
                        try clear hfz44_1
                        try clear hfz44_2
                        try clear hfz44_3
                        try clear hfz44_4
                        try clear hfz44_5
                        try clear hfz44_6
                        try clear hfz44_7
                        try clear hfz7_0
                        try clear hfz7_1
                        try clear hfz7_2
                        try clear hfz7_3
                        try clear hfz7_4
                        try clear hfz7_5
                        try clear hfz7_6
                        try clear hfz7_7
                        try clear hx433_0
                        try clear hx433_1
                        try clear hx433_2
                        try clear hx433_3
                        try clear hx433_4
                        try clear hx433_5
                        try clear hx440_0
                        try clear hx440_1
                        try clear hx440_2
                        try clear hx440_3
                        try clear hx440_4
                        try clear hx440_5
                        try clear hx441_0
                        try clear hx441_1
                        try clear hx441_2
                        try clear hx441_3
                        try clear hx441_4
                        try clear hx441_5
                        try clear p2
                        try clear p4
                        try clear p433
                        try clear p440
                        try clear p441
                        try clear p6
                        try clear q4
                        try clear q433
                        try clear q440
                        try clear q441
                        obtain ⟨kq, x20_42, HA, HJ42, HO_20, BK431, HB⟩ := hcut
                        cases kq with
                        | zero => exact absurd HA.out (by simp [raftlog_Merge.j2])
                        | succ kj42 =>
                          have H := HA.out
                          clear HA
                          simp only [raftlog_Merge.j2] at H
                          by_cases c49 : 0 ≤ t439
                          · rw [if_pos c49] at H
                            have c49b0 := eq_true c49
                            have c49b1 : decide (0 ≤ t439) = true := decide_eq_true c49
                            clear c49
                            by_cases c50 : t439 ≤ (l3.length : Int)
                            · rw [if_pos c50] at H
                              have c50b0 := eq_true c50
                              have c50b1 : decide (t439 ≤ (l3.length : Int)) = true := decide_eq_true c50
                              clear c50
                              obtain ⟨y445, hy445⟩ : ∃ y_ : List (S54), y_ = (l3.drop (t439 : Int).toNat) := ⟨_, rfl⟩
                              replace H : (raftlog_Merge.l1 kj42 ji36 x20_42 y445 (y445.length : Int) 0) = some (r1, r2, r3) := by first | (rw [hy445]; with_reducible exact H) | (have H2_ := (Option.bind_some _ _).symm.trans H; rw [hy445]; with_reducible exact H2_) | (have H2_ := (Option.bind_some _ _).symm.trans H; with_reducible exact H2_) | with_reducible exact H | (rw [hy445]; exact H) | exact H
                              have Ny445 := Aside0.mk hy445
                              clear hy445
                              have H' := Aside0.mk H
                              clear H
                              have q51 : (t439 : Int) ≤ ((l3.length : Int) : Int) := of_decide_eq_true (by first | (with_reducible assumption) | assumption)
                              obtain ⟨i051, hi051, _, hsz51, _⟩ := info_parts info54
                              have hroom51 : l3.length ≤ c3 := HC3.out
                              have hC51 : Kd.C k54 _ (some ad440) l3.length l3 := HR3.out
                              have q051 : (0 : Int) ≤ (t439 : Int) := of_decide_eq_true (by first | (with_reducible assumption) | assumption)
                              have hcut51 := cut_from (P := Try.prog) 28 54 .i64 Try.underlying28 hi051 6 hsz51 (some ad440) l3.length c3 t439 q051 q51
                              have hr51 := Kd.C_drop (m := (t439 : Int).toNat) (c := c3) hC51 (by omega) hroom51
                              obtain ⟨A51, hA51⟩ : ∃ A1, A1 = (if c3 = (t439 : Int).toNat then (some ad440) else ((some ad440) : Option Addr).map (·.add ((t439 : Int).toNat * 6))) := ⟨_, rfl⟩
                              obtain ⟨c51, hc51⟩ : ∃ c1, c1 = c3 - (t439 : Int).toNat := ⟨_, rfl⟩
                              have hy51 : y445.length = l3.length - (t439 : Int).toNat := (by rw [Ny445.out, List.length_drop] <;> omega)
                              rw [show (l3).drop (t439 : Int).toNat = y445 from Ny445.out.symm] at hr51
                              replace hr51 : Kd.C k54 _ A51 y445.length y445 := (by rw [hA51]; exact hr51)
                              rw [← hy51, ← hA51, ← hc51] at hcut51
                              have HR448 := Aside0.mk hr51
                              have HC448 := Aside0.mk (show y445.length ≤ c51 from by rw [hy51, hc51]; exact Nat.sub_le_sub_right hroom51 _)
                              clear hr51 hC51 hroom51 hi051 hsz51 hc51
                              have KY51 := Aside0.mk hy51
                              have KA51 := Aside0.mk hA51
                              clear hy51 hA51
                              replace q51 := eq_true q51
                              go_wp2
                              go_loopg [20, 109] kj42 (fun kq v20 v109 w' => ∃ (x20_4 : List (S57)) (x109_4 : Int), v109 = .int .i64 x109_4 ∧ Aside0 (raftlog_Merge.l1 kq ji36 x20_4 y445 (y445.length : Int) x109_4 = some (r1, r2, r3)) ∧ Aside0 (kq ≤ kj42) ∧ Aside0 (Kd.S k57 57 w' w.heap.size (fun _ => True) v20 x20_4) ∧ Aside0 (w'.heap[gb431]? = some (.cells #[.int .i64 a0_0, .int .i64 a0_1, .int .i64 a0_2, .int .i64 a0_3, (.slice A0_4 l0_4.length c0_4), (.slice A0_5 l0_5.length c0_5), .string a0_6, (.slice A0_7 l0_7.length c0_7)] 30 (0, 0))) ∧ Aside0 (Below w.heap.size w w'))
                              case atStart => exact ⟨(x20_42), (0), (by first | rfl | (simp; done) | (simp [*]; done)), H', ⟨Nat.le_refl _⟩, ⟨by (with_reducible repeat (first | apply Kd.S_alloc | apply Kd.S_drewN | apply Kd.S_drew)); exact HO_20.out⟩, ⟨by (with_reducible repeat (first | refine blk_drewN ?_ _ | refine blk_drew ?_ | refine blk_alloc ?_ _)); exact BK431.out⟩, ⟨by repeat (first | (with_reducible first | exact HB.out | apply below_alloc | apply pw_below_drewN | apply below_drew1 | refine below_set ?_ GE431.out) | exact HB.out)⟩⟩
                              case round =>
                                clear H'
                                try clear c1
                                try clear c2
                                try clear p2
                                try clear c3
                                try clear c4
                                try clear p4
                                try clear q4
                                try clear hx4
                                try clear c5
                                try clear q5
                                try clear p6
                                try clear c9
                                try clear c9b0
                                try clear c10
                                try clear c10b0
                                try clear c11
                                try clear c11b0
                                try clear c12
                                try clear c12b0
                                try clear c14
                                try clear c15
                                try clear c16
                                try clear c16b0
                                try clear c16b1
                                try clear c18
                                try clear c21
                                try clear c23
                                try clear c23b0
                                try clear c23b1
                                try clear c28
                                try clear c31
                                try clear c31b0
                                try clear c32
                                try clear c32b0
                                try clear c35
                                try clear c38
                                try clear c38b0
                                try clear c41
                                try clear c41b0
                                try clear c42
                                try clear c42b0
                                try clear c43
                                try clear p43
                                try clear q43
                                try clear hx43
                                try clear c44
                                try clear p44
                                try clear q44
                                try clear hx44
                                try clear c46
                                try clear c46b0
                                try clear c47
                                try clear c49
                                try clear c49b0
                                try clear c49b1
                                try clear c50
                                try clear c50b0
                                try clear c50b1
                                try clear c51
                                try clear q51
                                try clear hcz15_0
                                try clear hcz15_1
                                try clear hcz15_2
                                try clear hcz15_3
                                try clear hcz15_4
                                try clear hcz15_5
                                try clear hcz19_0
                                try clear hcz19_1
                                try clear hcz19_2
                                try clear hcz19_3
                                try clear hcz19_4
                                try clear hcz19_5
                                try clear hcz22_0
                                try clear hcz22_1
                                try clear hcz22_2
                                try clear hcz22_3
                                try clear hcz22_4
                                try clear hcz22_5
                                try clear hcz27_0
                                try clear hcz27_1
                                try clear hcz27_2
                                try clear hcz27_3
                                try clear hcz27_4
                                try clear hcz27_5
                                try clear hcz27_6
                                try clear hcz27_7
                                try clear hcz29_0
                                try clear hcz29_1
                                try clear hcz29_2
                                try clear hcz29_3
                                try clear hcz29_4
                                try clear hcz29_5
                                try clear hcz29_6
                                try clear hcz29_7
                                try clear hcz33_0
                                try clear hcz33_1
                                try clear hcz33_2
                                try clear hcz33_3
                                try clear hcz33_4
                                try clear hcz33_5
                                try clear hcz33_6
                                try clear hcz33_7
                                try clear hcz34_0
                                try clear hcz34_1
                                try clear hcz34_2
                                try clear hcz34_3
                                try clear hcz34_4
                                try clear hcz34_5
                                try clear hcz34_6
                                try clear hcz34_7
                                try clear hcz39_0
                                try clear hcz39_1
                                try clear hcz39_2
                                try clear hcz39_3
                                try clear hcz39_4
                                try clear hcz39_5
                                try clear hcz39_6
                                try clear hcz39_7
                                try clear hcz44_0
                                try clear hcz44_1
                                try clear hcz44_2
                                try clear hcz44_3
                                try clear hcz44_4
                                try clear hcz44_5
                                try clear hcz44_6
                                try clear hcz44_7
                                try clear hcz7_0
                                try clear hcz7_1
                                try clear hcz7_2
                                try clear hcz7_3
                                try clear hcz7_4
                                try clear hcz7_5
                                try clear hcz7_6
                                try clear hcz7_7
                                try clear hfz15_0
                                try clear hfz15_1
                                try clear hfz15_2
                                try clear hfz15_3
                                try clear hfz15_4
                                try clear hfz15_5
                                try clear hfz19_0
                                try clear hfz19_1
                                try clear hfz19_2
                                try clear hfz19_3
                                try clear hfz19_4
                                try clear hfz19_5
                                try clear hfz22_0
                                try clear hfz22_1
                                try clear hfz22_2
                                try clear hfz22_3
                                try clear hfz22_4
                                try clear hfz22_5
                                try clear hfz27_0
                                try clear hfz27_1
                                try clear hfz27_2
                                try clear hfz27_3
                                try clear hfz27_4
                                try clear hfz27_5
                                try clear hfz27_6
                                try clear hfz27_7
                                try clear hfz29_0
                                try clear hfz29_1
                                try clear hfz29_2
                                try clear hfz29_3
                                try clear hfz29_4
                                try clear hfz29_5
                                try clear hfz29_6
                                try clear hfz29_7
                                try clear hfz33_0
                                try clear hfz33_1
                                try clear hfz33_2
                                try clear hfz33_3
                                try clear hfz33_4
                                try clear hfz33_5
                                try clear hfz33_6
                                try clear hfz33_7
                                try clear hfz34_0
                                try clear hfz34_1
                                try clear hfz34_2
                                try clear hfz34_3
                                try clear hfz34_4
                                try clear hfz34_5
                                try clear hfz34_6
                                try clear hfz34_7
                                try clear hfz39_0
                                try clear hfz39_1
                                try clear hfz39_2
                                try clear hfz39_3
                                try clear hfz39_4
                                try clear hfz39_5
                                try clear hfz39_6
                                try clear hfz39_7
                                try clear hfz44_0
                                try clear hfz44_1
                                try clear hfz44_2
                                try clear hfz44_3
                                try clear hfz44_4
                                try clear hfz44_5
                                try clear hfz44_6
                                try clear hfz44_7
                                try clear hfz7_0
                                try clear hfz7_1
                                try clear hfz7_2
                                try clear hfz7_3
                                try clear hfz7_4
                                try clear hfz7_5
                                try clear hfz7_6
                                try clear hfz7_7
                                try clear hx433_0
                                try clear hx433_1
                                try clear hx433_2
                                try clear hx433_3
                                try clear hx433_4
                                try clear hx433_5
                                try clear hx440_0
                                try clear hx440_1
                                try clear hx440_2
                                try clear hx440_3
                                try clear hx440_4
                                try clear hx440_5
                                try clear hx441_0
                                try clear hx441_1
                                try clear hx441_2
                                try clear hx441_3
                                try clear hx441_4
                                try clear hx441_5
                                try clear p2
                                try clear p4
                                try clear p43
                                try clear p433
                                try clear p44
                                try clear p440
                                try clear p441
                                try clear p6
                                try clear q051
                                try clear q4
                                try clear q43
                                try clear q433
                                try clear q44
                                try clear q440
                                try clear q441
                                try clear q51
                                obtain ⟨x20_4, x109_4, rfl, HA, HK4, HO_20, BK431, HB⟩ := hrel
                                cases gk with
                                | zero => exact absurd HA.out (by simp [raftlog_Merge.l1])
                                | succ k4 =>
                                  have H := HA.out
                                  clear HA
                                  simp only [raftlog_Merge.l1] at H
                                  by_cases c52 : x109_4 < (y445.length : Int)
                                  · rw [if_pos c52] at H
                                    have c52b0 : decide (x109_4 < (y445.length : Int)) = true := decide_eq_true c52
                                    clear c52
                                    by_cases c53 : 0 ≤ x109_4
                                    · rw [if_pos c53] at H
                                      have c53b0 : decide (0 ≤ x109_4) = true := decide_eq_true c53
                                      clear c53
                                      by_cases c54 : x109_4 < (y445.length : Int)
                                      · rw [if_pos c54] at H
                                        have c54b0 : decide (x109_4 < (y445.length : Int)) = true := decide_eq_true c54
                                        clear c54
                                        replace H := Option.bind_eq_some_iff.mp H
                                        obtain ⟨⟨t451, t452, t453, t454, t457, t460⟩, A550, H⟩ := H
                                        replace H : (if x20_4.length < 703687441776 then (raftlog_Merge.l1 k4 ji36 (x20_4 ++ [(⟨2, 0, 0, (⟨t451, t452, t453, (⟨t454, t457⟩ : S25), t460⟩ : S54), 0, (⟨0, 0, (⟨([] : List Int), ([] : List Int)⟩ : S25), (⟨#[]⟩ : ByteArray)⟩ : S27)⟩ : S57)]) y445 (y445.length : Int) (wrap64 (x109_4 + 1))) else (none)) = some (r1, r2, r3) := H
                                        have A55 := Aside0.mk A550
                                        clear A550
                                        by_cases c56 : x20_4.length < 703687441776
                                        · rw [if_pos c56] at H
                                          have LMc56 := Aside0.mk c56
                                          clear c56
                                          obtain ⟨y461, hy461⟩ : ∃ y_ : List (S57), y_ = (x20_4 ++ [(⟨2, 0, 0, (⟨t451, t452, t453, (⟨t454, t457⟩ : S25), t460⟩ : S54), 0, (⟨0, 0, (⟨([] : List Int), ([] : List Int)⟩ : S25), (⟨#[]⟩ : ByteArray)⟩ : S27)⟩ : S57)]) := ⟨_, rfl⟩
                                          replace H : (raftlog_Merge.l1 k4 ji36 y461 y445 (y445.length : Int) (wrap64 (x109_4 + 1))) = some (r1, r2, r3) := by first | (rw [hy461]; with_reducible exact H) | (have H2_ := (Option.bind_some _ _).symm.trans H; rw [hy461]; with_reducible exact H2_) | (have H2_ := (Option.bind_some _ _).symm.trans H; with_reducible exact H2_) | with_reducible exact H | (rw [hy461]; exact H) | exact H
                                          have Ny461 := Aside0.mk hy461
                                          clear hy461
                                          have H' := Aside0.mk H
                                          clear H
                                          have p449 : 0 ≤ (x109_4 : Int) := of_decide_eq_true (by first | (with_reducible assumption) | assumption)
                                          have q449 : x109_4 < (y445.length : Int) := of_decide_eq_true (by first | (with_reducible assumption) | assumption)
                                          obtain ⟨ad449, A449_3, c449_3, A449_4, c449_4, e449, hx449_0, hx449_1, hx449_2, hx449_3, hx449_4, hx449_5, hl449_3, hi449_3, hl449_4, hi449_4⟩ := at_T54 HR448.out x109_4 p449 q449
                                          cases e449
                                          replace hx449_0 := (HB.out.cell (World.block_lt_of_cell? w _ hx449_0)).trans hx449_0
                                          replace hx449_1 := (HB.out.cell (World.block_lt_of_cell? w _ hx449_1)).trans hx449_1
                                          replace hx449_2 := (HB.out.cell (World.block_lt_of_cell? w _ hx449_2)).trans hx449_2
                                          replace hx449_3 := (HB.out.cell (World.block_lt_of_cell? w _ hx449_3)).trans hx449_3
                                          replace hx449_4 := (HB.out.cell (World.block_lt_of_cell? w _ hx449_4)).trans hx449_4
                                          replace hx449_5 := (HB.out.cell (World.block_lt_of_cell? w _ hx449_5)).trans hx449_5
                                          have HR449_3 := Aside0.mk hi449_3
                                          have HC449_3 := Aside0.mk hl449_3
                                          clear hi449_3 hl449_3
                                          have HR449_4 := Aside0.mk hi449_4
                                          have HC449_4 := Aside0.mk hl449_4
                                          clear hi449_4 hl449_4
                                          replace p449 := eq_true p449
                                          replace q449 := eq_true q449
                                          go_wp2_with (first | ((with_reducible refine gate_dst (N := 22) rfl ?_); refine box_event ?hg (N := 22) ?hd (cs := #[.int .i64 0, .int .i64 0, .int .i64 0, .slice none 0 0, .slice none 0 0, .string (⟨#[]⟩ : ByteArray)]) (t := 54) ?hr ?_; (case hd => rfl); (case hg => rfl); (case hr => first | (go_simp; done) | (go_simp; rfl)); intro gb450 hg w57 hbox hb; have n0_ := Aside0.mk (Kd.S_below (by (with_reducible repeat (first | apply Kd.S_alloc | apply Kd.S_drewN | apply Kd.S_drew)); exact HO_20.out) hb); have n1_ := Aside0.mk (blk_below (g := gb431) (o := .cells #[.int .i64 a0_0, .int .i64 a0_1, .int .i64 a0_2, .int .i64 a0_3, .slice A0_4 l0_4.length c0_4, .slice A0_5 l0_5.length c0_5, .string a0_6, .slice A0_7 l0_7.length c0_7] 30 (0, 0)) (by (with_reducible repeat (first | refine blk_drewN ?_ _ | refine blk_drew ?_ | refine blk_alloc ?_ _)); exact BK431.out) hb); have n2_ := Aside0.mk (below_step (by repeat (first | (with_reducible first | exact HB.out | apply below_alloc | apply pw_below_drewN | apply below_drew1 | refine below_set ?_ GE431.out) | exact HB.out)) hb); have n3_ := Aside0.mk (hbox); have n4_ := Aside0.mk ((by rw [hg]; exact (below_size (by repeat (first | (with_reducible first | exact HB.out | apply below_alloc | apply pw_below_drewN | apply below_drew1 | refine below_set ?_ GE431.out) | exact HB.out))) : w.heap.size ≤ gb450)); have n5_ := Aside0.mk ((by rw [hg]; exact (below_size (by repeat (first | (with_reducible first | exact HB.out | apply below_alloc | apply pw_below_drewN | apply below_drew1 | refine below_set ?_ GE431.out) | exact HB.out))) : w.heap.size ≤ gb450)); have n6_ := Aside0.mk ((by rw [hg]; exact Nat.ne_of_lt (blk_lt (g := gb431) (o := .cells #[.int .i64 a0_0, .int .i64 a0_1, .int .i64 a0_2, .int .i64 a0_3, .slice A0_4 l0_4.length c0_4, .slice A0_5 l0_5.length c0_5, .string a0_6, .slice A0_7 l0_7.length c0_7] 30 (0, 0)) (by (with_reducible repeat (first | refine blk_drewN ?_ _ | refine blk_drew ?_ | refine blk_alloc ?_ _)); exact BK431.out)) : gb431 ≠ gb450)); have n7_ := Aside0.mk ((by rw [hg]; exact Nat.ne_of_gt (blk_lt (g := gb431) (o := .cells #[.int .i64 a0_0, .int .i64 a0_1, .int .i64 a0_2, .int .i64 a0_3, .slice A0_4 l0_4.length c0_4, .slice A0_5 l0_5.length c0_5, .string a0_6, .slice A0_7 l0_7.length c0_7] 30 (0, 0)) (by (with_reducible repeat (first | refine blk_drewN ?_ _ | refine blk_drew ?_ | refine blk_alloc ?_ _)); exact BK431.out)) : gb450 ≠ gb431)); clear HO_20; clear BK431; clear HB; have HO_20 := n0_; have BK431 := n1_; have HB := n2_; have BK450 := n3_; have GW450 := n4_; have GE450 := n5_; have NB431_450 := n6_; have NB450_431 := n7_; clear n0_ n1_ n2_ n3_ n4_ n5_ n6_ n7_; clear hb hbox hg; have hnb58 := NB450_431.out; have hnc58 := NB431_450.out; have hcz59_0 : w57.cell? ⟨gb450, 0, none⟩ = some (.int .i64 0) := (blk_cell BK450.out 0).trans rfl; have hcz59_1 : w57.cell? ⟨gb450, 1, none⟩ = some (.int .i64 0) := (blk_cell BK450.out 1).trans rfl; have hcz59_2 : w57.cell? ⟨gb450, 2, none⟩ = some (.int .i64 0) := (blk_cell BK450.out 2).trans rfl; have hcz59_3 : w57.cell? ⟨gb450, 3, none⟩ = some (.slice none 0 0) := (blk_cell BK450.out 3).trans rfl; have hcz59_4 : w57.cell? ⟨gb450, 4, none⟩ = some (.slice none 0 0) := (blk_cell BK450.out 4).trans rfl; have hcz59_5 : w57.cell? ⟨gb450, 5, none⟩ = some (.string (⟨#[]⟩ : ByteArray)) := (blk_cell BK450.out 5).trans rfl; have hfz59_0 := blk_frozen BK450.out 0; have hfz59_1 := blk_frozen BK450.out 1; have hfz59_2 := blk_frozen BK450.out 2; have hfz59_3 := blk_frozen BK450.out 3; have hfz59_4 := blk_frozen BK450.out 4; have hfz59_5 := blk_frozen BK450.out 5) | ((with_reducible refine gate_callee (f := 40) rfl ?_); refine goesL_ (some 115) rfl rfl Try.func40 (by kernel_rfl) rfl #[.agg #[.int .i64 ((rd_T54 y445 x109_4).f0), .int .i64 ((rd_T54 y445 x109_4).f1), .int .i64 ((rd_T54 y445 x109_4).f2), .slice A449_3 ((rd_T54 y445 x109_4).f3.f0).length c449_3, .slice A449_4 ((rd_T54 y445 x109_4).f3.f1).length c449_4, .string ((rd_T54 y445 x109_4).f4)]] rfl (by (try simp only [List.map_toArray, List.map_cons, List.map_nil]); first | done | rfl | (simp only [List.length_drop, List.length_take]; rfl)) ?_; (with_reducible refine (raftlog_own.calls ((rd_T54 y445 x109_4).f0) ((rd_T54 y445 x109_4).f1) ((rd_T54 y445 x109_4).f2) _ _ ((rd_T54 y445 x109_4).f3.f0) _ _ ((rd_T54 y445 x109_4).f3.f1) ((rd_T54 y445 x109_4).f4) t451 t452 t453 t454 t457 t460 _ ?side1 ?side2 ?side3 ?side4 A55.out).mono ?_); (case side1 => exact Kd.C_below HR449_3.out (by repeat (first | (with_reducible first | exact HB.out | apply below_alloc | apply pw_below_drewN | apply below_drew1 | refine below_set ?_ GE431.out | refine below_set ?_ GE450.out) | exact HB.out))); (case side2 => exact HC449_3.out); (case side3 => exact Kd.C_below HR449_4.out (by repeat (first | (with_reducible first | exact HB.out | apply below_alloc | apply pw_below_drewN | apply below_drew1 | refine below_set ?_ GE431.out | refine below_set ?_ GE450.out) | exact HB.out))); (case side4 => exact HC449_4.out); rintro e w60 ⟨v455, v458, rfl, ho0, ho1, hb⟩; refine ⟨_, rfl, ?_⟩; have n0_ := Aside0.mk (Kd.S_mono (Kd.S_told (Kd.S_told (Kd.S_old (by (with_reducible repeat (first | apply Kd.S_alloc | apply Kd.S_drewN | apply Kd.S_drew)); exact (Kd.S_mono (Kd.S_far (p := ⟨gb450, 5, none⟩) (Kd.S_far (p := ⟨gb450, 4, none⟩) (Kd.S_far (p := ⟨gb450, 3, none⟩) (Kd.S_far (p := ⟨gb450, 2, none⟩) (Kd.S_far (p := ⟨gb450, 1, none⟩) (Kd.S_far (p := ⟨gb450, 0, none⟩) (Kd.S_types HO_20.out BK450.out (by decide)) (fun _ hk => hk.2) (.int .i64 ((rd_T54 y445 x109_4).f0))) (fun _ hk => hk.2) (.int .i64 ((rd_T54 y445 x109_4).f1))) (fun _ hk => hk.2) (.int .i64 ((rd_T54 y445 x109_4).f2))) (fun _ hk => hk.2) (.slice A449_3 ((rd_T54 y445 x109_4).f3.f0).length c449_3)) (fun _ hk => hk.2) (.slice A449_4 ((rd_T54 y445 x109_4).f3.f1).length c449_4)) (fun _ hk => hk.2) (.string ((rd_T54 y445 x109_4).f4))) (fun _ h_ => h_.1))) hb) (Kd.R_base ho0)) (Kd.R_base ho1)) (fun _ h_ => h_.1)); have n1_ := Aside0.mk (Kd.R_lower ho0 (below_size (by repeat (first | (with_reducible first | exact HB.out | apply below_alloc | apply pw_below_drewN | apply below_drew1 | refine below_set ?_ GE431.out | refine below_set ?_ GE450.out) | exact HB.out)))); have n2_ := Aside0.mk (Kd.R_lower ho1 (below_size (by repeat (first | (with_reducible first | exact HB.out | apply below_alloc | apply pw_below_drewN | apply below_drew1 | refine below_set ?_ GE431.out | refine below_set ?_ GE450.out) | exact HB.out)))); have n3_ := Aside0.mk (blk_below (g := gb431) (o := .cells #[.int .i64 a0_0, .int .i64 a0_1, .int .i64 a0_2, .int .i64 a0_3, .slice A0_4 l0_4.length c0_4, .slice A0_5 l0_5.length c0_5, .string a0_6, .slice A0_7 l0_7.length c0_7] 30 (0, 0)) (by (with_reducible repeat (first | refine blk_drewN ?_ _ | refine blk_drew ?_ | refine blk_alloc ?_ _)); refine blk_far ?_ NB431_450.out _; (with_reducible repeat (first | refine blk_drewN ?_ _ | refine blk_drew ?_ | refine blk_alloc ?_ _)); refine blk_far ?_ NB431_450.out _; (with_reducible repeat (first | refine blk_drewN ?_ _ | refine blk_drew ?_ | refine blk_alloc ?_ _)); refine blk_far ?_ NB431_450.out _; (with_reducible repeat (first | refine blk_drewN ?_ _ | refine blk_drew ?_ | refine blk_alloc ?_ _)); refine blk_far ?_ NB431_450.out _; (with_reducible repeat (first | refine blk_drewN ?_ _ | refine blk_drew ?_ | refine blk_alloc ?_ _)); refine blk_far ?_ NB431_450.out _; (with_reducible repeat (first | refine blk_drewN ?_ _ | refine blk_drew ?_ | refine blk_alloc ?_ _)); refine blk_far ?_ NB431_450.out _; (with_reducible repeat (first | refine blk_drewN ?_ _ | refine blk_drew ?_ | refine blk_alloc ?_ _)); exact BK431.out) hb); have n4_ := Aside0.mk (blk_below (g := gb450) (o := .cells #[.int .i64 ((rd_T54 y445 x109_4).f0), .int .i64 ((rd_T54 y445 x109_4).f1), .int .i64 ((rd_T54 y445 x109_4).f2), .slice A449_3 ((rd_T54 y445 x109_4).f3.f0).length c449_3, .slice A449_4 ((rd_T54 y445 x109_4).f3.f1).length c449_4, .string ((rd_T54 y445 x109_4).f4)] 54 (0, 0)) (by (with_reducible repeat (first | refine blk_drewN ?_ _ | refine blk_drew ?_ | refine blk_alloc ?_ _)); refine blk_put (cs := #[.int .i64 ((rd_T54 y445 x109_4).f0), .int .i64 ((rd_T54 y445 x109_4).f1), .int .i64 ((rd_T54 y445 x109_4).f2), .slice A449_3 ((rd_T54 y445 x109_4).f3.f0).length c449_3, .slice A449_4 ((rd_T54 y445 x109_4).f3.f1).length c449_4, .string (⟨#[]⟩ : ByteArray)]) ?_ 5 _ rfl; (with_reducible repeat (first | refine blk_drewN ?_ _ | refine blk_drew ?_ | refine blk_alloc ?_ _)); refine blk_put (cs := #[.int .i64 ((rd_T54 y445 x109_4).f0), .int .i64 ((rd_T54 y445 x109_4).f1), .int .i64 ((rd_T54 y445 x109_4).f2), .slice A449_3 ((rd_T54 y445 x109_4).f3.f0).length c449_3, .slice none 0 0, .string (⟨#[]⟩ : ByteArray)]) ?_ 4 _ rfl; (with_reducible repeat (first | refine blk_drewN ?_ _ | refine blk_drew ?_ | refine blk_alloc ?_ _)); refine blk_put (cs := #[.int .i64 ((rd_T54 y445 x109_4).f0), .int .i64 ((rd_T54 y445 x109_4).f1), .int .i64 ((rd_T54 y445 x109_4).f2), .slice none 0 0, .slice none 0 0, .string (⟨#[]⟩ : ByteArray)]) ?_ 3 _ rfl; (with_reducible repeat (first | refine blk_drewN ?_ _ | refine blk_drew ?_ | refine blk_alloc ?_ _)); refine blk_put (cs := #[.int .i64 ((rd_T54 y445 x109_4).f0), .int .i64 ((rd_T54 y445 x109_4).f1), .int .i64 0, .slice none 0 0, .slice none 0 0, .string (⟨#[]⟩ : ByteArray)]) ?_ 2 _ rfl; (with_reducible repeat (first | refine blk_drewN ?_ _ | refine blk_drew ?_ | refine blk_alloc ?_ _)); refine blk_put (cs := #[.int .i64 ((rd_T54 y445 x109_4).f0), .int .i64 0, .int .i64 0, .slice none 0 0, .slice none 0 0, .string (⟨#[]⟩ : ByteArray)]) ?_ 1 _ rfl; (with_reducible repeat (first | refine blk_drewN ?_ _ | refine blk_drew ?_ | refine blk_alloc ?_ _)); refine blk_put (cs := #[.int .i64 0, .int .i64 0, .int .i64 0, .slice none 0 0, .slice none 0 0, .string (⟨#[]⟩ : ByteArray)]) ?_ 0 _ rfl; (with_reducible repeat (first | refine blk_drewN ?_ _ | refine blk_drew ?_ | refine blk_alloc ?_ _)); exact BK450.out) hb); have n5_ := Aside0.mk (below_step (by repeat (first | (with_reducible first | exact HB.out | apply below_alloc | apply pw_below_drewN | apply below_drew1 | refine below_set ?_ GE431.out | refine below_set ?_ GE450.out) | exact HB.out)) hb); clear HO_20; clear BK431; clear BK450; clear HB; have HO_20 := n0_; have HO456 := n1_; have HO459 := n2_; have BK431 := n3_; have BK450 := n4_; have HB := n5_; clear n0_ n1_ n2_ n3_ n4_ n5_; (try clear hb); (try clear hb2); (try clear hk); (try clear hi); (try clear ho0); (try clear ho1); obtain ⟨Ao61, co61, eo61⟩ := Kd.R_slice HO459.out; subst eo61; obtain ⟨Ao62, co62, eo62⟩ := Kd.R_slice HO456.out; subst eo62) | ((with_reducible refine gate_builtin (b := .append) (xs := #[.tmp 113, .tmp 117]) rfl ?_); at_builtin; refine Kd.S_append k57 (w0 := w) w.heap.size rfl (.tmp 113) (.tmp 117) 48 57 (.agg #[(.int .i64 0), (.int .i64 0), (.int .i64 0), (.int .i64 0), (.int .i64 0), (.int .i64 0), (.slice none 0 0), (.slice none 0 0), (.string ⟨#[]⟩), (.int .i64 0), (.int .i64 0), (.int .i64 0), (.slice none 0 0), (.slice none 0 0), (.string ⟨#[]⟩)]) 200 rfl Try.underlying48 info57 rfl (by decide) (by omega) u20 x20_4 (⟨2, 0, 0, (⟨t451, t452, t453, (⟨t454, t457⟩ : S25), t460⟩ : S54), 0, (⟨0, 0, (⟨([] : List Int), ([] : List Int)⟩ : S25), (⟨#[]⟩ : ByteArray)⟩ : S27)⟩ : S57) [.int .i64 2, .int .i64 0, .int .i64 0, .int .i64 t451, .int .i64 t452, .int .i64 t453, .slice Ao62 t454.length co62, .slice Ao61 t457.length co61, .string t460, .int .i64 0, .int .i64 0, .int .i64 0, .slice none 0 0, .slice none 0 0, .string (⟨#[]⟩ : ByteArray)] (fun _ => True) (fun k_ => some k_ = (.slice Ao62 t454.length co62 : Value).ownBlock ∨ some k_ = (.slice Ao61 t457.length co61 : Value).ownBlock) rfl rfl ?aP (fun k_ hk_ => hk_.elim (fun h_ => ((Kd.R_mono (ok' := fun k_ => ((fun _ => True)) k_ ∧ some k_ ≠ (u20 : Value).ownBlock) (Kd.R_apart' (HO456.out) (Kd.S_typed HO_20.out) (by decide)) (fun k_ hk => ⟨trivial, hk.2⟩))).1 k_ h_.symm) (fun h_ => ((Kd.R_mono (ok' := fun k_ => ((fun _ => True)) k_ ∧ some k_ ≠ (u20 : Value).ownBlock) (Kd.R_apart' (HO459.out) (Kd.S_typed HO_20.out) (by decide)) (fun k_ hk => ⟨trivial, hk.2⟩))).1 k_ h_.symm)) ?aF ?aO ?aB ?aS ?aL ?_; (case aP => exact k57_mkM _ _ _ (⟨2, 0, 0, (⟨t451, t452, t453, (⟨t454, t457⟩ : S25), t460⟩ : S54), 0, (⟨0, 0, (⟨([] : List Int), ([] : List Int)⟩ : S25), (⟨#[]⟩ : ByteArray)⟩ : S27)⟩ : S57) (Kd.R_mono (Kd.R_tight rfl (Kd.R_mono (ok' := fun k_ => ((fun _ => True)) k_ ∧ some k_ ≠ (u20 : Value).ownBlock) (Kd.R_apart' (HO456.out) (Kd.S_typed HO_20.out) (by decide)) (fun k_ hk => ⟨trivial, hk.2⟩))) (fun _ h_ => Or.inl h_)) (Kd.R_mono (Kd.R_tight rfl (Kd.R_mono (ok' := fun k_ => ((fun _ => True)) k_ ∧ some k_ ≠ (u20 : Value).ownBlock) (Kd.R_apart' (HO459.out) (Kd.S_typed HO_20.out) (by decide)) (fun k_ hk => ⟨trivial, hk.2⟩))) (fun _ h_ => Or.inr (h_))) (Kd.R_nil _ _ _ _ _) (Kd.R_nil _ _ _ _ _)); (case aB => exact (by repeat (first | (with_reducible first | exact HB.out | apply below_alloc | apply pw_below_drewN | apply below_drew1 | refine below_set ?_ GE431.out | refine below_set ?_ GE450.out) | exact HB.out))); (case aF => exact (fun _ _ => trivial)); (case aO => exact (by (with_reducible repeat (first | apply Kd.S_alloc | apply Kd.S_drewN | apply Kd.S_drew)); exact Kd.S_mono HO_20.out (fun k_ hk => ⟨trivial, fun e_ => e_.elim (fun h_ => hk.1.2 h_) (fun h_ => hk.2 h_)⟩))); (case aS => exact (below_size (by repeat (first | (with_reducible first | exact HB.out | apply below_alloc | apply pw_below_drewN | apply below_drew1 | refine below_set ?_ GE431.out | refine below_set ?_ GE450.out) | exact HB.out)))); (case aL => have := LMc56.out; omega); intro v462 w63 ho hb hg hat; rw [← Ny461.out] at ho; have n0_ := Aside0.mk (blk_grown (g := gb431) (o := .cells #[.int .i64 a0_0, .int .i64 a0_1, .int .i64 a0_2, .int .i64 a0_3, .slice A0_4 l0_4.length c0_4, .slice A0_5 l0_5.length c0_5, .string a0_6, .slice A0_7 l0_7.length c0_7] 30 (0, 0)) (by (with_reducible repeat (first | refine blk_drewN ?_ _ | refine blk_drew ?_ | refine blk_alloc ?_ _)); exact BK431.out) hg (Kd.S_ne HO_20.out BK431.out (by decide))); have n1_ := Aside0.mk (blk_grown (g := gb450) (o := .cells #[.int .i64 ((rd_T54 y445 x109_4).f0), .int .i64 ((rd_T54 y445 x109_4).f1), .int .i64 ((rd_T54 y445 x109_4).f2), .slice A449_3 ((rd_T54 y445 x109_4).f3.f0).length c449_3, .slice A449_4 ((rd_T54 y445 x109_4).f3.f1).length c449_4, .string ((rd_T54 y445 x109_4).f4)] 54 (0, 0)) (by (with_reducible repeat (first | refine blk_drewN ?_ _ | refine blk_drew ?_ | refine blk_alloc ?_ _)); exact BK450.out) hg (Kd.S_ne HO_20.out BK450.out (by decide))); have n2_ := Aside0.mk (hb); have n3_ := Aside0.mk (ho); clear BK431; clear BK450; clear HB; clear HO_20; clear HO456; clear HO459; have BK431 := n0_; have BK450 := n1_; have HB := n2_; have HO463 := n3_; clear n0_ n1_ n2_ n3_; clear ho hb hg hat))
                                          go_roundg k4
                                          case measure => have := HK1.out; have := HJ25.out; have := HJ42.out; have := HK4.out; omega
                                          case rel => exact ⟨(y461), (wrap64 (x109_4 + 1)), (by first | rfl | (simp; done) | (simp [*]; done)), H', ⟨by have := HK1.out; have := HJ25.out; have := HJ42.out; have := HK4.out; omega⟩, ⟨by (with_reducible repeat (first | apply Kd.S_alloc | apply Kd.S_drewN | apply Kd.S_drew)); exact HO463.out⟩, ⟨by (with_reducible repeat (first | refine blk_drewN ?_ _ | refine blk_drew ?_ | refine blk_alloc ?_ _)); exact BK431.out⟩, ⟨by repeat (first | (with_reducible first | exact HB.out | apply below_alloc | apply pw_below_drewN | apply below_drew1 | refine below_set ?_ GE431.out | refine below_set ?_ GE450.out) | exact HB.out)⟩⟩
                                        · rw [if_neg c56] at H
                                          exact absurd H (by simp)
                                      · rw [if_neg c54] at H
                                        exact absurd H (by simp)
                                    · rw [if_neg c53] at H
                                      exact absurd H (by simp)
                                  · rw [if_neg c52] at H
                                    have c52b0 : decide (x109_4 < (y445.length : Int)) = false := decide_eq_false c52
                                    clear c52
                                    simp only [Option.some.injEq, Prod.mk.injEq] at H
                                    obtain ⟨rfl, rfl, rfl⟩ := H
                                    go_wp2
                                    go_ret3
                                    exact ⟨_, by first | rfl | (simp [errW_none, errW_some] <;> rfl) | (simp only [← hji36]; first | rfl | (simp [errW_none, errW_some] <;> rfl)) | (simp [*, errW_none, errW_some] <;> rfl), by (with_reducible repeat (first | apply Kd.S_alloc | apply Kd.S_drewN | apply Kd.S_drew)); exact HO_20.out, by repeat (first | (with_reducible first | exact HB.out | apply below_alloc | apply pw_below_drewN | apply below_drew1 | refine below_set ?_ GE431.out) | exact HB.out)⟩
                            · rw [if_neg c50] at H
                              exact absurd H (by simp)
                          · rw [if_neg c49] at H
                            exact absurd H (by simp)
                    · rw [if_neg c42] at H
                      exact absurd H (by simp)
                  · rw [if_neg c41] at H
                    exact absurd H (by simp)
        · rw [if_neg c23] at H
          have c23b0 : (x11_1 == 0) = false := beq_eq_false_iff_ne.mpr c23
          have c23b1 : (x11_1 != 0) = true := bne_iff_ne.mpr c23
          simp only [Option.some.injEq, Prod.mk.injEq] at H
          obtain ⟨rfl, rfl, rfl⟩ := H
          go_wp2
          go_ret3
          exact ⟨_, by first | rfl | (simp [errW_none, errW_some] <;> rfl) | (simp [*, errW_none, errW_some] <;> rfl), by first | exact Kd.S_nil _ _ _ _ _ | exact Kd.N_nil _ _ _ _ _ | exact Kd.V_nil _ _ _ _ _ | exact Kd.Q_nil _ _ _ _ _ | exact Kd.R_nil _ _ _ _ _, by repeat (first | (with_reducible first | exact HB.out | apply below_alloc | apply pw_below_drewN | apply below_drew1 | refine below_set ?_ GE431.out) | exact HB.out)⟩

end Go.Proofs.Ytbjhjimkljbjlaa.PA
/- folkmootref16.Record: two records are compared (the head as printed, the walk by hand: the printed one is too long). -/
namespace Go.Proofs.Ytbjhjimkljbjlaa.PA
open Go.RowKit Go.Proofs.YtbjhjimkljbjlaaW.PrintWords Go.Proofs.YtbjhjimkljbjlaaW.PrintLast Go.Proofs.YtbjhjimkljbjlaaW.PrintMore
attribute [local go_sem] max2_int min2_int max_two min_two max_three min_three max_four min_four   -- for this text's walks alone
set_option linter.unusedVariables false
set_option linter.unusedSimpArgs false

/-! ### folkmootref16_Record: function 44 -/
def folkmootref16_Record.f (k : Nat) (a0_0 : Int) (a0_1 : Int) (a0_2 : Int) (a0_3 : Int) (a0_4 : Int) (a0_5 : Int) (l0_6 : List Int) (l0_7 : List Int) (a0_8 : ByteArray) (a0_9 : Int) (a0_10 : Int) (a0_11 : Int) (l0_12 : List Int) (l0_13 : List Int) (a0_14 : ByteArray) (a1_0 : Int) (a1_1 : Int) (a1_2 : Int) (a1_3 : Int) (a1_4 : Int) (a1_5 : Int) (l1_6 : List Int) (l1_7 : List Int) (a1_8 : ByteArray) (a1_9 : Int) (a1_10 : Int) (a1_11 : Int) (l1_12 : List Int) (l1_13 : List Int) (a1_14 : ByteArray) : Option (Bool) := if a0_0 = a1_0 then (if a0_1 = a1_1 then (if a0_2 = a1_2 then (if a0_9 = a1_9 then ((folkmootref15_Entries.f k a0_3 a0_4 a0_5 l0_6 l0_7 a0_8 a1_3 a1_4 a1_5 l1_6 l1_7 a1_8).bind fun t493 => (if t493 = true then ((folkmootref15_Snaps.f k a0_10 a0_11 l0_12 l0_13 a0_14 a1_10 a1_11 l1_12 l1_13 a1_14).bind fun t494 => (some t494)) else (some false))) else (some false)) else (some false)) else (some false)) else (some false)
set_option maxHeartbeats 8000000 in
set_option maxRecDepth 100000 in
theorem folkmootref16_Record.calls (k : Nat) (a0_0 : Int) (a0_1 : Int) (a0_2 : Int) (a0_3 : Int) (a0_4 : Int) (a0_5 : Int) (A0_6 : Option Addr) (c0_6 : Nat) (l0_6 : List Int) (A0_7 : Option Addr) (c0_7 : Nat) (l0_7 : List Int) (a0_8 : ByteArray) (a0_9 : Int) (a0_10 : Int) (a0_11 : Int) (A0_12 : Option Addr) (c0_12 : Nat) (l0_12 : List Int) (A0_13 : Option Addr) (c0_13 : Nat) (l0_13 : List Int) (a0_14 : ByteArray) (a1_0 : Int) (a1_1 : Int) (a1_2 : Int) (a1_3 : Int) (a1_4 : Int) (a1_5 : Int) (A1_6 : Option Addr) (c1_6 : Nat) (l1_6 : List Int) (A1_7 : Option Addr) (c1_7 : Nat) (l1_7 : List Int) (a1_8 : ByteArray) (a1_9 : Int) (a1_10 : Int) (a1_11 : Int) (A1_12 : Option Addr) (c1_12 : Nat) (l1_12 : List Int) (A1_13 : Option Addr) (c1_13 : Nat) (l1_13 : List Int) (a1_14 : ByteArray) (r : Bool) (w : World) (hr0_6 : Kd.C (Kd.int .i64) w A0_6 l0_6.length l0_6) (hc0_6 : l0_6.length ≤ c0_6) (hr0_7 : Kd.C (Kd.int .i64) w A0_7 l0_7.length l0_7) (hc0_7 : l0_7.length ≤ c0_7) (hr0_12 : Kd.C (Kd.int .i64) w A0_12 l0_12.length l0_12) (hc0_12 : l0_12.length ≤ c0_12) (hr0_13 : Kd.C (Kd.int .i64) w A0_13 l0_13.length l0_13) (hc0_13 : l0_13.length ≤ c0_13) (hr1_6 : Kd.C (Kd.int .i64) w A1_6 l1_6.length l1_6) (hc1_6 : l1_6.length ≤ c1_6) (hr1_7 : Kd.C (Kd.int .i64) w A1_7 l1_7.length l1_7) (hc1_7 : l1_7.length ≤ c1_7) (hr1_12 : Kd.C (Kd.int .i64) w A1_12 l1_12.length l1_12) (hc1_12 : l1_12.length ≤ c1_12) (hr1_13 : Kd.C (Kd.int .i64) w A1_13 l1_13.length l1_13) (hc1_13 : l1_13.length ≤ c1_13) (h : folkmootref16_Record.f k a0_0 a0_1 a0_2 a0_3 a0_4 a0_5 l0_6 l0_7 a0_8 a0_9 a0_10 a0_11 l0_12 l0_13 a0_14 a1_0 a1_1 a1_2 a1_3 a1_4 a1_5 l1_6 l1_7 a1_8 a1_9 a1_10 a1_11 l1_12 l1_13 a1_14 = some r) :
    Calls Try.prog 44 #[.agg #[.int .i64 a0_0, .int .i64 a0_1, .int .i64 a0_2, .int .i64 a0_3, .int .i64 a0_4, .int .i64 a0_5, .slice A0_6 l0_6.length c0_6, .slice A0_7 l0_7.length c0_7, .string a0_8, .int .i64 a0_9, .int .i64 a0_10, .int .i64 a0_11, .slice A0_12 l0_12.length c0_12, .slice A0_13 l0_13.length c0_13, .string a0_14], .agg #[.int .i64 a1_0, .int .i64 a1_1, .int .i64 a1_2, .int .i64 a1_3, .int .i64 a1_4, .int .i64 a1_5, .slice A1_6 l1_6.length c1_6, .slice A1_7 l1_7.length c1_7, .string a1_8, .int .i64 a1_9, .int .i64 a1_10, .int .i64 a1_11, .slice A1_12 l1_12.length c1_12, .slice A1_13 l1_13.length c1_13, .string a1_14]] w fun e w' => e = .returned (.bool r) ∧ Below w.heap.size w w' := by
  obtain ⟨W0, hW0⟩ : ∃ W0, (w.alloc (.cells #[.int .i64 a0_0, .int .i64 a0_1, .int .i64 a0_2, .int .i64 a0_3, .int .i64 a0_4, .int .i64 a0_5, .slice A0_6 l0_6.length c0_6, .slice A0_7 l0_7.length c0_7, .string a0_8, .int .i64 a0_9, .int .i64 a0_10, .int .i64 a0_11, .slice A0_12 l0_12.length c0_12, .slice A0_13 l0_13.length c0_13, .string a0_14] 57)).alloc (.cells #[.int .i64 a1_0, .int .i64 a1_1, .int .i64 a1_2, .int .i64 a1_3, .int .i64 a1_4, .int .i64 a1_5, .slice A1_6 l1_6.length c1_6, .slice A1_7 l1_7.length c1_7, .string a1_8, .int .i64 a1_9, .int .i64 a1_10, .int .i64 a1_11, .slice A1_12 l1_12.length c1_12, .slice A1_13 l1_13.length c1_13, .string a1_14] 57) = W0 := ⟨_, rfl⟩
  have hb0 : Below w.heap.size w W0 := by rw [← hW0]; exact ((Below.refl _ _).alloc (Nat.le_refl _) _).alloc (by simp) _
  have g1 : W0.heap[w.heap.size + 1]? = some (.cells #[.int .i64 a1_0, .int .i64 a1_1, .int .i64 a1_2, .int .i64 a1_3, .int .i64 a1_4, .int .i64 a1_5, .slice A1_6 l1_6.length c1_6, .slice A1_7 l1_7.length c1_7, .string a1_8, .int .i64 a1_9, .int .i64 a1_10, .int .i64 a1_11, .slice A1_12 l1_12.length c1_12, .slice A1_13 l1_13.length c1_13, .string a1_14] 57) := by
    rw [← hW0]; have := World.alloc_heap_new (w.alloc (.cells #[.int .i64 a0_0, .int .i64 a0_1, .int .i64 a0_2, .int .i64 a0_3, .int .i64 a0_4, .int .i64 a0_5, .slice A0_6 l0_6.length c0_6, .slice A0_7 l0_7.length c0_7, .string a0_8, .int .i64 a0_9, .int .i64 a0_10, .int .i64 a0_11, .slice A0_12 l0_12.length c0_12, .slice A0_13 l0_13.length c0_13, .string a0_14] 57)) (.cells #[.int .i64 a1_0, .int .i64 a1_1, .int .i64 a1_2, .int .i64 a1_3, .int .i64 a1_4, .int .i64 a1_5, .slice A1_6 l1_6.length c1_6, .slice A1_7 l1_7.length c1_7, .string a1_8, .int .i64 a1_9, .int .i64 a1_10, .int .i64 a1_11, .slice A1_12 l1_12.length c1_12, .slice A1_13 l1_13.length c1_13, .string a1_14] 57); rwa [World.size_alloc] at this
  have g0 : W0.heap[w.heap.size]? = some (.cells #[.int .i64 a0_0, .int .i64 a0_1, .int .i64 a0_2, .int .i64 a0_3, .int .i64 a0_4, .int .i64 a0_5, .slice A0_6 l0_6.length c0_6, .slice A0_7 l0_7.length c0_7, .string a0_8, .int .i64 a0_9, .int .i64 a0_10, .int .i64 a0_11, .slice A0_12 l0_12.length c0_12, .slice A0_13 l0_13.length c0_13, .string a0_14] 57) := by
    rw [← hW0]; exact (Below.heap_alloc _ _ _ (by simp)).trans (World.alloc_heap_new w _)
  have hz0 : W0.heap.size = w.heap.size + 2 := by rw [← hW0]; simp
  have HR := Lib.hid (And.intro (And.intro hr0_6 (And.intro hr0_7 (And.intro hr0_12 hr0_13))) (And.intro hr1_6 (And.intro hr1_7 (And.intro hr1_12 hr1_13))))
  clear hr0_6 hr0_7 hr0_12 hr0_13 hr1_6 hr1_7 hr1_12 hr1_13
  unfold folkmootref16_Record.f at h
  by_cases e1 : a0_0 = a1_0
  · rw [if_pos e1] at h
    subst e1
    by_cases e2 : a0_1 = a1_1
    · rw [if_pos e2] at h
      subst e2
      by_cases e3 : a0_2 = a1_2
      · rw [if_pos e3] at h
        subst e3
        by_cases e4 : a0_9 = a1_9
        · rw [if_pos e4] at h
          subst e4
          obtain ⟨t, hA, h⟩ := Option.bind_eq_some_iff.mp h
          have X1 := Lib.hid (folkmootref15_Entries.calls k a0_3 a0_4 a0_5 A0_6 c0_6 l0_6 A0_7 c0_7 l0_7 a0_8 a1_3 a1_4 a1_5 A1_6 c1_6 l1_6 A1_7 c1_7 l1_7 a1_8 t W0 (Kd.C_below HR.out.1.1 hb0) hc0_6 (Kd.C_below HR.out.1.2.1 hb0) hc0_7 (Kd.C_below HR.out.2.1 hb0) hc1_6 (Kd.C_below HR.out.2.2.1 hb0) hc1_7 hA)
          have HG := Lib.hid (And.intro g0 g1)
          have HW := Lib.hid hW0
          clear hA g0 g1 hW0
          go_enter Try.func44, Try.ntmps44
          go_wp2_with fail
          rw [HW.out]
          refine X1.out.mono ?_
          rintro e w1 ⟨rfl, hb1⟩
          have hb2 := hb0.trans (hb1.mono hb0.size)
          have z0 := (hb1.block _ (by omega)).trans HG.out.1
          have z1 := (hb1.block _ (by omega)).trans HG.out.2
          clear X1 HG HW
          cases t with
          | false =>
            simp only [Bool.false_eq_true, if_false, Option.some.injEq] at h
            subst h
            go_wp2
            go_ret
            exact ⟨rfl, hb2⟩
          | true =>
            simp only [if_true] at h
            obtain ⟨u, hB, h⟩ := Option.bind_eq_some_iff.mp h
            simp only [Option.some.injEq] at h
            subst h
            have X2 := Lib.hid (folkmootref15_Snaps.calls k a0_10 a0_11 A0_12 c0_12 l0_12 A0_13 c0_13 l0_13 a0_14 a1_10 a1_11 A1_12 c1_12 l1_12 A1_13 c1_13 l1_13 a1_14 u w1 (Kd.C_below HR.out.1.2.2.1 hb2) hc0_12 (Kd.C_below HR.out.1.2.2.2 hb2) hc0_13 (Kd.C_below HR.out.2.2.2.1 hb2) hc1_12 (Kd.C_below HR.out.2.2.2.2 hb2) hc1_13 hB)
            clear hB
            have y0_10 : w1.cell? ⟨w.heap.size, 10, none⟩ = some (.int .i64 a0_10) := by simp [World.cell?, z0]
            have y0_11 : w1.cell? ⟨w.heap.size, 11, none⟩ = some (.int .i64 a0_11) := by simp [World.cell?, z0]
            have y0_12 : w1.cell? ⟨w.heap.size, 12, none⟩ = some (.slice A0_12 l0_12.length c0_12) := by simp [World.cell?, z0]
            have y0_13 : w1.cell? ⟨w.heap.size, 13, none⟩ = some (.slice A0_13 l0_13.length c0_13) := by simp [World.cell?, z0]
            have y0_14 : w1.cell? ⟨w.heap.size, 14, none⟩ = some (.string a0_14) := by simp [World.cell?, z0]
            have y1_10 : w1.cell? ⟨w.heap.size + 1, 10, none⟩ = some (.int .i64 a1_10) := by simp [World.cell?, z1]
            have y1_11 : w1.cell? ⟨w.heap.size + 1, 11, none⟩ = some (.int .i64 a1_11) := by simp [World.cell?, z1]
            have y1_12 : w1.cell? ⟨w.heap.size + 1, 12, none⟩ = some (.slice A1_12 l1_12.length c1_12) := by simp [World.cell?, z1]
            have y1_13 : w1.cell? ⟨w.heap.size + 1, 13, none⟩ = some (.slice A1_13 l1_13.length c1_13) := by simp [World.cell?, z1]
            have y1_14 : w1.cell? ⟨w.heap.size + 1, 14, none⟩ = some (.string a1_14) := by simp [World.cell?, z1]
            clear z0 z1
            go_wp2_with fail
            refine X2.out.mono ?_
            rintro e w2 ⟨rfl, hb3⟩
            have hb4 := hb2.trans (hb3.mono hb2.size)
            clear X2
            go_wp2
            go_ret
            exact ⟨rfl, hb4⟩
        · rw [if_neg e4] at h
          simp only [Option.some.injEq] at h
          subst h
          clear g0 g1 hz0
          subst hW0
          go_enter Try.func44, Try.ntmps44
          go_wp2
          go_ret
          exact ⟨rfl, hb0⟩
      · rw [if_neg e3] at h
        simp only [Option.some.injEq] at h
        subst h
        clear g0 g1 hz0
        subst hW0
        go_enter Try.func44, Try.ntmps44
        go_wp2
        go_ret
        exact ⟨rfl, hb0⟩
    · rw [if_neg e2] at h
      simp only [Option.some.injEq] at h
      subst h
      clear g0 g1 hz0
      subst hW0
      go_enter Try.func44, Try.ntmps44
      go_wp2
      go_ret
      exact ⟨rfl, hb0⟩
  · rw [if_neg e1] at h
    simp only [Option.some.injEq] at h
    subst h
    clear g0 g1 hz0
    subst hW0
    go_enter Try.func44, Try.ntmps44
    go_wp2
    go_ret
    exact ⟨rfl, hb0⟩

end Go.Proofs.Ytbjhjimkljbjlaa.PA
-- WRITTEN BY hookprint.py (a program of this session, over the kit's print.py): not typed by hand
namespace Go.Proofs.Ytbjhjimkljbjlaa.PA
open Go.RowKit Go.Proofs.YtbjhjimkljbjlaaW.PrintWords Go.Proofs.YtbjhjimkljbjlaaW.PrintLast Go.Proofs.YtbjhjimkljbjlaaW.PrintMore
attribute [local go_sem] max2_int min2_int max_two min_two max_three min_three max_four min_four   -- for this text's walks alone
set_option linter.unusedVariables false
set_option linter.unusedSimpArgs false

/-! ### folkmootref16_Records: function 30 -/
def folkmootref16_Records.l0 : Nat → List (S57) → List (S57) → Int → Option (Bool)
  | 0, _, _, _ => none
  | k + 1, x0, x1, x5 => if x5 < (x0.length : Int) then (if 0 ≤ x5 then (if x5 < (x1.length : Int) then ((folkmootref16_Record.f k ((rd_T57 x0 x5).f0) ((rd_T57 x0 x5).f1) ((rd_T57 x0 x5).f2) ((rd_T57 x0 x5).f3.f0) ((rd_T57 x0 x5).f3.f1) ((rd_T57 x0 x5).f3.f2) ((rd_T57 x0 x5).f3.f3.f0) ((rd_T57 x0 x5).f3.f3.f1) ((rd_T57 x0 x5).f3.f4) ((rd_T57 x0 x5).f4) ((rd_T57 x0 x5).f5.f0) ((rd_T57 x0 x5).f5.f1) ((rd_T57 x0 x5).f5.f2.f0) ((rd_T57 x0 x5).f5.f2.f1) ((rd_T57 x0 x5).f5.f3) ((rd_T57 x1 x5).f0) ((rd_T57 x1 x5).f1) ((rd_T57 x1 x5).f2) ((rd_T57 x1 x5).f3.f0) ((rd_T57 x1 x5).f3.f1) ((rd_T57 x1 x5).f3.f2) ((rd_T57 x1 x5).f3.f3.f0) ((rd_T57 x1 x5).f3.f3.f1) ((rd_T57 x1 x5).f3.f4) ((rd_T57 x1 x5).f4) ((rd_T57 x1 x5).f5.f0) ((rd_T57 x1 x5).f5.f1) ((rd_T57 x1 x5).f5.f2.f0) ((rd_T57 x1 x5).f5.f2.f1) ((rd_T57 x1 x5).f5.f3)).bind fun t497 => (if t497 = true then (folkmootref16_Records.l0 k x0 x1 (wrap64 (x5 + 1))) else (some false))) else (none)) else (none)) else (some true)
def folkmootref16_Records.f (k : Nat) (l0 : List (S57)) (l1 : List (S57)) : Option (Bool) := if (l0.length : Int) = (l1.length : Int) then (folkmootref16_Records.l0 k l0 l1 0) else (some false)
def folkmootref16_Records.T6 : Bool × List (List Nat × List Nat) := (true, [([], []), ([], []), ([0, 1], [0, 1]), ([2], [2]), ([], []), ([], []), ([4, 5], [4, 5]), ([6], [6]), ([3, 7], [3, 7]), ([8], [8])])
def folkmootref16_Records.B6 : List Nat := [0, 0, 3, 7, 0, 0, 48, 112, 255, 511]
theorem folkmootref16_Records.tab6 : rtab .any (opsOf Try.f30 6) = folkmootref16_Records.T6 := by kernel_rfl
theorem folkmootref16_Records.bits6 : waitsOk folkmootref16_Records.T6.2 folkmootref16_Records.B6 = true := by kernel_rfl
set_option maxHeartbeats 8000000 in
set_option maxRecDepth 100000 in
theorem folkmootref16_Records.calls (k : Nat) (A0 : Option Addr) (c0 : Nat) (l0 : List (S57)) (A1 : Option Addr) (c1 : Nat) (l1 : List (S57)) (r : Bool) (w : World) (hr0 : Kd.C k57 w A0 l0.length l0) (hc0 : l0.length ≤ c0) (hr1 : Kd.C k57 w A1 l1.length l1) (hc1 : l1.length ≤ c1) (h : folkmootref16_Records.f k l0 l1 = some r) :
    Calls Try.prog 30 #[.slice A0 l0.length c0, .slice A1 l1.length c1] w fun e w' => e = .returned (.bool r) ∧ Below w.heap.size w w' := by
  have hu57 := Try.underlying57
  have HR0 := Aside0.mk hr0
  have HC0 := Aside0.mk hc0
  clear hr0 hc0
  have HR1 := Aside0.mk hr1
  have HC1 := Aside0.mk hc1
  clear hr1 hc1
  have HB := Aside0.mk (Below.refl w.heap.size w)
  have H : (if (l0.length : Int) = (l1.length : Int) then (folkmootref16_Records.l0 k l0 l1 0) else (some false)) = some r := h
  clear h
  by_cases c3 : (l0.length : Int) = (l1.length : Int)
  · rw [if_pos c3] at H
    have c3b0 : ((l0.length : Int) == (l1.length : Int)) = true := beq_iff_eq.mpr c3
    have c3b1 : ((l0.length : Int) != (l1.length : Int)) = false := bne_eq_false_iff_eq.mpr c3
    have c3b2 : (l0.length == l1.length) = true := by first | simpa using c3 | (simp at c3 ⊢; omega)
    clear c3
    have H' := Aside0.mk H
    clear H
    go_enter Try.func30, Try.ntmps30
    go_wp2
    go_loopg [5] k (fun kq v5 w' => ∃ (x5_1 : Int), v5 = .int .i64 x5_1 ∧ Aside0 (folkmootref16_Records.l0 kq l0 l1 x5_1 = some r) ∧ Aside0 (kq ≤ k) ∧ Aside0 (Below w.heap.size w w'))
    case atStart => exact ⟨(0), (by first | rfl | (simp; done) | (simp [*]; done)), H', ⟨Nat.le_refl _⟩, ⟨by repeat (first | (with_reducible first | exact HB.out | apply below_alloc | apply pw_below_drewN | apply below_drew1) | exact HB.out)⟩⟩
    case round =>
      clear H'
      try clear c1
      try clear p2
      try clear c3
      try clear c3b0
      try clear c3b1
      try clear c3b2
      obtain ⟨x5_1, rfl, HA, HK1, HB⟩ := hrel
      cases gk with
      | zero => exact absurd HA.out (by simp [folkmootref16_Records.l0])
      | succ k1 =>
        have H := HA.out
        clear HA
        simp only [folkmootref16_Records.l0] at H
        by_cases c4 : x5_1 < (l0.length : Int)
        · rw [if_pos c4] at H
          have c4b0 : decide (x5_1 < (l0.length : Int)) = true := decide_eq_true c4
          clear c4
          by_cases c5 : 0 ≤ x5_1
          · rw [if_pos c5] at H
            have c5b0 : decide (0 ≤ x5_1) = true := decide_eq_true c5
            clear c5
            by_cases c6 : x5_1 < (l1.length : Int)
            · rw [if_pos c6] at H
              have c6b0 : decide (x5_1 < (l1.length : Int)) = true := decide_eq_true c6
              clear c6
              replace H := Option.bind_eq_some_iff.mp H
              obtain ⟨t497, A70, H⟩ := H
              replace H : (if t497 = true then (folkmootref16_Records.l0 k1 l0 l1 (wrap64 (x5_1 + 1))) else (some false)) = some r := H
              have A7 := Aside0.mk A70
              clear A70
              by_cases c8 : t497 = true
              · subst c8
                have H1 : (folkmootref16_Records.l0 k1 l0 l1 (wrap64 (x5_1 + 1))) = some r := by rw [if_pos rfl] at H; exact H
                clear H
                have H := H1
                clear H1
                have H' := Aside0.mk H
                clear H
                try go_wp2
                have n0_ := Aside0.mk (below_drew1 HB.out)
                clear HB
                have HB := n0_
                clear n0_
                have p495 : 0 ≤ (x5_1 : Int) := of_decide_eq_true (by first | (with_reducible assumption) | assumption)
                have q495 : x5_1 < (l0.length : Int) := of_decide_eq_true (by first | (with_reducible assumption) | assumption)
                obtain ⟨ad495, A495_6, c495_6, A495_7, c495_7, A495_12, c495_12, A495_13, c495_13, e495, hx495_0, hx495_1, hx495_2, hx495_3, hx495_4, hx495_5, hx495_6, hx495_7, hx495_8, hx495_9, hx495_10, hx495_11, hx495_12, hx495_13, hx495_14, hl495_6, hi495_6, hl495_7, hi495_7, hl495_12, hi495_12, hl495_13, hi495_13⟩ := at_T57 HR0.out x5_1 p495 q495
                have hw495_14 := hx495_14
                have hw495_13 := hx495_13
                have hw495_12 := hx495_12
                have hw495_11 := hx495_11
                have hw495_10 := hx495_10
                have hw495_9 := hx495_9
                have hw495_8 := hx495_8
                have hw495_7 := hx495_7
                have hw495_6 := hx495_6
                have hw495_5 := hx495_5
                have hw495_4 := hx495_4
                have hw495_3 := hx495_3
                have hw495_2 := hx495_2
                have hw495_1 := hx495_1
                have hw495_0 := hx495_0
                cases e495
                replace hx495_0 := (HB.out.cell (World.block_lt_of_cell? w _ hx495_0)).trans hx495_0
                replace hx495_1 := (HB.out.cell (World.block_lt_of_cell? w _ hx495_1)).trans hx495_1
                replace hx495_2 := (HB.out.cell (World.block_lt_of_cell? w _ hx495_2)).trans hx495_2
                replace hx495_3 := (HB.out.cell (World.block_lt_of_cell? w _ hx495_3)).trans hx495_3
                replace hx495_4 := (HB.out.cell (World.block_lt_of_cell? w _ hx495_4)).trans hx495_4
                replace hx495_5 := (HB.out.cell (World.block_lt_of_cell? w _ hx495_5)).trans hx495_5
                replace hx495_6 := (HB.out.cell (World.block_lt_of_cell? w _ hx495_6)).trans hx495_6
                replace hx495_7 := (HB.out.cell (World.block_lt_of_cell? w _ hx495_7)).trans hx495_7
                replace hx495_8 := (HB.out.cell (World.block_lt_of_cell? w _ hx495_8)).trans hx495_8
                replace hx495_9 := (HB.out.cell (World.block_lt_of_cell? w _ hx495_9)).trans hx495_9
                replace hx495_10 := (HB.out.cell (World.block_lt_of_cell? w _ hx495_10)).trans hx495_10
                replace hx495_11 := (HB.out.cell (World.block_lt_of_cell? w _ hx495_11)).trans hx495_11
                replace hx495_12 := (HB.out.cell (World.block_lt_of_cell? w _ hx495_12)).trans hx495_12
                replace hx495_13 := (HB.out.cell (World.block_lt_of_cell? w _ hx495_13)).trans hx495_13
                replace hx495_14 := (HB.out.cell (World.block_lt_of_cell? w _ hx495_14)).trans hx495_14
                have HR495_6 := Aside0.mk hi495_6
                have HC495_6 := Aside0.mk hl495_6
                clear hi495_6 hl495_6
                have HR495_7 := Aside0.mk hi495_7
                have HC495_7 := Aside0.mk hl495_7
                clear hi495_7 hl495_7
                have HR495_12 := Aside0.mk hi495_12
                have HC495_12 := Aside0.mk hl495_12
                clear hi495_12 hl495_12
                have HR495_13 := Aside0.mk hi495_13
                have HC495_13 := Aside0.mk hl495_13
                clear hi495_13 hl495_13
                replace p495 := eq_true p495
                replace q495 := eq_true q495
                have p496 : 0 ≤ (x5_1 : Int) := of_decide_eq_true (by first | (with_reducible assumption) | assumption)
                have q496 : x5_1 < (l1.length : Int) := of_decide_eq_true (by first | (with_reducible assumption) | assumption)
                obtain ⟨ad496, A496_6, c496_6, A496_7, c496_7, A496_12, c496_12, A496_13, c496_13, e496, hx496_0, hx496_1, hx496_2, hx496_3, hx496_4, hx496_5, hx496_6, hx496_7, hx496_8, hx496_9, hx496_10, hx496_11, hx496_12, hx496_13, hx496_14, hl496_6, hi496_6, hl496_7, hi496_7, hl496_12, hi496_12, hl496_13, hi496_13⟩ := at_T57 HR1.out x5_1 p496 q496
                have hw496_14 := hx496_14
                have hw496_13 := hx496_13
                have hw496_12 := hx496_12
                have hw496_11 := hx496_11
                have hw496_10 := hx496_10
                have hw496_9 := hx496_9
                have hw496_8 := hx496_8
                have hw496_7 := hx496_7
                have hw496_6 := hx496_6
                have hw496_5 := hx496_5
                have hw496_4 := hx496_4
                have hw496_3 := hx496_3
                have hw496_2 := hx496_2
                have hw496_1 := hx496_1
                have hw496_0 := hx496_0
                cases e496
                replace hx496_0 := (HB.out.cell (World.block_lt_of_cell? w _ hx496_0)).trans hx496_0
                replace hx496_1 := (HB.out.cell (World.block_lt_of_cell? w _ hx496_1)).trans hx496_1
                replace hx496_2 := (HB.out.cell (World.block_lt_of_cell? w _ hx496_2)).trans hx496_2
                replace hx496_3 := (HB.out.cell (World.block_lt_of_cell? w _ hx496_3)).trans hx496_3
                replace hx496_4 := (HB.out.cell (World.block_lt_of_cell? w _ hx496_4)).trans hx496_4
                replace hx496_5 := (HB.out.cell (World.block_lt_of_cell? w _ hx496_5)).trans hx496_5
                replace hx496_6 := (HB.out.cell (World.block_lt_of_cell? w _ hx496_6)).trans hx496_6
                replace hx496_7 := (HB.out.cell (World.block_lt_of_cell? w _ hx496_7)).trans hx496_7
                replace hx496_8 := (HB.out.cell (World.block_lt_of_cell? w _ hx496_8)).trans hx496_8
                replace hx496_9 := (HB.out.cell (World.block_lt_of_cell? w _ hx496_9)).trans hx496_9
                replace hx496_10 := (HB.out.cell (World.block_lt_of_cell? w _ hx496_10)).trans hx496_10
                replace hx496_11 := (HB.out.cell (World.block_lt_of_cell? w _ hx496_11)).trans hx496_11
                replace hx496_12 := (HB.out.cell (World.block_lt_of_cell? w _ hx496_12)).trans hx496_12
                replace hx496_13 := (HB.out.cell (World.block_lt_of_cell? w _ hx496_13)).trans hx496_13
                replace hx496_14 := (HB.out.cell (World.block_lt_of_cell? w _ hx496_14)).trans hx496_14
                have HR496_6 := Aside0.mk hi496_6
                have HC496_6 := Aside0.mk hl496_6
                clear hi496_6 hl496_6
                have HR496_7 := Aside0.mk hi496_7
                have HC496_7 := Aside0.mk hl496_7
                clear hi496_7 hl496_7
                have HR496_12 := Aside0.mk hi496_12
                have HC496_12 := Aside0.mk hl496_12
                clear hi496_12 hl496_12
                have HR496_13 := Aside0.mk hi496_13
                have HC496_13 := Aside0.mk hl496_13
                clear hi496_13 hl496_13
                replace p496 := eq_true p496
                replace q496 := eq_true q496
                refine start_ (n := 10) (S := fun w' => w'.cell? (ad495.add ((x5_1).toNat * 15)) = some (.int .i64 ((rd_T57 l0 x5_1).f0)) ∧ w'.cell? ⟨(ad495.add ((x5_1).toNat * 15)).block, (ad495.add ((x5_1).toNat * 15)).off + 1, none⟩ = some (.int .i64 ((rd_T57 l0 x5_1).f1)) ∧ w'.cell? ⟨(ad495.add ((x5_1).toNat * 15)).block, (ad495.add ((x5_1).toNat * 15)).off + 2, none⟩ = some (.int .i64 ((rd_T57 l0 x5_1).f2)) ∧ w'.cell? ⟨(ad495.add ((x5_1).toNat * 15)).block, (ad495.add ((x5_1).toNat * 15)).off + 3, none⟩ = some (.int .i64 ((rd_T57 l0 x5_1).f3.f0)) ∧ w'.cell? ⟨(ad495.add ((x5_1).toNat * 15)).block, (ad495.add ((x5_1).toNat * 15)).off + 4, none⟩ = some (.int .i64 ((rd_T57 l0 x5_1).f3.f1)) ∧ w'.cell? ⟨(ad495.add ((x5_1).toNat * 15)).block, (ad495.add ((x5_1).toNat * 15)).off + 5, none⟩ = some (.int .i64 ((rd_T57 l0 x5_1).f3.f2)) ∧ w'.cell? ⟨(ad495.add ((x5_1).toNat * 15)).block, (ad495.add ((x5_1).toNat * 15)).off + 6, none⟩ = some (.slice A495_6 ((rd_T57 l0 x5_1).f3.f3.f0).length c495_6) ∧ w'.cell? ⟨(ad495.add ((x5_1).toNat * 15)).block, (ad495.add ((x5_1).toNat * 15)).off + 7, none⟩ = some (.slice A495_7 ((rd_T57 l0 x5_1).f3.f3.f1).length c495_7) ∧ w'.cell? ⟨(ad495.add ((x5_1).toNat * 15)).block, (ad495.add ((x5_1).toNat * 15)).off + 8, none⟩ = some (.string ((rd_T57 l0 x5_1).f3.f4)) ∧ w'.cell? ⟨(ad495.add ((x5_1).toNat * 15)).block, (ad495.add ((x5_1).toNat * 15)).off + 9, none⟩ = some (.int .i64 ((rd_T57 l0 x5_1).f4)) ∧ w'.cell? ⟨(ad495.add ((x5_1).toNat * 15)).block, (ad495.add ((x5_1).toNat * 15)).off + 10, none⟩ = some (.int .i64 ((rd_T57 l0 x5_1).f5.f0)) ∧ w'.cell? ⟨(ad495.add ((x5_1).toNat * 15)).block, (ad495.add ((x5_1).toNat * 15)).off + 11, none⟩ = some (.int .i64 ((rd_T57 l0 x5_1).f5.f1)) ∧ w'.cell? ⟨(ad495.add ((x5_1).toNat * 15)).block, (ad495.add ((x5_1).toNat * 15)).off + 12, none⟩ = some (.slice A495_12 ((rd_T57 l0 x5_1).f5.f2.f0).length c495_12) ∧ w'.cell? ⟨(ad495.add ((x5_1).toNat * 15)).block, (ad495.add ((x5_1).toNat * 15)).off + 13, none⟩ = some (.slice A495_13 ((rd_T57 l0 x5_1).f5.f2.f1).length c495_13) ∧ w'.cell? ⟨(ad495.add ((x5_1).toNat * 15)).block, (ad495.add ((x5_1).toNat * 15)).off + 14, none⟩ = some (.string ((rd_T57 l0 x5_1).f5.f3)) ∧ w'.cell? (ad496.add ((x5_1).toNat * 15)) = some (.int .i64 ((rd_T57 l1 x5_1).f0)) ∧ w'.cell? ⟨(ad496.add ((x5_1).toNat * 15)).block, (ad496.add ((x5_1).toNat * 15)).off + 1, none⟩ = some (.int .i64 ((rd_T57 l1 x5_1).f1)) ∧ w'.cell? ⟨(ad496.add ((x5_1).toNat * 15)).block, (ad496.add ((x5_1).toNat * 15)).off + 2, none⟩ = some (.int .i64 ((rd_T57 l1 x5_1).f2)) ∧ w'.cell? ⟨(ad496.add ((x5_1).toNat * 15)).block, (ad496.add ((x5_1).toNat * 15)).off + 3, none⟩ = some (.int .i64 ((rd_T57 l1 x5_1).f3.f0)) ∧ w'.cell? ⟨(ad496.add ((x5_1).toNat * 15)).block, (ad496.add ((x5_1).toNat * 15)).off + 4, none⟩ = some (.int .i64 ((rd_T57 l1 x5_1).f3.f1)) ∧ w'.cell? ⟨(ad496.add ((x5_1).toNat * 15)).block, (ad496.add ((x5_1).toNat * 15)).off + 5, none⟩ = some (.int .i64 ((rd_T57 l1 x5_1).f3.f2)) ∧ w'.cell? ⟨(ad496.add ((x5_1).toNat * 15)).block, (ad496.add ((x5_1).toNat * 15)).off + 6, none⟩ = some (.slice A496_6 ((rd_T57 l1 x5_1).f3.f3.f0).length c496_6) ∧ w'.cell? ⟨(ad496.add ((x5_1).toNat * 15)).block, (ad496.add ((x5_1).toNat * 15)).off + 7, none⟩ = some (.slice A496_7 ((rd_T57 l1 x5_1).f3.f3.f1).length c496_7) ∧ w'.cell? ⟨(ad496.add ((x5_1).toNat * 15)).block, (ad496.add ((x5_1).toNat * 15)).off + 8, none⟩ = some (.string ((rd_T57 l1 x5_1).f3.f4)) ∧ w'.cell? ⟨(ad496.add ((x5_1).toNat * 15)).block, (ad496.add ((x5_1).toNat * 15)).off + 9, none⟩ = some (.int .i64 ((rd_T57 l1 x5_1).f4)) ∧ w'.cell? ⟨(ad496.add ((x5_1).toNat * 15)).block, (ad496.add ((x5_1).toNat * 15)).off + 10, none⟩ = some (.int .i64 ((rd_T57 l1 x5_1).f5.f0)) ∧ w'.cell? ⟨(ad496.add ((x5_1).toNat * 15)).block, (ad496.add ((x5_1).toNat * 15)).off + 11, none⟩ = some (.int .i64 ((rd_T57 l1 x5_1).f5.f1)) ∧ w'.cell? ⟨(ad496.add ((x5_1).toNat * 15)).block, (ad496.add ((x5_1).toNat * 15)).off + 12, none⟩ = some (.slice A496_12 ((rd_T57 l1 x5_1).f5.f2.f0).length c496_12) ∧ w'.cell? ⟨(ad496.add ((x5_1).toNat * 15)).block, (ad496.add ((x5_1).toNat * 15)).off + 13, none⟩ = some (.slice A496_13 ((rd_T57 l1 x5_1).f5.f2.f1).length c496_13) ∧ w'.cell? ⟨(ad496.add ((x5_1).toNat * 15)).block, (ad496.add ((x5_1).toNat * 15)).off + 14, none⟩ = some (.string ((rd_T57 l1 x5_1).f5.f3))) (ds := []) #[false, false, false, false, false, false, false, false, false, false] (by kernel_rfl) rfl rfl ⟨((HB.out.cell (World.block_lt_of_cell? w _ hw495_0)).trans hw495_0), ((HB.out.cell (World.block_lt_of_cell? w _ hw495_1)).trans hw495_1), ((HB.out.cell (World.block_lt_of_cell? w _ hw495_2)).trans hw495_2), ((HB.out.cell (World.block_lt_of_cell? w _ hw495_3)).trans hw495_3), ((HB.out.cell (World.block_lt_of_cell? w _ hw495_4)).trans hw495_4), ((HB.out.cell (World.block_lt_of_cell? w _ hw495_5)).trans hw495_5), ((HB.out.cell (World.block_lt_of_cell? w _ hw495_6)).trans hw495_6), ((HB.out.cell (World.block_lt_of_cell? w _ hw495_7)).trans hw495_7), ((HB.out.cell (World.block_lt_of_cell? w _ hw495_8)).trans hw495_8), ((HB.out.cell (World.block_lt_of_cell? w _ hw495_9)).trans hw495_9), ((HB.out.cell (World.block_lt_of_cell? w _ hw495_10)).trans hw495_10), ((HB.out.cell (World.block_lt_of_cell? w _ hw495_11)).trans hw495_11), ((HB.out.cell (World.block_lt_of_cell? w _ hw495_12)).trans hw495_12), ((HB.out.cell (World.block_lt_of_cell? w _ hw495_13)).trans hw495_13), ((HB.out.cell (World.block_lt_of_cell? w _ hw495_14)).trans hw495_14), ((HB.out.cell (World.block_lt_of_cell? w _ hw496_0)).trans hw496_0), ((HB.out.cell (World.block_lt_of_cell? w _ hw496_1)).trans hw496_1), ((HB.out.cell (World.block_lt_of_cell? w _ hw496_2)).trans hw496_2), ((HB.out.cell (World.block_lt_of_cell? w _ hw496_3)).trans hw496_3), ((HB.out.cell (World.block_lt_of_cell? w _ hw496_4)).trans hw496_4), ((HB.out.cell (World.block_lt_of_cell? w _ hw496_5)).trans hw496_5), ((HB.out.cell (World.block_lt_of_cell? w _ hw496_6)).trans hw496_6), ((HB.out.cell (World.block_lt_of_cell? w _ hw496_7)).trans hw496_7), ((HB.out.cell (World.block_lt_of_cell? w _ hw496_8)).trans hw496_8), ((HB.out.cell (World.block_lt_of_cell? w _ hw496_9)).trans hw496_9), ((HB.out.cell (World.block_lt_of_cell? w _ hw496_10)).trans hw496_10), ((HB.out.cell (World.block_lt_of_cell? w _ hw496_11)).trans hw496_11), ((HB.out.cell (World.block_lt_of_cell? w _ hw496_12)).trans hw496_12), ((HB.out.cell (World.block_lt_of_cell? w _ hw496_13)).trans hw496_13), ((HB.out.cell (World.block_lt_of_cell? w _ hw496_14)).trans hw496_14)⟩ (fun hHeld => ?_); refine with_tabW folkmootref16_Records.tab6 folkmootref16_Records.bits6 (fun HT_ HW_ => ?_)
                generalize wr.drew = w9 at HB HR495_12 HR495_13 HR495_6 HR495_7 HR496_12 HR496_13 HR496_6 HR496_7 hx495_0 hx495_1 hx495_10 hx495_11 hx495_12 hx495_13 hx495_14 hx495_2 hx495_3 hx495_4 hx495_5 hx495_6 hx495_7 hx495_8 hx495_9 hx496_0 hx496_1 hx496_10 hx496_11 hx496_12 hx496_13 hx496_14 hx496_2 hx496_3 hx496_4 hx496_5 hx496_6 hx496_7 hx496_8 hx496_9 hHeld ⊢
                refine pure_ (i := 0) (N := some 17) (v := ?_) (a' := ?_) #[true, false, false, false, false, false, false, false, false, false] rfl rfl (any_of HT_.out (by kernel_rfl)) (fun _ _ _ h => h) (Or.inl ⟨by rfl, ?_⟩) ?_ ?_
                rotate_left
                · intro w'
                  go_simp
                  with_reducible rfl
                rotate_left
                · simp only [Act.put, List.setIfInBounds_toArray, List.set_cons_zero, List.set_cons_succ, i64_w, i32_w]
                  rfl
                refine pure_ (i := 1) (N := some 18) (v := ?_) (a' := ?_) #[true, true, false, false, false, false, false, false, false, false] rfl rfl (any_of HT_.out (by kernel_rfl)) (fun _ _ _ h => h) (Or.inl ⟨by rfl, ?_⟩) ?_ ?_
                rotate_left
                · intro w'
                  go_simp
                  with_reducible rfl
                rotate_left
                · simp only [Act.put, List.setIfInBounds_toArray, List.set_cons_zero, List.set_cons_succ, i64_w, i32_w]
                  rfl
                refine pure_ (i := 2) (N := some 19) (v := ?_) (a' := ?_) #[true, true, true, false, false, false, false, false, false, false] rfl rfl (any_of HT_.out (by kernel_rfl)) (fun _ _ _ h => h) (Or.inl ⟨by rfl, ?_⟩) ?_ ?_
                rotate_left
                · intro w'
                  go_simp
                  with_reducible rfl
                rotate_left
                · simp only [Act.put, List.setIfInBounds_toArray, List.set_cons_zero, List.set_cons_succ, i64_w, i32_w]
                  rfl
                refine pure_ (i := 4) (N := some 21) (v := ?_) (a' := ?_) #[true, true, true, false, true, false, false, false, false, false] rfl rfl (any_of HT_.out (by kernel_rfl)) (fun _ _ _ h => h) (Or.inl ⟨by rfl, ?_⟩) ?_ ?_
                rotate_left
                · intro w'
                  go_simp
                  with_reducible rfl
                rotate_left
                · simp only [Act.put, List.setIfInBounds_toArray, List.set_cons_zero, List.set_cons_succ, i64_w, i32_w]
                  rfl
                refine pure_ (i := 5) (N := some 22) (v := ?_) (a' := ?_) #[true, true, true, false, true, true, false, false, false, false] rfl rfl (any_of HT_.out (by kernel_rfl)) (fun _ _ _ h => h) (Or.inl ⟨by rfl, ?_⟩) ?_ ?_
                rotate_left
                · intro w'
                  go_simp
                  with_reducible rfl
                rotate_left
                · simp only [Act.put, List.setIfInBounds_toArray, List.set_cons_zero, List.set_cons_succ, i64_w, i32_w]
                  rfl
                refine pure_ (i := 6) (N := some 23) (v := ?_) (a' := ?_) #[true, true, true, false, true, true, true, false, false, false] rfl rfl (any_of HT_.out (by kernel_rfl)) (fun _ _ _ h => h) (Or.inl ⟨by rfl, ?_⟩) ?_ ?_
                rotate_left
                · intro w'
                  go_simp
                  with_reducible rfl
                rotate_left
                · simp only [Act.put, List.setIfInBounds_toArray, List.set_cons_zero, List.set_cons_succ, i64_w, i32_w]
                  rfl
                refine take_ (i := 3) (N := some 20) (v := ?_) (a' := ?_) #[true, true, true, true, true, true, true, false, false, false] rfl rfl (take_ofW HT_.out HW_.out (by kernel_rfl)) (fun _ _ _ h => h) (Or.inl ⟨by rfl, ?_⟩) hHeld ?_ ?_
                rotate_left
                · rintro w' ⟨s0, s1, s2, s3, s4, s5, s6, s7, s8, s9, s10, s11, s12, s13, s14, s15, s16, s17, s18, s19, s20, s21, s22, s23, s24, s25, s26, s27, s28, s29⟩
                  go_simp
                  with_reducible rfl
                rotate_left
                · simp only [Act.put, List.setIfInBounds_toArray, List.set_cons_zero, List.set_cons_succ, i64_w, i32_w]
                  rfl
                refine take_ (i := 7) (N := some 24) (v := ?_) (a' := ?_) #[true, true, true, true, true, true, true, true, false, false] rfl rfl (take_ofW HT_.out HW_.out (by kernel_rfl)) (fun _ _ _ h => h) (Or.inl ⟨by rfl, ?_⟩) hHeld ?_ ?_
                rotate_left
                · rintro w' ⟨s0, s1, s2, s3, s4, s5, s6, s7, s8, s9, s10, s11, s12, s13, s14, s15, s16, s17, s18, s19, s20, s21, s22, s23, s24, s25, s26, s27, s28, s29⟩
                  go_simp
                  with_reducible rfl
                rotate_left
                · simp only [Act.put, List.setIfInBounds_toArray, List.set_cons_zero, List.set_cons_succ, i64_w, i32_w]
                  rfl
                refine one_ (i := 8) (N := some 25) #[true, true, true, true, true, true, true, true, true, false] rfl rfl (one_of HT_.out (by kernel_rfl)) (by decide) (fun K hK => ?_)
                refine goes_ Try.func44 (by kernel_rfl) rfl #[.agg #[.int .i64 ((rd_T57 l0 x5_1).f0), .int .i64 ((rd_T57 l0 x5_1).f1), .int .i64 ((rd_T57 l0 x5_1).f2), .int .i64 ((rd_T57 l0 x5_1).f3.f0), .int .i64 ((rd_T57 l0 x5_1).f3.f1), .int .i64 ((rd_T57 l0 x5_1).f3.f2), .slice A495_6 ((rd_T57 l0 x5_1).f3.f3.f0).length c495_6, .slice A495_7 ((rd_T57 l0 x5_1).f3.f3.f1).length c495_7, .string ((rd_T57 l0 x5_1).f3.f4), .int .i64 ((rd_T57 l0 x5_1).f4), .int .i64 ((rd_T57 l0 x5_1).f5.f0), .int .i64 ((rd_T57 l0 x5_1).f5.f1), .slice A495_12 ((rd_T57 l0 x5_1).f5.f2.f0).length c495_12, .slice A495_13 ((rd_T57 l0 x5_1).f5.f2.f1).length c495_13, .string ((rd_T57 l0 x5_1).f5.f3)], .agg #[.int .i64 ((rd_T57 l1 x5_1).f0), .int .i64 ((rd_T57 l1 x5_1).f1), .int .i64 ((rd_T57 l1 x5_1).f2), .int .i64 ((rd_T57 l1 x5_1).f3.f0), .int .i64 ((rd_T57 l1 x5_1).f3.f1), .int .i64 ((rd_T57 l1 x5_1).f3.f2), .slice A496_6 ((rd_T57 l1 x5_1).f3.f3.f0).length c496_6, .slice A496_7 ((rd_T57 l1 x5_1).f3.f3.f1).length c496_7, .string ((rd_T57 l1 x5_1).f3.f4), .int .i64 ((rd_T57 l1 x5_1).f4), .int .i64 ((rd_T57 l1 x5_1).f5.f0), .int .i64 ((rd_T57 l1 x5_1).f5.f1), .slice A496_12 ((rd_T57 l1 x5_1).f5.f2.f0).length c496_12, .slice A496_13 ((rd_T57 l1 x5_1).f5.f2.f1).length c496_13, .string ((rd_T57 l1 x5_1).f5.f3)]] (by rfl) rfl rfl (by (try simp only [List.map_toArray, List.map_cons, List.map_nil]); first | done | rfl | (simp only [List.length_drop, List.length_take]; rfl)) ?_
                with_reducible refine (folkmootref16_Record.calls k1 ((rd_T57 l0 x5_1).f0) ((rd_T57 l0 x5_1).f1) ((rd_T57 l0 x5_1).f2) ((rd_T57 l0 x5_1).f3.f0) ((rd_T57 l0 x5_1).f3.f1) ((rd_T57 l0 x5_1).f3.f2) _ _ ((rd_T57 l0 x5_1).f3.f3.f0) _ _ ((rd_T57 l0 x5_1).f3.f3.f1) ((rd_T57 l0 x5_1).f3.f4) ((rd_T57 l0 x5_1).f4) ((rd_T57 l0 x5_1).f5.f0) ((rd_T57 l0 x5_1).f5.f1) _ _ ((rd_T57 l0 x5_1).f5.f2.f0) _ _ ((rd_T57 l0 x5_1).f5.f2.f1) ((rd_T57 l0 x5_1).f5.f3) ((rd_T57 l1 x5_1).f0) ((rd_T57 l1 x5_1).f1) ((rd_T57 l1 x5_1).f2) ((rd_T57 l1 x5_1).f3.f0) ((rd_T57 l1 x5_1).f3.f1) ((rd_T57 l1 x5_1).f3.f2) _ _ ((rd_T57 l1 x5_1).f3.f3.f0) _ _ ((rd_T57 l1 x5_1).f3.f3.f1) ((rd_T57 l1 x5_1).f3.f4) ((rd_T57 l1 x5_1).f4) ((rd_T57 l1 x5_1).f5.f0) ((rd_T57 l1 x5_1).f5.f1) _ _ ((rd_T57 l1 x5_1).f5.f2.f0) _ _ ((rd_T57 l1 x5_1).f5.f2.f1) ((rd_T57 l1 x5_1).f5.f3) true _ ?side1 ?side2 ?side3 ?side4 ?side5 ?side6 ?side7 ?side8 ?side9 ?side10 ?side11 ?side12 ?side13 ?side14 ?side15 ?side16 A7.out).mono ?_
                (case side1 => repeat (first | exact (Kd.C_below HR495_6.out HB.out) | (with_reducible refine Kd.C_alloc ?_ _) | (with_reducible refine Kd.C_drewN ?_ _) | (with_reducible refine Kd.C_drew ?_)))
                (case side2 => exact HC495_6.out)
                (case side3 => repeat (first | exact (Kd.C_below HR495_7.out HB.out) | (with_reducible refine Kd.C_alloc ?_ _) | (with_reducible refine Kd.C_drewN ?_ _) | (with_reducible refine Kd.C_drew ?_)))
                (case side4 => exact HC495_7.out)
                (case side5 => repeat (first | exact (Kd.C_below HR495_12.out HB.out) | (with_reducible refine Kd.C_alloc ?_ _) | (with_reducible refine Kd.C_drewN ?_ _) | (with_reducible refine Kd.C_drew ?_)))
                (case side6 => exact HC495_12.out)
                (case side7 => repeat (first | exact (Kd.C_below HR495_13.out HB.out) | (with_reducible refine Kd.C_alloc ?_ _) | (with_reducible refine Kd.C_drewN ?_ _) | (with_reducible refine Kd.C_drew ?_)))
                (case side8 => exact HC495_13.out)
                (case side9 => repeat (first | exact (Kd.C_below HR496_6.out HB.out) | (with_reducible refine Kd.C_alloc ?_ _) | (with_reducible refine Kd.C_drewN ?_ _) | (with_reducible refine Kd.C_drew ?_)))
                (case side10 => exact HC496_6.out)
                (case side11 => repeat (first | exact (Kd.C_below HR496_7.out HB.out) | (with_reducible refine Kd.C_alloc ?_ _) | (with_reducible refine Kd.C_drewN ?_ _) | (with_reducible refine Kd.C_drew ?_)))
                (case side12 => exact HC496_7.out)
                (case side13 => repeat (first | exact (Kd.C_below HR496_12.out HB.out) | (with_reducible refine Kd.C_alloc ?_ _) | (with_reducible refine Kd.C_drewN ?_ _) | (with_reducible refine Kd.C_drew ?_)))
                (case side14 => exact HC496_12.out)
                (case side15 => repeat (first | exact (Kd.C_below HR496_13.out HB.out) | (with_reducible refine Kd.C_alloc ?_ _) | (with_reducible refine Kd.C_drewN ?_ _) | (with_reducible refine Kd.C_drew ?_)))
                (case side16 => exact HC496_13.out)
                rintro e w10 ⟨rfl, hb⟩
                refine ⟨_, rfl, ?_⟩
                have n0_ := Aside0.mk (below_step (by repeat (first | (with_reducible first | exact HB.out | apply below_alloc | apply pw_below_drewN | apply below_drew1) | exact HB.out)) hb)
                clear HB
                have HB := n0_
                clear n0_
                (try clear hb)
                (try clear hb2)
                (try clear hk)
                (try clear hi)
                refine hK.out _ _ ⟨((HB.out.cell (World.block_lt_of_cell? w _ hw495_0)).trans hw495_0), ((HB.out.cell (World.block_lt_of_cell? w _ hw495_1)).trans hw495_1), ((HB.out.cell (World.block_lt_of_cell? w _ hw495_2)).trans hw495_2), ((HB.out.cell (World.block_lt_of_cell? w _ hw495_3)).trans hw495_3), ((HB.out.cell (World.block_lt_of_cell? w _ hw495_4)).trans hw495_4), ((HB.out.cell (World.block_lt_of_cell? w _ hw495_5)).trans hw495_5), ((HB.out.cell (World.block_lt_of_cell? w _ hw495_6)).trans hw495_6), ((HB.out.cell (World.block_lt_of_cell? w _ hw495_7)).trans hw495_7), ((HB.out.cell (World.block_lt_of_cell? w _ hw495_8)).trans hw495_8), ((HB.out.cell (World.block_lt_of_cell? w _ hw495_9)).trans hw495_9), ((HB.out.cell (World.block_lt_of_cell? w _ hw495_10)).trans hw495_10), ((HB.out.cell (World.block_lt_of_cell? w _ hw495_11)).trans hw495_11), ((HB.out.cell (World.block_lt_of_cell? w _ hw495_12)).trans hw495_12), ((HB.out.cell (World.block_lt_of_cell? w _ hw495_13)).trans hw495_13), ((HB.out.cell (World.block_lt_of_cell? w _ hw495_14)).trans hw495_14), ((HB.out.cell (World.block_lt_of_cell? w _ hw496_0)).trans hw496_0), ((HB.out.cell (World.block_lt_of_cell? w _ hw496_1)).trans hw496_1), ((HB.out.cell (World.block_lt_of_cell? w _ hw496_2)).trans hw496_2), ((HB.out.cell (World.block_lt_of_cell? w _ hw496_3)).trans hw496_3), ((HB.out.cell (World.block_lt_of_cell? w _ hw496_4)).trans hw496_4), ((HB.out.cell (World.block_lt_of_cell? w _ hw496_5)).trans hw496_5), ((HB.out.cell (World.block_lt_of_cell? w _ hw496_6)).trans hw496_6), ((HB.out.cell (World.block_lt_of_cell? w _ hw496_7)).trans hw496_7), ((HB.out.cell (World.block_lt_of_cell? w _ hw496_8)).trans hw496_8), ((HB.out.cell (World.block_lt_of_cell? w _ hw496_9)).trans hw496_9), ((HB.out.cell (World.block_lt_of_cell? w _ hw496_10)).trans hw496_10), ((HB.out.cell (World.block_lt_of_cell? w _ hw496_11)).trans hw496_11), ((HB.out.cell (World.block_lt_of_cell? w _ hw496_12)).trans hw496_12), ((HB.out.cell (World.block_lt_of_cell? w _ hw496_13)).trans hw496_13), ((HB.out.cell (World.block_lt_of_cell? w _ hw496_14)).trans hw496_14)⟩ (fun hHeld => ?_)
                clear hK K
                refine norm_ (a' := ?_) ?_ ?_
                rotate_left
                · show Act.put _ (some 25) _ = _
                  simp only [Act.put, List.setIfInBounds_toArray, List.set_cons_zero, List.set_cons_succ, i64_w, i32_w]
                  rfl
                refine pure_ (i := 9) (N := some 26) (v := ?_) (a' := ?_) #[true, true, true, true, true, true, true, true, true, true] rfl rfl (any_of HT_.out (by kernel_rfl)) (fun _ _ _ h => h) (Or.inl ⟨by rfl, ?_⟩) ?_ ?_
                rotate_left
                · intro w'
                  go_simp
                  with_reducible rfl
                rotate_left
                · simp only [Act.put, List.setIfInBounds_toArray, List.set_cons_zero, List.set_cons_succ, i64_w, i32_w]
                  rfl
                refine done_ (done_of HT_.out (by kernel_rfl)) ?_
                try go_wp2
                go_roundg k1
                case measure => have := HK1.out; omega
                case rel => exact ⟨(wrap64 (x5_1 + 1)), (by first | rfl | (simp; done) | (simp [*]; done)), H', ⟨by have := HK1.out; omega⟩, ⟨by repeat (first | (with_reducible first | exact HB.out | apply below_alloc | apply pw_below_drewN | apply below_drew1) | exact HB.out)⟩⟩
              · replace c8 := Bool.eq_false_iff.mpr c8
                subst c8
                have H1 : (some false) = some r := by rw [if_neg (show ¬ (false = true) by decide)] at H; exact H
                clear H
                have H := H1
                clear H1
                obtain rfl := Option.some.inj H
                try go_wp2
                have n0_ := Aside0.mk (below_drew1 HB.out)
                clear HB
                have HB := n0_
                clear n0_
                have p495 : 0 ≤ (x5_1 : Int) := of_decide_eq_true (by first | (with_reducible assumption) | assumption)
                have q495 : x5_1 < (l0.length : Int) := of_decide_eq_true (by first | (with_reducible assumption) | assumption)
                obtain ⟨ad495, A495_6, c495_6, A495_7, c495_7, A495_12, c495_12, A495_13, c495_13, e495, hx495_0, hx495_1, hx495_2, hx495_3, hx495_4, hx495_5, hx495_6, hx495_7, hx495_8, hx495_9, hx495_10, hx495_11, hx495_12, hx495_13, hx495_14, hl495_6, hi495_6, hl495_7, hi495_7, hl495_12, hi495_12, hl495_13, hi495_13⟩ := at_T57 HR0.out x5_1 p495 q495
                have hw495_14 := hx495_14
                have hw495_13 := hx495_13
                have hw495_12 := hx495_12
                have hw495_11 := hx495_11
                have hw495_10 := hx495_10
                have hw495_9 := hx495_9
                have hw495_8 := hx495_8
                have hw495_7 := hx495_7
                have hw495_6 := hx495_6
                have hw495_5 := hx495_5
                have hw495_4 := hx495_4
                have hw495_3 := hx495_3
                have hw495_2 := hx495_2
                have hw495_1 := hx495_1
                have hw495_0 := hx495_0
                cases e495
                replace hx495_0 := (HB.out.cell (World.block_lt_of_cell? w _ hx495_0)).trans hx495_0
                replace hx495_1 := (HB.out.cell (World.block_lt_of_cell? w _ hx495_1)).trans hx495_1
                replace hx495_2 := (HB.out.cell (World.block_lt_of_cell? w _ hx495_2)).trans hx495_2
                replace hx495_3 := (HB.out.cell (World.block_lt_of_cell? w _ hx495_3)).trans hx495_3
                replace hx495_4 := (HB.out.cell (World.block_lt_of_cell? w _ hx495_4)).trans hx495_4
                replace hx495_5 := (HB.out.cell (World.block_lt_of_cell? w _ hx495_5)).trans hx495_5
                replace hx495_6 := (HB.out.cell (World.block_lt_of_cell? w _ hx495_6)).trans hx495_6
                replace hx495_7 := (HB.out.cell (World.block_lt_of_cell? w _ hx495_7)).trans hx495_7
                replace hx495_8 := (HB.out.cell (World.block_lt_of_cell? w _ hx495_8)).trans hx495_8
                replace hx495_9 := (HB.out.cell (World.block_lt_of_cell? w _ hx495_9)).trans hx495_9
                replace hx495_10 := (HB.out.cell (World.block_lt_of_cell? w _ hx495_10)).trans hx495_10
                replace hx495_11 := (HB.out.cell (World.block_lt_of_cell? w _ hx495_11)).trans hx495_11
                replace hx495_12 := (HB.out.cell (World.block_lt_of_cell? w _ hx495_12)).trans hx495_12
                replace hx495_13 := (HB.out.cell (World.block_lt_of_cell? w _ hx495_13)).trans hx495_13
                replace hx495_14 := (HB.out.cell (World.block_lt_of_cell? w _ hx495_14)).trans hx495_14
                have HR495_6 := Aside0.mk hi495_6
                have HC495_6 := Aside0.mk hl495_6
                clear hi495_6 hl495_6
                have HR495_7 := Aside0.mk hi495_7
                have HC495_7 := Aside0.mk hl495_7
                clear hi495_7 hl495_7
                have HR495_12 := Aside0.mk hi495_12
                have HC495_12 := Aside0.mk hl495_12
                clear hi495_12 hl495_12
                have HR495_13 := Aside0.mk hi495_13
                have HC495_13 := Aside0.mk hl495_13
                clear hi495_13 hl495_13
                replace p495 := eq_true p495
                replace q495 := eq_true q495
                have p496 : 0 ≤ (x5_1 : Int) := of_decide_eq_true (by first | (with_reducible assumption) | assumption)
                have q496 : x5_1 < (l1.length : Int) := of_decide_eq_true (by first | (with_reducible assumption) | assumption)
                obtain ⟨ad496, A496_6, c496_6, A496_7, c496_7, A496_12, c496_12, A496_13, c496_13, e496, hx496_0, hx496_1, hx496_2, hx496_3, hx496_4, hx496_5, hx496_6, hx496_7, hx496_8, hx496_9, hx496_10, hx496_11, hx496_12, hx496_13, hx496_14, hl496_6, hi496_6, hl496_7, hi496_7, hl496_12, hi496_12, hl496_13, hi496_13⟩ := at_T57 HR1.out x5_1 p496 q496
                have hw496_14 := hx496_14
                have hw496_13 := hx496_13
                have hw496_12 := hx496_12
                have hw496_11 := hx496_11
                have hw496_10 := hx496_10
                have hw496_9 := hx496_9
                have hw496_8 := hx496_8
                have hw496_7 := hx496_7
                have hw496_6 := hx496_6
                have hw496_5 := hx496_5
                have hw496_4 := hx496_4
                have hw496_3 := hx496_3
                have hw496_2 := hx496_2
                have hw496_1 := hx496_1
                have hw496_0 := hx496_0
                cases e496
                replace hx496_0 := (HB.out.cell (World.block_lt_of_cell? w _ hx496_0)).trans hx496_0
                replace hx496_1 := (HB.out.cell (World.block_lt_of_cell? w _ hx496_1)).trans hx496_1
                replace hx496_2 := (HB.out.cell (World.block_lt_of_cell? w _ hx496_2)).trans hx496_2
                replace hx496_3 := (HB.out.cell (World.block_lt_of_cell? w _ hx496_3)).trans hx496_3
                replace hx496_4 := (HB.out.cell (World.block_lt_of_cell? w _ hx496_4)).trans hx496_4
                replace hx496_5 := (HB.out.cell (World.block_lt_of_cell? w _ hx496_5)).trans hx496_5
                replace hx496_6 := (HB.out.cell (World.block_lt_of_cell? w _ hx496_6)).trans hx496_6
                replace hx496_7 := (HB.out.cell (World.block_lt_of_cell? w _ hx496_7)).trans hx496_7
                replace hx496_8 := (HB.out.cell (World.block_lt_of_cell? w _ hx496_8)).trans hx496_8
                replace hx496_9 := (HB.out.cell (World.block_lt_of_cell? w _ hx496_9)).trans hx496_9
                replace hx496_10 := (HB.out.cell (World.block_lt_of_cell? w _ hx496_10)).trans hx496_10
                replace hx496_11 := (HB.out.cell (World.block_lt_of_cell? w _ hx496_11)).trans hx496_11
                replace hx496_12 := (HB.out.cell (World.block_lt_of_cell? w _ hx496_12)).trans hx496_12
                replace hx496_13 := (HB.out.cell (World.block_lt_of_cell? w _ hx496_13)).trans hx496_13
                replace hx496_14 := (HB.out.cell (World.block_lt_of_cell? w _ hx496_14)).trans hx496_14
                have HR496_6 := Aside0.mk hi496_6
                have HC496_6 := Aside0.mk hl496_6
                clear hi496_6 hl496_6
                have HR496_7 := Aside0.mk hi496_7
                have HC496_7 := Aside0.mk hl496_7
                clear hi496_7 hl496_7
                have HR496_12 := Aside0.mk hi496_12
                have HC496_12 := Aside0.mk hl496_12
                clear hi496_12 hl496_12
                have HR496_13 := Aside0.mk hi496_13
                have HC496_13 := Aside0.mk hl496_13
                clear hi496_13 hl496_13
                replace p496 := eq_true p496
                replace q496 := eq_true q496
                refine start_ (n := 10) (S := fun w' => w'.cell? (ad495.add ((x5_1).toNat * 15)) = some (.int .i64 ((rd_T57 l0 x5_1).f0)) ∧ w'.cell? ⟨(ad495.add ((x5_1).toNat * 15)).block, (ad495.add ((x5_1).toNat * 15)).off + 1, none⟩ = some (.int .i64 ((rd_T57 l0 x5_1).f1)) ∧ w'.cell? ⟨(ad495.add ((x5_1).toNat * 15)).block, (ad495.add ((x5_1).toNat * 15)).off + 2, none⟩ = some (.int .i64 ((rd_T57 l0 x5_1).f2)) ∧ w'.cell? ⟨(ad495.add ((x5_1).toNat * 15)).block, (ad495.add ((x5_1).toNat * 15)).off + 3, none⟩ = some (.int .i64 ((rd_T57 l0 x5_1).f3.f0)) ∧ w'.cell? ⟨(ad495.add ((x5_1).toNat * 15)).block, (ad495.add ((x5_1).toNat * 15)).off + 4, none⟩ = some (.int .i64 ((rd_T57 l0 x5_1).f3.f1)) ∧ w'.cell? ⟨(ad495.add ((x5_1).toNat * 15)).block, (ad495.add ((x5_1).toNat * 15)).off + 5, none⟩ = some (.int .i64 ((rd_T57 l0 x5_1).f3.f2)) ∧ w'.cell? ⟨(ad495.add ((x5_1).toNat * 15)).block, (ad495.add ((x5_1).toNat * 15)).off + 6, none⟩ = some (.slice A495_6 ((rd_T57 l0 x5_1).f3.f3.f0).length c495_6) ∧ w'.cell? ⟨(ad495.add ((x5_1).toNat * 15)).block, (ad495.add ((x5_1).toNat * 15)).off + 7, none⟩ = some (.slice A495_7 ((rd_T57 l0 x5_1).f3.f3.f1).length c495_7) ∧ w'.cell? ⟨(ad495.add ((x5_1).toNat * 15)).block, (ad495.add ((x5_1).toNat * 15)).off + 8, none⟩ = some (.string ((rd_T57 l0 x5_1).f3.f4)) ∧ w'.cell? ⟨(ad495.add ((x5_1).toNat * 15)).block, (ad495.add ((x5_1).toNat * 15)).off + 9, none⟩ = some (.int .i64 ((rd_T57 l0 x5_1).f4)) ∧ w'.cell? ⟨(ad495.add ((x5_1).toNat * 15)).block, (ad495.add ((x5_1).toNat * 15)).off + 10, none⟩ = some (.int .i64 ((rd_T57 l0 x5_1).f5.f0)) ∧ w'.cell? ⟨(ad495.add ((x5_1).toNat * 15)).block, (ad495.add ((x5_1).toNat * 15)).off + 11, none⟩ = some (.int .i64 ((rd_T57 l0 x5_1).f5.f1)) ∧ w'.cell? ⟨(ad495.add ((x5_1).toNat * 15)).block, (ad495.add ((x5_1).toNat * 15)).off + 12, none⟩ = some (.slice A495_12 ((rd_T57 l0 x5_1).f5.f2.f0).length c495_12) ∧ w'.cell? ⟨(ad495.add ((x5_1).toNat * 15)).block, (ad495.add ((x5_1).toNat * 15)).off + 13, none⟩ = some (.slice A495_13 ((rd_T57 l0 x5_1).f5.f2.f1).length c495_13) ∧ w'.cell? ⟨(ad495.add ((x5_1).toNat * 15)).block, (ad495.add ((x5_1).toNat * 15)).off + 14, none⟩ = some (.string ((rd_T57 l0 x5_1).f5.f3)) ∧ w'.cell? (ad496.add ((x5_1).toNat * 15)) = some (.int .i64 ((rd_T57 l1 x5_1).f0)) ∧ w'.cell? ⟨(ad496.add ((x5_1).toNat * 15)).block, (ad496.add ((x5_1).toNat * 15)).off + 1, none⟩ = some (.int .i64 ((rd_T57 l1 x5_1).f1)) ∧ w'.cell? ⟨(ad496.add ((x5_1).toNat * 15)).block, (ad496.add ((x5_1).toNat * 15)).off + 2, none⟩ = some (.int .i64 ((rd_T57 l1 x5_1).f2)) ∧ w'.cell? ⟨(ad496.add ((x5_1).toNat * 15)).block, (ad496.add ((x5_1).toNat * 15)).off + 3, none⟩ = some (.int .i64 ((rd_T57 l1 x5_1).f3.f0)) ∧ w'.cell? ⟨(ad496.add ((x5_1).toNat * 15)).block, (ad496.add ((x5_1).toNat * 15)).off + 4, none⟩ = some (.int .i64 ((rd_T57 l1 x5_1).f3.f1)) ∧ w'.cell? ⟨(ad496.add ((x5_1).toNat * 15)).block, (ad496.add ((x5_1).toNat * 15)).off + 5, none⟩ = some (.int .i64 ((rd_T57 l1 x5_1).f3.f2)) ∧ w'.cell? ⟨(ad496.add ((x5_1).toNat * 15)).block, (ad496.add ((x5_1).toNat * 15)).off + 6, none⟩ = some (.slice A496_6 ((rd_T57 l1 x5_1).f3.f3.f0).length c496_6) ∧ w'.cell? ⟨(ad496.add ((x5_1).toNat * 15)).block, (ad496.add ((x5_1).toNat * 15)).off + 7, none⟩ = some (.slice A496_7 ((rd_T57 l1 x5_1).f3.f3.f1).length c496_7) ∧ w'.cell? ⟨(ad496.add ((x5_1).toNat * 15)).block, (ad496.add ((x5_1).toNat * 15)).off + 8, none⟩ = some (.string ((rd_T57 l1 x5_1).f3.f4)) ∧ w'.cell? ⟨(ad496.add ((x5_1).toNat * 15)).block, (ad496.add ((x5_1).toNat * 15)).off + 9, none⟩ = some (.int .i64 ((rd_T57 l1 x5_1).f4)) ∧ w'.cell? ⟨(ad496.add ((x5_1).toNat * 15)).block, (ad496.add ((x5_1).toNat * 15)).off + 10, none⟩ = some (.int .i64 ((rd_T57 l1 x5_1).f5.f0)) ∧ w'.cell? ⟨(ad496.add ((x5_1).toNat * 15)).block, (ad496.add ((x5_1).toNat * 15)).off + 11, none⟩ = some (.int .i64 ((rd_T57 l1 x5_1).f5.f1)) ∧ w'.cell? ⟨(ad496.add ((x5_1).toNat * 15)).block, (ad496.add ((x5_1).toNat * 15)).off + 12, none⟩ = some (.slice A496_12 ((rd_T57 l1 x5_1).f5.f2.f0).length c496_12) ∧ w'.cell? ⟨(ad496.add ((x5_1).toNat * 15)).block, (ad496.add ((x5_1).toNat * 15)).off + 13, none⟩ = some (.slice A496_13 ((rd_T57 l1 x5_1).f5.f2.f1).length c496_13) ∧ w'.cell? ⟨(ad496.add ((x5_1).toNat * 15)).block, (ad496.add ((x5_1).toNat * 15)).off + 14, none⟩ = some (.string ((rd_T57 l1 x5_1).f5.f3))) (ds := []) #[false, false, false, false, false, false, false, false, false, false] (by kernel_rfl) rfl rfl ⟨((HB.out.cell (World.block_lt_of_cell? w _ hw495_0)).trans hw495_0), ((HB.out.cell (World.block_lt_of_cell? w _ hw495_1)).trans hw495_1), ((HB.out.cell (World.block_lt_of_cell? w _ hw495_2)).trans hw495_2), ((HB.out.cell (World.block_lt_of_cell? w _ hw495_3)).trans hw495_3), ((HB.out.cell (World.block_lt_of_cell? w _ hw495_4)).trans hw495_4), ((HB.out.cell (World.block_lt_of_cell? w _ hw495_5)).trans hw495_5), ((HB.out.cell (World.block_lt_of_cell? w _ hw495_6)).trans hw495_6), ((HB.out.cell (World.block_lt_of_cell? w _ hw495_7)).trans hw495_7), ((HB.out.cell (World.block_lt_of_cell? w _ hw495_8)).trans hw495_8), ((HB.out.cell (World.block_lt_of_cell? w _ hw495_9)).trans hw495_9), ((HB.out.cell (World.block_lt_of_cell? w _ hw495_10)).trans hw495_10), ((HB.out.cell (World.block_lt_of_cell? w _ hw495_11)).trans hw495_11), ((HB.out.cell (World.block_lt_of_cell? w _ hw495_12)).trans hw495_12), ((HB.out.cell (World.block_lt_of_cell? w _ hw495_13)).trans hw495_13), ((HB.out.cell (World.block_lt_of_cell? w _ hw495_14)).trans hw495_14), ((HB.out.cell (World.block_lt_of_cell? w _ hw496_0)).trans hw496_0), ((HB.out.cell (World.block_lt_of_cell? w _ hw496_1)).trans hw496_1), ((HB.out.cell (World.block_lt_of_cell? w _ hw496_2)).trans hw496_2), ((HB.out.cell (World.block_lt_of_cell? w _ hw496_3)).trans hw496_3), ((HB.out.cell (World.block_lt_of_cell? w _ hw496_4)).trans hw496_4), ((HB.out.cell (World.block_lt_of_cell? w _ hw496_5)).trans hw496_5), ((HB.out.cell (World.block_lt_of_cell? w _ hw496_6)).trans hw496_6), ((HB.out.cell (World.block_lt_of_cell? w _ hw496_7)).trans hw496_7), ((HB.out.cell (World.block_lt_of_cell? w _ hw496_8)).trans hw496_8), ((HB.out.cell (World.block_lt_of_cell? w _ hw496_9)).trans hw496_9), ((HB.out.cell (World.block_lt_of_cell? w _ hw496_10)).trans hw496_10), ((HB.out.cell (World.block_lt_of_cell? w _ hw496_11)).trans hw496_11), ((HB.out.cell (World.block_lt_of_cell? w _ hw496_12)).trans hw496_12), ((HB.out.cell (World.block_lt_of_cell? w _ hw496_13)).trans hw496_13), ((HB.out.cell (World.block_lt_of_cell? w _ hw496_14)).trans hw496_14)⟩ (fun hHeld => ?_); refine with_tabW folkmootref16_Records.tab6 folkmootref16_Records.bits6 (fun HT_ HW_ => ?_)
                generalize wr.drew = w11 at HB HR495_12 HR495_13 HR495_6 HR495_7 HR496_12 HR496_13 HR496_6 HR496_7 hx495_0 hx495_1 hx495_10 hx495_11 hx495_12 hx495_13 hx495_14 hx495_2 hx495_3 hx495_4 hx495_5 hx495_6 hx495_7 hx495_8 hx495_9 hx496_0 hx496_1 hx496_10 hx496_11 hx496_12 hx496_13 hx496_14 hx496_2 hx496_3 hx496_4 hx496_5 hx496_6 hx496_7 hx496_8 hx496_9 hHeld ⊢
                refine pure_ (i := 0) (N := some 17) (v := ?_) (a' := ?_) #[true, false, false, false, false, false, false, false, false, false] rfl rfl (any_of HT_.out (by kernel_rfl)) (fun _ _ _ h => h) (Or.inl ⟨by rfl, ?_⟩) ?_ ?_
                rotate_left
                · intro w'
                  go_simp
                  with_reducible rfl
                rotate_left
                · simp only [Act.put, List.setIfInBounds_toArray, List.set_cons_zero, List.set_cons_succ, i64_w, i32_w]
                  rfl
                refine pure_ (i := 1) (N := some 18) (v := ?_) (a' := ?_) #[true, true, false, false, false, false, false, false, false, false] rfl rfl (any_of HT_.out (by kernel_rfl)) (fun _ _ _ h => h) (Or.inl ⟨by rfl, ?_⟩) ?_ ?_
                rotate_left
                · intro w'
                  go_simp
                  with_reducible rfl
                rotate_left
                · simp only [Act.put, List.setIfInBounds_toArray, List.set_cons_zero, List.set_cons_succ, i64_w, i32_w]
                  rfl
                refine pure_ (i := 2) (N := some 19) (v := ?_) (a' := ?_) #[true, true, true, false, false, false, false, false, false, false] rfl rfl (any_of HT_.out (by kernel_rfl)) (fun _ _ _ h => h) (Or.inl ⟨by rfl, ?_⟩) ?_ ?_
                rotate_left
                · intro w'
                  go_simp
                  with_reducible rfl
                rotate_left
                · simp only [Act.put, List.setIfInBounds_toArray, List.set_cons_zero, List.set_cons_succ, i64_w, i32_w]
                  rfl
                refine pure_ (i := 4) (N := some 21) (v := ?_) (a' := ?_) #[true, true, true, false, true, false, false, false, false, false] rfl rfl (any_of HT_.out (by kernel_rfl)) (fun _ _ _ h => h) (Or.inl ⟨by rfl, ?_⟩) ?_ ?_
                rotate_left
                · intro w'
                  go_simp
                  with_reducible rfl
                rotate_left
                · simp only [Act.put, List.setIfInBounds_toArray, List.set_cons_zero, List.set_cons_succ, i64_w, i32_w]
                  rfl
                refine pure_ (i := 5) (N := some 22) (v := ?_) (a' := ?_) #[true, true, true, false, true, true, false, false, false, false] rfl rfl (any_of HT_.out (by kernel_rfl)) (fun _ _ _ h => h) (Or.inl ⟨by rfl, ?_⟩) ?_ ?_
                rotate_left
                · intro w'
                  go_simp
                  with_reducible rfl
                rotate_left
                · simp only [Act.put, List.setIfInBounds_toArray, List.set_cons_zero, List.set_cons_succ, i64_w, i32_w]
                  rfl
                refine pure_ (i := 6) (N := some 23) (v := ?_) (a' := ?_) #[true, true, true, false, true, true, true, false, false, false] rfl rfl (any_of HT_.out (by kernel_rfl)) (fun _ _ _ h => h) (Or.inl ⟨by rfl, ?_⟩) ?_ ?_
                rotate_left
                · intro w'
                  go_simp
                  with_reducible rfl
                rotate_left
                · simp only [Act.put, List.setIfInBounds_toArray, List.set_cons_zero, List.set_cons_succ, i64_w, i32_w]
                  rfl
                refine take_ (i := 3) (N := some 20) (v := ?_) (a' := ?_) #[true, true, true, true, true, true, true, false, false, false] rfl rfl (take_ofW HT_.out HW_.out (by kernel_rfl)) (fun _ _ _ h => h) (Or.inl ⟨by rfl, ?_⟩) hHeld ?_ ?_
                rotate_left
                · rintro w' ⟨s0, s1, s2, s3, s4, s5, s6, s7, s8, s9, s10, s11, s12, s13, s14, s15, s16, s17, s18, s19, s20, s21, s22, s23, s24, s25, s26, s27, s28, s29⟩
                  go_simp
                  with_reducible rfl
                rotate_left
                · simp only [Act.put, List.setIfInBounds_toArray, List.set_cons_zero, List.set_cons_succ, i64_w, i32_w]
                  rfl
                refine take_ (i := 7) (N := some 24) (v := ?_) (a' := ?_) #[true, true, true, true, true, true, true, true, false, false] rfl rfl (take_ofW HT_.out HW_.out (by kernel_rfl)) (fun _ _ _ h => h) (Or.inl ⟨by rfl, ?_⟩) hHeld ?_ ?_
                rotate_left
                · rintro w' ⟨s0, s1, s2, s3, s4, s5, s6, s7, s8, s9, s10, s11, s12, s13, s14, s15, s16, s17, s18, s19, s20, s21, s22, s23, s24, s25, s26, s27, s28, s29⟩
                  go_simp
                  with_reducible rfl
                rotate_left
                · simp only [Act.put, List.setIfInBounds_toArray, List.set_cons_zero, List.set_cons_succ, i64_w, i32_w]
                  rfl
                refine one_ (i := 8) (N := some 25) #[true, true, true, true, true, true, true, true, true, false] rfl rfl (one_of HT_.out (by kernel_rfl)) (by decide) (fun K hK => ?_)
                refine goes_ Try.func44 (by kernel_rfl) rfl #[.agg #[.int .i64 ((rd_T57 l0 x5_1).f0), .int .i64 ((rd_T57 l0 x5_1).f1), .int .i64 ((rd_T57 l0 x5_1).f2), .int .i64 ((rd_T57 l0 x5_1).f3.f0), .int .i64 ((rd_T57 l0 x5_1).f3.f1), .int .i64 ((rd_T57 l0 x5_1).f3.f2), .slice A495_6 ((rd_T57 l0 x5_1).f3.f3.f0).length c495_6, .slice A495_7 ((rd_T57 l0 x5_1).f3.f3.f1).length c495_7, .string ((rd_T57 l0 x5_1).f3.f4), .int .i64 ((rd_T57 l0 x5_1).f4), .int .i64 ((rd_T57 l0 x5_1).f5.f0), .int .i64 ((rd_T57 l0 x5_1).f5.f1), .slice A495_12 ((rd_T57 l0 x5_1).f5.f2.f0).length c495_12, .slice A495_13 ((rd_T57 l0 x5_1).f5.f2.f1).length c495_13, .string ((rd_T57 l0 x5_1).f5.f3)], .agg #[.int .i64 ((rd_T57 l1 x5_1).f0), .int .i64 ((rd_T57 l1 x5_1).f1), .int .i64 ((rd_T57 l1 x5_1).f2), .int .i64 ((rd_T57 l1 x5_1).f3.f0), .int .i64 ((rd_T57 l1 x5_1).f3.f1), .int .i64 ((rd_T57 l1 x5_1).f3.f2), .slice A496_6 ((rd_T57 l1 x5_1).f3.f3.f0).length c496_6, .slice A496_7 ((rd_T57 l1 x5_1).f3.f3.f1).length c496_7, .string ((rd_T57 l1 x5_1).f3.f4), .int .i64 ((rd_T57 l1 x5_1).f4), .int .i64 ((rd_T57 l1 x5_1).f5.f0), .int .i64 ((rd_T57 l1 x5_1).f5.f1), .slice A496_12 ((rd_T57 l1 x5_1).f5.f2.f0).length c496_12, .slice A496_13 ((rd_T57 l1 x5_1).f5.f2.f1).length c496_13, .string ((rd_T57 l1 x5_1).f5.f3)]] (by rfl) rfl rfl (by (try simp only [List.map_toArray, List.map_cons, List.map_nil]); first | done | rfl | (simp only [List.length_drop, List.length_take]; rfl)) ?_
                with_reducible refine (folkmootref16_Record.calls k1 ((rd_T57 l0 x5_1).f0) ((rd_T57 l0 x5_1).f1) ((rd_T57 l0 x5_1).f2) ((rd_T57 l0 x5_1).f3.f0) ((rd_T57 l0 x5_1).f3.f1) ((rd_T57 l0 x5_1).f3.f2) _ _ ((rd_T57 l0 x5_1).f3.f3.f0) _ _ ((rd_T57 l0 x5_1).f3.f3.f1) ((rd_T57 l0 x5_1).f3.f4) ((rd_T57 l0 x5_1).f4) ((rd_T57 l0 x5_1).f5.f0) ((rd_T57 l0 x5_1).f5.f1) _ _ ((rd_T57 l0 x5_1).f5.f2.f0) _ _ ((rd_T57 l0 x5_1).f5.f2.f1) ((rd_T57 l0 x5_1).f5.f3) ((rd_T57 l1 x5_1).f0) ((rd_T57 l1 x5_1).f1) ((rd_T57 l1 x5_1).f2) ((rd_T57 l1 x5_1).f3.f0) ((rd_T57 l1 x5_1).f3.f1) ((rd_T57 l1 x5_1).f3.f2) _ _ ((rd_T57 l1 x5_1).f3.f3.f0) _ _ ((rd_T57 l1 x5_1).f3.f3.f1) ((rd_T57 l1 x5_1).f3.f4) ((rd_T57 l1 x5_1).f4) ((rd_T57 l1 x5_1).f5.f0) ((rd_T57 l1 x5_1).f5.f1) _ _ ((rd_T57 l1 x5_1).f5.f2.f0) _ _ ((rd_T57 l1 x5_1).f5.f2.f1) ((rd_T57 l1 x5_1).f5.f3) false _ ?side1 ?side2 ?side3 ?side4 ?side5 ?side6 ?side7 ?side8 ?side9 ?side10 ?side11 ?side12 ?side13 ?side14 ?side15 ?side16 A7.out).mono ?_
                (case side1 => repeat (first | exact (Kd.C_below HR495_6.out HB.out) | (with_reducible refine Kd.C_alloc ?_ _) | (with_reducible refine Kd.C_drewN ?_ _) | (with_reducible refine Kd.C_drew ?_)))
                (case side2 => exact HC495_6.out)
                (case side3 => repeat (first | exact (Kd.C_below HR495_7.out HB.out) | (with_reducible refine Kd.C_alloc ?_ _) | (with_reducible refine Kd.C_drewN ?_ _) | (with_reducible refine Kd.C_drew ?_)))
                (case side4 => exact HC495_7.out)
                (case side5 => repeat (first | exact (Kd.C_below HR495_12.out HB.out) | (with_reducible refine Kd.C_alloc ?_ _) | (with_reducible refine Kd.C_drewN ?_ _) | (with_reducible refine Kd.C_drew ?_)))
                (case side6 => exact HC495_12.out)
                (case side7 => repeat (first | exact (Kd.C_below HR495_13.out HB.out) | (with_reducible refine Kd.C_alloc ?_ _) | (with_reducible refine Kd.C_drewN ?_ _) | (with_reducible refine Kd.C_drew ?_)))
                (case side8 => exact HC495_13.out)
                (case side9 => repeat (first | exact (Kd.C_below HR496_6.out HB.out) | (with_reducible refine Kd.C_alloc ?_ _) | (with_reducible refine Kd.C_drewN ?_ _) | (with_reducible refine Kd.C_drew ?_)))
                (case side10 => exact HC496_6.out)
                (case side11 => repeat (first | exact (Kd.C_below HR496_7.out HB.out) | (with_reducible refine Kd.C_alloc ?_ _) | (with_reducible refine Kd.C_drewN ?_ _) | (with_reducible refine Kd.C_drew ?_)))
                (case side12 => exact HC496_7.out)
                (case side13 => repeat (first | exact (Kd.C_below HR496_12.out HB.out) | (with_reducible refine Kd.C_alloc ?_ _) | (with_reducible refine Kd.C_drewN ?_ _) | (with_reducible refine Kd.C_drew ?_)))
                (case side14 => exact HC496_12.out)
                (case side15 => repeat (first | exact (Kd.C_below HR496_13.out HB.out) | (with_reducible refine Kd.C_alloc ?_ _) | (with_reducible refine Kd.C_drewN ?_ _) | (with_reducible refine Kd.C_drew ?_)))
                (case side16 => exact HC496_13.out)
                rintro e w12 ⟨rfl, hb⟩
                refine ⟨_, rfl, ?_⟩
                have n0_ := Aside0.mk (below_step (by repeat (first | (with_reducible first | exact HB.out | apply below_alloc | apply pw_below_drewN | apply below_drew1) | exact HB.out)) hb)
                clear HB
                have HB := n0_
                clear n0_
                (try clear hb)
                (try clear hb2)
                (try clear hk)
                (try clear hi)
                refine hK.out _ _ ⟨((HB.out.cell (World.block_lt_of_cell? w _ hw495_0)).trans hw495_0), ((HB.out.cell (World.block_lt_of_cell? w _ hw495_1)).trans hw495_1), ((HB.out.cell (World.block_lt_of_cell? w _ hw495_2)).trans hw495_2), ((HB.out.cell (World.block_lt_of_cell? w _ hw495_3)).trans hw495_3), ((HB.out.cell (World.block_lt_of_cell? w _ hw495_4)).trans hw495_4), ((HB.out.cell (World.block_lt_of_cell? w _ hw495_5)).trans hw495_5), ((HB.out.cell (World.block_lt_of_cell? w _ hw495_6)).trans hw495_6), ((HB.out.cell (World.block_lt_of_cell? w _ hw495_7)).trans hw495_7), ((HB.out.cell (World.block_lt_of_cell? w _ hw495_8)).trans hw495_8), ((HB.out.cell (World.block_lt_of_cell? w _ hw495_9)).trans hw495_9), ((HB.out.cell (World.block_lt_of_cell? w _ hw495_10)).trans hw495_10), ((HB.out.cell (World.block_lt_of_cell? w _ hw495_11)).trans hw495_11), ((HB.out.cell (World.block_lt_of_cell? w _ hw495_12)).trans hw495_12), ((HB.out.cell (World.block_lt_of_cell? w _ hw495_13)).trans hw495_13), ((HB.out.cell (World.block_lt_of_cell? w _ hw495_14)).trans hw495_14), ((HB.out.cell (World.block_lt_of_cell? w _ hw496_0)).trans hw496_0), ((HB.out.cell (World.block_lt_of_cell? w _ hw496_1)).trans hw496_1), ((HB.out.cell (World.block_lt_of_cell? w _ hw496_2)).trans hw496_2), ((HB.out.cell (World.block_lt_of_cell? w _ hw496_3)).trans hw496_3), ((HB.out.cell (World.block_lt_of_cell? w _ hw496_4)).trans hw496_4), ((HB.out.cell (World.block_lt_of_cell? w _ hw496_5)).trans hw496_5), ((HB.out.cell (World.block_lt_of_cell? w _ hw496_6)).trans hw496_6), ((HB.out.cell (World.block_lt_of_cell? w _ hw496_7)).trans hw496_7), ((HB.out.cell (World.block_lt_of_cell? w _ hw496_8)).trans hw496_8), ((HB.out.cell (World.block_lt_of_cell? w _ hw496_9)).trans hw496_9), ((HB.out.cell (World.block_lt_of_cell? w _ hw496_10)).trans hw496_10), ((HB.out.cell (World.block_lt_of_cell? w _ hw496_11)).trans hw496_11), ((HB.out.cell (World.block_lt_of_cell? w _ hw496_12)).trans hw496_12), ((HB.out.cell (World.block_lt_of_cell? w _ hw496_13)).trans hw496_13), ((HB.out.cell (World.block_lt_of_cell? w _ hw496_14)).trans hw496_14)⟩ (fun hHeld => ?_)
                clear hK K
                refine norm_ (a' := ?_) ?_ ?_
                rotate_left
                · show Act.put _ (some 25) _ = _
                  simp only [Act.put, List.setIfInBounds_toArray, List.set_cons_zero, List.set_cons_succ, i64_w, i32_w]
                  rfl
                refine pure_ (i := 9) (N := some 26) (v := ?_) (a' := ?_) #[true, true, true, true, true, true, true, true, true, true] rfl rfl (any_of HT_.out (by kernel_rfl)) (fun _ _ _ h => h) (Or.inl ⟨by rfl, ?_⟩) ?_ ?_
                rotate_left
                · intro w'
                  go_simp
                  with_reducible rfl
                rotate_left
                · simp only [Act.put, List.setIfInBounds_toArray, List.set_cons_zero, List.set_cons_succ, i64_w, i32_w]
                  rfl
                refine done_ (done_of HT_.out (by kernel_rfl)) ?_
                try go_wp2
                go_ret
                exact ⟨by first | rfl | (simp [errW_none, errW_some] <;> rfl) | (simp [*, errW_none, errW_some] <;> rfl), by repeat (first | (with_reducible first | exact HB.out | apply below_alloc | apply pw_below_drewN | apply below_drew1) | exact HB.out)⟩
            · rw [if_neg c6] at H
              exact absurd H (by simp)
          · rw [if_neg c5] at H
            exact absurd H (by simp)
        · rw [if_neg c4] at H
          have c4b0 : decide (x5_1 < (l0.length : Int)) = false := decide_eq_false c4
          clear c4
          obtain rfl := Option.some.inj H
          go_wp2
          go_ret
          exact ⟨by first | rfl | (simp [errW_none, errW_some] <;> rfl) | (simp [*, errW_none, errW_some] <;> rfl), by repeat (first | (with_reducible first | exact HB.out | apply below_alloc | apply pw_below_drewN | apply below_drew1) | exact HB.out)⟩
  · rw [if_neg c3] at H
    have c3b0 : ((l0.length : Int) == (l1.length : Int)) = false := beq_eq_false_iff_ne.mpr c3
    have c3b1 : ((l0.length : Int) != (l1.length : Int)) = true := bne_iff_ne.mpr c3
    have c3b2 : (l0.length == l1.length) = false := by first | simpa using c3 | (simp at c3 ⊢; omega)
    obtain rfl := Option.some.inj H
    go_enter Try.func30, Try.ntmps30
    go_wp2
    go_ret
    exact ⟨by first | rfl | (simp [errW_none, errW_some] <;> rfl) | (simp [*, errW_none, errW_some] <;> rfl), by repeat (first | (with_reducible first | exact HB.out | apply below_alloc | apply pw_below_drewN | apply below_drew1) | exact HB.out)⟩

end Go.Proofs.Ytbjhjimkljbjlaa.PA
