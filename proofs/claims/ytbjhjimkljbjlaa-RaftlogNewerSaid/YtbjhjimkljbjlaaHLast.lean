/- raftlog.Last, by its walk. -/
import Derived.Test.YtbjhjimkljbjlaaHChk
import Derived.Test.YtbjhjimkljbjlaaHBackw
import Derived.Lib.Hide
namespace Go.Proofs.Ytbjhjimkljbjlaa.PA
open Go.RowKit Go.Shelf Go.Proofs.YtbjhjimkljbjlaaW.PrintWords Go.Proofs.YtbjhjimkljbjlaaW.PrintLast Go.Proofs.YtbjhjimkljbjlaaI
attribute [local go_sem] Oper.semAt_some

theorem alloc3 (w : World) (o1 o2 o3 : Obj) : (((w.alloc o1).alloc o2).alloc o3).heap.size = w.heap.size + 3 ∧ Below w.heap.size w (((w.alloc o1).alloc o2).alloc o3) ∧
    (((w.alloc o1).alloc o2).alloc o3).heap[w.heap.size]? = some o1 ∧ (((w.alloc o1).alloc o2).alloc o3).heap[w.heap.size + 1]? = some o2 ∧ (((w.alloc o1).alloc o2).alloc o3).heap[w.heap.size + 1 + 1]? = some o3 := by
  refine ⟨by simp, (((Below.refl _ _).alloc (Nat.le_refl _) _).alloc (by simp) _).alloc (by simp; omega) _, ?_, ?_, ?_⟩
  · exact (Below.heap_alloc _ _ _ (by simp; omega)).trans ((Below.heap_alloc _ _ _ (by simp)).trans (World.alloc_heap_new w _))
  · refine (Below.heap_alloc _ _ _ (by simp)).trans ?_
    have := World.alloc_heap_new (w.alloc o1) o2
    rwa [World.size_alloc] at this
  · have := World.alloc_heap_new ((w.alloc o1).alloc o2) o3
    rwa [World.size_alloc, World.size_alloc] at this

set_option maxRecDepth 100000 in
set_option maxHeartbeats 4000000 in
theorem raftlog_Last.bad (a0_0 a0_1 a0_2 a0_3 : Int) (A0_4 : Option Addr) (c0_4 : Nat) (l0_4 : List Int) (A0_5 : Option Addr) (c0_5 : Nat) (l0_5 : List Int) (a0_6 : ByteArray) (A0_7 : Option Addr) (c0_7 : Nat) (l0_7 : List S54) (w : World)
    (hr0_4 : Kd.C (Kd.int .i64) w A0_4 l0_4.length l0_4) (hc0_4 : l0_4.length ≤ c0_4) (hr0_5 : Kd.C (Kd.int .i64) w A0_5 l0_5.length l0_5) (hc0_5 : l0_5.length ≤ c0_5) (hr0_7 : Kd.C k54 w A0_7 l0_7.length l0_7) (hc0_7 : l0_7.length ≤ c0_7)
    (hk : chk a0_2 l0_7 = false) :
    CallsIn Fence.wide 10 Try.prog 10 #[.agg #[.int .i64 a0_0, .int .i64 a0_1, .int .i64 a0_2, .int .i64 a0_3, .slice A0_4 l0_4.length c0_4, .slice A0_5 l0_5.length c0_5, .string a0_6, .slice A0_7 l0_7.length c0_7]] w fun e w' => e = .returned (.tuple #[.int .i64 0, .int .i64 0]) ∧ Below w.heap.size w w' := by
  have hro : Fence.wide.round = none := rfl
  have hch : ∀ W, Below w.heap.size w W → Calls Try.prog 12 #[.agg #[.int .i64 a0_0, .int .i64 a0_1, .int .i64 a0_2, .int .i64 a0_3, .slice A0_4 l0_4.length c0_4, .slice A0_5 l0_5.length c0_5, .string a0_6, .slice A0_7 l0_7.length c0_7]] W fun e w' => e = .returned (.int .i64 1) ∧ Below W.heap.size W w' := fun W hb => by
    have he := check_eq (l0_7.length + 3) a0_0 a0_1 a0_2 a0_3 l0_4 l0_5 a0_6 l0_7 (Nat.le_refl _)
    rw [hk] at he
    exact raftlog_Check.calls _ _ _ _ _ _ _ _ _ _ _ _ _ _ _ 1 W (Kd.C_below hr0_4 hb) hc0_4 (Kd.C_below hr0_5 hb) hc0_5 (Kd.C_below hr0_7 hb) hc0_7 he
  have HCH := Lib.hid hch
  clear hch hk
  refine callsIn_of_wp_marks Try.func10 rfl trivial ?_ hro
  simp only [Try.ntmps10, List.size_toArray, List.length_cons, List.length_nil, Nat.reduceAdd, Nat.reduceSub, Array.replicate_succ, Array.replicate_zero, List.push_toArray, List.append_toArray, List.nil_append, List.cons_append]
  gi_wp2_with fail
  have A3 := alloc3 w (.cells #[.int .i64 a0_0, .int .i64 a0_1, .int .i64 a0_2, .int .i64 a0_3, .slice A0_4 l0_4.length c0_4, .slice A0_5 l0_5.length c0_5, .string a0_6, .slice A0_7 l0_7.length c0_7] 30) (.cells #[.int .i64 0] 3) (.cells #[.int .i64 0] 3)
  obtain ⟨z3, b3, _, q1, q2⟩ := A3
  refine ⟨trivial, (callsIn_wide.2 (HCH.out _ b3)).mono ?_⟩
  rintro e w1 ⟨rfl, hb1⟩
  rw [z3] at hb1
  have e1 := (hb1.block _ (by omega)).trans q1
  have e2 := (hb1.block _ (by omega)).trans q2
  have b1 := b3.trans (hb1.mono (by omega))
  clear hb1 q1 q2 z3 b3
  have c1 : w1.cell? ⟨w.heap.size + 1, 0, none⟩ = some (.int .i64 0) := by simp [World.cell?, e1]
  have c2 : w1.cell? ⟨w.heap.size + 1 + 1, 0, none⟩ = some (.int .i64 0) := by simp [World.cell?, e2]
  have f1 : w1.frozen? ⟨w.heap.size + 1, 0, none⟩ = false := by simp [World.frozen?, e1]
  have f2 : w1.frozen? ⟨w.heap.size + 1 + 1, 0, none⟩ = false := by simp [World.frozen?, e2]
  clear e1 e2
  gi_wp2
  refine ⟨.tuple #[.int .i64 0, .int .i64 0], ?_, rfl, (b1.setCell (p := ⟨w.heap.size + 1, 0, none⟩) (by simp) _).setCell (p := ⟨w.heap.size + 1 + 1, 0, none⟩) (by simp; omega) _⟩
  simp [results, Try.f10, go_sem, c1, c2]

/-- What the iterator needs of a log that is read. -/
theorem log_cells {w : World} {A : Option Addr} {es : List S54} (h : Kd.C k54 w A es.length es) : ∃ cs : Nat → List Value,
    (0 < es.length → ∃ ad, A = some ad ∧ ad.block < w.heap.size ∧ ∀ j, j < es.length → (cs j).length = 6 ∧ ∀ i u, (cs j)[i]? = some u → w.cell? (ad.add (j * 6 + i)) = some u) ∧
    (∀ j, j < es.length → ∃ kd A3 n3 c3 A4 n4 c4 s, cs j = [.int .i64 (es.getD j z54).f0, .int .i64 (es.getD j z54).f1, .int .i64 kd, .slice A3 n3 c3, .slice A4 n4 c4, .string s]) := by
  rcases Nat.eq_zero_or_pos es.length with h0 | h0
  · exact ⟨fun _ => [], fun hp => absurd hp (by omega), fun j hj => absurd hj (by omega)⟩
  · obtain ⟨ad, cs, hA, hc⟩ := raw_cells z54 h h0
    have hx : ∀ j, j < es.length → ∃ kd A3 n3 c3 A4 n4 c4 s, cs j = [.int .i64 (es.getD j z54).f0, .int .i64 (es.getD j z54).f1, .int .i64 kd, .slice A3 n3 c3, .slice A4 n4 c4, .string s] := fun j hj => by
      obtain ⟨A3, c3, A4, c4, e, _⟩ := k54_open (hc j hj).2.1
      exact ⟨_, _, _, _, _, _, _, _, e⟩
    refine ⟨cs, fun _ => ⟨ad, hA, ?_, fun j hj => ⟨(hc j hj).1, (hc j hj).2.2⟩⟩, hx⟩
    obtain ⟨kd, A3, n3, c3, A4, n4, c4, s, e⟩ := hx 0 h0
    have := World.block_lt_of_cell? w _ ((hc 0 h0).2.2 0 _ (by rw [e]; rfl))
    unfold Addr.add at this
    split at this <;> exact this

theorem back_ne (ix tm : Nat → Int) (si st : Int) (len : Nat) : backList ix tm si st len ≠ [] := by simp [backList]

theorem back_head (es : List S54) (si st : Int) (x : Int × Int) (h : [x] <+: backList (fun j => (es.getD j z54).f0) (fun j => (es.getD j z54).f1) si st es.length) : x = lastP si st es := by
  obtain ⟨r, hr⟩ := h
  unfold lastP
  rcases Nat.eq_zero_or_pos es.length with h0 | h0
  · have : es = [] := List.eq_nil_of_length_eq_zero h0
    subst this
    simp [backList, downTo, upto] at hr
    simp [hr.1]
  · obtain ⟨m, hm⟩ : ∃ m, es.length = m + 1 := ⟨es.length - 1, by omega⟩
    have hg : es.getLast? = some (es.getD m z54) := by
      rw [List.getLast?_eq_getElem?, hm, Nat.add_sub_cancel, List.getD_eq_getElem?_getD, List.getElem?_eq_getElem (by omega)]
      rfl
    rw [hg]
    have h1 : (backList (fun j => (es.getD j z54).f0) (fun j => (es.getD j z54).f1) si st es.length)[0]? = some ((es.getD m z54).f0, (es.getD m z54).f1) := by
      simp [backList, downTo, upto, hm, List.range_succ_eq_map]
    rw [← hr] at h1
    simpa using h1

set_option maxRecDepth 100000 in
set_option maxHeartbeats 4000000 in
theorem raftlog_Last.good (a0_0 a0_1 a0_2 a0_3 : Int) (A0_4 : Option Addr) (c0_4 : Nat) (l0_4 : List Int) (A0_5 : Option Addr) (c0_5 : Nat) (l0_5 : List Int) (a0_6 : ByteArray) (A0_7 : Option Addr) (c0_7 : Nat) (l0_7 : List S54) (w : World)
    (hr0_4 : Kd.C (Kd.int .i64) w A0_4 l0_4.length l0_4) (hc0_4 : l0_4.length ≤ c0_4) (hr0_5 : Kd.C (Kd.int .i64) w A0_5 l0_5.length l0_5) (hc0_5 : l0_5.length ≤ c0_5) (hr0_7 : Kd.C k54 w A0_7 l0_7.length l0_7) (hc0_7 : l0_7.length ≤ c0_7)
    (hk : chk a0_2 l0_7 = true) :
    CallsIn Fence.wide 10 Try.prog 10 #[.agg #[.int .i64 a0_0, .int .i64 a0_1, .int .i64 a0_2, .int .i64 a0_3, .slice A0_4 l0_4.length c0_4, .slice A0_5 l0_5.length c0_5, .string a0_6, .slice A0_7 l0_7.length c0_7]] w fun e w' => e = .returned (.tuple #[.int .i64 (lastP a0_2 a0_3 l0_7).1, .int .i64 (lastP a0_2 a0_3 l0_7).2]) ∧ Below w.heap.size w w' := by
  have hro : Fence.wide.round = none := rfl
  have hm : l0_7.length ≤ 9223372036854775807 := hr0_7.2.1
  have hch : ∀ W, Below w.heap.size w W → Calls Try.prog 12 #[.agg #[.int .i64 a0_0, .int .i64 a0_1, .int .i64 a0_2, .int .i64 a0_3, .slice A0_4 l0_4.length c0_4, .slice A0_5 l0_5.length c0_5, .string a0_6, .slice A0_7 l0_7.length c0_7]] W fun e w' => e = .returned (.int .i64 0) ∧ Below W.heap.size W w' := fun W hb => by
    have he := check_eq (l0_7.length + 3) a0_0 a0_1 a0_2 a0_3 l0_4 l0_5 a0_6 l0_7 (Nat.le_refl _)
    rw [hk] at he
    exact raftlog_Check.calls _ _ _ _ _ _ _ _ _ _ _ _ _ _ _ 0 W (Kd.C_below hr0_4 hb) hc0_4 (Kd.C_below hr0_5 hb) hc0_5 (Kd.C_below hr0_7 hb) hc0_7 he
  obtain ⟨cs, hcs, hix⟩ := log_cells hr0_7
  have HCH := Lib.hid hch
  have HCS := Lib.hid hcs
  have HIX := Lib.hid hix
  clear hch hk hcs hix
  refine callsIn_of_wp_marks Try.func10 rfl trivial ?_ hro
  simp only [Try.ntmps10, List.size_toArray, List.length_cons, List.length_nil, Nat.reduceAdd, Nat.reduceSub, Array.replicate_succ, Array.replicate_zero, List.push_toArray, List.append_toArray, List.nil_append, List.cons_append]
  gi_wp2_with fail
  have A3 := alloc3 w (.cells #[.int .i64 a0_0, .int .i64 a0_1, .int .i64 a0_2, .int .i64 a0_3, .slice A0_4 l0_4.length c0_4, .slice A0_5 l0_5.length c0_5, .string a0_6, .slice A0_7 l0_7.length c0_7] 30) (.cells #[.int .i64 0] 3) (.cells #[.int .i64 0] 3)
  obtain ⟨z3, b3, q0, q1, q2⟩ := A3
  refine ⟨trivial, (callsIn_wide.2 (HCH.out _ b3)).mono ?_⟩
  rintro e w1 ⟨rfl, hb1⟩
  rw [z3] at hb1
  have e0 := (hb1.block _ (by omega)).trans q0
  have e1 := (hb1.block _ (by omega)).trans q1
  have e2 := (hb1.block _ (by omega)).trans q2
  have b1 := b3.trans (hb1.mono (by omega))
  have z1 : w.heap.size + 3 ≤ w1.heap.size := by have := hb1.size; omega
  clear hb1 q0 q1 q2 z3 b3
  have k0 : w1.cell? ⟨w.heap.size, 0, none⟩ = some (.int .i64 a0_0) := by simp [World.cell?, e0]
  have k1 : w1.cell? ⟨w.heap.size, 1, none⟩ = some (.int .i64 a0_1) := by simp [World.cell?, e0]
  have k2 : w1.cell? ⟨w.heap.size, 2, none⟩ = some (.int .i64 a0_2) := by simp [World.cell?, e0]
  have k3 : w1.cell? ⟨w.heap.size, 3, none⟩ = some (.int .i64 a0_3) := by simp [World.cell?, e0]
  have k4 : w1.cell? ⟨w.heap.size, 4, none⟩ = some (.slice A0_4 l0_4.length c0_4) := by simp [World.cell?, e0]
  have k5 : w1.cell? ⟨w.heap.size, 5, none⟩ = some (.slice A0_5 l0_5.length c0_5) := by simp [World.cell?, e0]
  have k6 : w1.cell? ⟨w.heap.size, 6, none⟩ = some (.string a0_6) := by simp [World.cell?, e0]
  have k7 : w1.cell? ⟨w.heap.size, 7, none⟩ = some (.slice A0_7 l0_7.length c0_7) := by simp [World.cell?, e0]
  gi_wp2_with fail
  refine ⟨trivial, (backw_makes _ _ trivial hro _ _).mono ?_⟩
  rintro e w' ⟨rfl, rfl⟩
  gi_wp2_with fail
  obtain ⟨W2, hW2⟩ : ∃ W2, w1.alloc (.cells #[.int .i64 a0_0, .int .i64 a0_1, .int .i64 a0_2, .int .i64 a0_3, .slice A0_4 l0_4.length c0_4, .slice A0_5 l0_5.length c0_5, .string a0_6, .slice A0_7 l0_7.length c0_7] 30) = W2 := ⟨_, rfl⟩
  have hz2 : W2.heap.size = w1.heap.size + 1 := by rw [← hW2]; simp
  have hb2 : Below w1.heap.size w1 W2 := by rw [← hW2]; exact (Below.refl _ _).alloc (Nat.le_refl _) _
  have hk2 : W2.heap[w1.heap.size]? = some (.cells #[.int .i64 a0_0, .int .i64 a0_1, .int .i64 a0_2, .int .i64 a0_3, .slice A0_4 l0_4.length c0_4, .slice A0_5 l0_5.length c0_5, .string a0_6, .slice A0_7 l0_7.length c0_7] 30) := by
    rw [← hW2]; exact World.alloc_heap_new w1 _
  have d1 := (hb2.block _ (by omega)).trans e1
  have d2 := (hb2.block _ (by omega)).trans e2
  have bw2 : Below w.heap.size w W2 := b1.trans (hb2.mono (by omega))
  rw [hW2]
  clear e0 e1 e2 k0 k1 k2 k3 k4 k5 k6 k7 hb2 hW2
  refine wpIn_range hro (by omega) (gf := 50) (lb := #[.pointer (some ⟨w1.heap.size, 0, none⟩)]) rfl trivial (enters_of Try.func50 (by kernel_rfl) rfl)
    (backw_iter Fence.wide 9 trivial trivial trivial hro rfl (by omega) w1.heap.size l0_7.length c0_7 A0_7 (fun k => k < w.heap.size ∨ k = w1.heap.size) cs (fun j => (l0_7.getD j z54).f0) (fun j => (l0_7.getD j z54).f1) a0_0 a0_1 a0_2 a0_3 _ _ _ W2 (.inr rfl)
      (fun k hk => by rcases hk with hk | hk <;> omega) hm
      (fun h => by
        obtain ⟨ad, e1, e2, e3⟩ := HCS.out h
        refine ⟨ad, e1, .inl e2, fun j hj => ⟨(e3 j hj).1, fun i u hu => ?_⟩⟩
        have hc := (e3 j hj).2 i u hu
        exact (bw2.cell (World.block_lt_of_cell? w _ hc)).trans hc)
      HIX.out hk2)
    (fun k hk => by rcases hk with hk | hk <;> omega) (fun _ => rfl)
    (fun pre X => pre = [] ∧ X.heap[w.heap.size + 1]? = some (.cells #[.int .i64 0] 3) ∧ X.heap[w.heap.size + 1 + 1]? = some (.cells #[.int .i64 0] 3) ∧ Below w.heap.size w X)
    (fun c pre X => c = .ret ∧ ∃ x, pre = [x] ∧ X.heap[w.heap.size + 1]? = some (.cells #[.int .i64 x.1] 3) ∧ X.heap[w.heap.size + 1 + 1]? = some (.cells #[.int .i64 x.2] 3) ∧ Below w.heap.size w X)
    (fun s X Y hs hb => ⟨hs.1, (hb.block _ (by omega)).trans hs.2.1, (hb.block _ (by omega)).trans hs.2.2.1, hs.2.2.2.trans (hb.mono (by omega))⟩)
    (fun c s X Y hs hb => by
      obtain ⟨h1, x, h2, h3, h4, h5⟩ := hs
      exact ⟨h1, x, h2, (hb.block _ (by omega)).trans h3, (hb.block _ (by omega)).trans h4, h5.trans (hb.mono (by omega))⟩)
    ⟨rfl, d1, d2, bw2⟩
    (fun x a' _ => a' = { tmps := #[.agg #[.int .i64 a0_0, .int .i64 a0_1, .int .i64 a0_2, .int .i64 a0_3, .slice A0_4 l0_4.length c0_4, .slice A0_5 l0_5.length c0_5, .string a0_6, .slice A0_7 l0_7.length c0_7], .pointer (some ⟨w.heap.size, 0, none⟩), .pointer (some ⟨w.heap.size + 1, 0, none⟩), .pointer (some ⟨w.heap.size + 1 + 1, 0, none⟩), .int .i64 x.1, .int .i64 x.2, .agg #[.int .i64 a0_0, .int .i64 a0_1, .int .i64 a0_2, .int .i64 a0_3, .slice A0_4 l0_4.length c0_4, .slice A0_5 l0_5.length c0_5, .string a0_6, .slice A0_7 l0_7.length c0_7], .int .i64 0, .bool true, .agg #[.int .i64 a0_0, .int .i64 a0_1, .int .i64 a0_2, .int .i64 a0_3, .slice A0_4 l0_4.length c0_4, .slice A0_5 l0_5.length c0_5, .string a0_6, .slice A0_7 l0_7.length c0_7], .func (.func 50) #[] #[.pointer (some ⟨w1.heap.size, 0, none⟩)], .int .i64 x.1, .int .i64 x.2, undef, undef], defers := [] })
    (fun x a' X o h => h)
    ?assign ?body ?done ?stop
  case assign =>
    rintro l2 pre x X K _ hX hi hK'
    simp only [pairOf]
    gi_wp2
    exact hK' _ _ (Mid.refl _ _ _) hi rfl
  case body =>
    rintro l2 pre x a' X _ hX ⟨rfl, h1, h2, hb⟩ rfl hlen
    have c1 : X.cell? ⟨w.heap.size + 1, 0, none⟩ = some (.int .i64 0) := by simp [World.cell?, h1]
    have c2 : X.cell? ⟨w.heap.size + 1 + 1, 0, none⟩ = some (.int .i64 0) := by simp [World.cell?, h2]
    have f1 : X.frozen? ⟨w.heap.size + 1, 0, none⟩ = false := by simp [World.frozen?, h1]
    have f2 : X.frozen? ⟨w.heap.size + 1 + 1, 0, none⟩ = false := by simp [World.frozen?, h2]
    gi_wp2
    refine ⟨((Mid.refl _ _ _).setCell (q := ⟨w.heap.size + 1, 0, none⟩) (fun h => by rcases h with h | h <;> simp at h <;> omega) (by simp; omega) _).setCell (q := ⟨w.heap.size + 1 + 1, 0, none⟩) (fun h => by rcases h with h | h <;> simp at h <;> omega) (by simp; omega) _, rfl, x, rfl, ?_, ?_, ?_⟩
    · exact blk_far (blk_set h1 0 _) (by simp) _
    · exact blk_set (blk_far h2 (by simp) _) 0 _
    · exact (hb.setCell (p := ⟨w.heap.size + 1, 0, none⟩) (by simp) _).setCell (p := ⟨w.heap.size + 1 + 1, 0, none⟩) (by simp; omega) _
  case done =>
    rintro D xs X hD rfl ⟨hnil, _⟩ hKD
    exact absurd hnil (back_ne _ _ _ _ _)
  case stop =>
    rintro D c pre X hD hpre ⟨rfl, x, rfl, h1, h2, hb⟩ hKD
    obtain rfl := back_head l0_7 a0_2 a0_3 x hpre
    gi_wp2
    refine ⟨by simp, .inl ⟨_, _, rfl, run_takeDeferred hKD, ?_⟩⟩
    have g1 : (X.putObj D (.deferred none)).cell? ⟨w.heap.size + 1, 0, none⟩ = some (.int .i64 (lastP a0_2 a0_3 l0_7).1) := by
      simp [World.cell?, World.putObj_heap_other (w := X) (r := D) (k := w.heap.size + 1) (o := .deferred none) (by omega), h1]
    have g2 : (X.putObj D (.deferred none)).cell? ⟨w.heap.size + 1 + 1, 0, none⟩ = some (.int .i64 (lastP a0_2 a0_3 l0_7).2) := by
      simp [World.cell?, World.putObj_heap_other (w := X) (r := D) (k := w.heap.size + 1 + 1) (o := .deferred none) (by omega), h2]
    refine ⟨.tuple #[.int .i64 (lastP a0_2 a0_3 l0_7).1, .int .i64 (lastP a0_2 a0_3 l0_7).2], ?_, rfl, below_putObj hb (by omega) _⟩
    simp [results, Try.f10, go_sem, g1, g2]

/-- The contract, as the printed callers ask for it. -/
theorem raftlog_Last.calls (a0_0 a0_1 a0_2 a0_3 : Int) (A0_4 : Option Addr) (c0_4 : Nat) (l0_4 : List Int) (A0_5 : Option Addr) (c0_5 : Nat) (l0_5 : List Int) (a0_6 : ByteArray) (A0_7 : Option Addr) (c0_7 : Nat) (l0_7 : List S54) (r1 r2 : Int) (w : World)
    (hr0_4 : Kd.C (Kd.int .i64) w A0_4 l0_4.length l0_4) (hc0_4 : l0_4.length ≤ c0_4) (hr0_5 : Kd.C (Kd.int .i64) w A0_5 l0_5.length l0_5) (hc0_5 : l0_5.length ≤ c0_5) (hr0_7 : Kd.C k54 w A0_7 l0_7.length l0_7) (hc0_7 : l0_7.length ≤ c0_7)
    (h : raftlog_Last.f a0_0 a0_1 a0_2 a0_3 l0_4 l0_5 a0_6 l0_7 = some (r1, r2)) :
    Calls Try.prog 10 #[.agg #[.int .i64 a0_0, .int .i64 a0_1, .int .i64 a0_2, .int .i64 a0_3, .slice A0_4 l0_4.length c0_4, .slice A0_5 l0_5.length c0_5, .string a0_6, .slice A0_7 l0_7.length c0_7]] w fun e w' => e = .returned (.tuple #[.int .i64 r1, .int .i64 r2]) ∧ Below w.heap.size w w' := by
  simp only [raftlog_Last.f, Option.some.injEq] at h
  cases hk : chk a0_2 l0_7 with
  | false =>
    rw [hk] at h
    simp only [Bool.false_eq_true, if_false, Prod.mk.injEq] at h
    obtain ⟨rfl, rfl⟩ := h
    exact callsIn_wide.1 (raftlog_Last.bad a0_0 a0_1 a0_2 a0_3 A0_4 c0_4 l0_4 A0_5 c0_5 l0_5 a0_6 A0_7 c0_7 l0_7 w hr0_4 hc0_4 hr0_5 hc0_5 hr0_7 hc0_7 hk)
  | true =>
    rw [hk] at h
    simp only [if_true] at h
    have g := callsIn_wide.1 (raftlog_Last.good a0_0 a0_1 a0_2 a0_3 A0_4 c0_4 l0_4 A0_5 c0_5 l0_5 a0_6 A0_7 c0_7 l0_7 w hr0_4 hc0_4 hr0_5 hc0_5 hr0_7 hc0_7 hk)
    rw [h] at g
    exact g
end Go.Proofs.Ytbjhjimkljbjlaa.PA
