/- raftlog.Term, by its walk. -/
import Derived.Test.YtbjhjimkljbjlaaHLast
namespace Go.Proofs.Ytbjhjimkljbjlaa.PA
open Go.RowKit Go.Shelf Go.Proofs.YtbjhjimkljbjlaaW.PrintWords Go.Proofs.YtbjhjimkljbjlaaW.PrintLast Go.Proofs.YtbjhjimkljbjlaaI
attribute [local go_sem] Oper.semAt_some

theorem alloc4 (w : World) (o1 o2 o3 o4 : Obj) : ((((w.alloc o1).alloc o2).alloc o3).alloc o4).heap.size = w.heap.size + 4 ∧ Below w.heap.size w ((((w.alloc o1).alloc o2).alloc o3).alloc o4) ∧
    ((((w.alloc o1).alloc o2).alloc o3).alloc o4).heap[w.heap.size]? = some o1 ∧ ((((w.alloc o1).alloc o2).alloc o3).alloc o4).heap[w.heap.size + 1]? = some o2 ∧ ((((w.alloc o1).alloc o2).alloc o3).alloc o4).heap[w.heap.size + 1 + 1]? = some o3 ∧
    ((((w.alloc o1).alloc o2).alloc o3).alloc o4).heap[w.heap.size + 1 + 1 + 1]? = some o4 := by
  obtain ⟨z, b, h1, h2, h3⟩ := alloc3 w o1 o2 o3
  refine ⟨by simp, b.alloc (by omega) _, (Below.heap_alloc _ _ _ (by omega)).trans h1, (Below.heap_alloc _ _ _ (by omega)).trans h2, (Below.heap_alloc _ _ _ (by omega)).trans h3, ?_⟩
  have := World.alloc_heap_new (((w.alloc o1).alloc o2).alloc o3) o4
  rwa [z] at this

theorem backList_eq (es : List S54) (si st : Int) : backList (fun j => (es.getD j z54).f0) (fun j => (es.getD j z54).f1) si st es.length = backL si st es := by
  unfold backList backL
  congr 1
  apply List.ext_getElem
  · simp [downTo, upto]
  · intro i h1 h2
    simp [downTo, upto] at h1
    simp [downTo, upto, List.getElem_reverse, List.getElem?_eq_getElem (show es.length - 1 - i < es.length by omega)]

theorem find_prefix {L pre : List (Int × Int)} {x : Int × Int} {index : Int} (h : pre ++ [x] <+: L) (hn : ∀ y ∈ pre, y.1 ≠ index) (hx : x.1 = index) : L.find? (fun x => x.1 == index) = some x := by
  obtain ⟨r, rfl⟩ := h
  rw [List.find?_append, List.find?_append, List.find?_eq_none.2 (fun y hy => by simpa using hn y hy)]
  simp [hx]

set_option maxRecDepth 100000 in
set_option maxHeartbeats 4000000 in
theorem raftlog_Term.bad (a0_0 a0_1 a0_2 a0_3 : Int) (A0_4 : Option Addr) (c0_4 : Nat) (l0_4 : List Int) (A0_5 : Option Addr) (c0_5 : Nat) (l0_5 : List Int) (a0_6 : ByteArray) (A0_7 : Option Addr) (c0_7 : Nat) (l0_7 : List S54) (a1 : Int) (w : World) (hr0_4 : Kd.C (Kd.int .i64) w A0_4 l0_4.length l0_4) (hc0_4 : l0_4.length ≤ c0_4) (hr0_5 : Kd.C (Kd.int .i64) w A0_5 l0_5.length l0_5) (hc0_5 : l0_5.length ≤ c0_5) (hr0_7 : Kd.C k54 w A0_7 l0_7.length l0_7) (hc0_7 : l0_7.length ≤ c0_7)
    (hk : chk a0_2 l0_7 = false) :
    CallsIn Fence.wide 10 Try.prog 15 #[.agg #[.int .i64 a0_0, .int .i64 a0_1, .int .i64 a0_2, .int .i64 a0_3, .slice A0_4 l0_4.length c0_4, .slice A0_5 l0_5.length c0_5, .string a0_6, .slice A0_7 l0_7.length c0_7], .int .i64 a1] w fun e w' => e = .returned (.tuple #[.int .i64 0, .int .i64 1]) ∧ Below w.heap.size w w' := by
  have hro : Fence.wide.round = none := rfl
  have hch : ∀ W, Below w.heap.size w W → Calls Try.prog 12 #[.agg #[.int .i64 a0_0, .int .i64 a0_1, .int .i64 a0_2, .int .i64 a0_3, .slice A0_4 l0_4.length c0_4, .slice A0_5 l0_5.length c0_5, .string a0_6, .slice A0_7 l0_7.length c0_7]] W fun e w' => e = .returned (.int .i64 1) ∧ Below W.heap.size W w' := fun W hb => by
    have he := check_eq (l0_7.length + 3) a0_0 a0_1 a0_2 a0_3 l0_4 l0_5 a0_6 l0_7 (Nat.le_refl _)
    rw [hk] at he
    exact raftlog_Check.calls _ _ _ _ _ _ _ _ _ _ _ _ _ _ _ 1 W (Kd.C_below hr0_4 hb) hc0_4 (Kd.C_below hr0_5 hb) hc0_5 (Kd.C_below hr0_7 hb) hc0_7 he
  have HCH := Lib.hid hch
  clear hch hk
  refine callsIn_of_wp_marks Try.func15 rfl trivial ?_ hro
  simp only [Try.ntmps15, List.size_toArray, List.length_cons, List.length_nil, Nat.reduceAdd, Nat.reduceSub, Array.replicate_succ, Array.replicate_zero, List.push_toArray, List.append_toArray, List.nil_append, List.cons_append]
  gi_wp2_with fail
  obtain ⟨z3, b3, q0, qi, q1, q2⟩ := alloc4 w (.cells #[.int .i64 a0_0, .int .i64 a0_1, .int .i64 a0_2, .int .i64 a0_3, .slice A0_4 l0_4.length c0_4, .slice A0_5 l0_5.length c0_5, .string a0_6, .slice A0_7 l0_7.length c0_7] 30) (.cells #[.int .i64 a1] 3) (.cells #[.int .i64 0] 3) (.cells #[.int .i64 0] 34)
  refine ⟨trivial, (callsIn_wide.2 (HCH.out _ b3)).mono ?_⟩
  rintro e w1 ⟨rfl, hb1⟩
  rw [z3] at hb1
  have e0 := (hb1.block _ (by omega)).trans q0
  have ei := (hb1.block _ (by omega)).trans qi
  have e1 := (hb1.block _ (by omega)).trans q1
  have e2 := (hb1.block _ (by omega)).trans q2
  have b1 := b3.trans (hb1.mono (by omega))
  have z1 : w.heap.size + 4 ≤ w1.heap.size := by have := hb1.size; omega
  clear hb1 q0 qi q1 q2 z3 b3
  have c1 : w1.cell? ⟨w.heap.size + 1 + 1, 0, none⟩ = some (.int .i64 0) := by simp [World.cell?, e1]
  have c2 : w1.cell? ⟨w.heap.size + 1 + 1 + 1, 0, none⟩ = some (.int .i64 0) := by simp [World.cell?, e2]
  have f1 : w1.frozen? ⟨w.heap.size + 1 + 1, 0, none⟩ = false := by simp [World.frozen?, e1]
  have f2 : w1.frozen? ⟨w.heap.size + 1 + 1 + 1, 0, none⟩ = false := by simp [World.frozen?, e2]
  clear e0 ei e1 e2
  gi_wp2
  refine ⟨.tuple #[.int .i64 0, .int .i64 1], ?_, rfl, (b1.setCell (p := ⟨w.heap.size + 1 + 1, 0, none⟩) (by simp; omega) _).setCell (p := ⟨w.heap.size + 1 + 1 + 1, 0, none⟩) (by simp; omega) _⟩
  simp [results, Try.f15, go_sem, c1, c2]

set_option maxRecDepth 100000 in
set_option maxHeartbeats 4000000 in
theorem raftlog_Term.good (a0_0 a0_1 a0_2 a0_3 : Int) (A0_4 : Option Addr) (c0_4 : Nat) (l0_4 : List Int) (A0_5 : Option Addr) (c0_5 : Nat) (l0_5 : List Int) (a0_6 : ByteArray) (A0_7 : Option Addr) (c0_7 : Nat) (l0_7 : List S54) (a1 : Int) (w : World) (hr0_4 : Kd.C (Kd.int .i64) w A0_4 l0_4.length l0_4) (hc0_4 : l0_4.length ≤ c0_4) (hr0_5 : Kd.C (Kd.int .i64) w A0_5 l0_5.length l0_5) (hc0_5 : l0_5.length ≤ c0_5) (hr0_7 : Kd.C k54 w A0_7 l0_7.length l0_7) (hc0_7 : l0_7.length ≤ c0_7)
    (hk : chk a0_2 l0_7 = true) :
    CallsIn Fence.wide 10 Try.prog 15 #[.agg #[.int .i64 a0_0, .int .i64 a0_1, .int .i64 a0_2, .int .i64 a0_3, .slice A0_4 l0_4.length c0_4, .slice A0_5 l0_5.length c0_5, .string a0_6, .slice A0_7 l0_7.length c0_7], .int .i64 a1] w fun e w' => e = .returned (.tuple #[.int .i64 (termR a0_2 a0_3 l0_7 a1).1, .int .i64 (termR a0_2 a0_3 l0_7 a1).2]) ∧ Below w.heap.size w w' := by
  have hm : l0_7.length ≤ 9223372036854775807 := hr0_7.2.1
  have hro : Fence.wide.round = none := rfl
  have hch : ∀ W, Below w.heap.size w W → Calls Try.prog 12 #[.agg #[.int .i64 a0_0, .int .i64 a0_1, .int .i64 a0_2, .int .i64 a0_3, .slice A0_4 l0_4.length c0_4, .slice A0_5 l0_5.length c0_5, .string a0_6, .slice A0_7 l0_7.length c0_7]] W fun e w' => e = .returned (.int .i64 0) ∧ Below W.heap.size W w' := fun W hb => by
    have he := check_eq (l0_7.length + 3) a0_0 a0_1 a0_2 a0_3 l0_4 l0_5 a0_6 l0_7 (Nat.le_refl _)
    rw [hk] at he
    exact raftlog_Check.calls _ _ _ _ _ _ _ _ _ _ _ _ _ _ _ 0 W (Kd.C_below hr0_4 hb) hc0_4 (Kd.C_below hr0_5 hb) hc0_5 (Kd.C_below hr0_7 hb) hc0_7 he
  have HCH := Lib.hid hch
  obtain ⟨cs, hcs, hix⟩ := log_cells hr0_7
  have HCS := Lib.hid hcs
  have HIX := Lib.hid hix
  clear hch hk hcs hix
  refine callsIn_of_wp_marks Try.func15 rfl trivial ?_ hro
  simp only [Try.ntmps15, List.size_toArray, List.length_cons, List.length_nil, Nat.reduceAdd, Nat.reduceSub, Array.replicate_succ, Array.replicate_zero, List.push_toArray, List.append_toArray, List.nil_append, List.cons_append]
  gi_wp2_with fail
  obtain ⟨z3, b3, q0, qi, q1, q2⟩ := alloc4 w (.cells #[.int .i64 a0_0, .int .i64 a0_1, .int .i64 a0_2, .int .i64 a0_3, .slice A0_4 l0_4.length c0_4, .slice A0_5 l0_5.length c0_5, .string a0_6, .slice A0_7 l0_7.length c0_7] 30) (.cells #[.int .i64 a1] 3) (.cells #[.int .i64 0] 3) (.cells #[.int .i64 0] 34)
  refine ⟨trivial, (callsIn_wide.2 (HCH.out _ b3)).mono ?_⟩
  rintro e w1 ⟨rfl, hb1⟩
  rw [z3] at hb1
  have e0 := (hb1.block _ (by omega)).trans q0
  have ei := (hb1.block _ (by omega)).trans qi
  have e1 := (hb1.block _ (by omega)).trans q1
  have e2 := (hb1.block _ (by omega)).trans q2
  have b1 := b3.trans (hb1.mono (by omega))
  have z1 : w.heap.size + 4 ≤ w1.heap.size := by have := hb1.size; omega
  clear hb1 q0 qi q1 q2 z3 b3
  have k0 : w1.cell? ⟨w.heap.size, 0, none⟩ = some (.int .i64 a0_0) := by simp [World.cell?, e0]
  have k1 : w1.cell? ⟨w.heap.size, 1, none⟩ = some (.int .i64 a0_1) := by simp [World.cell?, e0]
  have k2 : w1.cell? ⟨w.heap.size, 2, none⟩ = some (.int .i64 a0_2) := by simp [World.cell?, e0]
  have k3 : w1.cell? ⟨w.heap.size, 3, none⟩ = some (.int .i64 a0_3) := by simp [World.cell?, e0]
  have k4 : w1.cell? ⟨w.heap.size, 4, none⟩ = some (.slice A0_4 l0_4.length c0_4) := by simp [World.cell?, e0]
  have k5 : w1.cell? ⟨w.heap.size, 5, none⟩ = some (.slice A0_5 l0_5.length c0_5) := by simp [World.cell?, e0]
  have k6 : w1.cell? ⟨w.heap.size, 6, none⟩ = some (.string a0_6) := by simp [World.cell?, e0]
  have k7 : w1.cell? ⟨w.heap.size, 7, none⟩ = some (.slice A0_7 l0_7.length c0_7) := by simp [World.cell?, e0]
  gi_wp2_with fail
  refine ⟨trivial, (backw_makes _ _ trivial hro _ _).mono ?_⟩
  rintro e w' ⟨rfl, rfl⟩
  gi_wp2_with fail
  obtain ⟨W2, hW2⟩ : ∃ W2, w1.alloc (.cells #[.int .i64 a0_0, .int .i64 a0_1, .int .i64 a0_2, .int .i64 a0_3, .slice A0_4 l0_4.length c0_4, .slice A0_5 l0_5.length c0_5, .string a0_6, .slice A0_7 l0_7.length c0_7] 30) = W2 := ⟨_, rfl⟩
  have hz2 : W2.heap.size = w1.heap.size + 1 := by rw [← hW2]; simp
  have hb2 : Below w1.heap.size w1 W2 := by rw [← hW2]; exact (Below.refl _ _).alloc (Nat.le_refl _) _
  have hk2 : W2.heap[w1.heap.size]? = some (.cells #[.int .i64 a0_0, .int .i64 a0_1, .int .i64 a0_2, .int .i64 a0_3, .slice A0_4 l0_4.length c0_4, .slice A0_5 l0_5.length c0_5, .string a0_6, .slice A0_7 l0_7.length c0_7] 30) := by
    rw [← hW2]; exact World.alloc_heap_new w1 _
  have di := (hb2.block _ (by omega)).trans ei
  have d1 := (hb2.block _ (by omega)).trans e1
  have d2 := (hb2.block _ (by omega)).trans e2
  have bw2 : Below w.heap.size w W2 := b1.trans (hb2.mono (by omega))
  rw [hW2]
  clear e0 ei e1 e2 k0 k1 k2 k3 k4 k5 k6 k7 hb2 hW2
  refine wpIn_range hro (by omega) (gf := 50) (lb := #[.pointer (some ⟨w1.heap.size, 0, none⟩)]) rfl trivial (enters_of Try.func50 (by kernel_rfl) rfl)
    (backw_iter Fence.wide 9 trivial trivial trivial hro rfl (by omega) w1.heap.size l0_7.length c0_7 A0_7 (fun k => k < w.heap.size ∨ k = w1.heap.size) cs (fun j => (l0_7.getD j z54).f0) (fun j => (l0_7.getD j z54).f1) a0_0 a0_1 a0_2 a0_3 _ _ _ W2 (.inr rfl)
      (fun k hk => by rcases hk with hk | hk <;> omega) hm
      (fun h => by
        obtain ⟨ad, e1, e2, e3⟩ := HCS.out h
        refine ⟨ad, e1, .inl e2, fun j hj => ⟨(e3 j hj).1, fun i u hu => ?_⟩⟩
        have hc := (e3 j hj).2 i u hu
        exact (bw2.cell (World.block_lt_of_cell? w _ hc)).trans hc)
      HIX.out hk2)
    (fun k hk => by rcases hk with hk | hk <;> omega) (fun _ => rfl)
    (fun pre X => (∀ y ∈ pre, y.1 ≠ a1) ∧ X.heap[w.heap.size + 1]? = some (.cells #[.int .i64 a1] 3) ∧ X.heap[w.heap.size + 1 + 1]? = some (.cells #[.int .i64 0] 3) ∧ X.heap[w.heap.size + 1 + 1 + 1]? = some (.cells #[.int .i64 0] 34) ∧ Below w.heap.size w X)
    (fun c pre X => c = .ret ∧ ∃ p x, pre = p ++ [x] ∧ (∀ y ∈ p, y.1 ≠ a1) ∧ x.1 = a1 ∧ X.heap[w.heap.size + 1 + 1]? = some (.cells #[.int .i64 x.2] 3) ∧ X.heap[w.heap.size + 1 + 1 + 1]? = some (.cells #[.int .i64 0] 34) ∧ Below w.heap.size w X)
    (fun s X Y hs hb => ⟨hs.1, (hb.block _ (by omega)).trans hs.2.1, (hb.block _ (by omega)).trans hs.2.2.1, (hb.block _ (by omega)).trans hs.2.2.2.1, hs.2.2.2.2.trans (hb.mono (by omega))⟩)
    (fun c s X Y hs hb => by
      obtain ⟨h1, p, x, h2, h3, h4, h5, h6, h7⟩ := hs
      exact ⟨h1, p, x, h2, h3, h4, (hb.block _ (by omega)).trans h5, (hb.block _ (by omega)).trans h6, h7.trans (hb.mono (by omega))⟩)
    ⟨by simp, di, d1, d2, bw2⟩
    (fun x a' _ => a' = { tmps := #[.agg #[.int .i64 a0_0, .int .i64 a0_1, .int .i64 a0_2, .int .i64 a0_3, .slice A0_4 l0_4.length c0_4, .slice A0_5 l0_5.length c0_5, .string a0_6, .slice A0_7 l0_7.length c0_7], .int .i64 a1, .pointer (some ⟨w.heap.size, 0, none⟩), .pointer (some ⟨w.heap.size + 1, 0, none⟩), .pointer (some ⟨w.heap.size + 1 + 1, 0, none⟩), .pointer (some ⟨w.heap.size + 1 + 1 + 1, 0, none⟩), .int .i64 0, .int .i64 x.1, .int .i64 x.2, .agg #[.int .i64 a0_0, .int .i64 a0_1, .int .i64 a0_2, .int .i64 a0_3, .slice A0_4 l0_4.length c0_4, .slice A0_5 l0_5.length c0_5, .string a0_6, .slice A0_7 l0_7.length c0_7], .int .i64 0, .int .i64 0, .bool false, undef, .agg #[.int .i64 a0_0, .int .i64 a0_1, .int .i64 a0_2, .int .i64 a0_3, .slice A0_4 l0_4.length c0_4, .slice A0_5 l0_5.length c0_5, .string a0_6, .slice A0_7 l0_7.length c0_7], .func (.func 50) #[] #[.pointer (some ⟨w1.heap.size, 0, none⟩)], .int .i64 x.1, .int .i64 x.2, undef, undef, undef, undef], defers := [] })
    (fun x a' X o h => h)
    ?assign ?body ?done ?stop
  case assign =>
    rintro l2 pre x X K _ hX hi hK'
    simp only [pairOf]
    gi_wp2
    exact hK' _ _ (Mid.refl _ _ _) hi rfl
  case body =>
    rintro l2 pre x a' X _ hX ⟨hne, hi, h1, h2, hb⟩ rfl hlen
    have ci : X.cell? ⟨w.heap.size + 1, 0, none⟩ = some (.int .i64 a1) := by simp [World.cell?, hi]
    have c1 : X.cell? ⟨w.heap.size + 1 + 1, 0, none⟩ = some (.int .i64 0) := by simp [World.cell?, h1]
    have c2 : X.cell? ⟨w.heap.size + 1 + 1 + 1, 0, none⟩ = some (.int .i64 0) := by simp [World.cell?, h2]
    have f1 : X.frozen? ⟨w.heap.size + 1 + 1, 0, none⟩ = false := by simp [World.frozen?, h1]
    have f2 : X.frozen? ⟨w.heap.size + 1 + 1 + 1, 0, none⟩ = false := by simp [World.frozen?, h2]
    by_cases hx : x.1 = a1
    · have hxb : (x.1 == a1) = true := by simpa using hx
      have HX := Lib.hid hx
      clear hx
      gi_wp2
      refine ⟨((Mid.refl _ _ _).setCell (q := ⟨w.heap.size + 1 + 1, 0, none⟩) (fun h => by rcases h with h | h <;> simp at h <;> omega) (by simp; omega) _).setCell (q := ⟨w.heap.size + 1 + 1 + 1, 0, none⟩) (fun h => by rcases h with h | h <;> simp at h <;> omega) (by simp; omega) _, rfl, pre, x, rfl, hne, HX.out, ?_, ?_, ?_⟩
      · exact blk_far (blk_set h1 0 _) (by simp) _
      · exact blk_set (blk_far h2 (by simp) _) 0 _
      · exact (hb.setCell (p := ⟨w.heap.size + 1 + 1, 0, none⟩) (by simp; omega) _).setCell (p := ⟨w.heap.size + 1 + 1 + 1, 0, none⟩) (by simp; omega) _
    · have hxb : (x.1 == a1) = false := by simpa using hx
      gi_wp2
      exact ⟨Mid.refl _ _ _, fun y hy => (List.mem_append.1 hy).elim (hne y) (fun e => by simp at e; subst e; exact hx), hi, h1, h2, hb⟩
  case done =>
    rintro D xs X hD rfl ⟨hne, hi, h1, h2, hb⟩ hKD
    have hr : termR a0_2 a0_3 l0_7 a1 = (0, 150) := by
      unfold termR
      rw [← backList_eq, List.find?_eq_none.2 (fun y hy => by simpa using hne y hy)]
    have HR := Lib.hid hr
    clear hr
    have c1 : X.cell? ⟨w.heap.size + 1 + 1, 0, none⟩ = some (.int .i64 0) := by simp [World.cell?, h1]
    have c2 : X.cell? ⟨w.heap.size + 1 + 1 + 1, 0, none⟩ = some (.int .i64 0) := by simp [World.cell?, h2]
    have f1 : X.frozen? ⟨w.heap.size + 1 + 1, 0, none⟩ = false := by simp [World.frozen?, h1]
    have f2 : X.frozen? ⟨w.heap.size + 1 + 1 + 1, 0, none⟩ = false := by simp [World.frozen?, h2]
    gi_wp2
    have hKD' : ((X.setCell ⟨w.heap.size + 1 + 1, 0, none⟩ (.int .i64 0)).setCell ⟨w.heap.size + 1 + 1 + 1, 0, none⟩ (.int .i64 150)).heap[D]? = some (.deferred (some [])) := (Below.heap_setCell _ _ _ _ (by simp; omega)).trans ((Below.heap_setCell _ _ _ _ (by simp; omega)).trans hKD)
    refine ⟨by simp, .inl ⟨_, _, rfl, run_takeDeferred hKD', ?_⟩⟩
    have g1 : (((X.setCell ⟨w.heap.size + 1 + 1, 0, none⟩ (.int .i64 0)).setCell ⟨w.heap.size + 1 + 1 + 1, 0, none⟩ (.int .i64 150)).putObj D (.deferred none)).cell? ⟨w.heap.size + 1 + 1, 0, none⟩ = some (.int .i64 0) := by
      have := blk_far (blk_set h1 0 (.int .i64 0)) (p := ⟨w.heap.size + 1 + 1 + 1, 0, none⟩) (by simp) (.int .i64 150)
      simp [World.cell?, World.putObj_heap_other (r := D) (k := w.heap.size + 1 + 1) (o := .deferred none) (show w.heap.size + 1 + 1 ≠ D by omega), this]
    have g2 : (((X.setCell ⟨w.heap.size + 1 + 1, 0, none⟩ (.int .i64 0)).setCell ⟨w.heap.size + 1 + 1 + 1, 0, none⟩ (.int .i64 150)).putObj D (.deferred none)).cell? ⟨w.heap.size + 1 + 1 + 1, 0, none⟩ = some (.int .i64 150) := by
      have := blk_set (blk_far h2 (p := ⟨w.heap.size + 1 + 1, 0, none⟩) (by simp) (.int .i64 0)) 0 (.int .i64 150)
      simp [World.cell?, World.putObj_heap_other (r := D) (k := w.heap.size + 1 + 1 + 1) (o := .deferred none) (show w.heap.size + 1 + 1 + 1 ≠ D by omega), this]
    refine ⟨.tuple #[.int .i64 0, .int .i64 150], ?_, by rw [HR.out], below_putObj ((hb.setCell (p := ⟨w.heap.size + 1 + 1, 0, none⟩) (by simp; omega) _).setCell (p := ⟨w.heap.size + 1 + 1 + 1, 0, none⟩) (by simp; omega) _) (by omega) _⟩
    simp [results, Try.f15, go_sem, g1, g2]
  case stop =>
    rintro D c pre X hD hpre ⟨rfl, p, x, rfl, hne, hx, h1, h2, hb⟩ hKD
    have hr : termR a0_2 a0_3 l0_7 a1 = (x.2, 0) := by
      unfold termR
      rw [← backList_eq, find_prefix hpre hne hx]
    have HR := Lib.hid hr
    clear hr
    gi_wp2
    refine ⟨by simp, .inl ⟨_, _, rfl, run_takeDeferred hKD, ?_⟩⟩
    have g1 : (X.putObj D (.deferred none)).cell? ⟨w.heap.size + 1 + 1, 0, none⟩ = some (.int .i64 x.2) := by
      simp [World.cell?, World.putObj_heap_other (w := X) (r := D) (k := w.heap.size + 1 + 1) (o := .deferred none) (by omega), h1]
    have g2 : (X.putObj D (.deferred none)).cell? ⟨w.heap.size + 1 + 1 + 1, 0, none⟩ = some (.int .i64 0) := by
      simp [World.cell?, World.putObj_heap_other (w := X) (r := D) (k := w.heap.size + 1 + 1 + 1) (o := .deferred none) (by omega), h2]
    refine ⟨.tuple #[.int .i64 x.2, .int .i64 0], ?_, by rw [HR.out], below_putObj hb (by omega) _⟩
    simp [results, Try.f15, go_sem, g1, g2]

/-- The contract, as the printed callers ask for it. -/
theorem raftlog_Term.calls (a0_0 a0_1 a0_2 a0_3 : Int) (A0_4 : Option Addr) (c0_4 : Nat) (l0_4 : List Int) (A0_5 : Option Addr) (c0_5 : Nat) (l0_5 : List Int) (a0_6 : ByteArray) (A0_7 : Option Addr) (c0_7 : Nat) (l0_7 : List S54) (a1 : Int) (r1 r2 : Int) (w : World)
    (hr0_4 : Kd.C (Kd.int .i64) w A0_4 l0_4.length l0_4) (hc0_4 : l0_4.length ≤ c0_4) (hr0_5 : Kd.C (Kd.int .i64) w A0_5 l0_5.length l0_5) (hc0_5 : l0_5.length ≤ c0_5) (hr0_7 : Kd.C k54 w A0_7 l0_7.length l0_7) (hc0_7 : l0_7.length ≤ c0_7)
    (h : raftlog_Term.f a0_0 a0_1 a0_2 a0_3 l0_4 l0_5 a0_6 l0_7 a1 = some (r1, r2)) :
    Calls Try.prog 15 #[.agg #[.int .i64 a0_0, .int .i64 a0_1, .int .i64 a0_2, .int .i64 a0_3, .slice A0_4 l0_4.length c0_4, .slice A0_5 l0_5.length c0_5, .string a0_6, .slice A0_7 l0_7.length c0_7], .int .i64 a1] w fun e w' => e = .returned (.tuple #[.int .i64 r1, .int .i64 r2]) ∧ Below w.heap.size w w' := by
  simp only [raftlog_Term.f, Option.some.injEq] at h
  cases hk : chk a0_2 l0_7 with
  | false =>
    rw [hk] at h
    simp only [Bool.false_eq_true, if_false, Prod.mk.injEq] at h
    obtain ⟨rfl, rfl⟩ := h
    exact callsIn_wide.1 (raftlog_Term.bad a0_0 a0_1 a0_2 a0_3 A0_4 c0_4 l0_4 A0_5 c0_5 l0_5 a0_6 A0_7 c0_7 l0_7 a1 w hr0_4 hc0_4 hr0_5 hc0_5 hr0_7 hc0_7 hk)
  | true =>
    rw [hk] at h
    simp only [if_true] at h
    have g := callsIn_wide.1 (raftlog_Term.good a0_0 a0_1 a0_2 a0_3 A0_4 c0_4 l0_4 A0_5 c0_5 l0_5 a0_6 A0_7 c0_7 l0_7 a1 w hr0_4 hc0_4 hr0_5 hc0_5 hr0_7 hc0_7 hk)
    rw [h] at g
    exact g
end Go.Proofs.Ytbjhjimkljbjlaa.PA
