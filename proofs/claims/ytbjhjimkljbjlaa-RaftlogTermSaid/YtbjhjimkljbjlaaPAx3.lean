-- WRITTEN BY hookprint.py (a program of this session, over the kit's print.py): not typed by hand
import Derived.Test.YtbjhjimkljbjlaaPAx0
namespace Go.Proofs.Ytbjhjimkljbjlaa.PA
open Go.RowKit Go.Proofs.YtbjhjimkljbjlaaW.PrintWords Go.Proofs.YtbjhjimkljbjlaaW.PrintLast Go.Proofs.YtbjhjimkljbjlaaW.PrintMore
attribute [local go_sem] max2_int min2_int max_two min_two max_three min_three max_four min_four   -- for this text's walks alone
set_option linter.unusedVariables false
set_option linter.unusedSimpArgs false

/-! ### folkmootref16_On: function 14 -/
mutual
def folkmootref16_On.j0 : Nat → Bool → Int → Int → Int → Int → List Int → List Int → ByteArray → List (S54) → Option (Bool)
  | 0, _, _, _, _, _, _, _, _, _ => none
  | k + 1, x13, x110000, x110001, x110002, x110003, x110004, x110005, x110006, x110007 => if x13 = true then (some false) else (folkmootref16_On.l0 k 0 x110000 x110001 x110002 x110003 x110004 x110005 x110006 x110007)
def folkmootref16_On.l0 : Nat → Int → Int → Int → Int → Int → List Int → List Int → ByteArray → List (S54) → Option (Bool)
  | 0, _, _, _, _, _, _, _, _, _ => none
  | k + 1, x3, x110000, x110001, x110002, x110003, x110004, x110005, x110006, x110007 => if x3 < (x110007.length : Int) then (if 0 ≤ x3 then (if ((rd_T54 x110007 x3).f0) < 1 then (some false) else (if (wrap64 ((wrap64 (((rd_T54 x110007 x3).f0) - 1)) - x3)) = x110002 then (folkmootref16_On.l0 k (wrap64 (x3 + 1)) x110000 x110001 x110002 x110003 x110004 x110005 x110006 x110007) else (some false))) else (none)) else (some true)
end
def folkmootref16_On.f (k : Nat) (a0_0 : Int) (a0_1 : Int) (a0_2 : Int) (a0_3 : Int) (l0_4 : List Int) (l0_5 : List Int) (a0_6 : ByteArray) (l0_7 : List (S54)) : Option (Bool) := if a0_2 < 0 then (folkmootref16_On.j0 k true a0_0 a0_1 a0_2 a0_3 l0_4 l0_5 a0_6 l0_7) else (folkmootref16_On.j0 k (decide ((l0_7.length : Int) > 10000)) a0_0 a0_1 a0_2 a0_3 l0_4 l0_5 a0_6 l0_7)
theorem folkmootref16_On.mono_l : ∀ k, (∀ y0 y1 y2 y3 y4 y5 y6 y7 y8, LeO (folkmootref16_On.j0 k y0 y1 y2 y3 y4 y5 y6 y7 y8) (folkmootref16_On.j0 (k + 1) y0 y1 y2 y3 y4 y5 y6 y7 y8)) ∧ (∀ y0 y1 y2 y3 y4 y5 y6 y7 y8, LeO (folkmootref16_On.l0 k y0 y1 y2 y3 y4 y5 y6 y7 y8) (folkmootref16_On.l0 (k + 1) y0 y1 y2 y3 y4 y5 y6 y7 y8))
  | 0 => ⟨fun _ _ _ _ _ _ _ _ _ r h => by simp [folkmootref16_On.j0] at h, fun _ _ _ _ _ _ _ _ _ r h => by simp [folkmootref16_On.l0] at h⟩
  | k + 1 => by
    obtain ⟨ih0, ih1⟩ := folkmootref16_On.mono_l k
    refine ⟨?_, ?_⟩
    · intro y0 y1 y2 y3 y4 y5 y6 y7 y8
      unfold folkmootref16_On.j0
      repeat' first
      | (with_reducible exact ih0 _ _ _ _ _ _ _ _ _)
      | (with_reducible exact ih1 _ _ _ _ _ _ _ _ _)
      | (with_reducible exact LeO.refl _)
      | (with_reducible exact LeO.none _)
      | (with_reducible refine LeO.ite ?_ ?_)
      | (with_reducible refine LeO.bind ?_ (fun _ => ?_))
      | exact ih0 _ _ _ _ _ _ _ _ _
      | exact ih1 _ _ _ _ _ _ _ _ _
      | exact LeO.none _
      | refine LeO.ite ?_ ?_
      | refine LeO.bind ?_ (fun _ => ?_)
    · intro y0 y1 y2 y3 y4 y5 y6 y7 y8
      unfold folkmootref16_On.l0
      repeat' first
      | (with_reducible exact ih0 _ _ _ _ _ _ _ _ _)
      | (with_reducible exact ih1 _ _ _ _ _ _ _ _ _)
      | (with_reducible exact LeO.refl _)
      | (with_reducible exact LeO.none _)
      | (with_reducible refine LeO.ite ?_ ?_)
      | (with_reducible refine LeO.bind ?_ (fun _ => ?_))
      | exact ih0 _ _ _ _ _ _ _ _ _
      | exact ih1 _ _ _ _ _ _ _ _ _
      | exact LeO.none _
      | refine LeO.ite ?_ ?_
      | refine LeO.bind ?_ (fun _ => ?_)
theorem folkmootref16_On.mono : ∀ a0 a1 a2 a3 a4 a5 a6 a7 k, LeO (folkmootref16_On.f k a0 a1 a2 a3 a4 a5 a6 a7) (folkmootref16_On.f (k + 1) a0 a1 a2 a3 a4 a5 a6 a7) := by
  intro a0 a1 a2 a3 a4 a5 a6 a7 k
  obtain ⟨ih0, ih1⟩ := folkmootref16_On.mono_l k
  unfold folkmootref16_On.f
  repeat' first
      | (with_reducible exact ih0 _ _ _ _ _ _ _ _ _)
      | (with_reducible exact ih1 _ _ _ _ _ _ _ _ _)
      | (with_reducible exact LeO.refl _)
      | (with_reducible exact LeO.none _)
      | (with_reducible refine LeO.ite ?_ ?_)
      | (with_reducible refine LeO.bind ?_ (fun _ => ?_))
      | exact ih0 _ _ _ _ _ _ _ _ _
      | exact ih1 _ _ _ _ _ _ _ _ _
      | exact LeO.none _
      | refine LeO.ite ?_ ?_
      | refine LeO.bind ?_ (fun _ => ?_)
set_option maxHeartbeats 8000000 in
set_option maxRecDepth 100000 in
theorem folkmootref16_On.calls (k : Nat) (a0_0 : Int) (a0_1 : Int) (a0_2 : Int) (a0_3 : Int) (A0_4 : Option Addr) (c0_4 : Nat) (l0_4 : List Int) (A0_5 : Option Addr) (c0_5 : Nat) (l0_5 : List Int) (a0_6 : ByteArray) (A0_7 : Option Addr) (c0_7 : Nat) (l0_7 : List (S54)) (r : Bool) (w : World) (hr0_4 : Kd.C (Kd.int .i64) w A0_4 l0_4.length l0_4) (hc0_4 : l0_4.length ≤ c0_4) (hr0_5 : Kd.C (Kd.int .i64) w A0_5 l0_5.length l0_5) (hc0_5 : l0_5.length ≤ c0_5) (hr0_7 : Kd.C k54 w A0_7 l0_7.length l0_7) (hc0_7 : l0_7.length ≤ c0_7) (h : folkmootref16_On.f k a0_0 a0_1 a0_2 a0_3 l0_4 l0_5 a0_6 l0_7 = some r) :
    Calls Try.prog 14 #[.agg #[.int .i64 a0_0, .int .i64 a0_1, .int .i64 a0_2, .int .i64 a0_3, .slice A0_4 l0_4.length c0_4, .slice A0_5 l0_5.length c0_5, .string a0_6, .slice A0_7 l0_7.length c0_7]] w fun e w' => e = .returned (.bool r) ∧ Below w.heap.size w w' := by
  have hu30 := Try.underlying30
  have HR0_4 := Aside0.mk hr0_4
  have HC0_4 := Aside0.mk hc0_4
  clear hr0_4 hc0_4
  have HR0_5 := Aside0.mk hr0_5
  have HC0_5 := Aside0.mk hc0_5
  clear hr0_5 hc0_5
  have HR0_7 := Aside0.mk hr0_7
  have HC0_7 := Aside0.mk hc0_7
  clear hr0_7 hc0_7
  have HB := Aside0.mk (Below.refl w.heap.size w)
  have H : (if a0_2 < 0 then (folkmootref16_On.j0 k true a0_0 a0_1 a0_2 a0_3 l0_4 l0_5 a0_6 l0_7) else (folkmootref16_On.j0 k (decide ((l0_7.length : Int) > 10000)) a0_0 a0_1 a0_2 a0_3 l0_4 l0_5 a0_6 l0_7)) = some r := h
  clear h
  have HC2 := Aside0.mk H
  clear H
  go_enter Try.func14, Try.ntmps14
  go_upto_region 1 with (first | ((with_reducible refine gate_dst (N := 1) rfl ?_); (try (refine gate_guard (by rfl) ?_; dsimp only)); refine box_event ?hg (N := 1) ?hd (cs := #[.int .i64 a0_0, .int .i64 a0_1, .int .i64 a0_2, .int .i64 a0_3, .slice A0_4 l0_4.length c0_4, .slice A0_5 l0_5.length c0_5, .string a0_6, .slice A0_7 l0_7.length c0_7]) (t := 30) ?hr ?_; (case hd => rfl); (case hg => rfl); (case hr => first | (go_simp; done) | (go_simp; rfl)); intro gb109 hg w3 hbox hb; have n0_ := Aside0.mk (below_step (by repeat (first | (with_reducible first | exact HB.out | apply below_alloc | apply pw_below_drewN | apply below_drew1) | exact HB.out)) hb); have n1_ := Aside0.mk (hbox); have n2_ := Aside0.mk ((by rw [hg]; exact (below_size (by repeat (first | (with_reducible first | exact HB.out | apply below_alloc | apply pw_below_drewN | apply below_drew1) | exact HB.out))) : w.heap.size ≤ gb109)); have n3_ := Aside0.mk ((by rw [hg]; exact (below_size (by repeat (first | (with_reducible first | exact HB.out | apply below_alloc | apply pw_below_drewN | apply below_drew1) | exact HB.out))) : w.heap.size ≤ gb109)); clear HB; have HB := n0_; have BK109 := n1_; have GW109 := n2_; have GE109 := n3_; clear n0_ n1_ n2_ n3_; clear hb hbox hg))
  repeat (go_quiet (first | ((with_reducible refine gate_dst (N := 1) rfl ?_); (try (refine gate_guard (by rfl) ?_; dsimp only)); refine box_event ?hg (N := 1) ?hd (cs := #[.int .i64 a0_0, .int .i64 a0_1, .int .i64 a0_2, .int .i64 a0_3, .slice A0_4 l0_4.length c0_4, .slice A0_5 l0_5.length c0_5, .string a0_6, .slice A0_7 l0_7.length c0_7]) (t := 30) ?hr ?_; (case hd => rfl); (case hg => rfl); (case hr => first | (go_simp; done) | (go_simp; rfl)); intro gb109 hg w3 hbox hb; have n0_ := Aside0.mk (below_step (by repeat (first | (with_reducible first | exact HB.out | apply below_alloc | apply pw_below_drewN | apply below_drew1) | exact HB.out)) hb); have n1_ := Aside0.mk (hbox); have n2_ := Aside0.mk ((by rw [hg]; exact (below_size (by repeat (first | (with_reducible first | exact HB.out | apply below_alloc | apply pw_below_drewN | apply below_drew1) | exact HB.out))) : w.heap.size ≤ gb109)); have n3_ := Aside0.mk ((by rw [hg]; exact (below_size (by repeat (first | (with_reducible first | exact HB.out | apply below_alloc | apply pw_below_drewN | apply below_drew1) | exact HB.out))) : w.heap.size ≤ gb109)); clear HB; have HB := n0_; have BK109 := n1_; have GW109 := n2_; have GE109 := n3_; clear n0_ n1_ n2_ n3_; clear hb hbox hg)); go_upto_region 1 with (first | ((with_reducible refine gate_dst (N := 1) rfl ?_); (try (refine gate_guard (by rfl) ?_; dsimp only)); refine box_event ?hg (N := 1) ?hd (cs := #[.int .i64 a0_0, .int .i64 a0_1, .int .i64 a0_2, .int .i64 a0_3, .slice A0_4 l0_4.length c0_4, .slice A0_5 l0_5.length c0_5, .string a0_6, .slice A0_7 l0_7.length c0_7]) (t := 30) ?hr ?_; (case hd => rfl); (case hg => rfl); (case hr => first | (go_simp; done) | (go_simp; rfl)); intro gb109 hg w3 hbox hb; have n0_ := Aside0.mk (below_step (by repeat (first | (with_reducible first | exact HB.out | apply below_alloc | apply pw_below_drewN | apply below_drew1) | exact HB.out)) hb); have n1_ := Aside0.mk (hbox); have n2_ := Aside0.mk ((by rw [hg]; exact (below_size (by repeat (first | (with_reducible first | exact HB.out | apply below_alloc | apply pw_below_drewN | apply below_drew1) | exact HB.out))) : w.heap.size ≤ gb109)); have n3_ := Aside0.mk ((by rw [hg]; exact (below_size (by repeat (first | (with_reducible first | exact HB.out | apply below_alloc | apply pw_below_drewN | apply below_drew1) | exact HB.out))) : w.heap.size ≤ gb109)); clear HB; have HB := n0_; have BK109 := n1_; have GW109 := n2_; have GE109 := n3_; clear n0_ n1_ n2_ n3_; clear hb hbox hg)))
  (try simp only [Act.put, List.setIfInBounds_toArray, List.set_cons_zero, List.set_cons_succ])
  go_cut [13] (fun v13 wc => ∃ (kq : Nat) (x13_1 : Bool), v13 = .bool x13_1 ∧ Aside0 (folkmootref16_On.j0 kq x13_1 a0_0 a0_1 a0_2 a0_3 l0_4 l0_5 a0_6 l0_7 = some r) ∧ Aside0 (kq ≤ k) ∧ Aside0 (wc.heap[gb109]? = some (.cells #[.int .i64 a0_0, .int .i64 a0_1, .int .i64 a0_2, .int .i64 a0_3, (.slice A0_4 l0_4.length c0_4), (.slice A0_5 l0_5.length c0_5), .string a0_6, (.slice A0_7 l0_7.length c0_7)] 30 (0, 0))) ∧ Aside0 (Below w.heap.size w wc))
  case first =>
    have H := HC2.out
    clear HC2
    by_cases c4 : a0_2 < 0
    · rw [if_pos c4] at H
      have c4b0 : decide (a0_2 < 0) = true := decide_eq_true c4
      clear c4
      (first | rw [c4b0] | (simp only [i64_w, i32_w]; rw [c4b0]) | skip)
      have H' := Aside0.mk H
      clear H
      have hcz5_0 : w3.cell? ⟨gb109, 0, none⟩ = some (.int .i64 a0_0) := (blk_cell BK109.out 0).trans rfl
      have hcz5_1 : w3.cell? ⟨gb109, 1, none⟩ = some (.int .i64 a0_1) := (blk_cell BK109.out 1).trans rfl
      have hcz5_2 : w3.cell? ⟨gb109, 2, none⟩ = some (.int .i64 a0_2) := (blk_cell BK109.out 2).trans rfl
      have hcz5_3 : w3.cell? ⟨gb109, 3, none⟩ = some (.int .i64 a0_3) := (blk_cell BK109.out 3).trans rfl
      have hcz5_4 : w3.cell? ⟨gb109, 4, none⟩ = some (.slice A0_4 l0_4.length c0_4) := (blk_cell BK109.out 4).trans rfl
      have hcz5_5 : w3.cell? ⟨gb109, 5, none⟩ = some (.slice A0_5 l0_5.length c0_5) := (blk_cell BK109.out 5).trans rfl
      have hcz5_6 : w3.cell? ⟨gb109, 6, none⟩ = some (.string a0_6) := (blk_cell BK109.out 6).trans rfl
      have hcz5_7 : w3.cell? ⟨gb109, 7, none⟩ = some (.slice A0_7 l0_7.length c0_7) := (blk_cell BK109.out 7).trans rfl
      have hfz5_0 := blk_frozen BK109.out 0
      have hfz5_1 := blk_frozen BK109.out 1
      have hfz5_2 := blk_frozen BK109.out 2
      have hfz5_3 := blk_frozen BK109.out 3
      have hfz5_4 := blk_frozen BK109.out 4
      have hfz5_5 := blk_frozen BK109.out 5
      have hfz5_6 := blk_frozen BK109.out 6
      have hfz5_7 := blk_frozen BK109.out 7
      go_wp2
      repeat (go_quiet (fail); try go_wp2)
      go_meet
      case rel => exact ⟨_, (true), (by first | rfl | (simp; done) | (simp [*]; done)), H', ⟨by first | omega | exact Nat.le_refl _⟩, ⟨by (with_reducible repeat (first | refine blk_drewN ?_ _ | refine blk_drew ?_ | refine blk_alloc ?_ _)); exact BK109.out⟩, ⟨by repeat (first | (with_reducible first | exact HB.out | apply below_alloc | apply pw_below_drewN | apply below_drew1 | refine below_set ?_ GE109.out) | exact HB.out)⟩⟩
    · rw [if_neg c4] at H
      have c4b0 : decide (a0_2 < 0) = false := decide_eq_false c4
      clear c4
      (first | rw [c4b0] | (simp only [i64_w, i32_w]; rw [c4b0]) | skip)
      have H' := Aside0.mk H
      clear H
      have hcz6_0 : w3.cell? ⟨gb109, 0, none⟩ = some (.int .i64 a0_0) := (blk_cell BK109.out 0).trans rfl
      have hcz6_1 : w3.cell? ⟨gb109, 1, none⟩ = some (.int .i64 a0_1) := (blk_cell BK109.out 1).trans rfl
      have hcz6_2 : w3.cell? ⟨gb109, 2, none⟩ = some (.int .i64 a0_2) := (blk_cell BK109.out 2).trans rfl
      have hcz6_3 : w3.cell? ⟨gb109, 3, none⟩ = some (.int .i64 a0_3) := (blk_cell BK109.out 3).trans rfl
      have hcz6_4 : w3.cell? ⟨gb109, 4, none⟩ = some (.slice A0_4 l0_4.length c0_4) := (blk_cell BK109.out 4).trans rfl
      have hcz6_5 : w3.cell? ⟨gb109, 5, none⟩ = some (.slice A0_5 l0_5.length c0_5) := (blk_cell BK109.out 5).trans rfl
      have hcz6_6 : w3.cell? ⟨gb109, 6, none⟩ = some (.string a0_6) := (blk_cell BK109.out 6).trans rfl
      have hcz6_7 : w3.cell? ⟨gb109, 7, none⟩ = some (.slice A0_7 l0_7.length c0_7) := (blk_cell BK109.out 7).trans rfl
      have hfz6_0 := blk_frozen BK109.out 0
      have hfz6_1 := blk_frozen BK109.out 1
      have hfz6_2 := blk_frozen BK109.out 2
      have hfz6_3 := blk_frozen BK109.out 3
      have hfz6_4 := blk_frozen BK109.out 4
      have hfz6_5 := blk_frozen BK109.out 5
      have hfz6_6 := blk_frozen BK109.out 6
      have hfz6_7 := blk_frozen BK109.out 7
      go_wp2
      repeat (go_quiet (fail); try go_wp2)
      go_meet
      case rel => exact ⟨_, (decide ((l0_7.length : Int) > 10000)), (by first | rfl | (simp; done) | (simp [*]; done)), H', ⟨by first | omega | exact Nat.le_refl _⟩, ⟨by (with_reducible repeat (first | refine blk_drewN ?_ _ | refine blk_drew ?_ | refine blk_alloc ?_ _)); exact BK109.out⟩, ⟨by repeat (first | (with_reducible first | exact HB.out | apply below_alloc | apply pw_below_drewN | apply below_drew1 | refine below_set ?_ GE109.out) | exact HB.out)⟩⟩
  case rest =>
    clear HC2
    try clear c1
    try clear p2
    try clear c4
    try clear c4b0
    try clear hcz5_0
    try clear hcz5_1
    try clear hcz5_2
    try clear hcz5_3
    try clear hcz5_4
    try clear hcz5_5
    try clear hcz5_6
    try clear hcz5_7
    try clear hcz6_0
    try clear hcz6_1
    try clear hcz6_2
    try clear hcz6_3
    try clear hcz6_4
    try clear hcz6_5
    try clear hcz6_6
    try clear hcz6_7
    try clear hfz5_0
    try clear hfz5_1
    try clear hfz5_2
    try clear hfz5_3
    try clear hfz5_4
    try clear hfz5_5
    try clear hfz5_6
    try clear hfz5_7
    try clear hfz6_0
    try clear hfz6_1
    try clear hfz6_2
    try clear hfz6_3
    try clear hfz6_4
    try clear hfz6_5
    try clear hfz6_6
    try clear hfz6_7
    obtain ⟨kq, x13_1, rfl, HA, HJ1, BK109, HB⟩ := hcut
    cases kq with
    | zero => exact absurd HA.out (by simp [folkmootref16_On.j0])
    | succ kj1 =>
      have H := HA.out
      clear HA
      simp only [folkmootref16_On.j0] at H
      by_cases c7 : x13_1 = true
      · subst c7
        have H1 : (some false) = some r := by rw [if_pos rfl] at H; exact H
        clear H
        have H := H1
        clear H1
        obtain rfl := Option.some.inj H
        go_wp2
        repeat (go_quiet (fail); try go_wp2)
        go_ret
        exact ⟨by first | rfl | (simp [errW_none, errW_some] <;> rfl) | (simp [*, errW_none, errW_some] <;> rfl), by repeat (first | (with_reducible first | exact HB.out | apply below_alloc | apply pw_below_drewN | apply below_drew1 | refine below_set ?_ GE109.out) | exact HB.out)⟩
      · replace c7 := Bool.eq_false_iff.mpr c7
        subst c7
        have H1 : (folkmootref16_On.l0 kj1 0 a0_0 a0_1 a0_2 a0_3 l0_4 l0_5 a0_6 l0_7) = some r := by rw [if_neg (show ¬ (false = true) by decide)] at H; exact H
        clear H
        have H := H1
        clear H1
        have H' := Aside0.mk H
        clear H
        go_wp2
        repeat (go_quiet (fail); try go_wp2)
        go_loopg [3] kj1 (fun kq v3 w' => ∃ (x3_2 : Int), v3 = .int .i64 x3_2 ∧ Aside0 (folkmootref16_On.l0 kq x3_2 a0_0 a0_1 a0_2 a0_3 l0_4 l0_5 a0_6 l0_7 = some r) ∧ Aside0 (kq ≤ kj1) ∧ Aside0 (w'.heap[gb109]? = some (.cells #[.int .i64 a0_0, .int .i64 a0_1, .int .i64 a0_2, .int .i64 a0_3, (.slice A0_4 l0_4.length c0_4), (.slice A0_5 l0_5.length c0_5), .string a0_6, (.slice A0_7 l0_7.length c0_7)] 30 (0, 0))) ∧ Aside0 (Below w.heap.size w w'))
        case atStart => exact ⟨(0), (by first | rfl | (simp; done) | (simp [*]; done)), H', ⟨Nat.le_refl _⟩, ⟨by (with_reducible repeat (first | refine blk_drewN ?_ _ | refine blk_drew ?_ | refine blk_alloc ?_ _)); exact BK109.out⟩, ⟨by repeat (first | (with_reducible first | exact HB.out | apply below_alloc | apply pw_below_drewN | apply below_drew1 | refine below_set ?_ GE109.out) | exact HB.out)⟩⟩
        case round =>
          clear H'
          try clear c1
          try clear p2
          try clear c4
          try clear c4b0
          try clear c7
          try clear hcz5_0
          try clear hcz5_1
          try clear hcz5_2
          try clear hcz5_3
          try clear hcz5_4
          try clear hcz5_5
          try clear hcz5_6
          try clear hcz5_7
          try clear hcz6_0
          try clear hcz6_1
          try clear hcz6_2
          try clear hcz6_3
          try clear hcz6_4
          try clear hcz6_5
          try clear hcz6_6
          try clear hcz6_7
          try clear hfz5_0
          try clear hfz5_1
          try clear hfz5_2
          try clear hfz5_3
          try clear hfz5_4
          try clear hfz5_5
          try clear hfz5_6
          try clear hfz5_7
          try clear hfz6_0
          try clear hfz6_1
          try clear hfz6_2
          try clear hfz6_3
          try clear hfz6_4
          try clear hfz6_5
          try clear hfz6_6
          try clear hfz6_7
          try clear p2
          obtain ⟨x3_2, rfl, HA, HK2, BK109, HB⟩ := hrel
          cases gk with
          | zero => exact absurd HA.out (by simp [folkmootref16_On.l0])
          | succ k2 =>
            have H := HA.out
            clear HA
            simp only [folkmootref16_On.l0] at H
            by_cases c8 : x3_2 < (l0_7.length : Int)
            · rw [if_pos c8] at H
              have c8b0 : decide (x3_2 < (l0_7.length : Int)) = true := decide_eq_true c8
              clear c8
              by_cases c9 : 0 ≤ x3_2
              · rw [if_pos c9] at H
                have c9b0 : decide (0 ≤ x3_2) = true := decide_eq_true c9
                clear c9
                by_cases c10 : ((rd_T54 l0_7 x3_2).f0) < 1
                · rw [if_pos c10] at H
                  have c10b0 : decide (((rd_T54 l0_7 x3_2).f0) < 1) = true := decide_eq_true c10
                  clear c10
                  obtain rfl := Option.some.inj H
                  have hcz11_0 : wr.cell? ⟨gb109, 0, none⟩ = some (.int .i64 a0_0) := (blk_cell BK109.out 0).trans rfl
                  have hcz11_1 : wr.cell? ⟨gb109, 1, none⟩ = some (.int .i64 a0_1) := (blk_cell BK109.out 1).trans rfl
                  have hcz11_2 : wr.cell? ⟨gb109, 2, none⟩ = some (.int .i64 a0_2) := (blk_cell BK109.out 2).trans rfl
                  have hcz11_3 : wr.cell? ⟨gb109, 3, none⟩ = some (.int .i64 a0_3) := (blk_cell BK109.out 3).trans rfl
                  have hcz11_4 : wr.cell? ⟨gb109, 4, none⟩ = some (.slice A0_4 l0_4.length c0_4) := (blk_cell BK109.out 4).trans rfl
                  have hcz11_5 : wr.cell? ⟨gb109, 5, none⟩ = some (.slice A0_5 l0_5.length c0_5) := (blk_cell BK109.out 5).trans rfl
                  have hcz11_6 : wr.cell? ⟨gb109, 6, none⟩ = some (.string a0_6) := (blk_cell BK109.out 6).trans rfl
                  have hcz11_7 : wr.cell? ⟨gb109, 7, none⟩ = some (.slice A0_7 l0_7.length c0_7) := (blk_cell BK109.out 7).trans rfl
                  have hfz11_0 := blk_frozen BK109.out 0
                  have hfz11_1 := blk_frozen BK109.out 1
                  have hfz11_2 := blk_frozen BK109.out 2
                  have hfz11_3 := blk_frozen BK109.out 3
                  have hfz11_4 := blk_frozen BK109.out 4
                  have hfz11_5 := blk_frozen BK109.out 5
                  have hfz11_6 := blk_frozen BK109.out 6
                  have hfz11_7 := blk_frozen BK109.out 7
                  have p110 : 0 ≤ (x3_2 : Int) := of_decide_eq_true (by first | (with_reducible assumption) | assumption)
                  have q110 : x3_2 < (l0_7.length : Int) := of_decide_eq_true (by first | (with_reducible assumption) | assumption)
                  obtain ⟨ad110, A110_3, c110_3, A110_4, c110_4, e110, hx110_0, hx110_1, hx110_2, hx110_3, hx110_4, hx110_5, hl110_3, hi110_3, hl110_4, hi110_4⟩ := at_T54 HR0_7.out x3_2 p110 q110
                  cases e110
                  replace hx110_0 := (HB.out.cell (World.block_lt_of_cell? w _ hx110_0)).trans hx110_0
                  replace hx110_1 := (HB.out.cell (World.block_lt_of_cell? w _ hx110_1)).trans hx110_1
                  replace hx110_2 := (HB.out.cell (World.block_lt_of_cell? w _ hx110_2)).trans hx110_2
                  replace hx110_3 := (HB.out.cell (World.block_lt_of_cell? w _ hx110_3)).trans hx110_3
                  replace hx110_4 := (HB.out.cell (World.block_lt_of_cell? w _ hx110_4)).trans hx110_4
                  replace hx110_5 := (HB.out.cell (World.block_lt_of_cell? w _ hx110_5)).trans hx110_5
                  have HR110_3 := Aside0.mk hi110_3
                  have HC110_3 := Aside0.mk hl110_3
                  clear hi110_3 hl110_3
                  have HR110_4 := Aside0.mk hi110_4
                  have HC110_4 := Aside0.mk hl110_4
                  clear hi110_4 hl110_4
                  replace p110 := eq_true p110
                  replace q110 := eq_true q110
                  go_wp2
                  repeat (go_quiet (fail); try go_wp2)
                  go_ret
                  exact ⟨by first | rfl | (simp [errW_none, errW_some] <;> rfl) | (simp [*, errW_none, errW_some] <;> rfl), by repeat (first | (with_reducible first | exact HB.out | apply below_alloc | apply pw_below_drewN | apply below_drew1 | refine below_set ?_ GE109.out) | exact HB.out)⟩
                · rw [if_neg c10] at H
                  have c10b0 : decide (((rd_T54 l0_7 x3_2).f0) < 1) = false := decide_eq_false c10
                  clear c10
                  by_cases c12 : (wrap64 ((wrap64 (((rd_T54 l0_7 x3_2).f0) - 1)) - x3_2)) = a0_2
                  · rw [if_pos c12] at H
                    have c12b0 : ((wrap64 ((wrap64 (((rd_T54 l0_7 x3_2).f0) - 1)) - x3_2)) == a0_2) = true := beq_iff_eq.mpr c12
                    have c12b1 : ((wrap64 ((wrap64 (((rd_T54 l0_7 x3_2).f0) - 1)) - x3_2)) != a0_2) = false := bne_eq_false_iff_eq.mpr c12
                    clear c12
                    have H' := Aside0.mk H
                    clear H
                    have hcz13_0 : wr.cell? ⟨gb109, 0, none⟩ = some (.int .i64 a0_0) := (blk_cell BK109.out 0).trans rfl
                    have hcz13_1 : wr.cell? ⟨gb109, 1, none⟩ = some (.int .i64 a0_1) := (blk_cell BK109.out 1).trans rfl
                    have hcz13_2 : wr.cell? ⟨gb109, 2, none⟩ = some (.int .i64 a0_2) := (blk_cell BK109.out 2).trans rfl
                    have hcz13_3 : wr.cell? ⟨gb109, 3, none⟩ = some (.int .i64 a0_3) := (blk_cell BK109.out 3).trans rfl
                    have hcz13_4 : wr.cell? ⟨gb109, 4, none⟩ = some (.slice A0_4 l0_4.length c0_4) := (blk_cell BK109.out 4).trans rfl
                    have hcz13_5 : wr.cell? ⟨gb109, 5, none⟩ = some (.slice A0_5 l0_5.length c0_5) := (blk_cell BK109.out 5).trans rfl
                    have hcz13_6 : wr.cell? ⟨gb109, 6, none⟩ = some (.string a0_6) := (blk_cell BK109.out 6).trans rfl
                    have hcz13_7 : wr.cell? ⟨gb109, 7, none⟩ = some (.slice A0_7 l0_7.length c0_7) := (blk_cell BK109.out 7).trans rfl
                    have hfz13_0 := blk_frozen BK109.out 0
                    have hfz13_1 := blk_frozen BK109.out 1
                    have hfz13_2 := blk_frozen BK109.out 2
                    have hfz13_3 := blk_frozen BK109.out 3
                    have hfz13_4 := blk_frozen BK109.out 4
                    have hfz13_5 := blk_frozen BK109.out 5
                    have hfz13_6 := blk_frozen BK109.out 6
                    have hfz13_7 := blk_frozen BK109.out 7
                    have p110 : 0 ≤ (x3_2 : Int) := of_decide_eq_true (by first | (with_reducible assumption) | assumption)
                    have q110 : x3_2 < (l0_7.length : Int) := of_decide_eq_true (by first | (with_reducible assumption) | assumption)
                    obtain ⟨ad110, A110_3, c110_3, A110_4, c110_4, e110, hx110_0, hx110_1, hx110_2, hx110_3, hx110_4, hx110_5, hl110_3, hi110_3, hl110_4, hi110_4⟩ := at_T54 HR0_7.out x3_2 p110 q110
                    cases e110
                    replace hx110_0 := (HB.out.cell (World.block_lt_of_cell? w _ hx110_0)).trans hx110_0
                    replace hx110_1 := (HB.out.cell (World.block_lt_of_cell? w _ hx110_1)).trans hx110_1
                    replace hx110_2 := (HB.out.cell (World.block_lt_of_cell? w _ hx110_2)).trans hx110_2
                    replace hx110_3 := (HB.out.cell (World.block_lt_of_cell? w _ hx110_3)).trans hx110_3
                    replace hx110_4 := (HB.out.cell (World.block_lt_of_cell? w _ hx110_4)).trans hx110_4
                    replace hx110_5 := (HB.out.cell (World.block_lt_of_cell? w _ hx110_5)).trans hx110_5
                    have HR110_3 := Aside0.mk hi110_3
                    have HC110_3 := Aside0.mk hl110_3
                    clear hi110_3 hl110_3
                    have HR110_4 := Aside0.mk hi110_4
                    have HC110_4 := Aside0.mk hl110_4
                    clear hi110_4 hl110_4
                    replace p110 := eq_true p110
                    replace q110 := eq_true q110
                    have p111 : 0 ≤ (x3_2 : Int) := of_decide_eq_true (by first | (with_reducible assumption) | assumption)
                    have q111 : x3_2 < (l0_7.length : Int) := of_decide_eq_true (by first | (with_reducible assumption) | assumption)
                    obtain ⟨ad111, A111_3, c111_3, A111_4, c111_4, e111, hx111_0, hx111_1, hx111_2, hx111_3, hx111_4, hx111_5, hl111_3, hi111_3, hl111_4, hi111_4⟩ := at_T54 HR0_7.out x3_2 p111 q111
                    obtain rfl : ad110 = ad111 := (by injection e111)
                    replace hx111_0 := (HB.out.cell (World.block_lt_of_cell? w _ hx111_0)).trans hx111_0
                    replace hx111_1 := (HB.out.cell (World.block_lt_of_cell? w _ hx111_1)).trans hx111_1
                    replace hx111_2 := (HB.out.cell (World.block_lt_of_cell? w _ hx111_2)).trans hx111_2
                    replace hx111_3 := (HB.out.cell (World.block_lt_of_cell? w _ hx111_3)).trans hx111_3
                    replace hx111_4 := (HB.out.cell (World.block_lt_of_cell? w _ hx111_4)).trans hx111_4
                    replace hx111_5 := (HB.out.cell (World.block_lt_of_cell? w _ hx111_5)).trans hx111_5
                    have HR111_3 := Aside0.mk hi111_3
                    have HC111_3 := Aside0.mk hl111_3
                    clear hi111_3 hl111_3
                    have HR111_4 := Aside0.mk hi111_4
                    have HC111_4 := Aside0.mk hl111_4
                    clear hi111_4 hl111_4
                    replace p111 := eq_true p111
                    replace q111 := eq_true q111
                    have ea_ := Option.some.inj (hx110_3.symm.trans hx111_3)
                    injection ea_ with ea_ en_ ec_
                    subst ea_
                    subst ec_
                    clear en_
                    have ea_ := Option.some.inj (hx110_4.symm.trans hx111_4)
                    injection ea_ with ea_ en_ ec_
                    subst ea_
                    subst ec_
                    clear en_
                    go_wp2
                    repeat (go_quiet (fail); try go_wp2)
                    go_roundg k2
                    case measure => have := HJ1.out; have := HK2.out; omega
                    case rel => exact ⟨(wrap64 (x3_2 + 1)), (by first | rfl | (simp; done) | (simp [*]; done)), H', ⟨by have := HJ1.out; have := HK2.out; omega⟩, ⟨by (with_reducible repeat (first | refine blk_drewN ?_ _ | refine blk_drew ?_ | refine blk_alloc ?_ _)); exact BK109.out⟩, ⟨by repeat (first | (with_reducible first | exact HB.out | apply below_alloc | apply pw_below_drewN | apply below_drew1 | refine below_set ?_ GE109.out) | exact HB.out)⟩⟩
                  · rw [if_neg c12] at H
                    have c12b0 : ((wrap64 ((wrap64 (((rd_T54 l0_7 x3_2).f0) - 1)) - x3_2)) == a0_2) = false := beq_eq_false_iff_ne.mpr c12
                    have c12b1 : ((wrap64 ((wrap64 (((rd_T54 l0_7 x3_2).f0) - 1)) - x3_2)) != a0_2) = true := bne_iff_ne.mpr c12
                    obtain rfl := Option.some.inj H
                    have hcz14_0 : wr.cell? ⟨gb109, 0, none⟩ = some (.int .i64 a0_0) := (blk_cell BK109.out 0).trans rfl
                    have hcz14_1 : wr.cell? ⟨gb109, 1, none⟩ = some (.int .i64 a0_1) := (blk_cell BK109.out 1).trans rfl
                    have hcz14_2 : wr.cell? ⟨gb109, 2, none⟩ = some (.int .i64 a0_2) := (blk_cell BK109.out 2).trans rfl
                    have hcz14_3 : wr.cell? ⟨gb109, 3, none⟩ = some (.int .i64 a0_3) := (blk_cell BK109.out 3).trans rfl
                    have hcz14_4 : wr.cell? ⟨gb109, 4, none⟩ = some (.slice A0_4 l0_4.length c0_4) := (blk_cell BK109.out 4).trans rfl
                    have hcz14_5 : wr.cell? ⟨gb109, 5, none⟩ = some (.slice A0_5 l0_5.length c0_5) := (blk_cell BK109.out 5).trans rfl
                    have hcz14_6 : wr.cell? ⟨gb109, 6, none⟩ = some (.string a0_6) := (blk_cell BK109.out 6).trans rfl
                    have hcz14_7 : wr.cell? ⟨gb109, 7, none⟩ = some (.slice A0_7 l0_7.length c0_7) := (blk_cell BK109.out 7).trans rfl
                    have hfz14_0 := blk_frozen BK109.out 0
                    have hfz14_1 := blk_frozen BK109.out 1
                    have hfz14_2 := blk_frozen BK109.out 2
                    have hfz14_3 := blk_frozen BK109.out 3
                    have hfz14_4 := blk_frozen BK109.out 4
                    have hfz14_5 := blk_frozen BK109.out 5
                    have hfz14_6 := blk_frozen BK109.out 6
                    have hfz14_7 := blk_frozen BK109.out 7
                    have p110 : 0 ≤ (x3_2 : Int) := of_decide_eq_true (by first | (with_reducible assumption) | assumption)
                    have q110 : x3_2 < (l0_7.length : Int) := of_decide_eq_true (by first | (with_reducible assumption) | assumption)
                    obtain ⟨ad110, A110_3, c110_3, A110_4, c110_4, e110, hx110_0, hx110_1, hx110_2, hx110_3, hx110_4, hx110_5, hl110_3, hi110_3, hl110_4, hi110_4⟩ := at_T54 HR0_7.out x3_2 p110 q110
                    cases e110
                    replace hx110_0 := (HB.out.cell (World.block_lt_of_cell? w _ hx110_0)).trans hx110_0
                    replace hx110_1 := (HB.out.cell (World.block_lt_of_cell? w _ hx110_1)).trans hx110_1
                    replace hx110_2 := (HB.out.cell (World.block_lt_of_cell? w _ hx110_2)).trans hx110_2
                    replace hx110_3 := (HB.out.cell (World.block_lt_of_cell? w _ hx110_3)).trans hx110_3
                    replace hx110_4 := (HB.out.cell (World.block_lt_of_cell? w _ hx110_4)).trans hx110_4
                    replace hx110_5 := (HB.out.cell (World.block_lt_of_cell? w _ hx110_5)).trans hx110_5
                    have HR110_3 := Aside0.mk hi110_3
                    have HC110_3 := Aside0.mk hl110_3
                    clear hi110_3 hl110_3
                    have HR110_4 := Aside0.mk hi110_4
                    have HC110_4 := Aside0.mk hl110_4
                    clear hi110_4 hl110_4
                    replace p110 := eq_true p110
                    replace q110 := eq_true q110
                    have p111 : 0 ≤ (x3_2 : Int) := of_decide_eq_true (by first | (with_reducible assumption) | assumption)
                    have q111 : x3_2 < (l0_7.length : Int) := of_decide_eq_true (by first | (with_reducible assumption) | assumption)
                    obtain ⟨ad111, A111_3, c111_3, A111_4, c111_4, e111, hx111_0, hx111_1, hx111_2, hx111_3, hx111_4, hx111_5, hl111_3, hi111_3, hl111_4, hi111_4⟩ := at_T54 HR0_7.out x3_2 p111 q111
                    obtain rfl : ad110 = ad111 := (by injection e111)
                    replace hx111_0 := (HB.out.cell (World.block_lt_of_cell? w _ hx111_0)).trans hx111_0
                    replace hx111_1 := (HB.out.cell (World.block_lt_of_cell? w _ hx111_1)).trans hx111_1
                    replace hx111_2 := (HB.out.cell (World.block_lt_of_cell? w _ hx111_2)).trans hx111_2
                    replace hx111_3 := (HB.out.cell (World.block_lt_of_cell? w _ hx111_3)).trans hx111_3
                    replace hx111_4 := (HB.out.cell (World.block_lt_of_cell? w _ hx111_4)).trans hx111_4
                    replace hx111_5 := (HB.out.cell (World.block_lt_of_cell? w _ hx111_5)).trans hx111_5
                    have HR111_3 := Aside0.mk hi111_3
                    have HC111_3 := Aside0.mk hl111_3
                    clear hi111_3 hl111_3
                    have HR111_4 := Aside0.mk hi111_4
                    have HC111_4 := Aside0.mk hl111_4
                    clear hi111_4 hl111_4
                    replace p111 := eq_true p111
                    replace q111 := eq_true q111
                    have ea_ := Option.some.inj (hx110_3.symm.trans hx111_3)
                    injection ea_ with ea_ en_ ec_
                    subst ea_
                    subst ec_
                    clear en_
                    have ea_ := Option.some.inj (hx110_4.symm.trans hx111_4)
                    injection ea_ with ea_ en_ ec_
                    subst ea_
                    subst ec_
                    clear en_
                    go_wp2
                    repeat (go_quiet (fail); try go_wp2)
                    go_ret
                    exact ⟨by first | rfl | (simp [errW_none, errW_some] <;> rfl) | (simp [*, errW_none, errW_some] <;> rfl), by repeat (first | (with_reducible first | exact HB.out | apply below_alloc | apply pw_below_drewN | apply below_drew1 | refine below_set ?_ GE109.out) | exact HB.out)⟩
              · rw [if_neg c9] at H
                exact absurd H (by simp)
            · rw [if_neg c8] at H
              have c8b0 : decide (x3_2 < (l0_7.length : Int)) = false := decide_eq_false c8
              clear c8
              obtain rfl := Option.some.inj H
              have hcz15_0 : wr.cell? ⟨gb109, 0, none⟩ = some (.int .i64 a0_0) := (blk_cell BK109.out 0).trans rfl
              have hcz15_1 : wr.cell? ⟨gb109, 1, none⟩ = some (.int .i64 a0_1) := (blk_cell BK109.out 1).trans rfl
              have hcz15_2 : wr.cell? ⟨gb109, 2, none⟩ = some (.int .i64 a0_2) := (blk_cell BK109.out 2).trans rfl
              have hcz15_3 : wr.cell? ⟨gb109, 3, none⟩ = some (.int .i64 a0_3) := (blk_cell BK109.out 3).trans rfl
              have hcz15_4 : wr.cell? ⟨gb109, 4, none⟩ = some (.slice A0_4 l0_4.length c0_4) := (blk_cell BK109.out 4).trans rfl
              have hcz15_5 : wr.cell? ⟨gb109, 5, none⟩ = some (.slice A0_5 l0_5.length c0_5) := (blk_cell BK109.out 5).trans rfl
              have hcz15_6 : wr.cell? ⟨gb109, 6, none⟩ = some (.string a0_6) := (blk_cell BK109.out 6).trans rfl
              have hcz15_7 : wr.cell? ⟨gb109, 7, none⟩ = some (.slice A0_7 l0_7.length c0_7) := (blk_cell BK109.out 7).trans rfl
              have hfz15_0 := blk_frozen BK109.out 0
              have hfz15_1 := blk_frozen BK109.out 1
              have hfz15_2 := blk_frozen BK109.out 2
              have hfz15_3 := blk_frozen BK109.out 3
              have hfz15_4 := blk_frozen BK109.out 4
              have hfz15_5 := blk_frozen BK109.out 5
              have hfz15_6 := blk_frozen BK109.out 6
              have hfz15_7 := blk_frozen BK109.out 7
              go_wp2
              repeat (go_quiet (fail); try go_wp2)
              go_ret
              exact ⟨by first | rfl | (simp [errW_none, errW_some] <;> rfl) | (simp [*, errW_none, errW_some] <;> rfl), by repeat (first | (with_reducible first | exact HB.out | apply below_alloc | apply pw_below_drewN | apply below_drew1 | refine below_set ?_ GE109.out) | exact HB.out)⟩

end Go.Proofs.Ytbjhjimkljbjlaa.PA
