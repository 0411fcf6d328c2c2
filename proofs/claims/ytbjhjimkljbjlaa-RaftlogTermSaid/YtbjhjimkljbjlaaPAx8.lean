-- WRITTEN BY hookprint.py (a program of this session, over the kit's print.py): not typed by hand
import Derived.Test.YtbjhjimkljbjlaaPAx0
import Derived.Test.YtbjhjimkljbjlaaPAx3
namespace Go.Proofs.Ytbjhjimkljbjlaa.PA
open Go.RowKit Go.Proofs.YtbjhjimkljbjlaaW.PrintWords Go.Proofs.YtbjhjimkljbjlaaW.PrintLast Go.Proofs.YtbjhjimkljbjlaaW.PrintMore
attribute [local go_sem] max2_int min2_int max_two min_two max_three min_three max_four min_four   -- for this text's walks alone
set_option linter.unusedVariables false
set_option linter.unusedSimpArgs false

/-! ### folkmootref16_Term: function 16 -/
def folkmootref16_Term.l0 : Nat → Int → Int → Int → Int → Int → Int → List Int → List Int → ByteArray → List (S54) → Option (Int × Int)
  | 0, _, _, _, _, _, _, _, _, _, _ => none
  | k + 1, x1, x6, x161000, x161001, x161002, x161003, x161004, x161005, x161006, x161007 => if x6 < (x161007.length : Int) then (if 0 ≤ x6 then (if ((rd_T54 x161007 x6).f0) = x1 then (some ((rd_T54 x161007 x6).f1, 0)) else (folkmootref16_Term.l0 k x1 (wrap64 (x6 + 1)) x161000 x161001 x161002 x161003 x161004 x161005 x161006 x161007)) else (none)) else (some (0, 150))
def folkmootref16_Term.f (k : Nat) (a0_0 : Int) (a0_1 : Int) (a0_2 : Int) (a0_3 : Int) (l0_4 : List Int) (l0_5 : List Int) (a0_6 : ByteArray) (l0_7 : List (S54)) (a1 : Int) : Option (Int × Int) := (folkmootref16_On.f k a0_0 a0_1 a0_2 a0_3 l0_4 l0_5 a0_6 l0_7).bind fun t161 => (if t161 = true then (if a1 = a0_2 then (some (a0_3, 0)) else (folkmootref16_Term.l0 k a1 0 a0_0 a0_1 a0_2 a0_3 l0_4 l0_5 a0_6 l0_7)) else (some (0, 1)))
theorem folkmootref16_Term.mono_l : ∀ k, (∀ y0 y1 y2 y3 y4 y5 y6 y7 y8 y9, LeO (folkmootref16_Term.l0 k y0 y1 y2 y3 y4 y5 y6 y7 y8 y9) (folkmootref16_Term.l0 (k + 1) y0 y1 y2 y3 y4 y5 y6 y7 y8 y9))
  | 0 => fun _ _ _ _ _ _ _ _ _ _ r h => by simp [folkmootref16_Term.l0] at h
  | k + 1 => by
    have ih0 := folkmootref16_Term.mono_l k
    · intro y0 y1 y2 y3 y4 y5 y6 y7 y8 y9
      unfold folkmootref16_Term.l0
      repeat' first
      | (with_reducible exact ih0 _ _ _ _ _ _ _ _ _ _)
      | (with_reducible exact folkmootref16_On.mono _ _ _ _ _ _ _ _ _)
      | (with_reducible exact LeO.refl _)
      | (with_reducible exact LeO.none _)
      | (with_reducible refine LeO.ite ?_ ?_)
      | (with_reducible refine LeO.bind ?_ (fun _ => ?_))
      | exact ih0 _ _ _ _ _ _ _ _ _ _
      | exact folkmootref16_On.mono _ _ _ _ _ _ _ _ _
      | exact LeO.none _
      | refine LeO.ite ?_ ?_
      | refine LeO.bind ?_ (fun _ => ?_)
theorem folkmootref16_Term.mono : ∀ a0 a1 a2 a3 a4 a5 a6 a7 a8 k, LeO (folkmootref16_Term.f k a0 a1 a2 a3 a4 a5 a6 a7 a8) (folkmootref16_Term.f (k + 1) a0 a1 a2 a3 a4 a5 a6 a7 a8) := by
  intro a0 a1 a2 a3 a4 a5 a6 a7 a8 k
  have ih0 := folkmootref16_Term.mono_l k
  unfold folkmootref16_Term.f
  repeat' first
      | (with_reducible exact ih0 _ _ _ _ _ _ _ _ _ _)
      | (with_reducible exact folkmootref16_On.mono _ _ _ _ _ _ _ _ _)
      | (with_reducible exact LeO.refl _)
      | (with_reducible exact LeO.none _)
      | (with_reducible refine LeO.ite ?_ ?_)
      | (with_reducible refine LeO.bind ?_ (fun _ => ?_))
      | exact ih0 _ _ _ _ _ _ _ _ _ _
      | exact folkmootref16_On.mono _ _ _ _ _ _ _ _ _
      | exact LeO.none _
      | refine LeO.ite ?_ ?_
      | refine LeO.bind ?_ (fun _ => ?_)
set_option maxHeartbeats 8000000 in
set_option maxRecDepth 100000 in
theorem folkmootref16_Term.calls (k : Nat) (a0_0 : Int) (a0_1 : Int) (a0_2 : Int) (a0_3 : Int) (A0_4 : Option Addr) (c0_4 : Nat) (l0_4 : List Int) (A0_5 : Option Addr) (c0_5 : Nat) (l0_5 : List Int) (a0_6 : ByteArray) (A0_7 : Option Addr) (c0_7 : Nat) (l0_7 : List (S54)) (a1 : Int) (r1 : Int) (r2 : Int) (w : World) (hr0_4 : Kd.C (Kd.int .i64) w A0_4 l0_4.length l0_4) (hc0_4 : l0_4.length ≤ c0_4) (hr0_5 : Kd.C (Kd.int .i64) w A0_5 l0_5.length l0_5) (hc0_5 : l0_5.length ≤ c0_5) (hr0_7 : Kd.C k54 w A0_7 l0_7.length l0_7) (hc0_7 : l0_7.length ≤ c0_7) (h : folkmootref16_Term.f k a0_0 a0_1 a0_2 a0_3 l0_4 l0_5 a0_6 l0_7 a1 = some (r1, r2)) :
    Calls Try.prog 16 #[.agg #[.int .i64 a0_0, .int .i64 a0_1, .int .i64 a0_2, .int .i64 a0_3, .slice A0_4 l0_4.length c0_4, .slice A0_5 l0_5.length c0_5, .string a0_6, .slice A0_7 l0_7.length c0_7], .int .i64 a1] w fun e w' => e = .returned (.tuple #[.int .i64 r1, .int .i64 r2]) ∧ Below w.heap.size w w' := by
  have hu30 := Try.underlying30
  have HR0_4 := Aside0.mk hr0_4
  have HC0_4 := Aside0.mk hc0_4
  clear hr0_4 hc0_4
  have HR0_5 := Aside0.mk hr0_5
  have HC0_5 := Aside0.mk hc0_5
  clear hr0_5 hc0_5
  have HR0_7 := Aside0.mk hr0_7
  have HC0_7 := Aside0.mk hc0_7
  clear hr0_7 hc0_7
  have HB := Aside0.mk (Below.refl w.heap.size w)
  have H : ((folkmootref16_On.f k a0_0 a0_1 a0_2 a0_3 l0_4 l0_5 a0_6 l0_7).bind fun t161 => (if t161 = true then (if a1 = a0_2 then (some (a0_3, 0)) else (folkmootref16_Term.l0 k a1 0 a0_0 a0_1 a0_2 a0_3 l0_4 l0_5 a0_6 l0_7)) else (some (0, 1)))) = some (r1, r2) := h
  clear h
  replace H := Option.bind_eq_some_iff.mp H
  obtain ⟨t161, A30, H⟩ := H
  replace H : (if t161 = true then (if a1 = a0_2 then (some (a0_3, 0)) else (folkmootref16_Term.l0 k a1 0 a0_0 a0_1 a0_2 a0_3 l0_4 l0_5 a0_6 l0_7)) else (some (0, 1))) = some (r1, r2) := H
  have A3 := Aside0.mk A30
  clear A30
  by_cases c4 : t161 = true
  · subst c4
    have H1 : (if a1 = a0_2 then (some (a0_3, 0)) else (folkmootref16_Term.l0 k a1 0 a0_0 a0_1 a0_2 a0_3 l0_4 l0_5 a0_6 l0_7)) = some (r1, r2) := by rw [if_pos rfl] at H; exact H
    clear H
    have H := H1
    clear H1
    by_cases c5 : a1 = a0_2
    · rw [if_pos c5] at H
      have c5b0 : (a1 == a0_2) = true := beq_iff_eq.mpr c5
      have c5b1 : (a1 != a0_2) = false := bne_eq_false_iff_eq.mpr c5
      clear c5
      simp only [Option.some.injEq, Prod.mk.injEq] at H
      obtain ⟨rfl, rfl⟩ := H
      go_enter Try.func16, Try.ntmps16
      go_wp2_with (first | ((with_reducible refine gate_dst (N := 2) rfl ?_); refine box_event ?hg (N := 2) ?hd (cs := #[.int .i64 a0_0, .int .i64 a0_1, .int .i64 a0_2, .int .i64 a0_3, .slice A0_4 l0_4.length c0_4, .slice A0_5 l0_5.length c0_5, .string a0_6, .slice A0_7 l0_7.length c0_7]) (t := 30) ?hr ?_; (case hd => rfl); (case hg => rfl); (case hr => first | (go_simp; done) | (go_simp; rfl)); intro gb160 hg w6 hbox hb; have n0_ := Aside0.mk (below_step (by repeat (first | (with_reducible first | exact HB.out | apply below_alloc | apply pw_below_drewN | apply below_drew1) | exact HB.out)) hb); have n1_ := Aside0.mk (hbox); have n2_ := Aside0.mk ((by rw [hg]; exact (below_size (by repeat (first | (with_reducible first | exact HB.out | apply below_alloc | apply pw_below_drewN | apply below_drew1) | exact HB.out))) : w.heap.size ≤ gb160)); have n3_ := Aside0.mk ((by rw [hg]; exact (below_size (by repeat (first | (with_reducible first | exact HB.out | apply below_alloc | apply pw_below_drewN | apply below_drew1) | exact HB.out))) : w.heap.size ≤ gb160)); clear HB; have HB := n0_; have BK160 := n1_; have GW160 := n2_; have GE160 := n3_; clear n0_ n1_ n2_ n3_; clear hb hbox hg; have hcz7_0 : w6.cell? ⟨gb160, 0, none⟩ = some (.int .i64 a0_0) := (blk_cell BK160.out 0).trans rfl; have hcz7_1 : w6.cell? ⟨gb160, 1, none⟩ = some (.int .i64 a0_1) := (blk_cell BK160.out 1).trans rfl; have hcz7_2 : w6.cell? ⟨gb160, 2, none⟩ = some (.int .i64 a0_2) := (blk_cell BK160.out 2).trans rfl; have hcz7_3 : w6.cell? ⟨gb160, 3, none⟩ = some (.int .i64 a0_3) := (blk_cell BK160.out 3).trans rfl; have hcz7_4 : w6.cell? ⟨gb160, 4, none⟩ = some (.slice A0_4 l0_4.length c0_4) := (blk_cell BK160.out 4).trans rfl; have hcz7_5 : w6.cell? ⟨gb160, 5, none⟩ = some (.slice A0_5 l0_5.length c0_5) := (blk_cell BK160.out 5).trans rfl; have hcz7_6 : w6.cell? ⟨gb160, 6, none⟩ = some (.string a0_6) := (blk_cell BK160.out 6).trans rfl; have hcz7_7 : w6.cell? ⟨gb160, 7, none⟩ = some (.slice A0_7 l0_7.length c0_7) := (blk_cell BK160.out 7).trans rfl; have hfz7_0 := blk_frozen BK160.out 0; have hfz7_1 := blk_frozen BK160.out 1; have hfz7_2 := blk_frozen BK160.out 2; have hfz7_3 := blk_frozen BK160.out 3; have hfz7_4 := blk_frozen BK160.out 4; have hfz7_5 := blk_frozen BK160.out 5; have hfz7_6 := blk_frozen BK160.out 6; have hfz7_7 := blk_frozen BK160.out 7) | ((with_reducible refine gate_callee (f := 14) rfl ?_); refine goesL_ (some 8) rfl rfl Try.func14 (by kernel_rfl) rfl #[.agg #[.int .i64 a0_0, .int .i64 a0_1, .int .i64 a0_2, .int .i64 a0_3, .slice A0_4 l0_4.length c0_4, .slice A0_5 l0_5.length c0_5, .string a0_6, .slice A0_7 l0_7.length c0_7]] rfl (by (try simp only [List.map_toArray, List.map_cons, List.map_nil]); first | done | rfl | (simp only [List.length_drop, List.length_take]; rfl)) ?_; (with_reducible refine (folkmootref16_On.calls k a0_0 a0_1 a0_2 a0_3 _ _ l0_4 _ _ l0_5 a0_6 _ _ l0_7 true _ ?side1 ?side2 ?side3 ?side4 ?side5 ?side6 A3.out).mono ?_); (case side1 => repeat (first | exact (Kd.C_below HR0_4.out HB.out) | (with_reducible refine Kd.C_alloc ?_ _) | (with_reducible refine Kd.C_drewN ?_ _) | (with_reducible refine Kd.C_drew ?_))); (case side2 => exact HC0_4.out); (case side3 => repeat (first | exact (Kd.C_below HR0_5.out HB.out) | (with_reducible refine Kd.C_alloc ?_ _) | (with_reducible refine Kd.C_drewN ?_ _) | (with_reducible refine Kd.C_drew ?_))); (case side4 => exact HC0_5.out); (case side5 => repeat (first | exact (Kd.C_below HR0_7.out HB.out) | (with_reducible refine Kd.C_alloc ?_ _) | (with_reducible refine Kd.C_drewN ?_ _) | (with_reducible refine Kd.C_drew ?_))); (case side6 => exact HC0_7.out); rintro e w8 ⟨rfl, hb⟩; refine ⟨_, rfl, ?_⟩; have n0_ := Aside0.mk (blk_below (g := gb160) (o := .cells #[.int .i64 a0_0, .int .i64 a0_1, .int .i64 a0_2, .int .i64 a0_3, .slice A0_4 l0_4.length c0_4, .slice A0_5 l0_5.length c0_5, .string a0_6, .slice A0_7 l0_7.length c0_7] 30 (0, 0)) (by (with_reducible repeat (first | refine blk_drewN ?_ _ | refine blk_drew ?_ | refine blk_alloc ?_ _)); exact BK160.out) hb); have n1_ := Aside0.mk (below_step (by repeat (first | (with_reducible first | exact HB.out | apply below_alloc | apply pw_below_drewN | apply below_drew1 | refine below_set ?_ GE160.out) | exact HB.out)) hb); clear BK160; clear HB; have BK160 := n0_; have HB := n1_; clear n0_ n1_; (try clear hb); (try clear hb2); (try clear hk); (try clear hi); have hcz9_0 : w8.cell? ⟨gb160, 0, none⟩ = some (.int .i64 a0_0) := (blk_cell BK160.out 0).trans rfl; have hcz9_1 : w8.cell? ⟨gb160, 1, none⟩ = some (.int .i64 a0_1) := (blk_cell BK160.out 1).trans rfl; have hcz9_2 : w8.cell? ⟨gb160, 2, none⟩ = some (.int .i64 a0_2) := (blk_cell BK160.out 2).trans rfl; have hcz9_3 : w8.cell? ⟨gb160, 3, none⟩ = some (.int .i64 a0_3) := (blk_cell BK160.out 3).trans rfl; have hcz9_4 : w8.cell? ⟨gb160, 4, none⟩ = some (.slice A0_4 l0_4.length c0_4) := (blk_cell BK160.out 4).trans rfl; have hcz9_5 : w8.cell? ⟨gb160, 5, none⟩ = some (.slice A0_5 l0_5.length c0_5) := (blk_cell BK160.out 5).trans rfl; have hcz9_6 : w8.cell? ⟨gb160, 6, none⟩ = some (.string a0_6) := (blk_cell BK160.out 6).trans rfl; have hcz9_7 : w8.cell? ⟨gb160, 7, none⟩ = some (.slice A0_7 l0_7.length c0_7) := (blk_cell BK160.out 7).trans rfl; have hfz9_0 := blk_frozen BK160.out 0; have hfz9_1 := blk_frozen BK160.out 1; have hfz9_2 := blk_frozen BK160.out 2; have hfz9_3 := blk_frozen BK160.out 3; have hfz9_4 := blk_frozen BK160.out 4; have hfz9_5 := blk_frozen BK160.out 5; have hfz9_6 := blk_frozen BK160.out 6; have hfz9_7 := blk_frozen BK160.out 7))
      go_ret2
      exact ⟨by first | rfl | (simp [errW_none, errW_some] <;> rfl) | (simp [*, errW_none, errW_some] <;> rfl), by repeat (first | (with_reducible first | exact HB.out | apply below_alloc | apply pw_below_drewN | apply below_drew1 | refine below_set ?_ GE160.out) | exact HB.out)⟩
    · rw [if_neg c5] at H
      have c5b0 : (a1 == a0_2) = false := beq_eq_false_iff_ne.mpr c5
      have c5b1 : (a1 != a0_2) = true := bne_iff_ne.mpr c5
      have H' := Aside0.mk H
      clear H
      go_enter Try.func16, Try.ntmps16
      go_wp2_with (first | ((with_reducible refine gate_dst (N := 2) rfl ?_); refine box_event ?hg (N := 2) ?hd (cs := #[.int .i64 a0_0, .int .i64 a0_1, .int .i64 a0_2, .int .i64 a0_3, .slice A0_4 l0_4.length c0_4, .slice A0_5 l0_5.length c0_5, .string a0_6, .slice A0_7 l0_7.length c0_7]) (t := 30) ?hr ?_; (case hd => rfl); (case hg => rfl); (case hr => first | (go_simp; done) | (go_simp; rfl)); intro gb160 hg w10 hbox hb; have n0_ := Aside0.mk (below_step (by repeat (first | (with_reducible first | exact HB.out | apply below_alloc | apply pw_below_drewN | apply below_drew1) | exact HB.out)) hb); have n1_ := Aside0.mk (hbox); have n2_ := Aside0.mk ((by rw [hg]; exact (below_size (by repeat (first | (with_reducible first | exact HB.out | apply below_alloc | apply pw_below_drewN | apply below_drew1) | exact HB.out))) : w.heap.size ≤ gb160)); have n3_ := Aside0.mk ((by rw [hg]; exact (below_size (by repeat (first | (with_reducible first | exact HB.out | apply below_alloc | apply pw_below_drewN | apply below_drew1) | exact HB.out))) : w.heap.size ≤ gb160)); clear HB; have HB := n0_; have BK160 := n1_; have GW160 := n2_; have GE160 := n3_; clear n0_ n1_ n2_ n3_; clear hb hbox hg; have hcz11_0 : w10.cell? ⟨gb160, 0, none⟩ = some (.int .i64 a0_0) := (blk_cell BK160.out 0).trans rfl; have hcz11_1 : w10.cell? ⟨gb160, 1, none⟩ = some (.int .i64 a0_1) := (blk_cell BK160.out 1).trans rfl; have hcz11_2 : w10.cell? ⟨gb160, 2, none⟩ = some (.int .i64 a0_2) := (blk_cell BK160.out 2).trans rfl; have hcz11_3 : w10.cell? ⟨gb160, 3, none⟩ = some (.int .i64 a0_3) := (blk_cell BK160.out 3).trans rfl; have hcz11_4 : w10.cell? ⟨gb160, 4, none⟩ = some (.slice A0_4 l0_4.length c0_4) := (blk_cell BK160.out 4).trans rfl; have hcz11_5 : w10.cell? ⟨gb160, 5, none⟩ = some (.slice A0_5 l0_5.length c0_5) := (blk_cell BK160.out 5).trans rfl; have hcz11_6 : w10.cell? ⟨gb160, 6, none⟩ = some (.string a0_6) := (blk_cell BK160.out 6).trans rfl; have hcz11_7 : w10.cell? ⟨gb160, 7, none⟩ = some (.slice A0_7 l0_7.length c0_7) := (blk_cell BK160.out 7).trans rfl; have hfz11_0 := blk_frozen BK160.out 0; have hfz11_1 := blk_frozen BK160.out 1; have hfz11_2 := blk_frozen BK160.out 2; have hfz11_3 := blk_frozen BK160.out 3; have hfz11_4 := blk_frozen BK160.out 4; have hfz11_5 := blk_frozen BK160.out 5; have hfz11_6 := blk_frozen BK160.out 6; have hfz11_7 := blk_frozen BK160.out 7) | ((with_reducible refine gate_callee (f := 14) rfl ?_); refine goesL_ (some 8) rfl rfl Try.func14 (by kernel_rfl) rfl #[.agg #[.int .i64 a0_0, .int .i64 a0_1, .int .i64 a0_2, .int .i64 a0_3, .slice A0_4 l0_4.length c0_4, .slice A0_5 l0_5.length c0_5, .string a0_6, .slice A0_7 l0_7.length c0_7]] rfl (by (try simp only [List.map_toArray, List.map_cons, List.map_nil]); first | done | rfl | (simp only [List.length_drop, List.length_take]; rfl)) ?_; (with_reducible refine (folkmootref16_On.calls k a0_0 a0_1 a0_2 a0_3 _ _ l0_4 _ _ l0_5 a0_6 _ _ l0_7 true _ ?side1 ?side2 ?side3 ?side4 ?side5 ?side6 A3.out).mono ?_); (case side1 => repeat (first | exact (Kd.C_below HR0_4.out HB.out) | (with_reducible refine Kd.C_alloc ?_ _) | (with_reducible refine Kd.C_drewN ?_ _) | (with_reducible refine Kd.C_drew ?_))); (case side2 => exact HC0_4.out); (case side3 => repeat (first | exact (Kd.C_below HR0_5.out HB.out) | (with_reducible refine Kd.C_alloc ?_ _) | (with_reducible refine Kd.C_drewN ?_ _) | (with_reducible refine Kd.C_drew ?_))); (case side4 => exact HC0_5.out); (case side5 => repeat (first | exact (Kd.C_below HR0_7.out HB.out) | (with_reducible refine Kd.C_alloc ?_ _) | (with_reducible refine Kd.C_drewN ?_ _) | (with_reducible refine Kd.C_drew ?_))); (case side6 => exact HC0_7.out); rintro e w12 ⟨rfl, hb⟩; refine ⟨_, rfl, ?_⟩; have n0_ := Aside0.mk (blk_below (g := gb160) (o := .cells #[.int .i64 a0_0, .int .i64 a0_1, .int .i64 a0_2, .int .i64 a0_3, .slice A0_4 l0_4.length c0_4, .slice A0_5 l0_5.length c0_5, .string a0_6, .slice A0_7 l0_7.length c0_7] 30 (0, 0)) (by (with_reducible repeat (first | refine blk_drewN ?_ _ | refine blk_drew ?_ | refine blk_alloc ?_ _)); exact BK160.out) hb); have n1_ := Aside0.mk (below_step (by repeat (first | (with_reducible first | exact HB.out | apply below_alloc | apply pw_below_drewN | apply below_drew1 | refine below_set ?_ GE160.out) | exact HB.out)) hb); clear BK160; clear HB; have BK160 := n0_; have HB := n1_; clear n0_ n1_; (try clear hb); (try clear hb2); (try clear hk); (try clear hi); have hcz13_0 : w12.cell? ⟨gb160, 0, none⟩ = some (.int .i64 a0_0) := (blk_cell BK160.out 0).trans rfl; have hcz13_1 : w12.cell? ⟨gb160, 1, none⟩ = some (.int .i64 a0_1) := (blk_cell BK160.out 1).trans rfl; have hcz13_2 : w12.cell? ⟨gb160, 2, none⟩ = some (.int .i64 a0_2) := (blk_cell BK160.out 2).trans rfl; have hcz13_3 : w12.cell? ⟨gb160, 3, none⟩ = some (.int .i64 a0_3) := (blk_cell BK160.out 3).trans rfl; have hcz13_4 : w12.cell? ⟨gb160, 4, none⟩ = some (.slice A0_4 l0_4.length c0_4) := (blk_cell BK160.out 4).trans rfl; have hcz13_5 : w12.cell? ⟨gb160, 5, none⟩ = some (.slice A0_5 l0_5.length c0_5) := (blk_cell BK160.out 5).trans rfl; have hcz13_6 : w12.cell? ⟨gb160, 6, none⟩ = some (.string a0_6) := (blk_cell BK160.out 6).trans rfl; have hcz13_7 : w12.cell? ⟨gb160, 7, none⟩ = some (.slice A0_7 l0_7.length c0_7) := (blk_cell BK160.out 7).trans rfl; have hfz13_0 := blk_frozen BK160.out 0; have hfz13_1 := blk_frozen BK160.out 1; have hfz13_2 := blk_frozen BK160.out 2; have hfz13_3 := blk_frozen BK160.out 3; have hfz13_4 := blk_frozen BK160.out 4; have hfz13_5 := blk_frozen BK160.out 5; have hfz13_6 := blk_frozen BK160.out 6; have hfz13_7 := blk_frozen BK160.out 7))
      go_loopg [6] k (fun kq v6 w' => ∃ (x6_1 : Int), v6 = .int .i64 x6_1 ∧ Aside0 (folkmootref16_Term.l0 kq a1 x6_1 a0_0 a0_1 a0_2 a0_3 l0_4 l0_5 a0_6 l0_7 = some (r1, r2)) ∧ Aside0 (kq ≤ k) ∧ Aside0 (w'.heap[gb160]? = some (.cells #[.int .i64 a0_0, .int .i64 a0_1, .int .i64 a0_2, .int .i64 a0_3, (.slice A0_4 l0_4.length c0_4), (.slice A0_5 l0_5.length c0_5), .string a0_6, (.slice A0_7 l0_7.length c0_7)] 30 (0, 0))) ∧ Aside0 (Below w.heap.size w w'))
      case atStart => exact ⟨(0), (by first | rfl | (simp; done) | (simp [*]; done)), H', ⟨Nat.le_refl _⟩, ⟨by (with_reducible repeat (first | refine blk_drewN ?_ _ | refine blk_drew ?_ | refine blk_alloc ?_ _)); exact BK160.out⟩, ⟨by repeat (first | (with_reducible first | exact HB.out | apply below_alloc | apply pw_below_drewN | apply below_drew1 | refine below_set ?_ GE160.out) | exact HB.out)⟩⟩
      case round =>
        clear H'
        try clear c1
        try clear p2
        try clear c4
        try clear c5
        try clear c5b0
        try clear c5b1
        try clear hcz11_0
        try clear hcz11_1
        try clear hcz11_2
        try clear hcz11_3
        try clear hcz11_4
        try clear hcz11_5
        try clear hcz11_6
        try clear hcz11_7
        try clear hcz13_0
        try clear hcz13_1
        try clear hcz13_2
        try clear hcz13_3
        try clear hcz13_4
        try clear hcz13_5
        try clear hcz13_6
        try clear hcz13_7
        try clear hcz7_0
        try clear hcz7_1
        try clear hcz7_2
        try clear hcz7_3
        try clear hcz7_4
        try clear hcz7_5
        try clear hcz7_6
        try clear hcz7_7
        try clear hcz9_0
        try clear hcz9_1
        try clear hcz9_2
        try clear hcz9_3
        try clear hcz9_4
        try clear hcz9_5
        try clear hcz9_6
        try clear hcz9_7
        try clear hfz11_0
        try clear hfz11_1
        try clear hfz11_2
        try clear hfz11_3
        try clear hfz11_4
        try clear hfz11_5
        try clear hfz11_6
        try clear hfz11_7
        try clear hfz13_0
        try clear hfz13_1
        try clear hfz13_2
        try clear hfz13_3
        try clear hfz13_4
        try clear hfz13_5
        try clear hfz13_6
        try clear hfz13_7
        try clear hfz7_0
        try clear hfz7_1
        try clear hfz7_2
        try clear hfz7_3
        try clear hfz7_4
        try clear hfz7_5
        try clear hfz7_6
        try clear hfz7_7
        try clear hfz9_0
        try clear hfz9_1
        try clear hfz9_2
        try clear hfz9_3
        try clear hfz9_4
        try clear hfz9_5
        try clear hfz9_6
        try clear hfz9_7
        obtain ⟨x6_1, rfl, HA, HK1, BK160, HB⟩ := hrel
        cases gk with
        | zero => exact absurd HA.out (by simp [folkmootref16_Term.l0])
        | succ k1 =>
          have H := HA.out
          clear HA
          simp only [folkmootref16_Term.l0] at H
          by_cases c14 : x6_1 < (l0_7.length : Int)
          · rw [if_pos c14] at H
            have c14b0 : decide (x6_1 < (l0_7.length : Int)) = true := decide_eq_true c14
            clear c14
            by_cases c15 : 0 ≤ x6_1
            · rw [if_pos c15] at H
              have c15b0 : decide (0 ≤ x6_1) = true := decide_eq_true c15
              clear c15
              by_cases c16 : ((rd_T54 l0_7 x6_1).f0) = a1
              · rw [if_pos c16] at H
                have c16b0 : (((rd_T54 l0_7 x6_1).f0) == a1) = true := beq_iff_eq.mpr c16
                have c16b1 : (((rd_T54 l0_7 x6_1).f0) != a1) = false := bne_eq_false_iff_eq.mpr c16
                clear c16
                simp only [Option.some.injEq, Prod.mk.injEq] at H
                obtain ⟨rfl, rfl⟩ := H
                have hcz17_0 : wr.cell? ⟨gb160, 0, none⟩ = some (.int .i64 a0_0) := (blk_cell BK160.out 0).trans rfl
                have hcz17_1 : wr.cell? ⟨gb160, 1, none⟩ = some (.int .i64 a0_1) := (blk_cell BK160.out 1).trans rfl
                have hcz17_2 : wr.cell? ⟨gb160, 2, none⟩ = some (.int .i64 a0_2) := (blk_cell BK160.out 2).trans rfl
                have hcz17_3 : wr.cell? ⟨gb160, 3, none⟩ = some (.int .i64 a0_3) := (blk_cell BK160.out 3).trans rfl
                have hcz17_4 : wr.cell? ⟨gb160, 4, none⟩ = some (.slice A0_4 l0_4.length c0_4) := (blk_cell BK160.out 4).trans rfl
                have hcz17_5 : wr.cell? ⟨gb160, 5, none⟩ = some (.slice A0_5 l0_5.length c0_5) := (blk_cell BK160.out 5).trans rfl
                have hcz17_6 : wr.cell? ⟨gb160, 6, none⟩ = some (.string a0_6) := (blk_cell BK160.out 6).trans rfl
                have hcz17_7 : wr.cell? ⟨gb160, 7, none⟩ = some (.slice A0_7 l0_7.length c0_7) := (blk_cell BK160.out 7).trans rfl
                have hfz17_0 := blk_frozen BK160.out 0
                have hfz17_1 := blk_frozen BK160.out 1
                have hfz17_2 := blk_frozen BK160.out 2
                have hfz17_3 := blk_frozen BK160.out 3
                have hfz17_4 := blk_frozen BK160.out 4
                have hfz17_5 := blk_frozen BK160.out 5
                have hfz17_6 := blk_frozen BK160.out 6
                have hfz17_7 := blk_frozen BK160.out 7
                have p162 : 0 ≤ (x6_1 : Int) := of_decide_eq_true (by first | (with_reducible assumption) | assumption)
                have q162 : x6_1 < (l0_7.length : Int) := of_decide_eq_true (by first | (with_reducible assumption) | assumption)
                obtain ⟨ad162, A162_3, c162_3, A162_4, c162_4, e162, hx162_0, hx162_1, hx162_2, hx162_3, hx162_4, hx162_5, hl162_3, hi162_3, hl162_4, hi162_4⟩ := at_T54 HR0_7.out x6_1 p162 q162
                cases e162
                replace hx162_0 := (HB.out.cell (World.block_lt_of_cell? w _ hx162_0)).trans hx162_0
                replace hx162_1 := (HB.out.cell (World.block_lt_of_cell? w _ hx162_1)).trans hx162_1
                replace hx162_2 := (HB.out.cell (World.block_lt_of_cell? w _ hx162_2)).trans hx162_2
                replace hx162_3 := (HB.out.cell (World.block_lt_of_cell? w _ hx162_3)).trans hx162_3
                replace hx162_4 := (HB.out.cell (World.block_lt_of_cell? w _ hx162_4)).trans hx162_4
                replace hx162_5 := (HB.out.cell (World.block_lt_of_cell? w _ hx162_5)).trans hx162_5
                have HR162_3 := Aside0.mk hi162_3
                have HC162_3 := Aside0.mk hl162_3
                clear hi162_3 hl162_3
                have HR162_4 := Aside0.mk hi162_4
                have HC162_4 := Aside0.mk hl162_4
                clear hi162_4 hl162_4
                replace p162 := eq_true p162
                replace q162 := eq_true q162
                have p163 : 0 ≤ (x6_1 : Int) := of_decide_eq_true (by first | (with_reducible assumption) | assumption)
                have q163 : x6_1 < (l0_7.length : Int) := of_decide_eq_true (by first | (with_reducible assumption) | assumption)
                obtain ⟨ad163, A163_3, c163_3, A163_4, c163_4, e163, hx163_0, hx163_1, hx163_2, hx163_3, hx163_4, hx163_5, hl163_3, hi163_3, hl163_4, hi163_4⟩ := at_T54 HR0_7.out x6_1 p163 q163
                obtain rfl : ad162 = ad163 := (by injection e163)
                replace hx163_0 := (HB.out.cell (World.block_lt_of_cell? w _ hx163_0)).trans hx163_0
                replace hx163_1 := (HB.out.cell (World.block_lt_of_cell? w _ hx163_1)).trans hx163_1
                replace hx163_2 := (HB.out.cell (World.block_lt_of_cell? w _ hx163_2)).trans hx163_2
                replace hx163_3 := (HB.out.cell (World.block_lt_of_cell? w _ hx163_3)).trans hx163_3
                replace hx163_4 := (HB.out.cell (World.block_lt_of_cell? w _ hx163_4)).trans hx163_4
                replace hx163_5 := (HB.out.cell (World.block_lt_of_cell? w _ hx163_5)).trans hx163_5
                have HR163_3 := Aside0.mk hi163_3
                have HC163_3 := Aside0.mk hl163_3
                clear hi163_3 hl163_3
                have HR163_4 := Aside0.mk hi163_4
                have HC163_4 := Aside0.mk hl163_4
                clear hi163_4 hl163_4
                replace p163 := eq_true p163
                replace q163 := eq_true q163
                have ea_ := Option.some.inj (hx162_3.symm.trans hx163_3)
                injection ea_ with ea_ en_ ec_
                subst ea_
                subst ec_
                clear en_
                have ea_ := Option.some.inj (hx162_4.symm.trans hx163_4)
                injection ea_ with ea_ en_ ec_
                subst ea_
                subst ec_
                clear en_
                go_wp2
                go_ret2
                exact ⟨by first | rfl | (simp [errW_none, errW_some] <;> rfl) | (simp [*, errW_none, errW_some] <;> rfl), by repeat (first | (with_reducible first | exact HB.out | apply below_alloc | apply pw_below_drewN | apply below_drew1 | refine below_set ?_ GE160.out) | exact HB.out)⟩
              · rw [if_neg c16] at H
                have c16b0 : (((rd_T54 l0_7 x6_1).f0) == a1) = false := beq_eq_false_iff_ne.mpr c16
                have c16b1 : (((rd_T54 l0_7 x6_1).f0) != a1) = true := bne_iff_ne.mpr c16
                have H' := Aside0.mk H
                clear H
                have hcz18_0 : wr.cell? ⟨gb160, 0, none⟩ = some (.int .i64 a0_0) := (blk_cell BK160.out 0).trans rfl
                have hcz18_1 : wr.cell? ⟨gb160, 1, none⟩ = some (.int .i64 a0_1) := (blk_cell BK160.out 1).trans rfl
                have hcz18_2 : wr.cell? ⟨gb160, 2, none⟩ = some (.int .i64 a0_2) := (blk_cell BK160.out 2).trans rfl
                have hcz18_3 : wr.cell? ⟨gb160, 3, none⟩ = some (.int .i64 a0_3) := (blk_cell BK160.out 3).trans rfl
                have hcz18_4 : wr.cell? ⟨gb160, 4, none⟩ = some (.slice A0_4 l0_4.length c0_4) := (blk_cell BK160.out 4).trans rfl
                have hcz18_5 : wr.cell? ⟨gb160, 5, none⟩ = some (.slice A0_5 l0_5.length c0_5) := (blk_cell BK160.out 5).trans rfl
                have hcz18_6 : wr.cell? ⟨gb160, 6, none⟩ = some (.string a0_6) := (blk_cell BK160.out 6).trans rfl
                have hcz18_7 : wr.cell? ⟨gb160, 7, none⟩ = some (.slice A0_7 l0_7.length c0_7) := (blk_cell BK160.out 7).trans rfl
                have hfz18_0 := blk_frozen BK160.out 0
                have hfz18_1 := blk_frozen BK160.out 1
                have hfz18_2 := blk_frozen BK160.out 2
                have hfz18_3 := blk_frozen BK160.out 3
                have hfz18_4 := blk_frozen BK160.out 4
                have hfz18_5 := blk_frozen BK160.out 5
                have hfz18_6 := blk_frozen BK160.out 6
                have hfz18_7 := blk_frozen BK160.out 7
                have p162 : 0 ≤ (x6_1 : Int) := of_decide_eq_true (by first | (with_reducible assumption) | assumption)
                have q162 : x6_1 < (l0_7.length : Int) := of_decide_eq_true (by first | (with_reducible assumption) | assumption)
                obtain ⟨ad162, A162_3, c162_3, A162_4, c162_4, e162, hx162_0, hx162_1, hx162_2, hx162_3, hx162_4, hx162_5, hl162_3, hi162_3, hl162_4, hi162_4⟩ := at_T54 HR0_7.out x6_1 p162 q162
                cases e162
                replace hx162_0 := (HB.out.cell (World.block_lt_of_cell? w _ hx162_0)).trans hx162_0
                replace hx162_1 := (HB.out.cell (World.block_lt_of_cell? w _ hx162_1)).trans hx162_1
                replace hx162_2 := (HB.out.cell (World.block_lt_of_cell? w _ hx162_2)).trans hx162_2
                replace hx162_3 := (HB.out.cell (World.block_lt_of_cell? w _ hx162_3)).trans hx162_3
                replace hx162_4 := (HB.out.cell (World.block_lt_of_cell? w _ hx162_4)).trans hx162_4
                replace hx162_5 := (HB.out.cell (World.block_lt_of_cell? w _ hx162_5)).trans hx162_5
                have HR162_3 := Aside0.mk hi162_3
                have HC162_3 := Aside0.mk hl162_3
                clear hi162_3 hl162_3
                have HR162_4 := Aside0.mk hi162_4
                have HC162_4 := Aside0.mk hl162_4
                clear hi162_4 hl162_4
                replace p162 := eq_true p162
                replace q162 := eq_true q162
                go_wp2
                go_roundg k1
                case measure => have := HK1.out; omega
                case rel => exact ⟨(wrap64 (x6_1 + 1)), (by first | rfl | (simp; done) | (simp [*]; done)), H', ⟨by have := HK1.out; omega⟩, ⟨by (with_reducible repeat (first | refine blk_drewN ?_ _ | refine blk_drew ?_ | refine blk_alloc ?_ _)); exact BK160.out⟩, ⟨by repeat (first | (with_reducible first | exact HB.out | apply below_alloc | apply pw_below_drewN | apply below_drew1 | refine below_set ?_ GE160.out) | exact HB.out)⟩⟩
            · rw [if_neg c15] at H
              exact absurd H (by simp)
          · rw [if_neg c14] at H
            have c14b0 : decide (x6_1 < (l0_7.length : Int)) = false := decide_eq_false c14
            clear c14
            simp only [Option.some.injEq, Prod.mk.injEq] at H
            obtain ⟨rfl, rfl⟩ := H
            have hcz19_0 : wr.cell? ⟨gb160, 0, none⟩ = some (.int .i64 a0_0) := (blk_cell BK160.out 0).trans rfl
            have hcz19_1 : wr.cell? ⟨gb160, 1, none⟩ = some (.int .i64 a0_1) := (blk_cell BK160.out 1).trans rfl
            have hcz19_2 : wr.cell? ⟨gb160, 2, none⟩ = some (.int .i64 a0_2) := (blk_cell BK160.out 2).trans rfl
            have hcz19_3 : wr.cell? ⟨gb160, 3, none⟩ = some (.int .i64 a0_3) := (blk_cell BK160.out 3).trans rfl
            have hcz19_4 : wr.cell? ⟨gb160, 4, none⟩ = some (.slice A0_4 l0_4.length c0_4) := (blk_cell BK160.out 4).trans rfl
            have hcz19_5 : wr.cell? ⟨gb160, 5, none⟩ = some (.slice A0_5 l0_5.length c0_5) := (blk_cell BK160.out 5).trans rfl
            have hcz19_6 : wr.cell? ⟨gb160, 6, none⟩ = some (.string a0_6) := (blk_cell BK160.out 6).trans rfl
            have hcz19_7 : wr.cell? ⟨gb160, 7, none⟩ = some (.slice A0_7 l0_7.length c0_7) := (blk_cell BK160.out 7).trans rfl
            have hfz19_0 := blk_frozen BK160.out 0
            have hfz19_1 := blk_frozen BK160.out 1
            have hfz19_2 := blk_frozen BK160.out 2
            have hfz19_3 := blk_frozen BK160.out 3
            have hfz19_4 := blk_frozen BK160.out 4
            have hfz19_5 := blk_frozen BK160.out 5
            have hfz19_6 := blk_frozen BK160.out 6
            have hfz19_7 := blk_frozen BK160.out 7
            go_wp2
            go_ret2
            exact ⟨by first | rfl | (simp [errW_none, errW_some] <;> rfl) | (simp [*, errW_none, errW_some] <;> rfl), by repeat (first | (with_reducible first | exact HB.out | apply below_alloc | apply pw_below_drewN | apply below_drew1 | refine below_set ?_ GE160.out) | exact HB.out)⟩
  · replace c4 := Bool.eq_false_iff.mpr c4
    subst c4
    have H1 : (some (0, 1)) = some (r1, r2) := by rw [if_neg (show ¬ (false = true) by decide)] at H; exact H
    clear H
    have H := H1
    clear H1
    simp only [Option.some.injEq, Prod.mk.injEq] at H
    obtain ⟨rfl, rfl⟩ := H
    go_enter Try.func16, Try.ntmps16
    go_wp2_with (first | ((with_reducible refine gate_dst (N := 2) rfl ?_); refine box_event ?hg (N := 2) ?hd (cs := #[.int .i64 a0_0, .int .i64 a0_1, .int .i64 a0_2, .int .i64 a0_3, .slice A0_4 l0_4.length c0_4, .slice A0_5 l0_5.length c0_5, .string a0_6, .slice A0_7 l0_7.length c0_7]) (t := 30) ?hr ?_; (case hd => rfl); (case hg => rfl); (case hr => first | (go_simp; done) | (go_simp; rfl)); intro gb160 hg w20 hbox hb; have n0_ := Aside0.mk (below_step (by repeat (first | (with_reducible first | exact HB.out | apply below_alloc | apply pw_below_drewN | apply below_drew1) | exact HB.out)) hb); have n1_ := Aside0.mk (hbox); have n2_ := Aside0.mk ((by rw [hg]; exact (below_size (by repeat (first | (with_reducible first | exact HB.out | apply below_alloc | apply pw_below_drewN | apply below_drew1) | exact HB.out))) : w.heap.size ≤ gb160)); have n3_ := Aside0.mk ((by rw [hg]; exact (below_size (by repeat (first | (with_reducible first | exact HB.out | apply below_alloc | apply pw_below_drewN | apply below_drew1) | exact HB.out))) : w.heap.size ≤ gb160)); clear HB; have HB := n0_; have BK160 := n1_; have GW160 := n2_; have GE160 := n3_; clear n0_ n1_ n2_ n3_; clear hb hbox hg; have hcz21_0 : w20.cell? ⟨gb160, 0, none⟩ = some (.int .i64 a0_0) := (blk_cell BK160.out 0).trans rfl; have hcz21_1 : w20.cell? ⟨gb160, 1, none⟩ = some (.int .i64 a0_1) := (blk_cell BK160.out 1).trans rfl; have hcz21_2 : w20.cell? ⟨gb160, 2, none⟩ = some (.int .i64 a0_2) := (blk_cell BK160.out 2).trans rfl; have hcz21_3 : w20.cell? ⟨gb160, 3, none⟩ = some (.int .i64 a0_3) := (blk_cell BK160.out 3).trans rfl; have hcz21_4 : w20.cell? ⟨gb160, 4, none⟩ = some (.slice A0_4 l0_4.length c0_4) := (blk_cell BK160.out 4).trans rfl; have hcz21_5 : w20.cell? ⟨gb160, 5, none⟩ = some (.slice A0_5 l0_5.length c0_5) := (blk_cell BK160.out 5).trans rfl; have hcz21_6 : w20.cell? ⟨gb160, 6, none⟩ = some (.string a0_6) := (blk_cell BK160.out 6).trans rfl; have hcz21_7 : w20.cell? ⟨gb160, 7, none⟩ = some (.slice A0_7 l0_7.length c0_7) := (blk_cell BK160.out 7).trans rfl; have hfz21_0 := blk_frozen BK160.out 0; have hfz21_1 := blk_frozen BK160.out 1; have hfz21_2 := blk_frozen BK160.out 2; have hfz21_3 := blk_frozen BK160.out 3; have hfz21_4 := blk_frozen BK160.out 4; have hfz21_5 := blk_frozen BK160.out 5; have hfz21_6 := blk_frozen BK160.out 6; have hfz21_7 := blk_frozen BK160.out 7) | ((with_reducible refine gate_callee (f := 14) rfl ?_); refine goesL_ (some 8) rfl rfl Try.func14 (by kernel_rfl) rfl #[.agg #[.int .i64 a0_0, .int .i64 a0_1, .int .i64 a0_2, .int .i64 a0_3, .slice A0_4 l0_4.length c0_4, .slice A0_5 l0_5.length c0_5, .string a0_6, .slice A0_7 l0_7.length c0_7]] rfl (by (try simp only [List.map_toArray, List.map_cons, List.map_nil]); first | done | rfl | (simp only [List.length_drop, List.length_take]; rfl)) ?_; (with_reducible refine (folkmootref16_On.calls k a0_0 a0_1 a0_2 a0_3 _ _ l0_4 _ _ l0_5 a0_6 _ _ l0_7 false _ ?side1 ?side2 ?side3 ?side4 ?side5 ?side6 A3.out).mono ?_); (case side1 => repeat (first | exact (Kd.C_below HR0_4.out HB.out) | (with_reducible refine Kd.C_alloc ?_ _) | (with_reducible refine Kd.C_drewN ?_ _) | (with_reducible refine Kd.C_drew ?_))); (case side2 => exact HC0_4.out); (case side3 => repeat (first | exact (Kd.C_below HR0_5.out HB.out) | (with_reducible refine Kd.C_alloc ?_ _) | (with_reducible refine Kd.C_drewN ?_ _) | (with_reducible refine Kd.C_drew ?_))); (case side4 => exact HC0_5.out); (case side5 => repeat (first | exact (Kd.C_below HR0_7.out HB.out) | (with_reducible refine Kd.C_alloc ?_ _) | (with_reducible refine Kd.C_drewN ?_ _) | (with_reducible refine Kd.C_drew ?_))); (case side6 => exact HC0_7.out); rintro e w22 ⟨rfl, hb⟩; refine ⟨_, rfl, ?_⟩; have n0_ := Aside0.mk (blk_below (g := gb160) (o := .cells #[.int .i64 a0_0, .int .i64 a0_1, .int .i64 a0_2, .int .i64 a0_3, .slice A0_4 l0_4.length c0_4, .slice A0_5 l0_5.length c0_5, .string a0_6, .slice A0_7 l0_7.length c0_7] 30 (0, 0)) (by (with_reducible repeat (first | refine blk_drewN ?_ _ | refine blk_drew ?_ | refine blk_alloc ?_ _)); exact BK160.out) hb); have n1_ := Aside0.mk (below_step (by repeat (first | (with_reducible first | exact HB.out | apply below_alloc | apply pw_below_drewN | apply below_drew1 | refine below_set ?_ GE160.out) | exact HB.out)) hb); clear BK160; clear HB; have BK160 := n0_; have HB := n1_; clear n0_ n1_; (try clear hb); (try clear hb2); (try clear hk); (try clear hi)))
    go_ret2
    exact ⟨by first | rfl | (simp [errW_none, errW_some] <;> rfl) | (simp [*, errW_none, errW_some] <;> rfl), by repeat (first | (with_reducible first | exact HB.out | apply below_alloc | apply pw_below_drewN | apply below_drew1 | refine below_set ?_ GE160.out) | exact HB.out)⟩

end Go.Proofs.Ytbjhjimkljbjlaa.PA
