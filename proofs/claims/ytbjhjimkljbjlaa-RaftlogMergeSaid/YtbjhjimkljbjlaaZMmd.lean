/- Texts put together: PAx24, PAx25, PAx27, PAx28, PAx29, HLawSlice. -/
import Derived.Test.YtbjhjimkljbjlaaZMma
import Derived.Test.YtbjhjimkljbjlaaZMmc
import Derived.Test.YtbjhjimkljbjlaaZMmb
-- WRITTEN BY hookprint.py (a program of this session, over the kit's print.py): not typed by hand
namespace Go.Proofs.Ytbjhjimkljbjlaa.PA
open Go.RowKit Go.Proofs.YtbjhjimkljbjlaaW.PrintWords Go.Proofs.YtbjhjimkljbjlaaW.PrintLast Go.Proofs.YtbjhjimkljbjlaaW.PrintMore
attribute [local go_sem] max2_int min2_int max_two min_two max_three min_three max_four min_four   -- for this text's walks alone
set_option linter.unusedVariables false
set_option linter.unusedSimpArgs false

/-! ### folkmootref15_Entries: function 35 -/
def folkmootref15_Entries.f (k : Nat) (a0_0 : Int) (a0_1 : Int) (a0_2 : Int) (l0_3 : List Int) (l0_4 : List Int) (a0_5 : ByteArray) (a1_0 : Int) (a1_1 : Int) (a1_2 : Int) (l1_3 : List Int) (l1_4 : List Int) (a1_5 : ByteArray) : Option (Bool) := if a0_0 = a1_0 then (if a0_1 = a1_1 then (if a0_2 = a1_2 then (if a0_5.toList = a1_5.toList then ((folkmootref15_Configs.f k l0_3 l0_4 l1_3 l1_4).bind fun t355 => (some t355)) else (some false)) else (some false)) else (some false)) else (some false)
set_option maxHeartbeats 8000000 in
set_option maxRecDepth 100000 in
theorem folkmootref15_Entries.calls (k : Nat) (a0_0 : Int) (a0_1 : Int) (a0_2 : Int) (A0_3 : Option Addr) (c0_3 : Nat) (l0_3 : List Int) (A0_4 : Option Addr) (c0_4 : Nat) (l0_4 : List Int) (a0_5 : ByteArray) (a1_0 : Int) (a1_1 : Int) (a1_2 : Int) (A1_3 : Option Addr) (c1_3 : Nat) (l1_3 : List Int) (A1_4 : Option Addr) (c1_4 : Nat) (l1_4 : List Int) (a1_5 : ByteArray) (r : Bool) (w : World) (hr0_3 : Kd.C (Kd.int .i64) w A0_3 l0_3.length l0_3) (hc0_3 : l0_3.length ≤ c0_3) (hr0_4 : Kd.C (Kd.int .i64) w A0_4 l0_4.length l0_4) (hc0_4 : l0_4.length ≤ c0_4) (hr1_3 : Kd.C (Kd.int .i64) w A1_3 l1_3.length l1_3) (hc1_3 : l1_3.length ≤ c1_3) (hr1_4 : Kd.C (Kd.int .i64) w A1_4 l1_4.length l1_4) (hc1_4 : l1_4.length ≤ c1_4) (h : folkmootref15_Entries.f k a0_0 a0_1 a0_2 l0_3 l0_4 a0_5 a1_0 a1_1 a1_2 l1_3 l1_4 a1_5 = some r) :
    Calls Try.prog 35 #[.agg #[.int .i64 a0_0, .int .i64 a0_1, .int .i64 a0_2, .slice A0_3 l0_3.length c0_3, .slice A0_4 l0_4.length c0_4, .string a0_5], .agg #[.int .i64 a1_0, .int .i64 a1_1, .int .i64 a1_2, .slice A1_3 l1_3.length c1_3, .slice A1_4 l1_4.length c1_4, .string a1_5]] w fun e w' => e = .returned (.bool r) ∧ Below w.heap.size w w' := by
  have hu54 := Try.underlying54
  have hu25 := Try.underlying25
  have HR0_3 := Aside0.mk hr0_3
  have HC0_3 := Aside0.mk hc0_3
  clear hr0_3 hc0_3
  have HR0_4 := Aside0.mk hr0_4
  have HC0_4 := Aside0.mk hc0_4
  clear hr0_4 hc0_4
  have HR1_3 := Aside0.mk hr1_3
  have HC1_3 := Aside0.mk hc1_3
  clear hr1_3 hc1_3
  have HR1_4 := Aside0.mk hr1_4
  have HC1_4 := Aside0.mk hc1_4
  clear hr1_4 hc1_4
  have HB := Aside0.mk (Below.refl w.heap.size w)
  have H : (if a0_0 = a1_0 then (if a0_1 = a1_1 then (if a0_2 = a1_2 then (if a0_5.toList = a1_5.toList then ((folkmootref15_Configs.f k l0_3 l0_4 l1_3 l1_4).bind fun t355 => (some t355)) else (some false)) else (some false)) else (some false)) else (some false)) = some r := h
  clear h
  by_cases c3 : a0_0 = a1_0
  · rw [if_pos c3] at H
    have c3b0 : (a0_0 == a1_0) = true := beq_iff_eq.mpr c3
    have c3b1 : (a0_0 != a1_0) = false := bne_eq_false_iff_eq.mpr c3
    clear c3
    by_cases c4 : a0_1 = a1_1
    · rw [if_pos c4] at H
      have c4b0 : (a0_1 == a1_1) = true := beq_iff_eq.mpr c4
      have c4b1 : (a0_1 != a1_1) = false := bne_eq_false_iff_eq.mpr c4
      clear c4
      by_cases c5 : a0_2 = a1_2
      · rw [if_pos c5] at H
        have c5b0 : (a0_2 == a1_2) = true := beq_iff_eq.mpr c5
        have c5b1 : (a0_2 != a1_2) = false := bne_eq_false_iff_eq.mpr c5
        clear c5
        by_cases c6 : a0_5.toList = a1_5.toList
        · rw [if_pos c6] at H
          have c6b0 : (a0_5.toList == a1_5.toList) = true := beq_iff_eq.mpr c6
          have c6b1 : (a0_5.toList != a1_5.toList) = false := bne_eq_false_iff_eq.mpr c6
          clear c6
          replace H := Option.bind_eq_some_iff.mp H
          obtain ⟨t355, A70, H⟩ := H
          replace H : (some t355) = some r := H
          have A7 := Aside0.mk A70
          clear A70
          obtain rfl := Option.some.inj H
          go_enter Try.func35, Try.ntmps35
          go_wp2_with (first | ((with_reducible refine gate_dst (N := 2) rfl ?_); refine box_event ?hg (N := 2) ?hd (cs := #[.int .i64 a0_0, .int .i64 a0_1, .int .i64 a0_2, .slice A0_3 l0_3.length c0_3, .slice A0_4 l0_4.length c0_4, .string a0_5]) (t := 54) ?hr ?_; (case hd => rfl); (case hg => rfl); (case hr => first | (go_simp; done) | (go_simp; rfl)); intro gb353 hg w8 hbox hb; have n0_ := Aside0.mk (below_step (by repeat (first | (with_reducible first | exact HB.out | apply below_alloc | apply pw_below_drewN | apply below_drew1) | exact HB.out)) hb); have n1_ := Aside0.mk (hbox); have n2_ := Aside0.mk ((by rw [hg]; exact (below_size (by repeat (first | (with_reducible first | exact HB.out | apply below_alloc | apply pw_below_drewN | apply below_drew1) | exact HB.out))) : w.heap.size ≤ gb353)); have n3_ := Aside0.mk ((by rw [hg]; exact (below_size (by repeat (first | (with_reducible first | exact HB.out | apply below_alloc | apply pw_below_drewN | apply below_drew1) | exact HB.out))) : w.heap.size ≤ gb353)); clear HB; have HB := n0_; have BK353 := n1_; have GW353 := n2_; have GE353 := n3_; clear n0_ n1_ n2_ n3_; clear hb hbox hg) | ((with_reducible refine gate_dst (N := 3) rfl ?_); refine box_event ?hg (N := 3) ?hd (cs := #[.int .i64 a1_0, .int .i64 a1_1, .int .i64 a1_2, .slice A1_3 l1_3.length c1_3, .slice A1_4 l1_4.length c1_4, .string a1_5]) (t := 54) ?hr ?_; (case hd => rfl); (case hg => rfl); (case hr => first | (go_simp; done) | (go_simp; rfl)); intro gb354 hg w9 hbox hb; have n0_ := Aside0.mk (blk_below (g := gb353) (o := .cells #[.int .i64 a0_0, .int .i64 a0_1, .int .i64 a0_2, .slice A0_3 l0_3.length c0_3, .slice A0_4 l0_4.length c0_4, .string a0_5] 54 (0, 0)) (by (with_reducible repeat (first | refine blk_drewN ?_ _ | refine blk_drew ?_ | refine blk_alloc ?_ _)); exact BK353.out) hb); have n1_ := Aside0.mk (below_step (by repeat (first | (with_reducible first | exact HB.out | apply below_alloc | apply pw_below_drewN | apply below_drew1 | refine below_set ?_ GE353.out) | exact HB.out)) hb); have n2_ := Aside0.mk (hbox); have n3_ := Aside0.mk ((by rw [hg]; exact (below_size (by repeat (first | (with_reducible first | exact HB.out | apply below_alloc | apply pw_below_drewN | apply below_drew1 | refine below_set ?_ GE353.out) | exact HB.out))) : w.heap.size ≤ gb354)); have n4_ := Aside0.mk ((by rw [hg]; exact (below_size (by repeat (first | (with_reducible first | exact HB.out | apply below_alloc | apply pw_below_drewN | apply below_drew1 | refine below_set ?_ GE353.out) | exact HB.out))) : w.heap.size ≤ gb354)); have n5_ := Aside0.mk ((by rw [hg]; exact Nat.ne_of_lt (blk_lt (g := gb353) (o := .cells #[.int .i64 a0_0, .int .i64 a0_1, .int .i64 a0_2, .slice A0_3 l0_3.length c0_3, .slice A0_4 l0_4.length c0_4, .string a0_5] 54 (0, 0)) (by (with_reducible repeat (first | refine blk_drewN ?_ _ | refine blk_drew ?_ | refine blk_alloc ?_ _)); exact BK353.out)) : gb353 ≠ gb354)); have n6_ := Aside0.mk ((by rw [hg]; exact Nat.ne_of_gt (blk_lt (g := gb353) (o := .cells #[.int .i64 a0_0, .int .i64 a0_1, .int .i64 a0_2, .slice A0_3 l0_3.length c0_3, .slice A0_4 l0_4.length c0_4, .string a0_5] 54 (0, 0)) (by (with_reducible repeat (first | refine blk_drewN ?_ _ | refine blk_drew ?_ | refine blk_alloc ?_ _)); exact BK353.out)) : gb354 ≠ gb353)); clear BK353; clear HB; have BK353 := n0_; have HB := n1_; have BK354 := n2_; have GW354 := n3_; have GE354 := n4_; have NB353_354 := n5_; have NB354_353 := n6_; clear n0_ n1_ n2_ n3_ n4_ n5_ n6_; clear hb hbox hg; have hnb10 := NB353_354.out; have hnc10 := NB354_353.out; have hcz11_0 : w9.cell? ⟨gb353, 0, none⟩ = some (.int .i64 a0_0) := (blk_cell BK353.out 0).trans rfl; have hcz11_1 : w9.cell? ⟨gb353, 1, none⟩ = some (.int .i64 a0_1) := (blk_cell BK353.out 1).trans rfl; have hcz11_2 : w9.cell? ⟨gb353, 2, none⟩ = some (.int .i64 a0_2) := (blk_cell BK353.out 2).trans rfl; have hcz11_3 : w9.cell? ⟨gb353, 3, none⟩ = some (.slice A0_3 l0_3.length c0_3) := (blk_cell BK353.out 3).trans rfl; have hcz11_4 : w9.cell? ⟨gb353, 4, none⟩ = some (.slice A0_4 l0_4.length c0_4) := (blk_cell BK353.out 4).trans rfl; have hcz11_5 : w9.cell? ⟨gb353, 5, none⟩ = some (.string a0_5) := (blk_cell BK353.out 5).trans rfl; have hfz11_0 := blk_frozen BK353.out 0; have hfz11_1 := blk_frozen BK353.out 1; have hfz11_2 := blk_frozen BK353.out 2; have hfz11_3 := blk_frozen BK353.out 3; have hfz11_4 := blk_frozen BK353.out 4; have hfz11_5 := blk_frozen BK353.out 5; have hcz12_0 : w9.cell? ⟨gb354, 0, none⟩ = some (.int .i64 a1_0) := (blk_cell BK354.out 0).trans rfl; have hcz12_1 : w9.cell? ⟨gb354, 1, none⟩ = some (.int .i64 a1_1) := (blk_cell BK354.out 1).trans rfl; have hcz12_2 : w9.cell? ⟨gb354, 2, none⟩ = some (.int .i64 a1_2) := (blk_cell BK354.out 2).trans rfl; have hcz12_3 : w9.cell? ⟨gb354, 3, none⟩ = some (.slice A1_3 l1_3.length c1_3) := (blk_cell BK354.out 3).trans rfl; have hcz12_4 : w9.cell? ⟨gb354, 4, none⟩ = some (.slice A1_4 l1_4.length c1_4) := (blk_cell BK354.out 4).trans rfl; have hcz12_5 : w9.cell? ⟨gb354, 5, none⟩ = some (.string a1_5) := (blk_cell BK354.out 5).trans rfl; have hfz12_0 := blk_frozen BK354.out 0; have hfz12_1 := blk_frozen BK354.out 1; have hfz12_2 := blk_frozen BK354.out 2; have hfz12_3 := blk_frozen BK354.out 3; have hfz12_4 := blk_frozen BK354.out 4; have hfz12_5 := blk_frozen BK354.out 5) | (go_at_call 49; (with_reducible refine (folkmootref15_Configs.calls k _ _ l0_3 _ _ l0_4 _ _ l1_3 _ _ l1_4 t355 _ ?side1 ?side2 ?side3 ?side4 ?side5 ?side6 ?side7 ?side8 A7.out).mono ?_); (case side1 => repeat (first | exact (Kd.C_below HR0_3.out HB.out) | (with_reducible refine Kd.C_alloc ?_ _) | (with_reducible refine Kd.C_drewN ?_ _) | (with_reducible refine Kd.C_drew ?_))); (case side2 => exact HC0_3.out); (case side3 => repeat (first | exact (Kd.C_below HR0_4.out HB.out) | (with_reducible refine Kd.C_alloc ?_ _) | (with_reducible refine Kd.C_drewN ?_ _) | (with_reducible refine Kd.C_drew ?_))); (case side4 => exact HC0_4.out); (case side5 => repeat (first | exact (Kd.C_below HR1_3.out HB.out) | (with_reducible refine Kd.C_alloc ?_ _) | (with_reducible refine Kd.C_drewN ?_ _) | (with_reducible refine Kd.C_drew ?_))); (case side6 => exact HC1_3.out); (case side7 => repeat (first | exact (Kd.C_below HR1_4.out HB.out) | (with_reducible refine Kd.C_alloc ?_ _) | (with_reducible refine Kd.C_drewN ?_ _) | (with_reducible refine Kd.C_drew ?_))); (case side8 => exact HC1_4.out); rintro e w13 ⟨rfl, hb⟩; have n0_ := Aside0.mk (blk_below (g := gb353) (o := .cells #[.int .i64 a0_0, .int .i64 a0_1, .int .i64 a0_2, .slice A0_3 l0_3.length c0_3, .slice A0_4 l0_4.length c0_4, .string a0_5] 54 (0, 0)) (by (with_reducible repeat (first | refine blk_drewN ?_ _ | refine blk_drew ?_ | refine blk_alloc ?_ _)); exact BK353.out) hb); have n1_ := Aside0.mk (blk_below (g := gb354) (o := .cells #[.int .i64 a1_0, .int .i64 a1_1, .int .i64 a1_2, .slice A1_3 l1_3.length c1_3, .slice A1_4 l1_4.length c1_4, .string a1_5] 54 (0, 0)) (by (with_reducible repeat (first | refine blk_drewN ?_ _ | refine blk_drew ?_ | refine blk_alloc ?_ _)); exact BK354.out) hb); have n2_ := Aside0.mk (below_step (by repeat (first | (with_reducible first | exact HB.out | apply below_alloc | apply pw_below_drewN | apply below_drew1 | refine below_set ?_ GE353.out | refine below_set ?_ GE354.out) | exact HB.out)) hb); clear BK353; clear BK354; clear HB; have BK353 := n0_; have BK354 := n1_; have HB := n2_; clear n0_ n1_ n2_; (try clear hb); (try clear hb2); (try clear hk); (try clear hi)))
          go_ret
          exact ⟨by first | rfl | (simp [errW_none, errW_some] <;> rfl) | (simp [*, errW_none, errW_some] <;> rfl), by repeat (first | (with_reducible first | exact HB.out | apply below_alloc | apply pw_below_drewN | apply below_drew1 | refine below_set ?_ GE353.out | refine below_set ?_ GE354.out) | exact HB.out)⟩
        · rw [if_neg c6] at H
          have c6b0 : (a0_5.toList == a1_5.toList) = false := beq_eq_false_iff_ne.mpr c6
          have c6b1 : (a0_5.toList != a1_5.toList) = true := bne_iff_ne.mpr c6
          obtain rfl := Option.some.inj H
          go_enter Try.func35, Try.ntmps35
          go_wp2_with (first | ((with_reducible refine gate_dst (N := 2) rfl ?_); refine box_event ?hg (N := 2) ?hd (cs := #[.int .i64 a0_0, .int .i64 a0_1, .int .i64 a0_2, .slice A0_3 l0_3.length c0_3, .slice A0_4 l0_4.length c0_4, .string a0_5]) (t := 54) ?hr ?_; (case hd => rfl); (case hg => rfl); (case hr => first | (go_simp; done) | (go_simp; rfl)); intro gb353 hg w14 hbox hb; have n0_ := Aside0.mk (below_step (by repeat (first | (with_reducible first | exact HB.out | apply below_alloc | apply pw_below_drewN | apply below_drew1) | exact HB.out)) hb); have n1_ := Aside0.mk (hbox); have n2_ := Aside0.mk ((by rw [hg]; exact (below_size (by repeat (first | (with_reducible first | exact HB.out | apply below_alloc | apply pw_below_drewN | apply below_drew1) | exact HB.out))) : w.heap.size ≤ gb353)); have n3_ := Aside0.mk ((by rw [hg]; exact (below_size (by repeat (first | (with_reducible first | exact HB.out | apply below_alloc | apply pw_below_drewN | apply below_drew1) | exact HB.out))) : w.heap.size ≤ gb353)); clear HB; have HB := n0_; have BK353 := n1_; have GW353 := n2_; have GE353 := n3_; clear n0_ n1_ n2_ n3_; clear hb hbox hg) | ((with_reducible refine gate_dst (N := 3) rfl ?_); refine box_event ?hg (N := 3) ?hd (cs := #[.int .i64 a1_0, .int .i64 a1_1, .int .i64 a1_2, .slice A1_3 l1_3.length c1_3, .slice A1_4 l1_4.length c1_4, .string a1_5]) (t := 54) ?hr ?_; (case hd => rfl); (case hg => rfl); (case hr => first | (go_simp; done) | (go_simp; rfl)); intro gb354 hg w15 hbox hb; have n0_ := Aside0.mk (blk_below (g := gb353) (o := .cells #[.int .i64 a0_0, .int .i64 a0_1, .int .i64 a0_2, .slice A0_3 l0_3.length c0_3, .slice A0_4 l0_4.length c0_4, .string a0_5] 54 (0, 0)) (by (with_reducible repeat (first | refine blk_drewN ?_ _ | refine blk_drew ?_ | refine blk_alloc ?_ _)); exact BK353.out) hb); have n1_ := Aside0.mk (below_step (by repeat (first | (with_reducible first | exact HB.out | apply below_alloc | apply pw_below_drewN | apply below_drew1 | refine below_set ?_ GE353.out) | exact HB.out)) hb); have n2_ := Aside0.mk (hbox); have n3_ := Aside0.mk ((by rw [hg]; exact (below_size (by repeat (first | (with_reducible first | exact HB.out | apply below_alloc | apply pw_below_drewN | apply below_drew1 | refine below_set ?_ GE353.out) | exact HB.out))) : w.heap.size ≤ gb354)); have n4_ := Aside0.mk ((by rw [hg]; exact (below_size (by repeat (first | (with_reducible first | exact HB.out | apply below_alloc | apply pw_below_drewN | apply below_drew1 | refine below_set ?_ GE353.out) | exact HB.out))) : w.heap.size ≤ gb354)); have n5_ := Aside0.mk ((by rw [hg]; exact Nat.ne_of_lt (blk_lt (g := gb353) (o := .cells #[.int .i64 a0_0, .int .i64 a0_1, .int .i64 a0_2, .slice A0_3 l0_3.length c0_3, .slice A0_4 l0_4.length c0_4, .string a0_5] 54 (0, 0)) (by (with_reducible repeat (first | refine blk_drewN ?_ _ | refine blk_drew ?_ | refine blk_alloc ?_ _)); exact BK353.out)) : gb353 ≠ gb354)); have n6_ := Aside0.mk ((by rw [hg]; exact Nat.ne_of_gt (blk_lt (g := gb353) (o := .cells #[.int .i64 a0_0, .int .i64 a0_1, .int .i64 a0_2, .slice A0_3 l0_3.length c0_3, .slice A0_4 l0_4.length c0_4, .string a0_5] 54 (0, 0)) (by (with_reducible repeat (first | refine blk_drewN ?_ _ | refine blk_drew ?_ | refine blk_alloc ?_ _)); exact BK353.out)) : gb354 ≠ gb353)); clear BK353; clear HB; have BK353 := n0_; have HB := n1_; have BK354 := n2_; have GW354 := n3_; have GE354 := n4_; have NB353_354 := n5_; have NB354_353 := n6_; clear n0_ n1_ n2_ n3_ n4_ n5_ n6_; clear hb hbox hg; have hnb16 := NB353_354.out; have hnc16 := NB354_353.out; have hcz17_0 : w15.cell? ⟨gb353, 0, none⟩ = some (.int .i64 a0_0) := (blk_cell BK353.out 0).trans rfl; have hcz17_1 : w15.cell? ⟨gb353, 1, none⟩ = some (.int .i64 a0_1) := (blk_cell BK353.out 1).trans rfl; have hcz17_2 : w15.cell? ⟨gb353, 2, none⟩ = some (.int .i64 a0_2) := (blk_cell BK353.out 2).trans rfl; have hcz17_3 : w15.cell? ⟨gb353, 3, none⟩ = some (.slice A0_3 l0_3.length c0_3) := (blk_cell BK353.out 3).trans rfl; have hcz17_4 : w15.cell? ⟨gb353, 4, none⟩ = some (.slice A0_4 l0_4.length c0_4) := (blk_cell BK353.out 4).trans rfl; have hcz17_5 : w15.cell? ⟨gb353, 5, none⟩ = some (.string a0_5) := (blk_cell BK353.out 5).trans rfl; have hfz17_0 := blk_frozen BK353.out 0; have hfz17_1 := blk_frozen BK353.out 1; have hfz17_2 := blk_frozen BK353.out 2; have hfz17_3 := blk_frozen BK353.out 3; have hfz17_4 := blk_frozen BK353.out 4; have hfz17_5 := blk_frozen BK353.out 5; have hcz18_0 : w15.cell? ⟨gb354, 0, none⟩ = some (.int .i64 a1_0) := (blk_cell BK354.out 0).trans rfl; have hcz18_1 : w15.cell? ⟨gb354, 1, none⟩ = some (.int .i64 a1_1) := (blk_cell BK354.out 1).trans rfl; have hcz18_2 : w15.cell? ⟨gb354, 2, none⟩ = some (.int .i64 a1_2) := (blk_cell BK354.out 2).trans rfl; have hcz18_3 : w15.cell? ⟨gb354, 3, none⟩ = some (.slice A1_3 l1_3.length c1_3) := (blk_cell BK354.out 3).trans rfl; have hcz18_4 : w15.cell? ⟨gb354, 4, none⟩ = some (.slice A1_4 l1_4.length c1_4) := (blk_cell BK354.out 4).trans rfl; have hcz18_5 : w15.cell? ⟨gb354, 5, none⟩ = some (.string a1_5) := (blk_cell BK354.out 5).trans rfl; have hfz18_0 := blk_frozen BK354.out 0; have hfz18_1 := blk_frozen BK354.out 1; have hfz18_2 := blk_frozen BK354.out 2; have hfz18_3 := blk_frozen BK354.out 3; have hfz18_4 := blk_frozen BK354.out 4; have hfz18_5 := blk_frozen BK354.out 5))
          go_ret
          exact ⟨by first | rfl | (simp [errW_none, errW_some] <;> rfl) | (simp [*, errW_none, errW_some] <;> rfl), by repeat (first | (with_reducible first | exact HB.out | apply below_alloc | apply pw_below_drewN | apply below_drew1 | refine below_set ?_ GE353.out | refine below_set ?_ GE354.out) | exact HB.out)⟩
      · rw [if_neg c5] at H
        have c5b0 : (a0_2 == a1_2) = false := beq_eq_false_iff_ne.mpr c5
        have c5b1 : (a0_2 != a1_2) = true := bne_iff_ne.mpr c5
        obtain rfl := Option.some.inj H
        go_enter Try.func35, Try.ntmps35
        go_wp2_with (first | ((with_reducible refine gate_dst (N := 2) rfl ?_); refine box_event ?hg (N := 2) ?hd (cs := #[.int .i64 a0_0, .int .i64 a0_1, .int .i64 a0_2, .slice A0_3 l0_3.length c0_3, .slice A0_4 l0_4.length c0_4, .string a0_5]) (t := 54) ?hr ?_; (case hd => rfl); (case hg => rfl); (case hr => first | (go_simp; done) | (go_simp; rfl)); intro gb353 hg w19 hbox hb; have n0_ := Aside0.mk (below_step (by repeat (first | (with_reducible first | exact HB.out | apply below_alloc | apply pw_below_drewN | apply below_drew1) | exact HB.out)) hb); have n1_ := Aside0.mk (hbox); have n2_ := Aside0.mk ((by rw [hg]; exact (below_size (by repeat (first | (with_reducible first | exact HB.out | apply below_alloc | apply pw_below_drewN | apply below_drew1) | exact HB.out))) : w.heap.size ≤ gb353)); have n3_ := Aside0.mk ((by rw [hg]; exact (below_size (by repeat (first | (with_reducible first | exact HB.out | apply below_alloc | apply pw_below_drewN | apply below_drew1) | exact HB.out))) : w.heap.size ≤ gb353)); clear HB; have HB := n0_; have BK353 := n1_; have GW353 := n2_; have GE353 := n3_; clear n0_ n1_ n2_ n3_; clear hb hbox hg) | ((with_reducible refine gate_dst (N := 3) rfl ?_); refine box_event ?hg (N := 3) ?hd (cs := #[.int .i64 a1_0, .int .i64 a1_1, .int .i64 a1_2, .slice A1_3 l1_3.length c1_3, .slice A1_4 l1_4.length c1_4, .string a1_5]) (t := 54) ?hr ?_; (case hd => rfl); (case hg => rfl); (case hr => first | (go_simp; done) | (go_simp; rfl)); intro gb354 hg w20 hbox hb; have n0_ := Aside0.mk (blk_below (g := gb353) (o := .cells #[.int .i64 a0_0, .int .i64 a0_1, .int .i64 a0_2, .slice A0_3 l0_3.length c0_3, .slice A0_4 l0_4.length c0_4, .string a0_5] 54 (0, 0)) (by (with_reducible repeat (first | refine blk_drewN ?_ _ | refine blk_drew ?_ | refine blk_alloc ?_ _)); exact BK353.out) hb); have n1_ := Aside0.mk (below_step (by repeat (first | (with_reducible first | exact HB.out | apply below_alloc | apply pw_below_drewN | apply below_drew1 | refine below_set ?_ GE353.out) | exact HB.out)) hb); have n2_ := Aside0.mk (hbox); have n3_ := Aside0.mk ((by rw [hg]; exact (below_size (by repeat (first | (with_reducible first | exact HB.out | apply below_alloc | apply pw_below_drewN | apply below_drew1 | refine below_set ?_ GE353.out) | exact HB.out))) : w.heap.size ≤ gb354)); have n4_ := Aside0.mk ((by rw [hg]; exact (below_size (by repeat (first | (with_reducible first | exact HB.out | apply below_alloc | apply pw_below_drewN | apply below_drew1 | refine below_set ?_ GE353.out) | exact HB.out))) : w.heap.size ≤ gb354)); have n5_ := Aside0.mk ((by rw [hg]; exact Nat.ne_of_lt (blk_lt (g := gb353) (o := .cells #[.int .i64 a0_0, .int .i64 a0_1, .int .i64 a0_2, .slice A0_3 l0_3.length c0_3, .slice A0_4 l0_4.length c0_4, .string a0_5] 54 (0, 0)) (by (with_reducible repeat (first | refine blk_drewN ?_ _ | refine blk_drew ?_ | refine blk_alloc ?_ _)); exact BK353.out)) : gb353 ≠ gb354)); have n6_ := Aside0.mk ((by rw [hg]; exact Nat.ne_of_gt (blk_lt (g := gb353) (o := .cells #[.int .i64 a0_0, .int .i64 a0_1, .int .i64 a0_2, .slice A0_3 l0_3.length c0_3, .slice A0_4 l0_4.length c0_4, .string a0_5] 54 (0, 0)) (by (with_reducible repeat (first | refine blk_drewN ?_ _ | refine blk_drew ?_ | refine blk_alloc ?_ _)); exact BK353.out)) : gb354 ≠ gb353)); clear BK353; clear HB; have BK353 := n0_; have HB := n1_; have BK354 := n2_; have GW354 := n3_; have GE354 := n4_; have NB353_354 := n5_; have NB354_353 := n6_; clear n0_ n1_ n2_ n3_ n4_ n5_ n6_; clear hb hbox hg; have hnb21 := NB353_354.out; have hnc21 := NB354_353.out; have hcz22_0 : w20.cell? ⟨gb353, 0, none⟩ = some (.int .i64 a0_0) := (blk_cell BK353.out 0).trans rfl; have hcz22_1 : w20.cell? ⟨gb353, 1, none⟩ = some (.int .i64 a0_1) := (blk_cell BK353.out 1).trans rfl; have hcz22_2 : w20.cell? ⟨gb353, 2, none⟩ = some (.int .i64 a0_2) := (blk_cell BK353.out 2).trans rfl; have hcz22_3 : w20.cell? ⟨gb353, 3, none⟩ = some (.slice A0_3 l0_3.length c0_3) := (blk_cell BK353.out 3).trans rfl; have hcz22_4 : w20.cell? ⟨gb353, 4, none⟩ = some (.slice A0_4 l0_4.length c0_4) := (blk_cell BK353.out 4).trans rfl; have hcz22_5 : w20.cell? ⟨gb353, 5, none⟩ = some (.string a0_5) := (blk_cell BK353.out 5).trans rfl; have hfz22_0 := blk_frozen BK353.out 0; have hfz22_1 := blk_frozen BK353.out 1; have hfz22_2 := blk_frozen BK353.out 2; have hfz22_3 := blk_frozen BK353.out 3; have hfz22_4 := blk_frozen BK353.out 4; have hfz22_5 := blk_frozen BK353.out 5; have hcz23_0 : w20.cell? ⟨gb354, 0, none⟩ = some (.int .i64 a1_0) := (blk_cell BK354.out 0).trans rfl; have hcz23_1 : w20.cell? ⟨gb354, 1, none⟩ = some (.int .i64 a1_1) := (blk_cell BK354.out 1).trans rfl; have hcz23_2 : w20.cell? ⟨gb354, 2, none⟩ = some (.int .i64 a1_2) := (blk_cell BK354.out 2).trans rfl; have hcz23_3 : w20.cell? ⟨gb354, 3, none⟩ = some (.slice A1_3 l1_3.length c1_3) := (blk_cell BK354.out 3).trans rfl; have hcz23_4 : w20.cell? ⟨gb354, 4, none⟩ = some (.slice A1_4 l1_4.length c1_4) := (blk_cell BK354.out 4).trans rfl; have hcz23_5 : w20.cell? ⟨gb354, 5, none⟩ = some (.string a1_5) := (blk_cell BK354.out 5).trans rfl; have hfz23_0 := blk_frozen BK354.out 0; have hfz23_1 := blk_frozen BK354.out 1; have hfz23_2 := blk_frozen BK354.out 2; have hfz23_3 := blk_frozen BK354.out 3; have hfz23_4 := blk_frozen BK354.out 4; have hfz23_5 := blk_frozen BK354.out 5))
        go_ret
        exact ⟨by first | rfl | (simp [errW_none, errW_some] <;> rfl) | (simp [*, errW_none, errW_some] <;> rfl), by repeat (first | (with_reducible first | exact HB.out | apply below_alloc | apply pw_below_drewN | apply below_drew1 | refine below_set ?_ GE353.out | refine below_set ?_ GE354.out) | exact HB.out)⟩
    · rw [if_neg c4] at H
      have c4b0 : (a0_1 == a1_1) = false := beq_eq_false_iff_ne.mpr c4
      have c4b1 : (a0_1 != a1_1) = true := bne_iff_ne.mpr c4
      obtain rfl := Option.some.inj H
      go_enter Try.func35, Try.ntmps35
      go_wp2_with (first | ((with_reducible refine gate_dst (N := 2) rfl ?_); refine box_event ?hg (N := 2) ?hd (cs := #[.int .i64 a0_0, .int .i64 a0_1, .int .i64 a0_2, .slice A0_3 l0_3.length c0_3, .slice A0_4 l0_4.length c0_4, .string a0_5]) (t := 54) ?hr ?_; (case hd => rfl); (case hg => rfl); (case hr => first | (go_simp; done) | (go_simp; rfl)); intro gb353 hg w24 hbox hb; have n0_ := Aside0.mk (below_step (by repeat (first | (with_reducible first | exact HB.out | apply below_alloc | apply pw_below_drewN | apply below_drew1) | exact HB.out)) hb); have n1_ := Aside0.mk (hbox); have n2_ := Aside0.mk ((by rw [hg]; exact (below_size (by repeat (first | (with_reducible first | exact HB.out | apply below_alloc | apply pw_below_drewN | apply below_drew1) | exact HB.out))) : w.heap.size ≤ gb353)); have n3_ := Aside0.mk ((by rw [hg]; exact (below_size (by repeat (first | (with_reducible first | exact HB.out | apply below_alloc | apply pw_below_drewN | apply below_drew1) | exact HB.out))) : w.heap.size ≤ gb353)); clear HB; have HB := n0_; have BK353 := n1_; have GW353 := n2_; have GE353 := n3_; clear n0_ n1_ n2_ n3_; clear hb hbox hg) | ((with_reducible refine gate_dst (N := 3) rfl ?_); refine box_event ?hg (N := 3) ?hd (cs := #[.int .i64 a1_0, .int .i64 a1_1, .int .i64 a1_2, .slice A1_3 l1_3.length c1_3, .slice A1_4 l1_4.length c1_4, .string a1_5]) (t := 54) ?hr ?_; (case hd => rfl); (case hg => rfl); (case hr => first | (go_simp; done) | (go_simp; rfl)); intro gb354 hg w25 hbox hb; have n0_ := Aside0.mk (blk_below (g := gb353) (o := .cells #[.int .i64 a0_0, .int .i64 a0_1, .int .i64 a0_2, .slice A0_3 l0_3.length c0_3, .slice A0_4 l0_4.length c0_4, .string a0_5] 54 (0, 0)) (by (with_reducible repeat (first | refine blk_drewN ?_ _ | refine blk_drew ?_ | refine blk_alloc ?_ _)); exact BK353.out) hb); have n1_ := Aside0.mk (below_step (by repeat (first | (with_reducible first | exact HB.out | apply below_alloc | apply pw_below_drewN | apply below_drew1 | refine below_set ?_ GE353.out) | exact HB.out)) hb); have n2_ := Aside0.mk (hbox); have n3_ := Aside0.mk ((by rw [hg]; exact (below_size (by repeat (first | (with_reducible first | exact HB.out | apply below_alloc | apply pw_below_drewN | apply below_drew1 | refine below_set ?_ GE353.out) | exact HB.out))) : w.heap.size ≤ gb354)); have n4_ := Aside0.mk ((by rw [hg]; exact (below_size (by repeat (first | (with_reducible first | exact HB.out | apply below_alloc | apply pw_below_drewN | apply below_drew1 | refine below_set ?_ GE353.out) | exact HB.out))) : w.heap.size ≤ gb354)); have n5_ := Aside0.mk ((by rw [hg]; exact Nat.ne_of_lt (blk_lt (g := gb353) (o := .cells #[.int .i64 a0_0, .int .i64 a0_1, .int .i64 a0_2, .slice A0_3 l0_3.length c0_3, .slice A0_4 l0_4.length c0_4, .string a0_5] 54 (0, 0)) (by (with_reducible repeat (first | refine blk_drewN ?_ _ | refine blk_drew ?_ | refine blk_alloc ?_ _)); exact BK353.out)) : gb353 ≠ gb354)); have n6_ := Aside0.mk ((by rw [hg]; exact Nat.ne_of_gt (blk_lt (g := gb353) (o := .cells #[.int .i64 a0_0, .int .i64 a0_1, .int .i64 a0_2, .slice A0_3 l0_3.length c0_3, .slice A0_4 l0_4.length c0_4, .string a0_5] 54 (0, 0)) (by (with_reducible repeat (first | refine blk_drewN ?_ _ | refine blk_drew ?_ | refine blk_alloc ?_ _)); exact BK353.out)) : gb354 ≠ gb353)); clear BK353; clear HB; have BK353 := n0_; have HB := n1_; have BK354 := n2_; have GW354 := n3_; have GE354 := n4_; have NB353_354 := n5_; have NB354_353 := n6_; clear n0_ n1_ n2_ n3_ n4_ n5_ n6_; clear hb hbox hg; have hnb26 := NB353_354.out; have hnc26 := NB354_353.out; have hcz27_0 : w25.cell? ⟨gb353, 0, none⟩ = some (.int .i64 a0_0) := (blk_cell BK353.out 0).trans rfl; have hcz27_1 : w25.cell? ⟨gb353, 1, none⟩ = some (.int .i64 a0_1) := (blk_cell BK353.out 1).trans rfl; have hcz27_2 : w25.cell? ⟨gb353, 2, none⟩ = some (.int .i64 a0_2) := (blk_cell BK353.out 2).trans rfl; have hcz27_3 : w25.cell? ⟨gb353, 3, none⟩ = some (.slice A0_3 l0_3.length c0_3) := (blk_cell BK353.out 3).trans rfl; have hcz27_4 : w25.cell? ⟨gb353, 4, none⟩ = some (.slice A0_4 l0_4.length c0_4) := (blk_cell BK353.out 4).trans rfl; have hcz27_5 : w25.cell? ⟨gb353, 5, none⟩ = some (.string a0_5) := (blk_cell BK353.out 5).trans rfl; have hfz27_0 := blk_frozen BK353.out 0; have hfz27_1 := blk_frozen BK353.out 1; have hfz27_2 := blk_frozen BK353.out 2; have hfz27_3 := blk_frozen BK353.out 3; have hfz27_4 := blk_frozen BK353.out 4; have hfz27_5 := blk_frozen BK353.out 5; have hcz28_0 : w25.cell? ⟨gb354, 0, none⟩ = some (.int .i64 a1_0) := (blk_cell BK354.out 0).trans rfl; have hcz28_1 : w25.cell? ⟨gb354, 1, none⟩ = some (.int .i64 a1_1) := (blk_cell BK354.out 1).trans rfl; have hcz28_2 : w25.cell? ⟨gb354, 2, none⟩ = some (.int .i64 a1_2) := (blk_cell BK354.out 2).trans rfl; have hcz28_3 : w25.cell? ⟨gb354, 3, none⟩ = some (.slice A1_3 l1_3.length c1_3) := (blk_cell BK354.out 3).trans rfl; have hcz28_4 : w25.cell? ⟨gb354, 4, none⟩ = some (.slice A1_4 l1_4.length c1_4) := (blk_cell BK354.out 4).trans rfl; have hcz28_5 : w25.cell? ⟨gb354, 5, none⟩ = some (.string a1_5) := (blk_cell BK354.out 5).trans rfl; have hfz28_0 := blk_frozen BK354.out 0; have hfz28_1 := blk_frozen BK354.out 1; have hfz28_2 := blk_frozen BK354.out 2; have hfz28_3 := blk_frozen BK354.out 3; have hfz28_4 := blk_frozen BK354.out 4; have hfz28_5 := blk_frozen BK354.out 5))
      go_ret
      exact ⟨by first | rfl | (simp [errW_none, errW_some] <;> rfl) | (simp [*, errW_none, errW_some] <;> rfl), by repeat (first | (with_reducible first | exact HB.out | apply below_alloc | apply pw_below_drewN | apply below_drew1 | refine below_set ?_ GE353.out | refine below_set ?_ GE354.out) | exact HB.out)⟩
  · rw [if_neg c3] at H
    have c3b0 : (a0_0 == a1_0) = false := beq_eq_false_iff_ne.mpr c3
    have c3b1 : (a0_0 != a1_0) = true := bne_iff_ne.mpr c3
    obtain rfl := Option.some.inj H
    go_enter Try.func35, Try.ntmps35
    go_wp2_with (first | ((with_reducible refine gate_dst (N := 2) rfl ?_); refine box_event ?hg (N := 2) ?hd (cs := #[.int .i64 a0_0, .int .i64 a0_1, .int .i64 a0_2, .slice A0_3 l0_3.length c0_3, .slice A0_4 l0_4.length c0_4, .string a0_5]) (t := 54) ?hr ?_; (case hd => rfl); (case hg => rfl); (case hr => first | (go_simp; done) | (go_simp; rfl)); intro gb353 hg w29 hbox hb; have n0_ := Aside0.mk (below_step (by repeat (first | (with_reducible first | exact HB.out | apply below_alloc | apply pw_below_drewN | apply below_drew1) | exact HB.out)) hb); have n1_ := Aside0.mk (hbox); have n2_ := Aside0.mk ((by rw [hg]; exact (below_size (by repeat (first | (with_reducible first | exact HB.out | apply below_alloc | apply pw_below_drewN | apply below_drew1) | exact HB.out))) : w.heap.size ≤ gb353)); have n3_ := Aside0.mk ((by rw [hg]; exact (below_size (by repeat (first | (with_reducible first | exact HB.out | apply below_alloc | apply pw_below_drewN | apply below_drew1) | exact HB.out))) : w.heap.size ≤ gb353)); clear HB; have HB := n0_; have BK353 := n1_; have GW353 := n2_; have GE353 := n3_; clear n0_ n1_ n2_ n3_; clear hb hbox hg) | ((with_reducible refine gate_dst (N := 3) rfl ?_); refine box_event ?hg (N := 3) ?hd (cs := #[.int .i64 a1_0, .int .i64 a1_1, .int .i64 a1_2, .slice A1_3 l1_3.length c1_3, .slice A1_4 l1_4.length c1_4, .string a1_5]) (t := 54) ?hr ?_; (case hd => rfl); (case hg => rfl); (case hr => first | (go_simp; done) | (go_simp; rfl)); intro gb354 hg w30 hbox hb; have n0_ := Aside0.mk (blk_below (g := gb353) (o := .cells #[.int .i64 a0_0, .int .i64 a0_1, .int .i64 a0_2, .slice A0_3 l0_3.length c0_3, .slice A0_4 l0_4.length c0_4, .string a0_5] 54 (0, 0)) (by (with_reducible repeat (first | refine blk_drewN ?_ _ | refine blk_drew ?_ | refine blk_alloc ?_ _)); exact BK353.out) hb); have n1_ := Aside0.mk (below_step (by repeat (first | (with_reducible first | exact HB.out | apply below_alloc | apply pw_below_drewN | apply below_drew1 | refine below_set ?_ GE353.out) | exact HB.out)) hb); have n2_ := Aside0.mk (hbox); have n3_ := Aside0.mk ((by rw [hg]; exact (below_size (by repeat (first | (with_reducible first | exact HB.out | apply below_alloc | apply pw_below_drewN | apply below_drew1 | refine below_set ?_ GE353.out) | exact HB.out))) : w.heap.size ≤ gb354)); have n4_ := Aside0.mk ((by rw [hg]; exact (below_size (by repeat (first | (with_reducible first | exact HB.out | apply below_alloc | apply pw_below_drewN | apply below_drew1 | refine below_set ?_ GE353.out) | exact HB.out))) : w.heap.size ≤ gb354)); have n5_ := Aside0.mk ((by rw [hg]; exact Nat.ne_of_lt (blk_lt (g := gb353) (o := .cells #[.int .i64 a0_0, .int .i64 a0_1, .int .i64 a0_2, .slice A0_3 l0_3.length c0_3, .slice A0_4 l0_4.length c0_4, .string a0_5] 54 (0, 0)) (by (with_reducible repeat (first | refine blk_drewN ?_ _ | refine blk_drew ?_ | refine blk_alloc ?_ _)); exact BK353.out)) : gb353 ≠ gb354)); have n6_ := Aside0.mk ((by rw [hg]; exact Nat.ne_of_gt (blk_lt (g := gb353) (o := .cells #[.int .i64 a0_0, .int .i64 a0_1, .int .i64 a0_2, .slice A0_3 l0_3.length c0_3, .slice A0_4 l0_4.length c0_4, .string a0_5] 54 (0, 0)) (by (with_reducible repeat (first | refine blk_drewN ?_ _ | refine blk_drew ?_ | refine blk_alloc ?_ _)); exact BK353.out)) : gb354 ≠ gb353)); clear BK353; clear HB; have BK353 := n0_; have HB := n1_; have BK354 := n2_; have GW354 := n3_; have GE354 := n4_; have NB353_354 := n5_; have NB354_353 := n6_; clear n0_ n1_ n2_ n3_ n4_ n5_ n6_; clear hb hbox hg; have hnb31 := NB353_354.out; have hnc31 := NB354_353.out; have hcz32_0 : w30.cell? ⟨gb353, 0, none⟩ = some (.int .i64 a0_0) := (blk_cell BK353.out 0).trans rfl; have hcz32_1 : w30.cell? ⟨gb353, 1, none⟩ = some (.int .i64 a0_1) := (blk_cell BK353.out 1).trans rfl; have hcz32_2 : w30.cell? ⟨gb353, 2, none⟩ = some (.int .i64 a0_2) := (blk_cell BK353.out 2).trans rfl; have hcz32_3 : w30.cell? ⟨gb353, 3, none⟩ = some (.slice A0_3 l0_3.length c0_3) := (blk_cell BK353.out 3).trans rfl; have hcz32_4 : w30.cell? ⟨gb353, 4, none⟩ = some (.slice A0_4 l0_4.length c0_4) := (blk_cell BK353.out 4).trans rfl; have hcz32_5 : w30.cell? ⟨gb353, 5, none⟩ = some (.string a0_5) := (blk_cell BK353.out 5).trans rfl; have hfz32_0 := blk_frozen BK353.out 0; have hfz32_1 := blk_frozen BK353.out 1; have hfz32_2 := blk_frozen BK353.out 2; have hfz32_3 := blk_frozen BK353.out 3; have hfz32_4 := blk_frozen BK353.out 4; have hfz32_5 := blk_frozen BK353.out 5; have hcz33_0 : w30.cell? ⟨gb354, 0, none⟩ = some (.int .i64 a1_0) := (blk_cell BK354.out 0).trans rfl; have hcz33_1 : w30.cell? ⟨gb354, 1, none⟩ = some (.int .i64 a1_1) := (blk_cell BK354.out 1).trans rfl; have hcz33_2 : w30.cell? ⟨gb354, 2, none⟩ = some (.int .i64 a1_2) := (blk_cell BK354.out 2).trans rfl; have hcz33_3 : w30.cell? ⟨gb354, 3, none⟩ = some (.slice A1_3 l1_3.length c1_3) := (blk_cell BK354.out 3).trans rfl; have hcz33_4 : w30.cell? ⟨gb354, 4, none⟩ = some (.slice A1_4 l1_4.length c1_4) := (blk_cell BK354.out 4).trans rfl; have hcz33_5 : w30.cell? ⟨gb354, 5, none⟩ = some (.string a1_5) := (blk_cell BK354.out 5).trans rfl; have hfz33_0 := blk_frozen BK354.out 0; have hfz33_1 := blk_frozen BK354.out 1; have hfz33_2 := blk_frozen BK354.out 2; have hfz33_3 := blk_frozen BK354.out 3; have hfz33_4 := blk_frozen BK354.out 4; have hfz33_5 := blk_frozen BK354.out 5))
    go_ret
    exact ⟨by first | rfl | (simp [errW_none, errW_some] <;> rfl) | (simp [*, errW_none, errW_some] <;> rfl), by repeat (first | (with_reducible first | exact HB.out | apply below_alloc | apply pw_below_drewN | apply below_drew1 | refine below_set ?_ GE353.out | refine below_set ?_ GE354.out) | exact HB.out)⟩

end Go.Proofs.Ytbjhjimkljbjlaa.PA
-- WRITTEN BY hookprint.py (a program of this session, over the kit's print.py): not typed by hand
namespace Go.Proofs.Ytbjhjimkljbjlaa.PA
open Go.RowKit Go.Proofs.YtbjhjimkljbjlaaW.PrintWords Go.Proofs.YtbjhjimkljbjlaaW.PrintLast Go.Proofs.YtbjhjimkljbjlaaW.PrintMore
attribute [local go_sem] max2_int min2_int max_two min_two max_three min_three max_four min_four   -- for this text's walks alone
set_option linter.unusedVariables false
set_option linter.unusedSimpArgs false

/-! ### folkmootref16_Rows: function 24 -/
def folkmootref16_Rows.l0 : Nat → List (S54) → List (S54) → Int → Option (Bool)
  | 0, _, _, _ => none
  | k + 1, x0, x1, x5 => if x5 < (x0.length : Int) then (if 0 ≤ x5 then (if x5 < (x1.length : Int) then ((folkmootref15_Entries.f k ((rd_T54 x0 x5).f0) ((rd_T54 x0 x5).f1) ((rd_T54 x0 x5).f2) ((rd_T54 x0 x5).f3.f0) ((rd_T54 x0 x5).f3.f1) ((rd_T54 x0 x5).f4) ((rd_T54 x1 x5).f0) ((rd_T54 x1 x5).f1) ((rd_T54 x1 x5).f2) ((rd_T54 x1 x5).f3.f0) ((rd_T54 x1 x5).f3.f1) ((rd_T54 x1 x5).f4)).bind fun t358 => (if t358 = true then (folkmootref16_Rows.l0 k x0 x1 (wrap64 (x5 + 1))) else (some false))) else (none)) else (none)) else (some true)
def folkmootref16_Rows.f (k : Nat) (l0 : List (S54)) (l1 : List (S54)) : Option (Bool) := if (l0.length : Int) = (l1.length : Int) then (folkmootref16_Rows.l0 k l0 l1 0) else (some false)
def folkmootref16_Rows.T6 : Bool × List (List Nat × List Nat) := (true, [([], []), ([], []), ([0, 1], [0, 1]), ([2], [2]), ([], []), ([], []), ([4, 5], [4, 5]), ([6], [6]), ([3, 7], [3, 7]), ([8], [8])])
def folkmootref16_Rows.B6 : List Nat := [0, 0, 3, 7, 0, 0, 48, 112, 255, 511]
theorem folkmootref16_Rows.tab6 : rtab .any (opsOf Try.f24 6) = folkmootref16_Rows.T6 := by kernel_rfl
theorem folkmootref16_Rows.bits6 : waitsOk folkmootref16_Rows.T6.2 folkmootref16_Rows.B6 = true := by kernel_rfl
set_option maxHeartbeats 8000000 in
set_option maxRecDepth 100000 in
theorem folkmootref16_Rows.calls (k : Nat) (A0 : Option Addr) (c0 : Nat) (l0 : List (S54)) (A1 : Option Addr) (c1 : Nat) (l1 : List (S54)) (r : Bool) (w : World) (hr0 : Kd.C k54 w A0 l0.length l0) (hc0 : l0.length ≤ c0) (hr1 : Kd.C k54 w A1 l1.length l1) (hc1 : l1.length ≤ c1) (h : folkmootref16_Rows.f k l0 l1 = some r) :
    Calls Try.prog 24 #[.slice A0 l0.length c0, .slice A1 l1.length c1] w fun e w' => e = .returned (.bool r) ∧ Below w.heap.size w w' := by
  have hu54 := Try.underlying54
  have HR0 := Aside0.mk hr0
  have HC0 := Aside0.mk hc0
  clear hr0 hc0
  have HR1 := Aside0.mk hr1
  have HC1 := Aside0.mk hc1
  clear hr1 hc1
  have HB := Aside0.mk (Below.refl w.heap.size w)
  have H : (if (l0.length : Int) = (l1.length : Int) then (folkmootref16_Rows.l0 k l0 l1 0) else (some false)) = some r := h
  clear h
  by_cases c3 : (l0.length : Int) = (l1.length : Int)
  · rw [if_pos c3] at H
    have c3b0 : ((l0.length : Int) == (l1.length : Int)) = true := beq_iff_eq.mpr c3
    have c3b1 : ((l0.length : Int) != (l1.length : Int)) = false := bne_eq_false_iff_eq.mpr c3
    have c3b2 : (l0.length == l1.length) = true := by first | simpa using c3 | (simp at c3 ⊢; omega)
    clear c3
    have H' := Aside0.mk H
    clear H
    go_enter Try.func24, Try.ntmps24
    go_wp2
    go_loopg [5] k (fun kq v5 w' => ∃ (x5_1 : Int), v5 = .int .i64 x5_1 ∧ Aside0 (folkmootref16_Rows.l0 kq l0 l1 x5_1 = some r) ∧ Aside0 (kq ≤ k) ∧ Aside0 (Below w.heap.size w w'))
    case atStart => exact ⟨(0), (by first | rfl | (simp; done) | (simp [*]; done)), H', ⟨Nat.le_refl _⟩, ⟨by repeat (first | (with_reducible first | exact HB.out | apply below_alloc | apply pw_below_drewN | apply below_drew1) | exact HB.out)⟩⟩
    case round =>
      clear H'
      try clear c1
      try clear c2
      try clear p2
      try clear c3
      try clear c3b0
      try clear c3b1
      try clear c3b2
      obtain ⟨x5_1, rfl, HA, HK1, HB⟩ := hrel
      cases gk with
      | zero => exact absurd HA.out (by simp [folkmootref16_Rows.l0])
      | succ k1 =>
        have H := HA.out
        clear HA
        simp only [folkmootref16_Rows.l0] at H
        by_cases c4 : x5_1 < (l0.length : Int)
        · rw [if_pos c4] at H
          have c4b0 : decide (x5_1 < (l0.length : Int)) = true := decide_eq_true c4
          clear c4
          by_cases c5 : 0 ≤ x5_1
          · rw [if_pos c5] at H
            have c5b0 : decide (0 ≤ x5_1) = true := decide_eq_true c5
            clear c5
            by_cases c6 : x5_1 < (l1.length : Int)
            · rw [if_pos c6] at H
              have c6b0 : decide (x5_1 < (l1.length : Int)) = true := decide_eq_true c6
              clear c6
              replace H := Option.bind_eq_some_iff.mp H
              obtain ⟨t358, A70, H⟩ := H
              replace H : (if t358 = true then (folkmootref16_Rows.l0 k1 l0 l1 (wrap64 (x5_1 + 1))) else (some false)) = some r := H
              have A7 := Aside0.mk A70
              clear A70
              by_cases c8 : t358 = true
              · subst c8
                have H1 : (folkmootref16_Rows.l0 k1 l0 l1 (wrap64 (x5_1 + 1))) = some r := by rw [if_pos rfl] at H; exact H
                clear H
                have H := H1
                clear H1
                have H' := Aside0.mk H
                clear H
                try go_wp2
                have n0_ := Aside0.mk (below_drew1 HB.out)
                clear HB
                have HB := n0_
                clear n0_
                have p356 : 0 ≤ (x5_1 : Int) := of_decide_eq_true (by first | (with_reducible assumption) | assumption)
                have q356 : x5_1 < (l0.length : Int) := of_decide_eq_true (by first | (with_reducible assumption) | assumption)
                obtain ⟨ad356, A356_3, c356_3, A356_4, c356_4, e356, hx356_0, hx356_1, hx356_2, hx356_3, hx356_4, hx356_5, hl356_3, hi356_3, hl356_4, hi356_4⟩ := at_T54 HR0.out x5_1 p356 q356
                have hw356_5 := hx356_5
                have hw356_4 := hx356_4
                have hw356_3 := hx356_3
                have hw356_2 := hx356_2
                have hw356_1 := hx356_1
                have hw356_0 := hx356_0
                cases e356
                replace hx356_0 := (HB.out.cell (World.block_lt_of_cell? w _ hx356_0)).trans hx356_0
                replace hx356_1 := (HB.out.cell (World.block_lt_of_cell? w _ hx356_1)).trans hx356_1
                replace hx356_2 := (HB.out.cell (World.block_lt_of_cell? w _ hx356_2)).trans hx356_2
                replace hx356_3 := (HB.out.cell (World.block_lt_of_cell? w _ hx356_3)).trans hx356_3
                replace hx356_4 := (HB.out.cell (World.block_lt_of_cell? w _ hx356_4)).trans hx356_4
                replace hx356_5 := (HB.out.cell (World.block_lt_of_cell? w _ hx356_5)).trans hx356_5
                have HR356_3 := Aside0.mk hi356_3
                have HC356_3 := Aside0.mk hl356_3
                clear hi356_3 hl356_3
                have HR356_4 := Aside0.mk hi356_4
                have HC356_4 := Aside0.mk hl356_4
                clear hi356_4 hl356_4
                replace p356 := eq_true p356
                replace q356 := eq_true q356
                have p357 : 0 ≤ (x5_1 : Int) := of_decide_eq_true (by first | (with_reducible assumption) | assumption)
                have q357 : x5_1 < (l1.length : Int) := of_decide_eq_true (by first | (with_reducible assumption) | assumption)
                obtain ⟨ad357, A357_3, c357_3, A357_4, c357_4, e357, hx357_0, hx357_1, hx357_2, hx357_3, hx357_4, hx357_5, hl357_3, hi357_3, hl357_4, hi357_4⟩ := at_T54 HR1.out x5_1 p357 q357
                have hw357_5 := hx357_5
                have hw357_4 := hx357_4
                have hw357_3 := hx357_3
                have hw357_2 := hx357_2
                have hw357_1 := hx357_1
                have hw357_0 := hx357_0
                cases e357
                replace hx357_0 := (HB.out.cell (World.block_lt_of_cell? w _ hx357_0)).trans hx357_0
                replace hx357_1 := (HB.out.cell (World.block_lt_of_cell? w _ hx357_1)).trans hx357_1
                replace hx357_2 := (HB.out.cell (World.block_lt_of_cell? w _ hx357_2)).trans hx357_2
                replace hx357_3 := (HB.out.cell (World.block_lt_of_cell? w _ hx357_3)).trans hx357_3
                replace hx357_4 := (HB.out.cell (World.block_lt_of_cell? w _ hx357_4)).trans hx357_4
                replace hx357_5 := (HB.out.cell (World.block_lt_of_cell? w _ hx357_5)).trans hx357_5
                have HR357_3 := Aside0.mk hi357_3
                have HC357_3 := Aside0.mk hl357_3
                clear hi357_3 hl357_3
                have HR357_4 := Aside0.mk hi357_4
                have HC357_4 := Aside0.mk hl357_4
                clear hi357_4 hl357_4
                replace p357 := eq_true p357
                replace q357 := eq_true q357
                refine start_ (n := 10) (S := fun w' => w'.cell? (ad356.add ((x5_1).toNat * 6)) = some (.int .i64 ((rd_T54 l0 x5_1).f0)) ∧ w'.cell? ⟨(ad356.add ((x5_1).toNat * 6)).block, (ad356.add ((x5_1).toNat * 6)).off + 1, none⟩ = some (.int .i64 ((rd_T54 l0 x5_1).f1)) ∧ w'.cell? ⟨(ad356.add ((x5_1).toNat * 6)).block, (ad356.add ((x5_1).toNat * 6)).off + 2, none⟩ = some (.int .i64 ((rd_T54 l0 x5_1).f2)) ∧ w'.cell? ⟨(ad356.add ((x5_1).toNat * 6)).block, (ad356.add ((x5_1).toNat * 6)).off + 3, none⟩ = some (.slice A356_3 ((rd_T54 l0 x5_1).f3.f0).length c356_3) ∧ w'.cell? ⟨(ad356.add ((x5_1).toNat * 6)).block, (ad356.add ((x5_1).toNat * 6)).off + 4, none⟩ = some (.slice A356_4 ((rd_T54 l0 x5_1).f3.f1).length c356_4) ∧ w'.cell? ⟨(ad356.add ((x5_1).toNat * 6)).block, (ad356.add ((x5_1).toNat * 6)).off + 5, none⟩ = some (.string ((rd_T54 l0 x5_1).f4)) ∧ w'.cell? (ad357.add ((x5_1).toNat * 6)) = some (.int .i64 ((rd_T54 l1 x5_1).f0)) ∧ w'.cell? ⟨(ad357.add ((x5_1).toNat * 6)).block, (ad357.add ((x5_1).toNat * 6)).off + 1, none⟩ = some (.int .i64 ((rd_T54 l1 x5_1).f1)) ∧ w'.cell? ⟨(ad357.add ((x5_1).toNat * 6)).block, (ad357.add ((x5_1).toNat * 6)).off + 2, none⟩ = some (.int .i64 ((rd_T54 l1 x5_1).f2)) ∧ w'.cell? ⟨(ad357.add ((x5_1).toNat * 6)).block, (ad357.add ((x5_1).toNat * 6)).off + 3, none⟩ = some (.slice A357_3 ((rd_T54 l1 x5_1).f3.f0).length c357_3) ∧ w'.cell? ⟨(ad357.add ((x5_1).toNat * 6)).block, (ad357.add ((x5_1).toNat * 6)).off + 4, none⟩ = some (.slice A357_4 ((rd_T54 l1 x5_1).f3.f1).length c357_4) ∧ w'.cell? ⟨(ad357.add ((x5_1).toNat * 6)).block, (ad357.add ((x5_1).toNat * 6)).off + 5, none⟩ = some (.string ((rd_T54 l1 x5_1).f4))) (ds := []) #[false, false, false, false, false, false, false, false, false, false] (by kernel_rfl) rfl rfl ⟨((HB.out.cell (World.block_lt_of_cell? w _ hw356_0)).trans hw356_0), ((HB.out.cell (World.block_lt_of_cell? w _ hw356_1)).trans hw356_1), ((HB.out.cell (World.block_lt_of_cell? w _ hw356_2)).trans hw356_2), ((HB.out.cell (World.block_lt_of_cell? w _ hw356_3)).trans hw356_3), ((HB.out.cell (World.block_lt_of_cell? w _ hw356_4)).trans hw356_4), ((HB.out.cell (World.block_lt_of_cell? w _ hw356_5)).trans hw356_5), ((HB.out.cell (World.block_lt_of_cell? w _ hw357_0)).trans hw357_0), ((HB.out.cell (World.block_lt_of_cell? w _ hw357_1)).trans hw357_1), ((HB.out.cell (World.block_lt_of_cell? w _ hw357_2)).trans hw357_2), ((HB.out.cell (World.block_lt_of_cell? w _ hw357_3)).trans hw357_3), ((HB.out.cell (World.block_lt_of_cell? w _ hw357_4)).trans hw357_4), ((HB.out.cell (World.block_lt_of_cell? w _ hw357_5)).trans hw357_5)⟩ (fun hHeld => ?_); refine with_tabW folkmootref16_Rows.tab6 folkmootref16_Rows.bits6 (fun HT_ HW_ => ?_)
                generalize wr.drew = w9 at HB HR356_3 HR356_4 HR357_3 HR357_4 hx356_0 hx356_1 hx356_2 hx356_3 hx356_4 hx356_5 hx357_0 hx357_1 hx357_2 hx357_3 hx357_4 hx357_5 hHeld ⊢
                refine pure_ (i := 0) (N := some 17) (v := ?_) (a' := ?_) #[true, false, false, false, false, false, false, false, false, false] rfl rfl (any_of HT_.out (by kernel_rfl)) (fun _ _ _ h => h) (Or.inl ⟨by rfl, ?_⟩) ?_ ?_
                rotate_left
                · intro w'
                  go_simp
                  with_reducible rfl
                rotate_left
                · simp only [Act.put, List.setIfInBounds_toArray, List.set_cons_zero, List.set_cons_succ, i64_w, i32_w]
                  rfl
                refine pure_ (i := 1) (N := some 18) (v := ?_) (a' := ?_) #[true, true, false, false, false, false, false, false, false, false] rfl rfl (any_of HT_.out (by kernel_rfl)) (fun _ _ _ h => h) (Or.inl ⟨by rfl, ?_⟩) ?_ ?_
                rotate_left
                · intro w'
                  go_simp
                  with_reducible rfl
                rotate_left
                · simp only [Act.put, List.setIfInBounds_toArray, List.set_cons_zero, List.set_cons_succ, i64_w, i32_w]
                  rfl
                refine pure_ (i := 2) (N := some 19) (v := ?_) (a' := ?_) #[true, true, true, false, false, false, false, false, false, false] rfl rfl (any_of HT_.out (by kernel_rfl)) (fun _ _ _ h => h) (Or.inl ⟨by rfl, ?_⟩) ?_ ?_
                rotate_left
                · intro w'
                  go_simp
                  with_reducible rfl
                rotate_left
                · simp only [Act.put, List.setIfInBounds_toArray, List.set_cons_zero, List.set_cons_succ, i64_w, i32_w]
                  rfl
                refine pure_ (i := 4) (N := some 21) (v := ?_) (a' := ?_) #[true, true, true, false, true, false, false, false, false, false] rfl rfl (any_of HT_.out (by kernel_rfl)) (fun _ _ _ h => h) (Or.inl ⟨by rfl, ?_⟩) ?_ ?_
                rotate_left
                · intro w'
                  go_simp
                  with_reducible rfl
                rotate_left
                · simp only [Act.put, List.setIfInBounds_toArray, List.set_cons_zero, List.set_cons_succ, i64_w, i32_w]
                  rfl
                refine pure_ (i := 5) (N := some 22) (v := ?_) (a' := ?_) #[true, true, true, false, true, true, false, false, false, false] rfl rfl (any_of HT_.out (by kernel_rfl)) (fun _ _ _ h => h) (Or.inl ⟨by rfl, ?_⟩) ?_ ?_
                rotate_left
                · intro w'
                  go_simp
                  with_reducible rfl
                rotate_left
                · simp only [Act.put, List.setIfInBounds_toArray, List.set_cons_zero, List.set_cons_succ, i64_w, i32_w]
                  rfl
                refine pure_ (i := 6) (N := some 23) (v := ?_) (a' := ?_) #[true, true, true, false, true, true, true, false, false, false] rfl rfl (any_of HT_.out (by kernel_rfl)) (fun _ _ _ h => h) (Or.inl ⟨by rfl, ?_⟩) ?_ ?_
                rotate_left
                · intro w'
                  go_simp
                  with_reducible rfl
                rotate_left
                · simp only [Act.put, List.setIfInBounds_toArray, List.set_cons_zero, List.set_cons_succ, i64_w, i32_w]
                  rfl
                refine take_ (i := 3) (N := some 20) (v := ?_) (a' := ?_) #[true, true, true, true, true, true, true, false, false, false] rfl rfl (take_ofW HT_.out HW_.out (by kernel_rfl)) (fun _ _ _ h => h) (Or.inl ⟨by rfl, ?_⟩) hHeld ?_ ?_
                rotate_left
                · rintro w' ⟨s0, s1, s2, s3, s4, s5, s6, s7, s8, s9, s10, s11⟩
                  go_simp
                  with_reducible rfl
                rotate_left
                · simp only [Act.put, List.setIfInBounds_toArray, List.set_cons_zero, List.set_cons_succ, i64_w, i32_w]
                  rfl
                refine take_ (i := 7) (N := some 24) (v := ?_) (a' := ?_) #[true, true, true, true, true, true, true, true, false, false] rfl rfl (take_ofW HT_.out HW_.out (by kernel_rfl)) (fun _ _ _ h => h) (Or.inl ⟨by rfl, ?_⟩) hHeld ?_ ?_
                rotate_left
                · rintro w' ⟨s0, s1, s2, s3, s4, s5, s6, s7, s8, s9, s10, s11⟩
                  go_simp
                  with_reducible rfl
                rotate_left
                · simp only [Act.put, List.setIfInBounds_toArray, List.set_cons_zero, List.set_cons_succ, i64_w, i32_w]
                  rfl
                refine one_ (i := 8) (N := some 25) #[true, true, true, true, true, true, true, true, true, false] rfl rfl (one_of HT_.out (by kernel_rfl)) (by decide) (fun K hK => ?_)
                refine goes_ Try.func35 (by kernel_rfl) rfl #[.agg #[.int .i64 ((rd_T54 l0 x5_1).f0), .int .i64 ((rd_T54 l0 x5_1).f1), .int .i64 ((rd_T54 l0 x5_1).f2), .slice A356_3 ((rd_T54 l0 x5_1).f3.f0).length c356_3, .slice A356_4 ((rd_T54 l0 x5_1).f3.f1).length c356_4, .string ((rd_T54 l0 x5_1).f4)], .agg #[.int .i64 ((rd_T54 l1 x5_1).f0), .int .i64 ((rd_T54 l1 x5_1).f1), .int .i64 ((rd_T54 l1 x5_1).f2), .slice A357_3 ((rd_T54 l1 x5_1).f3.f0).length c357_3, .slice A357_4 ((rd_T54 l1 x5_1).f3.f1).length c357_4, .string ((rd_T54 l1 x5_1).f4)]] (by rfl) rfl rfl (by (try simp only [List.map_toArray, List.map_cons, List.map_nil]); first | done | rfl | (simp only [List.length_drop, List.length_take]; rfl)) ?_
                with_reducible refine (folkmootref15_Entries.calls k1 ((rd_T54 l0 x5_1).f0) ((rd_T54 l0 x5_1).f1) ((rd_T54 l0 x5_1).f2) _ _ ((rd_T54 l0 x5_1).f3.f0) _ _ ((rd_T54 l0 x5_1).f3.f1) ((rd_T54 l0 x5_1).f4) ((rd_T54 l1 x5_1).f0) ((rd_T54 l1 x5_1).f1) ((rd_T54 l1 x5_1).f2) _ _ ((rd_T54 l1 x5_1).f3.f0) _ _ ((rd_T54 l1 x5_1).f3.f1) ((rd_T54 l1 x5_1).f4) true _ ?side1 ?side2 ?side3 ?side4 ?side5 ?side6 ?side7 ?side8 A7.out).mono ?_
                (case side1 => repeat (first | exact (Kd.C_below HR356_3.out HB.out) | (with_reducible refine Kd.C_alloc ?_ _) | (with_reducible refine Kd.C_drewN ?_ _) | (with_reducible refine Kd.C_drew ?_)))
                (case side2 => exact HC356_3.out)
                (case side3 => repeat (first | exact (Kd.C_below HR356_4.out HB.out) | (with_reducible refine Kd.C_alloc ?_ _) | (with_reducible refine Kd.C_drewN ?_ _) | (with_reducible refine Kd.C_drew ?_)))
                (case side4 => exact HC356_4.out)
                (case side5 => repeat (first | exact (Kd.C_below HR357_3.out HB.out) | (with_reducible refine Kd.C_alloc ?_ _) | (with_reducible refine Kd.C_drewN ?_ _) | (with_reducible refine Kd.C_drew ?_)))
                (case side6 => exact HC357_3.out)
                (case side7 => repeat (first | exact (Kd.C_below HR357_4.out HB.out) | (with_reducible refine Kd.C_alloc ?_ _) | (with_reducible refine Kd.C_drewN ?_ _) | (with_reducible refine Kd.C_drew ?_)))
                (case side8 => exact HC357_4.out)
                rintro e w10 ⟨rfl, hb⟩
                refine ⟨_, rfl, ?_⟩
                have n0_ := Aside0.mk (below_step (by repeat (first | (with_reducible first | exact HB.out | apply below_alloc | apply pw_below_drewN | apply below_drew1) | exact HB.out)) hb)
                clear HB
                have HB := n0_
                clear n0_
                (try clear hb)
                (try clear hb2)
                (try clear hk)
                (try clear hi)
                refine hK.out _ _ ⟨((HB.out.cell (World.block_lt_of_cell? w _ hw356_0)).trans hw356_0), ((HB.out.cell (World.block_lt_of_cell? w _ hw356_1)).trans hw356_1), ((HB.out.cell (World.block_lt_of_cell? w _ hw356_2)).trans hw356_2), ((HB.out.cell (World.block_lt_of_cell? w _ hw356_3)).trans hw356_3), ((HB.out.cell (World.block_lt_of_cell? w _ hw356_4)).trans hw356_4), ((HB.out.cell (World.block_lt_of_cell? w _ hw356_5)).trans hw356_5), ((HB.out.cell (World.block_lt_of_cell? w _ hw357_0)).trans hw357_0), ((HB.out.cell (World.block_lt_of_cell? w _ hw357_1)).trans hw357_1), ((HB.out.cell (World.block_lt_of_cell? w _ hw357_2)).trans hw357_2), ((HB.out.cell (World.block_lt_of_cell? w _ hw357_3)).trans hw357_3), ((HB.out.cell (World.block_lt_of_cell? w _ hw357_4)).trans hw357_4), ((HB.out.cell (World.block_lt_of_cell? w _ hw357_5)).trans hw357_5)⟩ (fun hHeld => ?_)
                clear hK K
                refine norm_ (a' := ?_) ?_ ?_
                rotate_left
                · show Act.put _ (some 25) _ = _
                  simp only [Act.put, List.setIfInBounds_toArray, List.set_cons_zero, List.set_cons_succ, i64_w, i32_w]
                  rfl
                refine pure_ (i := 9) (N := some 26) (v := ?_) (a' := ?_) #[true, true, true, true, true, true, true, true, true, true] rfl rfl (any_of HT_.out (by kernel_rfl)) (fun _ _ _ h => h) (Or.inl ⟨by rfl, ?_⟩) ?_ ?_
                rotate_left
                · intro w'
                  go_simp
                  with_reducible rfl
                rotate_left
                · simp only [Act.put, List.setIfInBounds_toArray, List.set_cons_zero, List.set_cons_succ, i64_w, i32_w]
                  rfl
                refine done_ (done_of HT_.out (by kernel_rfl)) ?_
                try go_wp2
                go_roundg k1
                case measure => have := HK1.out; omega
                case rel => exact ⟨(wrap64 (x5_1 + 1)), (by first | rfl | (simp; done) | (simp [*]; done)), H', ⟨by have := HK1.out; omega⟩, ⟨by repeat (first | (with_reducible first | exact HB.out | apply below_alloc | apply pw_below_drewN | apply below_drew1) | exact HB.out)⟩⟩
              · replace c8 := Bool.eq_false_iff.mpr c8
                subst c8
                have H1 : (some false) = some r := by rw [if_neg (show ¬ (false = true) by decide)] at H; exact H
                clear H
                have H := H1
                clear H1
                obtain rfl := Option.some.inj H
                try go_wp2
                have n0_ := Aside0.mk (below_drew1 HB.out)
                clear HB
                have HB := n0_
                clear n0_
                have p356 : 0 ≤ (x5_1 : Int) := of_decide_eq_true (by first | (with_reducible assumption) | assumption)
                have q356 : x5_1 < (l0.length : Int) := of_decide_eq_true (by first | (with_reducible assumption) | assumption)
                obtain ⟨ad356, A356_3, c356_3, A356_4, c356_4, e356, hx356_0, hx356_1, hx356_2, hx356_3, hx356_4, hx356_5, hl356_3, hi356_3, hl356_4, hi356_4⟩ := at_T54 HR0.out x5_1 p356 q356
                have hw356_5 := hx356_5
                have hw356_4 := hx356_4
                have hw356_3 := hx356_3
                have hw356_2 := hx356_2
                have hw356_1 := hx356_1
                have hw356_0 := hx356_0
                cases e356
                replace hx356_0 := (HB.out.cell (World.block_lt_of_cell? w _ hx356_0)).trans hx356_0
                replace hx356_1 := (HB.out.cell (World.block_lt_of_cell? w _ hx356_1)).trans hx356_1
                replace hx356_2 := (HB.out.cell (World.block_lt_of_cell? w _ hx356_2)).trans hx356_2
                replace hx356_3 := (HB.out.cell (World.block_lt_of_cell? w _ hx356_3)).trans hx356_3
                replace hx356_4 := (HB.out.cell (World.block_lt_of_cell? w _ hx356_4)).trans hx356_4
                replace hx356_5 := (HB.out.cell (World.block_lt_of_cell? w _ hx356_5)).trans hx356_5
                have HR356_3 := Aside0.mk hi356_3
                have HC356_3 := Aside0.mk hl356_3
                clear hi356_3 hl356_3
                have HR356_4 := Aside0.mk hi356_4
                have HC356_4 := Aside0.mk hl356_4
                clear hi356_4 hl356_4
                replace p356 := eq_true p356
                replace q356 := eq_true q356
                have p357 : 0 ≤ (x5_1 : Int) := of_decide_eq_true (by first | (with_reducible assumption) | assumption)
                have q357 : x5_1 < (l1.length : Int) := of_decide_eq_true (by first | (with_reducible assumption) | assumption)
                obtain ⟨ad357, A357_3, c357_3, A357_4, c357_4, e357, hx357_0, hx357_1, hx357_2, hx357_3, hx357_4, hx357_5, hl357_3, hi357_3, hl357_4, hi357_4⟩ := at_T54 HR1.out x5_1 p357 q357
                have hw357_5 := hx357_5
                have hw357_4 := hx357_4
                have hw357_3 := hx357_3
                have hw357_2 := hx357_2
                have hw357_1 := hx357_1
                have hw357_0 := hx357_0
                cases e357
                replace hx357_0 := (HB.out.cell (World.block_lt_of_cell? w _ hx357_0)).trans hx357_0
                replace hx357_1 := (HB.out.cell (World.block_lt_of_cell? w _ hx357_1)).trans hx357_1
                replace hx357_2 := (HB.out.cell (World.block_lt_of_cell? w _ hx357_2)).trans hx357_2
                replace hx357_3 := (HB.out.cell (World.block_lt_of_cell? w _ hx357_3)).trans hx357_3
                replace hx357_4 := (HB.out.cell (World.block_lt_of_cell? w _ hx357_4)).trans hx357_4
                replace hx357_5 := (HB.out.cell (World.block_lt_of_cell? w _ hx357_5)).trans hx357_5
                have HR357_3 := Aside0.mk hi357_3
                have HC357_3 := Aside0.mk hl357_3
                clear hi357_3 hl357_3
                have HR357_4 := Aside0.mk hi357_4
                have HC357_4 := Aside0.mk hl357_4
                clear hi357_4 hl357_4
                replace p357 := eq_true p357
                replace q357 := eq_true q357
                refine start_ (n := 10) (S := fun w' => w'.cell? (ad356.add ((x5_1).toNat * 6)) = some (.int .i64 ((rd_T54 l0 x5_1).f0)) ∧ w'.cell? ⟨(ad356.add ((x5_1).toNat * 6)).block, (ad356.add ((x5_1).toNat * 6)).off + 1, none⟩ = some (.int .i64 ((rd_T54 l0 x5_1).f1)) ∧ w'.cell? ⟨(ad356.add ((x5_1).toNat * 6)).block, (ad356.add ((x5_1).toNat * 6)).off + 2, none⟩ = some (.int .i64 ((rd_T54 l0 x5_1).f2)) ∧ w'.cell? ⟨(ad356.add ((x5_1).toNat * 6)).block, (ad356.add ((x5_1).toNat * 6)).off + 3, none⟩ = some (.slice A356_3 ((rd_T54 l0 x5_1).f3.f0).length c356_3) ∧ w'.cell? ⟨(ad356.add ((x5_1).toNat * 6)).block, (ad356.add ((x5_1).toNat * 6)).off + 4, none⟩ = some (.slice A356_4 ((rd_T54 l0 x5_1).f3.f1).length c356_4) ∧ w'.cell? ⟨(ad356.add ((x5_1).toNat * 6)).block, (ad356.add ((x5_1).toNat * 6)).off + 5, none⟩ = some (.string ((rd_T54 l0 x5_1).f4)) ∧ w'.cell? (ad357.add ((x5_1).toNat * 6)) = some (.int .i64 ((rd_T54 l1 x5_1).f0)) ∧ w'.cell? ⟨(ad357.add ((x5_1).toNat * 6)).block, (ad357.add ((x5_1).toNat * 6)).off + 1, none⟩ = some (.int .i64 ((rd_T54 l1 x5_1).f1)) ∧ w'.cell? ⟨(ad357.add ((x5_1).toNat * 6)).block, (ad357.add ((x5_1).toNat * 6)).off + 2, none⟩ = some (.int .i64 ((rd_T54 l1 x5_1).f2)) ∧ w'.cell? ⟨(ad357.add ((x5_1).toNat * 6)).block, (ad357.add ((x5_1).toNat * 6)).off + 3, none⟩ = some (.slice A357_3 ((rd_T54 l1 x5_1).f3.f0).length c357_3) ∧ w'.cell? ⟨(ad357.add ((x5_1).toNat * 6)).block, (ad357.add ((x5_1).toNat * 6)).off + 4, none⟩ = some (.slice A357_4 ((rd_T54 l1 x5_1).f3.f1).length c357_4) ∧ w'.cell? ⟨(ad357.add ((x5_1).toNat * 6)).block, (ad357.add ((x5_1).toNat * 6)).off + 5, none⟩ = some (.string ((rd_T54 l1 x5_1).f4))) (ds := []) #[false, false, false, false, false, false, false, false, false, false] (by kernel_rfl) rfl rfl ⟨((HB.out.cell (World.block_lt_of_cell? w _ hw356_0)).trans hw356_0), ((HB.out.cell (World.block_lt_of_cell? w _ hw356_1)).trans hw356_1), ((HB.out.cell (World.block_lt_of_cell? w _ hw356_2)).trans hw356_2), ((HB.out.cell (World.block_lt_of_cell? w _ hw356_3)).trans hw356_3), ((HB.out.cell (World.block_lt_of_cell? w _ hw356_4)).trans hw356_4), ((HB.out.cell (World.block_lt_of_cell? w _ hw356_5)).trans hw356_5), ((HB.out.cell (World.block_lt_of_cell? w _ hw357_0)).trans hw357_0), ((HB.out.cell (World.block_lt_of_cell? w _ hw357_1)).trans hw357_1), ((HB.out.cell (World.block_lt_of_cell? w _ hw357_2)).trans hw357_2), ((HB.out.cell (World.block_lt_of_cell? w _ hw357_3)).trans hw357_3), ((HB.out.cell (World.block_lt_of_cell? w _ hw357_4)).trans hw357_4), ((HB.out.cell (World.block_lt_of_cell? w _ hw357_5)).trans hw357_5)⟩ (fun hHeld => ?_); refine with_tabW folkmootref16_Rows.tab6 folkmootref16_Rows.bits6 (fun HT_ HW_ => ?_)
                generalize wr.drew = w11 at HB HR356_3 HR356_4 HR357_3 HR357_4 hx356_0 hx356_1 hx356_2 hx356_3 hx356_4 hx356_5 hx357_0 hx357_1 hx357_2 hx357_3 hx357_4 hx357_5 hHeld ⊢
                refine pure_ (i := 0) (N := some 17) (v := ?_) (a' := ?_) #[true, false, false, false, false, false, false, false, false, false] rfl rfl (any_of HT_.out (by kernel_rfl)) (fun _ _ _ h => h) (Or.inl ⟨by rfl, ?_⟩) ?_ ?_
                rotate_left
                · intro w'
                  go_simp
                  with_reducible rfl
                rotate_left
                · simp only [Act.put, List.setIfInBounds_toArray, List.set_cons_zero, List.set_cons_succ, i64_w, i32_w]
                  rfl
                refine pure_ (i := 1) (N := some 18) (v := ?_) (a' := ?_) #[true, true, false, false, false, false, false, false, false, false] rfl rfl (any_of HT_.out (by kernel_rfl)) (fun _ _ _ h => h) (Or.inl ⟨by rfl, ?_⟩) ?_ ?_
                rotate_left
                · intro w'
                  go_simp
                  with_reducible rfl
                rotate_left
                · simp only [Act.put, List.setIfInBounds_toArray, List.set_cons_zero, List.set_cons_succ, i64_w, i32_w]
                  rfl
                refine pure_ (i := 2) (N := some 19) (v := ?_) (a' := ?_) #[true, true, true, false, false, false, false, false, false, false] rfl rfl (any_of HT_.out (by kernel_rfl)) (fun _ _ _ h => h) (Or.inl ⟨by rfl, ?_⟩) ?_ ?_
                rotate_left
                · intro w'
                  go_simp
                  with_reducible rfl
                rotate_left
                · simp only [Act.put, List.setIfInBounds_toArray, List.set_cons_zero, List.set_cons_succ, i64_w, i32_w]
                  rfl
                refine pure_ (i := 4) (N := some 21) (v := ?_) (a' := ?_) #[true, true, true, false, true, false, false, false, false, false] rfl rfl (any_of HT_.out (by kernel_rfl)) (fun _ _ _ h => h) (Or.inl ⟨by rfl, ?_⟩) ?_ ?_
                rotate_left
                · intro w'
                  go_simp
                  with_reducible rfl
                rotate_left
                · simp only [Act.put, List.setIfInBounds_toArray, List.set_cons_zero, List.set_cons_succ, i64_w, i32_w]
                  rfl
                refine pure_ (i := 5) (N := some 22) (v := ?_) (a' := ?_) #[true, true, true, false, true, true, false, false, false, false] rfl rfl (any_of HT_.out (by kernel_rfl)) (fun _ _ _ h => h) (Or.inl ⟨by rfl, ?_⟩) ?_ ?_
                rotate_left
                · intro w'
                  go_simp
                  with_reducible rfl
                rotate_left
                · simp only [Act.put, List.setIfInBounds_toArray, List.set_cons_zero, List.set_cons_succ, i64_w, i32_w]
                  rfl
                refine pure_ (i := 6) (N := some 23) (v := ?_) (a' := ?_) #[true, true, true, false, true, true, true, false, false, false] rfl rfl (any_of HT_.out (by kernel_rfl)) (fun _ _ _ h => h) (Or.inl ⟨by rfl, ?_⟩) ?_ ?_
                rotate_left
                · intro w'
                  go_simp
                  with_reducible rfl
                rotate_left
                · simp only [Act.put, List.setIfInBounds_toArray, List.set_cons_zero, List.set_cons_succ, i64_w, i32_w]
                  rfl
                refine take_ (i := 3) (N := some 20) (v := ?_) (a' := ?_) #[true, true, true, true, true, true, true, false, false, false] rfl rfl (take_ofW HT_.out HW_.out (by kernel_rfl)) (fun _ _ _ h => h) (Or.inl ⟨by rfl, ?_⟩) hHeld ?_ ?_
                rotate_left
                · rintro w' ⟨s0, s1, s2, s3, s4, s5, s6, s7, s8, s9, s10, s11⟩
                  go_simp
                  with_reducible rfl
                rotate_left
                · simp only [Act.put, List.setIfInBounds_toArray, List.set_cons_zero, List.set_cons_succ, i64_w, i32_w]
                  rfl
                refine take_ (i := 7) (N := some 24) (v := ?_) (a' := ?_) #[true, true, true, true, true, true, true, true, false, false] rfl rfl (take_ofW HT_.out HW_.out (by kernel_rfl)) (fun _ _ _ h => h) (Or.inl ⟨by rfl, ?_⟩) hHeld ?_ ?_
                rotate_left
                · rintro w' ⟨s0, s1, s2, s3, s4, s5, s6, s7, s8, s9, s10, s11⟩
                  go_simp
                  with_reducible rfl
                rotate_left
                · simp only [Act.put, List.setIfInBounds_toArray, List.set_cons_zero, List.set_cons_succ, i64_w, i32_w]
                  rfl
                refine one_ (i := 8) (N := some 25) #[true, true, true, true, true, true, true, true, true, false] rfl rfl (one_of HT_.out (by kernel_rfl)) (by decide) (fun K hK => ?_)
                refine goes_ Try.func35 (by kernel_rfl) rfl #[.agg #[.int .i64 ((rd_T54 l0 x5_1).f0), .int .i64 ((rd_T54 l0 x5_1).f1), .int .i64 ((rd_T54 l0 x5_1).f2), .slice A356_3 ((rd_T54 l0 x5_1).f3.f0).length c356_3, .slice A356_4 ((rd_T54 l0 x5_1).f3.f1).length c356_4, .string ((rd_T54 l0 x5_1).f4)], .agg #[.int .i64 ((rd_T54 l1 x5_1).f0), .int .i64 ((rd_T54 l1 x5_1).f1), .int .i64 ((rd_T54 l1 x5_1).f2), .slice A357_3 ((rd_T54 l1 x5_1).f3.f0).length c357_3, .slice A357_4 ((rd_T54 l1 x5_1).f3.f1).length c357_4, .string ((rd_T54 l1 x5_1).f4)]] (by rfl) rfl rfl (by (try simp only [List.map_toArray, List.map_cons, List.map_nil]); first | done | rfl | (simp only [List.length_drop, List.length_take]; rfl)) ?_
                with_reducible refine (folkmootref15_Entries.calls k1 ((rd_T54 l0 x5_1).f0) ((rd_T54 l0 x5_1).f1) ((rd_T54 l0 x5_1).f2) _ _ ((rd_T54 l0 x5_1).f3.f0) _ _ ((rd_T54 l0 x5_1).f3.f1) ((rd_T54 l0 x5_1).f4) ((rd_T54 l1 x5_1).f0) ((rd_T54 l1 x5_1).f1) ((rd_T54 l1 x5_1).f2) _ _ ((rd_T54 l1 x5_1).f3.f0) _ _ ((rd_T54 l1 x5_1).f3.f1) ((rd_T54 l1 x5_1).f4) false _ ?side1 ?side2 ?side3 ?side4 ?side5 ?side6 ?side7 ?side8 A7.out).mono ?_
                (case side1 => repeat (first | exact (Kd.C_below HR356_3.out HB.out) | (with_reducible refine Kd.C_alloc ?_ _) | (with_reducible refine Kd.C_drewN ?_ _) | (with_reducible refine Kd.C_drew ?_)))
                (case side2 => exact HC356_3.out)
                (case side3 => repeat (first | exact (Kd.C_below HR356_4.out HB.out) | (with_reducible refine Kd.C_alloc ?_ _) | (with_reducible refine Kd.C_drewN ?_ _) | (with_reducible refine Kd.C_drew ?_)))
                (case side4 => exact HC356_4.out)
                (case side5 => repeat (first | exact (Kd.C_below HR357_3.out HB.out) | (with_reducible refine Kd.C_alloc ?_ _) | (with_reducible refine Kd.C_drewN ?_ _) | (with_reducible refine Kd.C_drew ?_)))
                (case side6 => exact HC357_3.out)
                (case side7 => repeat (first | exact (Kd.C_below HR357_4.out HB.out) | (with_reducible refine Kd.C_alloc ?_ _) | (with_reducible refine Kd.C_drewN ?_ _) | (with_reducible refine Kd.C_drew ?_)))
                (case side8 => exact HC357_4.out)
                rintro e w12 ⟨rfl, hb⟩
                refine ⟨_, rfl, ?_⟩
                have n0_ := Aside0.mk (below_step (by repeat (first | (with_reducible first | exact HB.out | apply below_alloc | apply pw_below_drewN | apply below_drew1) | exact HB.out)) hb)
                clear HB
                have HB := n0_
                clear n0_
                (try clear hb)
                (try clear hb2)
                (try clear hk)
                (try clear hi)
                refine hK.out _ _ ⟨((HB.out.cell (World.block_lt_of_cell? w _ hw356_0)).trans hw356_0), ((HB.out.cell (World.block_lt_of_cell? w _ hw356_1)).trans hw356_1), ((HB.out.cell (World.block_lt_of_cell? w _ hw356_2)).trans hw356_2), ((HB.out.cell (World.block_lt_of_cell? w _ hw356_3)).trans hw356_3), ((HB.out.cell (World.block_lt_of_cell? w _ hw356_4)).trans hw356_4), ((HB.out.cell (World.block_lt_of_cell? w _ hw356_5)).trans hw356_5), ((HB.out.cell (World.block_lt_of_cell? w _ hw357_0)).trans hw357_0), ((HB.out.cell (World.block_lt_of_cell? w _ hw357_1)).trans hw357_1), ((HB.out.cell (World.block_lt_of_cell? w _ hw357_2)).trans hw357_2), ((HB.out.cell (World.block_lt_of_cell? w _ hw357_3)).trans hw357_3), ((HB.out.cell (World.block_lt_of_cell? w _ hw357_4)).trans hw357_4), ((HB.out.cell (World.block_lt_of_cell? w _ hw357_5)).trans hw357_5)⟩ (fun hHeld => ?_)
                clear hK K
                refine norm_ (a' := ?_) ?_ ?_
                rotate_left
                · show Act.put _ (some 25) _ = _
                  simp only [Act.put, List.setIfInBounds_toArray, List.set_cons_zero, List.set_cons_succ, i64_w, i32_w]
                  rfl
                refine pure_ (i := 9) (N := some 26) (v := ?_) (a' := ?_) #[true, true, true, true, true, true, true, true, true, true] rfl rfl (any_of HT_.out (by kernel_rfl)) (fun _ _ _ h => h) (Or.inl ⟨by rfl, ?_⟩) ?_ ?_
                rotate_left
                · intro w'
                  go_simp
                  with_reducible rfl
                rotate_left
                · simp only [Act.put, List.setIfInBounds_toArray, List.set_cons_zero, List.set_cons_succ, i64_w, i32_w]
                  rfl
                refine done_ (done_of HT_.out (by kernel_rfl)) ?_
                try go_wp2
                go_ret
                exact ⟨by first | rfl | (simp [errW_none, errW_some] <;> rfl) | (simp [*, errW_none, errW_some] <;> rfl), by repeat (first | (with_reducible first | exact HB.out | apply below_alloc | apply pw_below_drewN | apply below_drew1) | exact HB.out)⟩
            · rw [if_neg c6] at H
              exact absurd H (by simp)
          · rw [if_neg c5] at H
            exact absurd H (by simp)
        · rw [if_neg c4] at H
          have c4b0 : decide (x5_1 < (l0.length : Int)) = false := decide_eq_false c4
          clear c4
          obtain rfl := Option.some.inj H
          go_wp2
          go_ret
          exact ⟨by first | rfl | (simp [errW_none, errW_some] <;> rfl) | (simp [*, errW_none, errW_some] <;> rfl), by repeat (first | (with_reducible first | exact HB.out | apply below_alloc | apply pw_below_drewN | apply below_drew1) | exact HB.out)⟩
  · rw [if_neg c3] at H
    have c3b0 : ((l0.length : Int) == (l1.length : Int)) = false := beq_eq_false_iff_ne.mpr c3
    have c3b1 : ((l0.length : Int) != (l1.length : Int)) = true := bne_iff_ne.mpr c3
    have c3b2 : (l0.length == l1.length) = false := by first | simpa using c3 | (simp at c3 ⊢; omega)
    obtain rfl := Option.some.inj H
    go_enter Try.func24, Try.ntmps24
    go_wp2
    go_ret
    exact ⟨by first | rfl | (simp [errW_none, errW_some] <;> rfl) | (simp [*, errW_none, errW_some] <;> rfl), by repeat (first | (with_reducible first | exact HB.out | apply below_alloc | apply pw_below_drewN | apply below_drew1) | exact HB.out)⟩

end Go.Proofs.Ytbjhjimkljbjlaa.PA
-- WRITTEN BY hookprint.py (a program of this session, over the kit's print.py): not typed by hand
namespace Go.Proofs.Ytbjhjimkljbjlaa.PA
open Go.RowKit Go.Proofs.YtbjhjimkljbjlaaW.PrintWords Go.Proofs.YtbjhjimkljbjlaaW.PrintLast Go.Proofs.YtbjhjimkljbjlaaW.PrintMore
attribute [local go_sem] max2_int min2_int max_two min_two max_three min_three max_four min_four   -- for this text's walks alone
set_option linter.unusedVariables false
set_option linter.unusedSimpArgs false

/-! ### folkmootlaw16_slices: function 26 -/
end Go.Proofs.Ytbjhjimkljbjlaa.PA
-- WRITTEN BY hookprint.py (a program of this session, over the kit's print.py): not typed by hand
namespace Go.Proofs.Ytbjhjimkljbjlaa.PA
open Go.RowKit Go.Proofs.YtbjhjimkljbjlaaW.PrintWords Go.Proofs.YtbjhjimkljbjlaaW.PrintLast Go.Proofs.YtbjhjimkljbjlaaW.PrintMore
attribute [local go_sem] max2_int min2_int max_two min_two max_three min_three max_four min_four   -- for this text's walks alone
set_option linter.unusedVariables false
set_option linter.unusedSimpArgs false

/-! ### folkmootref15_Snaps: function 41 -/
def folkmootref15_Snaps.f (k : Nat) (a0_0 : Int) (a0_1 : Int) (l0_2 : List Int) (l0_3 : List Int) (a0_4 : ByteArray) (a1_0 : Int) (a1_1 : Int) (l1_2 : List Int) (l1_3 : List Int) (a1_4 : ByteArray) : Option (Bool) := if a0_0 = a1_0 then (if a0_1 = a1_1 then (if a0_4.toList = a1_4.toList then ((folkmootref15_Configs.f k l0_2 l0_3 l1_2 l1_3).bind fun t398 => (some t398)) else (some false)) else (some false)) else (some false)
set_option maxHeartbeats 8000000 in
set_option maxRecDepth 100000 in
theorem folkmootref15_Snaps.calls (k : Nat) (a0_0 : Int) (a0_1 : Int) (A0_2 : Option Addr) (c0_2 : Nat) (l0_2 : List Int) (A0_3 : Option Addr) (c0_3 : Nat) (l0_3 : List Int) (a0_4 : ByteArray) (a1_0 : Int) (a1_1 : Int) (A1_2 : Option Addr) (c1_2 : Nat) (l1_2 : List Int) (A1_3 : Option Addr) (c1_3 : Nat) (l1_3 : List Int) (a1_4 : ByteArray) (r : Bool) (w : World) (hr0_2 : Kd.C (Kd.int .i64) w A0_2 l0_2.length l0_2) (hc0_2 : l0_2.length ≤ c0_2) (hr0_3 : Kd.C (Kd.int .i64) w A0_3 l0_3.length l0_3) (hc0_3 : l0_3.length ≤ c0_3) (hr1_2 : Kd.C (Kd.int .i64) w A1_2 l1_2.length l1_2) (hc1_2 : l1_2.length ≤ c1_2) (hr1_3 : Kd.C (Kd.int .i64) w A1_3 l1_3.length l1_3) (hc1_3 : l1_3.length ≤ c1_3) (h : folkmootref15_Snaps.f k a0_0 a0_1 l0_2 l0_3 a0_4 a1_0 a1_1 l1_2 l1_3 a1_4 = some r) :
    Calls Try.prog 41 #[.agg #[.int .i64 a0_0, .int .i64 a0_1, .slice A0_2 l0_2.length c0_2, .slice A0_3 l0_3.length c0_3, .string a0_4], .agg #[.int .i64 a1_0, .int .i64 a1_1, .slice A1_2 l1_2.length c1_2, .slice A1_3 l1_3.length c1_3, .string a1_4]] w fun e w' => e = .returned (.bool r) ∧ Below w.heap.size w w' := by
  have hu27 := Try.underlying27
  have hu25 := Try.underlying25
  have HR0_2 := Aside0.mk hr0_2
  have HC0_2 := Aside0.mk hc0_2
  clear hr0_2 hc0_2
  have HR0_3 := Aside0.mk hr0_3
  have HC0_3 := Aside0.mk hc0_3
  clear hr0_3 hc0_3
  have HR1_2 := Aside0.mk hr1_2
  have HC1_2 := Aside0.mk hc1_2
  clear hr1_2 hc1_2
  have HR1_3 := Aside0.mk hr1_3
  have HC1_3 := Aside0.mk hc1_3
  clear hr1_3 hc1_3
  have HB := Aside0.mk (Below.refl w.heap.size w)
  have H : (if a0_0 = a1_0 then (if a0_1 = a1_1 then (if a0_4.toList = a1_4.toList then ((folkmootref15_Configs.f k l0_2 l0_3 l1_2 l1_3).bind fun t398 => (some t398)) else (some false)) else (some false)) else (some false)) = some r := h
  clear h
  by_cases c3 : a0_0 = a1_0
  · rw [if_pos c3] at H
    have c3b0 : (a0_0 == a1_0) = true := beq_iff_eq.mpr c3
    have c3b1 : (a0_0 != a1_0) = false := bne_eq_false_iff_eq.mpr c3
    clear c3
    by_cases c4 : a0_1 = a1_1
    · rw [if_pos c4] at H
      have c4b0 : (a0_1 == a1_1) = true := beq_iff_eq.mpr c4
      have c4b1 : (a0_1 != a1_1) = false := bne_eq_false_iff_eq.mpr c4
      clear c4
      by_cases c5 : a0_4.toList = a1_4.toList
      · rw [if_pos c5] at H
        have c5b0 : (a0_4.toList == a1_4.toList) = true := beq_iff_eq.mpr c5
        have c5b1 : (a0_4.toList != a1_4.toList) = false := bne_eq_false_iff_eq.mpr c5
        clear c5
        replace H := Option.bind_eq_some_iff.mp H
        obtain ⟨t398, A60, H⟩ := H
        replace H : (some t398) = some r := H
        have A6 := Aside0.mk A60
        clear A60
        obtain rfl := Option.some.inj H
        go_enter Try.func41, Try.ntmps41
        go_wp2_with (first | ((with_reducible refine gate_dst (N := 2) rfl ?_); refine box_event ?hg (N := 2) ?hd (cs := #[.int .i64 a0_0, .int .i64 a0_1, .slice A0_2 l0_2.length c0_2, .slice A0_3 l0_3.length c0_3, .string a0_4]) (t := 27) ?hr ?_; (case hd => rfl); (case hg => rfl); (case hr => first | (go_simp; done) | (go_simp; rfl)); intro gb396 hg w7 hbox hb; have n0_ := Aside0.mk (below_step (by repeat (first | (with_reducible first | exact HB.out | apply below_alloc | apply pw_below_drewN | apply below_drew1) | exact HB.out)) hb); have n1_ := Aside0.mk (hbox); have n2_ := Aside0.mk ((by rw [hg]; exact (below_size (by repeat (first | (with_reducible first | exact HB.out | apply below_alloc | apply pw_below_drewN | apply below_drew1) | exact HB.out))) : w.heap.size ≤ gb396)); have n3_ := Aside0.mk ((by rw [hg]; exact (below_size (by repeat (first | (with_reducible first | exact HB.out | apply below_alloc | apply pw_below_drewN | apply below_drew1) | exact HB.out))) : w.heap.size ≤ gb396)); clear HB; have HB := n0_; have BK396 := n1_; have GW396 := n2_; have GE396 := n3_; clear n0_ n1_ n2_ n3_; clear hb hbox hg) | ((with_reducible refine gate_dst (N := 3) rfl ?_); refine box_event ?hg (N := 3) ?hd (cs := #[.int .i64 a1_0, .int .i64 a1_1, .slice A1_2 l1_2.length c1_2, .slice A1_3 l1_3.length c1_3, .string a1_4]) (t := 27) ?hr ?_; (case hd => rfl); (case hg => rfl); (case hr => first | (go_simp; done) | (go_simp; rfl)); intro gb397 hg w8 hbox hb; have n0_ := Aside0.mk (blk_below (g := gb396) (o := .cells #[.int .i64 a0_0, .int .i64 a0_1, .slice A0_2 l0_2.length c0_2, .slice A0_3 l0_3.length c0_3, .string a0_4] 27 (0, 0)) (by (with_reducible repeat (first | refine blk_drewN ?_ _ | refine blk_drew ?_ | refine blk_alloc ?_ _)); exact BK396.out) hb); have n1_ := Aside0.mk (below_step (by repeat (first | (with_reducible first | exact HB.out | apply below_alloc | apply pw_below_drewN | apply below_drew1 | refine below_set ?_ GE396.out) | exact HB.out)) hb); have n2_ := Aside0.mk (hbox); have n3_ := Aside0.mk ((by rw [hg]; exact (below_size (by repeat (first | (with_reducible first | exact HB.out | apply below_alloc | apply pw_below_drewN | apply below_drew1 | refine below_set ?_ GE396.out) | exact HB.out))) : w.heap.size ≤ gb397)); have n4_ := Aside0.mk ((by rw [hg]; exact (below_size (by repeat (first | (with_reducible first | exact HB.out | apply below_alloc | apply pw_below_drewN | apply below_drew1 | refine below_set ?_ GE396.out) | exact HB.out))) : w.heap.size ≤ gb397)); have n5_ := Aside0.mk ((by rw [hg]; exact Nat.ne_of_lt (blk_lt (g := gb396) (o := .cells #[.int .i64 a0_0, .int .i64 a0_1, .slice A0_2 l0_2.length c0_2, .slice A0_3 l0_3.length c0_3, .string a0_4] 27 (0, 0)) (by (with_reducible repeat (first | refine blk_drewN ?_ _ | refine blk_drew ?_ | refine blk_alloc ?_ _)); exact BK396.out)) : gb396 ≠ gb397)); have n6_ := Aside0.mk ((by rw [hg]; exact Nat.ne_of_gt (blk_lt (g := gb396) (o := .cells #[.int .i64 a0_0, .int .i64 a0_1, .slice A0_2 l0_2.length c0_2, .slice A0_3 l0_3.length c0_3, .string a0_4] 27 (0, 0)) (by (with_reducible repeat (first | refine blk_drewN ?_ _ | refine blk_drew ?_ | refine blk_alloc ?_ _)); exact BK396.out)) : gb397 ≠ gb396)); clear BK396; clear HB; have BK396 := n0_; have HB := n1_; have BK397 := n2_; have GW397 := n3_; have GE397 := n4_; have NB396_397 := n5_; have NB397_396 := n6_; clear n0_ n1_ n2_ n3_ n4_ n5_ n6_; clear hb hbox hg; have hnb9 := NB396_397.out; have hnc9 := NB397_396.out; have hcz10_0 : w8.cell? ⟨gb396, 0, none⟩ = some (.int .i64 a0_0) := (blk_cell BK396.out 0).trans rfl; have hcz10_1 : w8.cell? ⟨gb396, 1, none⟩ = some (.int .i64 a0_1) := (blk_cell BK396.out 1).trans rfl; have hcz10_2 : w8.cell? ⟨gb396, 2, none⟩ = some (.slice A0_2 l0_2.length c0_2) := (blk_cell BK396.out 2).trans rfl; have hcz10_3 : w8.cell? ⟨gb396, 3, none⟩ = some (.slice A0_3 l0_3.length c0_3) := (blk_cell BK396.out 3).trans rfl; have hcz10_4 : w8.cell? ⟨gb396, 4, none⟩ = some (.string a0_4) := (blk_cell BK396.out 4).trans rfl; have hfz10_0 := blk_frozen BK396.out 0; have hfz10_1 := blk_frozen BK396.out 1; have hfz10_2 := blk_frozen BK396.out 2; have hfz10_3 := blk_frozen BK396.out 3; have hfz10_4 := blk_frozen BK396.out 4; have hcz11_0 : w8.cell? ⟨gb397, 0, none⟩ = some (.int .i64 a1_0) := (blk_cell BK397.out 0).trans rfl; have hcz11_1 : w8.cell? ⟨gb397, 1, none⟩ = some (.int .i64 a1_1) := (blk_cell BK397.out 1).trans rfl; have hcz11_2 : w8.cell? ⟨gb397, 2, none⟩ = some (.slice A1_2 l1_2.length c1_2) := (blk_cell BK397.out 2).trans rfl; have hcz11_3 : w8.cell? ⟨gb397, 3, none⟩ = some (.slice A1_3 l1_3.length c1_3) := (blk_cell BK397.out 3).trans rfl; have hcz11_4 : w8.cell? ⟨gb397, 4, none⟩ = some (.string a1_4) := (blk_cell BK397.out 4).trans rfl; have hfz11_0 := blk_frozen BK397.out 0; have hfz11_1 := blk_frozen BK397.out 1; have hfz11_2 := blk_frozen BK397.out 2; have hfz11_3 := blk_frozen BK397.out 3; have hfz11_4 := blk_frozen BK397.out 4) | (go_at_call 49; (with_reducible refine (folkmootref15_Configs.calls k _ _ l0_2 _ _ l0_3 _ _ l1_2 _ _ l1_3 t398 _ ?side1 ?side2 ?side3 ?side4 ?side5 ?side6 ?side7 ?side8 A6.out).mono ?_); (case side1 => repeat (first | exact (Kd.C_below HR0_2.out HB.out) | (with_reducible refine Kd.C_alloc ?_ _) | (with_reducible refine Kd.C_drewN ?_ _) | (with_reducible refine Kd.C_drew ?_))); (case side2 => exact HC0_2.out); (case side3 => repeat (first | exact (Kd.C_below HR0_3.out HB.out) | (with_reducible refine Kd.C_alloc ?_ _) | (with_reducible refine Kd.C_drewN ?_ _) | (with_reducible refine Kd.C_drew ?_))); (case side4 => exact HC0_3.out); (case side5 => repeat (first | exact (Kd.C_below HR1_2.out HB.out) | (with_reducible refine Kd.C_alloc ?_ _) | (with_reducible refine Kd.C_drewN ?_ _) | (with_reducible refine Kd.C_drew ?_))); (case side6 => exact HC1_2.out); (case side7 => repeat (first | exact (Kd.C_below HR1_3.out HB.out) | (with_reducible refine Kd.C_alloc ?_ _) | (with_reducible refine Kd.C_drewN ?_ _) | (with_reducible refine Kd.C_drew ?_))); (case side8 => exact HC1_3.out); rintro e w12 ⟨rfl, hb⟩; have n0_ := Aside0.mk (blk_below (g := gb396) (o := .cells #[.int .i64 a0_0, .int .i64 a0_1, .slice A0_2 l0_2.length c0_2, .slice A0_3 l0_3.length c0_3, .string a0_4] 27 (0, 0)) (by (with_reducible repeat (first | refine blk_drewN ?_ _ | refine blk_drew ?_ | refine blk_alloc ?_ _)); exact BK396.out) hb); have n1_ := Aside0.mk (blk_below (g := gb397) (o := .cells #[.int .i64 a1_0, .int .i64 a1_1, .slice A1_2 l1_2.length c1_2, .slice A1_3 l1_3.length c1_3, .string a1_4] 27 (0, 0)) (by (with_reducible repeat (first | refine blk_drewN ?_ _ | refine blk_drew ?_ | refine blk_alloc ?_ _)); exact BK397.out) hb); have n2_ := Aside0.mk (below_step (by repeat (first | (with_reducible first | exact HB.out | apply below_alloc | apply pw_below_drewN | apply below_drew1 | refine below_set ?_ GE396.out | refine below_set ?_ GE397.out) | exact HB.out)) hb); clear BK396; clear BK397; clear HB; have BK396 := n0_; have BK397 := n1_; have HB := n2_; clear n0_ n1_ n2_; (try clear hb); (try clear hb2); (try clear hk); (try clear hi)))
        go_ret
        exact ⟨by first | rfl | (simp [errW_none, errW_some] <;> rfl) | (simp [*, errW_none, errW_some] <;> rfl), by repeat (first | (with_reducible first | exact HB.out | apply below_alloc | apply pw_below_drewN | apply below_drew1 | refine below_set ?_ GE396.out | refine below_set ?_ GE397.out) | exact HB.out)⟩
      · rw [if_neg c5] at H
        have c5b0 : (a0_4.toList == a1_4.toList) = false := beq_eq_false_iff_ne.mpr c5
        have c5b1 : (a0_4.toList != a1_4.toList) = true := bne_iff_ne.mpr c5
        obtain rfl := Option.some.inj H
        go_enter Try.func41, Try.ntmps41
        go_wp2_with (first | ((with_reducible refine gate_dst (N := 2) rfl ?_); refine box_event ?hg (N := 2) ?hd (cs := #[.int .i64 a0_0, .int .i64 a0_1, .slice A0_2 l0_2.length c0_2, .slice A0_3 l0_3.length c0_3, .string a0_4]) (t := 27) ?hr ?_; (case hd => rfl); (case hg => rfl); (case hr => first | (go_simp; done) | (go_simp; rfl)); intro gb396 hg w13 hbox hb; have n0_ := Aside0.mk (below_step (by repeat (first | (with_reducible first | exact HB.out | apply below_alloc | apply pw_below_drewN | apply below_drew1) | exact HB.out)) hb); have n1_ := Aside0.mk (hbox); have n2_ := Aside0.mk ((by rw [hg]; exact (below_size (by repeat (first | (with_reducible first | exact HB.out | apply below_alloc | apply pw_below_drewN | apply below_drew1) | exact HB.out))) : w.heap.size ≤ gb396)); have n3_ := Aside0.mk ((by rw [hg]; exact (below_size (by repeat (first | (with_reducible first | exact HB.out | apply below_alloc | apply pw_below_drewN | apply below_drew1) | exact HB.out))) : w.heap.size ≤ gb396)); clear HB; have HB := n0_; have BK396 := n1_; have GW396 := n2_; have GE396 := n3_; clear n0_ n1_ n2_ n3_; clear hb hbox hg) | ((with_reducible refine gate_dst (N := 3) rfl ?_); refine box_event ?hg (N := 3) ?hd (cs := #[.int .i64 a1_0, .int .i64 a1_1, .slice A1_2 l1_2.length c1_2, .slice A1_3 l1_3.length c1_3, .string a1_4]) (t := 27) ?hr ?_; (case hd => rfl); (case hg => rfl); (case hr => first | (go_simp; done) | (go_simp; rfl)); intro gb397 hg w14 hbox hb; have n0_ := Aside0.mk (blk_below (g := gb396) (o := .cells #[.int .i64 a0_0, .int .i64 a0_1, .slice A0_2 l0_2.length c0_2, .slice A0_3 l0_3.length c0_3, .string a0_4] 27 (0, 0)) (by (with_reducible repeat (first | refine blk_drewN ?_ _ | refine blk_drew ?_ | refine blk_alloc ?_ _)); exact BK396.out) hb); have n1_ := Aside0.mk (below_step (by repeat (first | (with_reducible first | exact HB.out | apply below_alloc | apply pw_below_drewN | apply below_drew1 | refine below_set ?_ GE396.out) | exact HB.out)) hb); have n2_ := Aside0.mk (hbox); have n3_ := Aside0.mk ((by rw [hg]; exact (below_size (by repeat (first | (with_reducible first | exact HB.out | apply below_alloc | apply pw_below_drewN | apply below_drew1 | refine below_set ?_ GE396.out) | exact HB.out))) : w.heap.size ≤ gb397)); have n4_ := Aside0.mk ((by rw [hg]; exact (below_size (by repeat (first | (with_reducible first | exact HB.out | apply below_alloc | apply pw_below_drewN | apply below_drew1 | refine below_set ?_ GE396.out) | exact HB.out))) : w.heap.size ≤ gb397)); have n5_ := Aside0.mk ((by rw [hg]; exact Nat.ne_of_lt (blk_lt (g := gb396) (o := .cells #[.int .i64 a0_0, .int .i64 a0_1, .slice A0_2 l0_2.length c0_2, .slice A0_3 l0_3.length c0_3, .string a0_4] 27 (0, 0)) (by (with_reducible repeat (first | refine blk_drewN ?_ _ | refine blk_drew ?_ | refine blk_alloc ?_ _)); exact BK396.out)) : gb396 ≠ gb397)); have n6_ := Aside0.mk ((by rw [hg]; exact Nat.ne_of_gt (blk_lt (g := gb396) (o := .cells #[.int .i64 a0_0, .int .i64 a0_1, .slice A0_2 l0_2.length c0_2, .slice A0_3 l0_3.length c0_3, .string a0_4] 27 (0, 0)) (by (with_reducible repeat (first | refine blk_drewN ?_ _ | refine blk_drew ?_ | refine blk_alloc ?_ _)); exact BK396.out)) : gb397 ≠ gb396)); clear BK396; clear HB; have BK396 := n0_; have HB := n1_; have BK397 := n2_; have GW397 := n3_; have GE397 := n4_; have NB396_397 := n5_; have NB397_396 := n6_; clear n0_ n1_ n2_ n3_ n4_ n5_ n6_; clear hb hbox hg; have hnb15 := NB396_397.out; have hnc15 := NB397_396.out; have hcz16_0 : w14.cell? ⟨gb396, 0, none⟩ = some (.int .i64 a0_0) := (blk_cell BK396.out 0).trans rfl; have hcz16_1 : w14.cell? ⟨gb396, 1, none⟩ = some (.int .i64 a0_1) := (blk_cell BK396.out 1).trans rfl; have hcz16_2 : w14.cell? ⟨gb396, 2, none⟩ = some (.slice A0_2 l0_2.length c0_2) := (blk_cell BK396.out 2).trans rfl; have hcz16_3 : w14.cell? ⟨gb396, 3, none⟩ = some (.slice A0_3 l0_3.length c0_3) := (blk_cell BK396.out 3).trans rfl; have hcz16_4 : w14.cell? ⟨gb396, 4, none⟩ = some (.string a0_4) := (blk_cell BK396.out 4).trans rfl; have hfz16_0 := blk_frozen BK396.out 0; have hfz16_1 := blk_frozen BK396.out 1; have hfz16_2 := blk_frozen BK396.out 2; have hfz16_3 := blk_frozen BK396.out 3; have hfz16_4 := blk_frozen BK396.out 4; have hcz17_0 : w14.cell? ⟨gb397, 0, none⟩ = some (.int .i64 a1_0) := (blk_cell BK397.out 0).trans rfl; have hcz17_1 : w14.cell? ⟨gb397, 1, none⟩ = some (.int .i64 a1_1) := (blk_cell BK397.out 1).trans rfl; have hcz17_2 : w14.cell? ⟨gb397, 2, none⟩ = some (.slice A1_2 l1_2.length c1_2) := (blk_cell BK397.out 2).trans rfl; have hcz17_3 : w14.cell? ⟨gb397, 3, none⟩ = some (.slice A1_3 l1_3.length c1_3) := (blk_cell BK397.out 3).trans rfl; have hcz17_4 : w14.cell? ⟨gb397, 4, none⟩ = some (.string a1_4) := (blk_cell BK397.out 4).trans rfl; have hfz17_0 := blk_frozen BK397.out 0; have hfz17_1 := blk_frozen BK397.out 1; have hfz17_2 := blk_frozen BK397.out 2; have hfz17_3 := blk_frozen BK397.out 3; have hfz17_4 := blk_frozen BK397.out 4))
        go_ret
        exact ⟨by first | rfl | (simp [errW_none, errW_some] <;> rfl) | (simp [*, errW_none, errW_some] <;> rfl), by repeat (first | (with_reducible first | exact HB.out | apply below_alloc | apply pw_below_drewN | apply below_drew1 | refine below_set ?_ GE396.out | refine below_set ?_ GE397.out) | exact HB.out)⟩
    · rw [if_neg c4] at H
      have c4b0 : (a0_1 == a1_1) = false := beq_eq_false_iff_ne.mpr c4
      have c4b1 : (a0_1 != a1_1) = true := bne_iff_ne.mpr c4
      obtain rfl := Option.some.inj H
      go_enter Try.func41, Try.ntmps41
      go_wp2_with (first | ((with_reducible refine gate_dst (N := 2) rfl ?_); refine box_event ?hg (N := 2) ?hd (cs := #[.int .i64 a0_0, .int .i64 a0_1, .slice A0_2 l0_2.length c0_2, .slice A0_3 l0_3.length c0_3, .string a0_4]) (t := 27) ?hr ?_; (case hd => rfl); (case hg => rfl); (case hr => first | (go_simp; done) | (go_simp; rfl)); intro gb396 hg w18 hbox hb; have n0_ := Aside0.mk (below_step (by repeat (first | (with_reducible first | exact HB.out | apply below_alloc | apply pw_below_drewN | apply below_drew1) | exact HB.out)) hb); have n1_ := Aside0.mk (hbox); have n2_ := Aside0.mk ((by rw [hg]; exact (below_size (by repeat (first | (with_reducible first | exact HB.out | apply below_alloc | apply pw_below_drewN | apply below_drew1) | exact HB.out))) : w.heap.size ≤ gb396)); have n3_ := Aside0.mk ((by rw [hg]; exact (below_size (by repeat (first | (with_reducible first | exact HB.out | apply below_alloc | apply pw_below_drewN | apply below_drew1) | exact HB.out))) : w.heap.size ≤ gb396)); clear HB; have HB := n0_; have BK396 := n1_; have GW396 := n2_; have GE396 := n3_; clear n0_ n1_ n2_ n3_; clear hb hbox hg) | ((with_reducible refine gate_dst (N := 3) rfl ?_); refine box_event ?hg (N := 3) ?hd (cs := #[.int .i64 a1_0, .int .i64 a1_1, .slice A1_2 l1_2.length c1_2, .slice A1_3 l1_3.length c1_3, .string a1_4]) (t := 27) ?hr ?_; (case hd => rfl); (case hg => rfl); (case hr => first | (go_simp; done) | (go_simp; rfl)); intro gb397 hg w19 hbox hb; have n0_ := Aside0.mk (blk_below (g := gb396) (o := .cells #[.int .i64 a0_0, .int .i64 a0_1, .slice A0_2 l0_2.length c0_2, .slice A0_3 l0_3.length c0_3, .string a0_4] 27 (0, 0)) (by (with_reducible repeat (first | refine blk_drewN ?_ _ | refine blk_drew ?_ | refine blk_alloc ?_ _)); exact BK396.out) hb); have n1_ := Aside0.mk (below_step (by repeat (first | (with_reducible first | exact HB.out | apply below_alloc | apply pw_below_drewN | apply below_drew1 | refine below_set ?_ GE396.out) | exact HB.out)) hb); have n2_ := Aside0.mk (hbox); have n3_ := Aside0.mk ((by rw [hg]; exact (below_size (by repeat (first | (with_reducible first | exact HB.out | apply below_alloc | apply pw_below_drewN | apply below_drew1 | refine below_set ?_ GE396.out) | exact HB.out))) : w.heap.size ≤ gb397)); have n4_ := Aside0.mk ((by rw [hg]; exact (below_size (by repeat (first | (with_reducible first | exact HB.out | apply below_alloc | apply pw_below_drewN | apply below_drew1 | refine below_set ?_ GE396.out) | exact HB.out))) : w.heap.size ≤ gb397)); have n5_ := Aside0.mk ((by rw [hg]; exact Nat.ne_of_lt (blk_lt (g := gb396) (o := .cells #[.int .i64 a0_0, .int .i64 a0_1, .slice A0_2 l0_2.length c0_2, .slice A0_3 l0_3.length c0_3, .string a0_4] 27 (0, 0)) (by (with_reducible repeat (first | refine blk_drewN ?_ _ | refine blk_drew ?_ | refine blk_alloc ?_ _)); exact BK396.out)) : gb396 ≠ gb397)); have n6_ := Aside0.mk ((by rw [hg]; exact Nat.ne_of_gt (blk_lt (g := gb396) (o := .cells #[.int .i64 a0_0, .int .i64 a0_1, .slice A0_2 l0_2.length c0_2, .slice A0_3 l0_3.length c0_3, .string a0_4] 27 (0, 0)) (by (with_reducible repeat (first | refine blk_drewN ?_ _ | refine blk_drew ?_ | refine blk_alloc ?_ _)); exact BK396.out)) : gb397 ≠ gb396)); clear BK396; clear HB; have BK396 := n0_; have HB := n1_; have BK397 := n2_; have GW397 := n3_; have GE397 := n4_; have NB396_397 := n5_; have NB397_396 := n6_; clear n0_ n1_ n2_ n3_ n4_ n5_ n6_; clear hb hbox hg; have hnb20 := NB396_397.out; have hnc20 := NB397_396.out; have hcz21_0 : w19.cell? ⟨gb396, 0, none⟩ = some (.int .i64 a0_0) := (blk_cell BK396.out 0).trans rfl; have hcz21_1 : w19.cell? ⟨gb396, 1, none⟩ = some (.int .i64 a0_1) := (blk_cell BK396.out 1).trans rfl; have hcz21_2 : w19.cell? ⟨gb396, 2, none⟩ = some (.slice A0_2 l0_2.length c0_2) := (blk_cell BK396.out 2).trans rfl; have hcz21_3 : w19.cell? ⟨gb396, 3, none⟩ = some (.slice A0_3 l0_3.length c0_3) := (blk_cell BK396.out 3).trans rfl; have hcz21_4 : w19.cell? ⟨gb396, 4, none⟩ = some (.string a0_4) := (blk_cell BK396.out 4).trans rfl; have hfz21_0 := blk_frozen BK396.out 0; have hfz21_1 := blk_frozen BK396.out 1; have hfz21_2 := blk_frozen BK396.out 2; have hfz21_3 := blk_frozen BK396.out 3; have hfz21_4 := blk_frozen BK396.out 4; have hcz22_0 : w19.cell? ⟨gb397, 0, none⟩ = some (.int .i64 a1_0) := (blk_cell BK397.out 0).trans rfl; have hcz22_1 : w19.cell? ⟨gb397, 1, none⟩ = some (.int .i64 a1_1) := (blk_cell BK397.out 1).trans rfl; have hcz22_2 : w19.cell? ⟨gb397, 2, none⟩ = some (.slice A1_2 l1_2.length c1_2) := (blk_cell BK397.out 2).trans rfl; have hcz22_3 : w19.cell? ⟨gb397, 3, none⟩ = some (.slice A1_3 l1_3.length c1_3) := (blk_cell BK397.out 3).trans rfl; have hcz22_4 : w19.cell? ⟨gb397, 4, none⟩ = some (.string a1_4) := (blk_cell BK397.out 4).trans rfl; have hfz22_0 := blk_frozen BK397.out 0; have hfz22_1 := blk_frozen BK397.out 1; have hfz22_2 := blk_frozen BK397.out 2; have hfz22_3 := blk_frozen BK397.out 3; have hfz22_4 := blk_frozen BK397.out 4))
      go_ret
      exact ⟨by first | rfl | (simp [errW_none, errW_some] <;> rfl) | (simp [*, errW_none, errW_some] <;> rfl), by repeat (first | (with_reducible first | exact HB.out | apply below_alloc | apply pw_below_drewN | apply below_drew1 | refine below_set ?_ GE396.out | refine below_set ?_ GE397.out) | exact HB.out)⟩
  · rw [if_neg c3] at H
    have c3b0 : (a0_0 == a1_0) = false := beq_eq_false_iff_ne.mpr c3
    have c3b1 : (a0_0 != a1_0) = true := bne_iff_ne.mpr c3
    obtain rfl := Option.some.inj H
    go_enter Try.func41, Try.ntmps41
    go_wp2_with (first | ((with_reducible refine gate_dst (N := 2) rfl ?_); refine box_event ?hg (N := 2) ?hd (cs := #[.int .i64 a0_0, .int .i64 a0_1, .slice A0_2 l0_2.length c0_2, .slice A0_3 l0_3.length c0_3, .string a0_4]) (t := 27) ?hr ?_; (case hd => rfl); (case hg => rfl); (case hr => first | (go_simp; done) | (go_simp; rfl)); intro gb396 hg w23 hbox hb; have n0_ := Aside0.mk (below_step (by repeat (first | (with_reducible first | exact HB.out | apply below_alloc | apply pw_below_drewN | apply below_drew1) | exact HB.out)) hb); have n1_ := Aside0.mk (hbox); have n2_ := Aside0.mk ((by rw [hg]; exact (below_size (by repeat (first | (with_reducible first | exact HB.out | apply below_alloc | apply pw_below_drewN | apply below_drew1) | exact HB.out))) : w.heap.size ≤ gb396)); have n3_ := Aside0.mk ((by rw [hg]; exact (below_size (by repeat (first | (with_reducible first | exact HB.out | apply below_alloc | apply pw_below_drewN | apply below_drew1) | exact HB.out))) : w.heap.size ≤ gb396)); clear HB; have HB := n0_; have BK396 := n1_; have GW396 := n2_; have GE396 := n3_; clear n0_ n1_ n2_ n3_; clear hb hbox hg) | ((with_reducible refine gate_dst (N := 3) rfl ?_); refine box_event ?hg (N := 3) ?hd (cs := #[.int .i64 a1_0, .int .i64 a1_1, .slice A1_2 l1_2.length c1_2, .slice A1_3 l1_3.length c1_3, .string a1_4]) (t := 27) ?hr ?_; (case hd => rfl); (case hg => rfl); (case hr => first | (go_simp; done) | (go_simp; rfl)); intro gb397 hg w24 hbox hb; have n0_ := Aside0.mk (blk_below (g := gb396) (o := .cells #[.int .i64 a0_0, .int .i64 a0_1, .slice A0_2 l0_2.length c0_2, .slice A0_3 l0_3.length c0_3, .string a0_4] 27 (0, 0)) (by (with_reducible repeat (first | refine blk_drewN ?_ _ | refine blk_drew ?_ | refine blk_alloc ?_ _)); exact BK396.out) hb); have n1_ := Aside0.mk (below_step (by repeat (first | (with_reducible first | exact HB.out | apply below_alloc | apply pw_below_drewN | apply below_drew1 | refine below_set ?_ GE396.out) | exact HB.out)) hb); have n2_ := Aside0.mk (hbox); have n3_ := Aside0.mk ((by rw [hg]; exact (below_size (by repeat (first | (with_reducible first | exact HB.out | apply below_alloc | apply pw_below_drewN | apply below_drew1 | refine below_set ?_ GE396.out) | exact HB.out))) : w.heap.size ≤ gb397)); have n4_ := Aside0.mk ((by rw [hg]; exact (below_size (by repeat (first | (with_reducible first | exact HB.out | apply below_alloc | apply pw_below_drewN | apply below_drew1 | refine below_set ?_ GE396.out) | exact HB.out))) : w.heap.size ≤ gb397)); have n5_ := Aside0.mk ((by rw [hg]; exact Nat.ne_of_lt (blk_lt (g := gb396) (o := .cells #[.int .i64 a0_0, .int .i64 a0_1, .slice A0_2 l0_2.length c0_2, .slice A0_3 l0_3.length c0_3, .string a0_4] 27 (0, 0)) (by (with_reducible repeat (first | refine blk_drewN ?_ _ | refine blk_drew ?_ | refine blk_alloc ?_ _)); exact BK396.out)) : gb396 ≠ gb397)); have n6_ := Aside0.mk ((by rw [hg]; exact Nat.ne_of_gt (blk_lt (g := gb396) (o := .cells #[.int .i64 a0_0, .int .i64 a0_1, .slice A0_2 l0_2.length c0_2, .slice A0_3 l0_3.length c0_3, .string a0_4] 27 (0, 0)) (by (with_reducible repeat (first | refine blk_drewN ?_ _ | refine blk_drew ?_ | refine blk_alloc ?_ _)); exact BK396.out)) : gb397 ≠ gb396)); clear BK396; clear HB; have BK396 := n0_; have HB := n1_; have BK397 := n2_; have GW397 := n3_; have GE397 := n4_; have NB396_397 := n5_; have NB397_396 := n6_; clear n0_ n1_ n2_ n3_ n4_ n5_ n6_; clear hb hbox hg; have hnb25 := NB396_397.out; have hnc25 := NB397_396.out; have hcz26_0 : w24.cell? ⟨gb396, 0, none⟩ = some (.int .i64 a0_0) := (blk_cell BK396.out 0).trans rfl; have hcz26_1 : w24.cell? ⟨gb396, 1, none⟩ = some (.int .i64 a0_1) := (blk_cell BK396.out 1).trans rfl; have hcz26_2 : w24.cell? ⟨gb396, 2, none⟩ = some (.slice A0_2 l0_2.length c0_2) := (blk_cell BK396.out 2).trans rfl; have hcz26_3 : w24.cell? ⟨gb396, 3, none⟩ = some (.slice A0_3 l0_3.length c0_3) := (blk_cell BK396.out 3).trans rfl; have hcz26_4 : w24.cell? ⟨gb396, 4, none⟩ = some (.string a0_4) := (blk_cell BK396.out 4).trans rfl; have hfz26_0 := blk_frozen BK396.out 0; have hfz26_1 := blk_frozen BK396.out 1; have hfz26_2 := blk_frozen BK396.out 2; have hfz26_3 := blk_frozen BK396.out 3; have hfz26_4 := blk_frozen BK396.out 4; have hcz27_0 : w24.cell? ⟨gb397, 0, none⟩ = some (.int .i64 a1_0) := (blk_cell BK397.out 0).trans rfl; have hcz27_1 : w24.cell? ⟨gb397, 1, none⟩ = some (.int .i64 a1_1) := (blk_cell BK397.out 1).trans rfl; have hcz27_2 : w24.cell? ⟨gb397, 2, none⟩ = some (.slice A1_2 l1_2.length c1_2) := (blk_cell BK397.out 2).trans rfl; have hcz27_3 : w24.cell? ⟨gb397, 3, none⟩ = some (.slice A1_3 l1_3.length c1_3) := (blk_cell BK397.out 3).trans rfl; have hcz27_4 : w24.cell? ⟨gb397, 4, none⟩ = some (.string a1_4) := (blk_cell BK397.out 4).trans rfl; have hfz27_0 := blk_frozen BK397.out 0; have hfz27_1 := blk_frozen BK397.out 1; have hfz27_2 := blk_frozen BK397.out 2; have hfz27_3 := blk_frozen BK397.out 3; have hfz27_4 := blk_frozen BK397.out 4))
    go_ret
    exact ⟨by first | rfl | (simp [errW_none, errW_some] <;> rfl) | (simp [*, errW_none, errW_some] <;> rfl), by repeat (first | (with_reducible first | exact HB.out | apply below_alloc | apply pw_below_drewN | apply below_drew1 | refine below_set ?_ GE396.out | refine below_set ?_ GE397.out) | exact HB.out)⟩

end Go.Proofs.Ytbjhjimkljbjlaa.PA
-- WRITTEN BY hookprint.py (a program of this session, over the kit's print.py): not typed by hand
namespace Go.Proofs.Ytbjhjimkljbjlaa.PA
open Go.RowKit Go.Proofs.YtbjhjimkljbjlaaW.PrintWords Go.Proofs.YtbjhjimkljbjlaaW.PrintLast Go.Proofs.YtbjhjimkljbjlaaW.PrintMore
attribute [local go_sem] max2_int min2_int max_two min_two max_three min_three max_four min_four   -- for this text's walks alone
set_option linter.unusedVariables false
set_option linter.unusedSimpArgs false

/-! ### folkmootref15_Same: function 27 -/
mutual
def folkmootref15_Same.j0 : Nat → Bool → Int → Int → Int → Int → List Int → List Int → ByteArray → List (S54) → Int → Int → Int → Int → List Int → List Int → ByteArray → List (S54) → Option (Bool)
  | 0, _, _, _, _, _, _, _, _, _, _, _, _, _, _, _, _, _ => none
  | k + 1, x34, x400000, x400001, x400002, x400003, x400004, x400005, x400006, x400007, x401000, x401001, x401002, x401003, x401004, x401005, x401006, x401007 => if x34 = true then (some false) else (folkmootref15_Same.l0 k 0 x400000 x400001 x400002 x400003 x400004 x400005 x400006 x400007 x401000 x401001 x401002 x401003 x401004 x401005 x401006 x401007)
def folkmootref15_Same.l0 : Nat → Int → Int → Int → Int → Int → List Int → List Int → ByteArray → List (S54) → Int → Int → Int → Int → List Int → List Int → ByteArray → List (S54) → Option (Bool)
  | 0, _, _, _, _, _, _, _, _, _, _, _, _, _, _, _, _, _ => none
  | k + 1, x5, x400000, x400001, x400002, x400003, x400004, x400005, x400006, x400007, x401000, x401001, x401002, x401003, x401004, x401005, x401006, x401007 => if x5 < (x400007.length : Int) then (if 0 ≤ x5 then (if x5 < (x401007.length : Int) then ((folkmootref15_Entries.f k ((rd_T54 x400007 x5).f0) ((rd_T54 x400007 x5).f1) ((rd_T54 x400007 x5).f2) ((rd_T54 x400007 x5).f3.f0) ((rd_T54 x400007 x5).f3.f1) ((rd_T54 x400007 x5).f4) ((rd_T54 x401007 x5).f0) ((rd_T54 x401007 x5).f1) ((rd_T54 x401007 x5).f2) ((rd_T54 x401007 x5).f3.f0) ((rd_T54 x401007 x5).f3.f1) ((rd_T54 x401007 x5).f4)).bind fun t404 => (if t404 = true then (folkmootref15_Same.l0 k (wrap64 (x5 + 1)) x400000 x400001 x400002 x400003 x400004 x400005 x400006 x400007 x401000 x401001 x401002 x401003 x401004 x401005 x401006 x401007) else (some false))) else (none)) else (none)) else (some true)
end
def folkmootref15_Same.f (k : Nat) (a0_0 : Int) (a0_1 : Int) (a0_2 : Int) (a0_3 : Int) (l0_4 : List Int) (l0_5 : List Int) (a0_6 : ByteArray) (l0_7 : List (S54)) (a1_0 : Int) (a1_1 : Int) (a1_2 : Int) (a1_3 : Int) (l1_4 : List Int) (l1_5 : List Int) (a1_6 : ByteArray) (l1_7 : List (S54)) : Option (Bool) := if a0_0 = a1_0 then (if a0_1 = a1_1 then ((folkmootref15_Snaps.f k a0_2 a0_3 l0_4 l0_5 a0_6 a1_2 a1_3 l1_4 l1_5 a1_6).bind fun t401 => (if t401 = true then (folkmootref15_Same.j0 k ((l0_7.length : Int) != (l1_7.length : Int)) a0_0 a0_1 a0_2 a0_3 l0_4 l0_5 a0_6 l0_7 a1_0 a1_1 a1_2 a1_3 l1_4 l1_5 a1_6 l1_7) else (folkmootref15_Same.j0 k true a0_0 a0_1 a0_2 a0_3 l0_4 l0_5 a0_6 l0_7 a1_0 a1_1 a1_2 a1_3 l1_4 l1_5 a1_6 l1_7))) else (folkmootref15_Same.j0 k true a0_0 a0_1 a0_2 a0_3 l0_4 l0_5 a0_6 l0_7 a1_0 a1_1 a1_2 a1_3 l1_4 l1_5 a1_6 l1_7)) else (folkmootref15_Same.j0 k true a0_0 a0_1 a0_2 a0_3 l0_4 l0_5 a0_6 l0_7 a1_0 a1_1 a1_2 a1_3 l1_4 l1_5 a1_6 l1_7)
def folkmootref15_Same.T6 : Bool × List (List Nat × List Nat) := (true, [([], []), ([0], [0]), ([], []), ([1, 2], [1, 2]), ([3], [3]), ([], []), ([5], [5]), ([], []), ([6, 7], [6, 7]), ([8], [8]), ([4, 9], [4, 9]), ([10], [10])])
def folkmootref15_Same.B6 : List Nat := [0, 1, 0, 7, 15, 0, 32, 0, 224, 480, 1023, 2047]
theorem folkmootref15_Same.tab6 : rtab .any (opsOf Try.f27 6) = folkmootref15_Same.T6 := by kernel_rfl
theorem folkmootref15_Same.bits6 : waitsOk folkmootref15_Same.T6.2 folkmootref15_Same.B6 = true := by kernel_rfl
set_option maxHeartbeats 8000000 in
set_option maxRecDepth 100000 in
theorem folkmootref15_Same.calls (k : Nat) (a0_0 : Int) (a0_1 : Int) (a0_2 : Int) (a0_3 : Int) (A0_4 : Option Addr) (c0_4 : Nat) (l0_4 : List Int) (A0_5 : Option Addr) (c0_5 : Nat) (l0_5 : List Int) (a0_6 : ByteArray) (A0_7 : Option Addr) (c0_7 : Nat) (l0_7 : List (S54)) (a1_0 : Int) (a1_1 : Int) (a1_2 : Int) (a1_3 : Int) (A1_4 : Option Addr) (c1_4 : Nat) (l1_4 : List Int) (A1_5 : Option Addr) (c1_5 : Nat) (l1_5 : List Int) (a1_6 : ByteArray) (A1_7 : Option Addr) (c1_7 : Nat) (l1_7 : List (S54)) (r : Bool) (w : World) (hr0_4 : Kd.C (Kd.int .i64) w A0_4 l0_4.length l0_4) (hc0_4 : l0_4.length ≤ c0_4) (hr0_5 : Kd.C (Kd.int .i64) w A0_5 l0_5.length l0_5) (hc0_5 : l0_5.length ≤ c0_5) (hr0_7 : Kd.C k54 w A0_7 l0_7.length l0_7) (hc0_7 : l0_7.length ≤ c0_7) (hr1_4 : Kd.C (Kd.int .i64) w A1_4 l1_4.length l1_4) (hc1_4 : l1_4.length ≤ c1_4) (hr1_5 : Kd.C (Kd.int .i64) w A1_5 l1_5.length l1_5) (hc1_5 : l1_5.length ≤ c1_5) (hr1_7 : Kd.C k54 w A1_7 l1_7.length l1_7) (hc1_7 : l1_7.length ≤ c1_7) (h : folkmootref15_Same.f k a0_0 a0_1 a0_2 a0_3 l0_4 l0_5 a0_6 l0_7 a1_0 a1_1 a1_2 a1_3 l1_4 l1_5 a1_6 l1_7 = some r) :
    Calls Try.prog 27 #[.agg #[.int .i64 a0_0, .int .i64 a0_1, .int .i64 a0_2, .int .i64 a0_3, .slice A0_4 l0_4.length c0_4, .slice A0_5 l0_5.length c0_5, .string a0_6, .slice A0_7 l0_7.length c0_7], .agg #[.int .i64 a1_0, .int .i64 a1_1, .int .i64 a1_2, .int .i64 a1_3, .slice A1_4 l1_4.length c1_4, .slice A1_5 l1_5.length c1_5, .string a1_6, .slice A1_7 l1_7.length c1_7]] w fun e w' => e = .returned (.bool r) ∧ Below w.heap.size w w' := by
  have hu30 := Try.underlying30
  have hu27 := Try.underlying27
  have hu54 := Try.underlying54
  have HR0_4 := Aside0.mk hr0_4
  have HC0_4 := Aside0.mk hc0_4
  clear hr0_4 hc0_4
  have HR0_5 := Aside0.mk hr0_5
  have HC0_5 := Aside0.mk hc0_5
  clear hr0_5 hc0_5
  have HR0_7 := Aside0.mk hr0_7
  have HC0_7 := Aside0.mk hc0_7
  clear hr0_7 hc0_7
  have HR1_4 := Aside0.mk hr1_4
  have HC1_4 := Aside0.mk hc1_4
  clear hr1_4 hc1_4
  have HR1_5 := Aside0.mk hr1_5
  have HC1_5 := Aside0.mk hc1_5
  clear hr1_5 hc1_5
  have HR1_7 := Aside0.mk hr1_7
  have HC1_7 := Aside0.mk hc1_7
  clear hr1_7 hc1_7
  have HB := Aside0.mk (Below.refl w.heap.size w)
  have H : (if a0_0 = a1_0 then (if a0_1 = a1_1 then ((folkmootref15_Snaps.f k a0_2 a0_3 l0_4 l0_5 a0_6 a1_2 a1_3 l1_4 l1_5 a1_6).bind fun t401 => (if t401 = true then (folkmootref15_Same.j0 k ((l0_7.length : Int) != (l1_7.length : Int)) a0_0 a0_1 a0_2 a0_3 l0_4 l0_5 a0_6 l0_7 a1_0 a1_1 a1_2 a1_3 l1_4 l1_5 a1_6 l1_7) else (folkmootref15_Same.j0 k true a0_0 a0_1 a0_2 a0_3 l0_4 l0_5 a0_6 l0_7 a1_0 a1_1 a1_2 a1_3 l1_4 l1_5 a1_6 l1_7))) else (folkmootref15_Same.j0 k true a0_0 a0_1 a0_2 a0_3 l0_4 l0_5 a0_6 l0_7 a1_0 a1_1 a1_2 a1_3 l1_4 l1_5 a1_6 l1_7)) else (folkmootref15_Same.j0 k true a0_0 a0_1 a0_2 a0_3 l0_4 l0_5 a0_6 l0_7 a1_0 a1_1 a1_2 a1_3 l1_4 l1_5 a1_6 l1_7)) = some r := h
  clear h
  have HC3 := Aside0.mk H
  clear H
  go_enter Try.func27, Try.ntmps27
  go_upto_region 1 with (first | ((with_reducible refine gate_dst (N := 2) rfl ?_); (try (refine gate_guard (by rfl) ?_; dsimp only)); refine box_event ?hg (N := 2) ?hd (cs := #[.int .i64 a0_0, .int .i64 a0_1, .int .i64 a0_2, .int .i64 a0_3, .slice A0_4 l0_4.length c0_4, .slice A0_5 l0_5.length c0_5, .string a0_6, .slice A0_7 l0_7.length c0_7]) (t := 30) ?hr ?_; (case hd => rfl); (case hg => rfl); (case hr => first | (go_simp; done) | (go_simp; rfl)); intro gb399 hg w4 hbox hb; have n0_ := Aside0.mk (below_step (by repeat (first | (with_reducible first | exact HB.out | apply below_alloc | apply pw_below_drewN | apply below_drew1) | exact HB.out)) hb); have n1_ := Aside0.mk (hbox); have n2_ := Aside0.mk ((by rw [hg]; exact (below_size (by repeat (first | (with_reducible first | exact HB.out | apply below_alloc | apply pw_below_drewN | apply below_drew1) | exact HB.out))) : w.heap.size ≤ gb399)); have n3_ := Aside0.mk ((by rw [hg]; exact (below_size (by repeat (first | (with_reducible first | exact HB.out | apply below_alloc | apply pw_below_drewN | apply below_drew1) | exact HB.out))) : w.heap.size ≤ gb399)); clear HB; have HB := n0_; have BK399 := n1_; have GW399 := n2_; have GE399 := n3_; clear n0_ n1_ n2_ n3_; clear hb hbox hg) | ((with_reducible refine gate_dst (N := 3) rfl ?_); (try (refine gate_guard (by rfl) ?_; dsimp only)); refine box_event ?hg (N := 3) ?hd (cs := #[.int .i64 a1_0, .int .i64 a1_1, .int .i64 a1_2, .int .i64 a1_3, .slice A1_4 l1_4.length c1_4, .slice A1_5 l1_5.length c1_5, .string a1_6, .slice A1_7 l1_7.length c1_7]) (t := 30) ?hr ?_; (case hd => rfl); (case hg => rfl); (case hr => first | (go_simp; done) | (go_simp; rfl)); intro gb400 hg w5 hbox hb; have n0_ := Aside0.mk (blk_below (g := gb399) (o := .cells #[.int .i64 a0_0, .int .i64 a0_1, .int .i64 a0_2, .int .i64 a0_3, .slice A0_4 l0_4.length c0_4, .slice A0_5 l0_5.length c0_5, .string a0_6, .slice A0_7 l0_7.length c0_7] 30 (0, 0)) (by (with_reducible repeat (first | refine blk_drewN ?_ _ | refine blk_drew ?_ | refine blk_alloc ?_ _)); exact BK399.out) hb); have n1_ := Aside0.mk (below_step (by repeat (first | (with_reducible first | exact HB.out | apply below_alloc | apply pw_below_drewN | apply below_drew1 | refine below_set ?_ GE399.out) | exact HB.out)) hb); have n2_ := Aside0.mk (hbox); have n3_ := Aside0.mk ((by rw [hg]; exact (below_size (by repeat (first | (with_reducible first | exact HB.out | apply below_alloc | apply pw_below_drewN | apply below_drew1 | refine below_set ?_ GE399.out) | exact HB.out))) : w.heap.size ≤ gb400)); have n4_ := Aside0.mk ((by rw [hg]; exact (below_size (by repeat (first | (with_reducible first | exact HB.out | apply below_alloc | apply pw_below_drewN | apply below_drew1 | refine below_set ?_ GE399.out) | exact HB.out))) : w.heap.size ≤ gb400)); have n5_ := Aside0.mk ((by rw [hg]; exact Nat.ne_of_lt (blk_lt (g := gb399) (o := .cells #[.int .i64 a0_0, .int .i64 a0_1, .int .i64 a0_2, .int .i64 a0_3, .slice A0_4 l0_4.length c0_4, .slice A0_5 l0_5.length c0_5, .string a0_6, .slice A0_7 l0_7.length c0_7] 30 (0, 0)) (by (with_reducible repeat (first | refine blk_drewN ?_ _ | refine blk_drew ?_ | refine blk_alloc ?_ _)); exact BK399.out)) : gb399 ≠ gb400)); have n6_ := Aside0.mk ((by rw [hg]; exact Nat.ne_of_gt (blk_lt (g := gb399) (o := .cells #[.int .i64 a0_0, .int .i64 a0_1, .int .i64 a0_2, .int .i64 a0_3, .slice A0_4 l0_4.length c0_4, .slice A0_5 l0_5.length c0_5, .string a0_6, .slice A0_7 l0_7.length c0_7] 30 (0, 0)) (by (with_reducible repeat (first | refine blk_drewN ?_ _ | refine blk_drew ?_ | refine blk_alloc ?_ _)); exact BK399.out)) : gb400 ≠ gb399)); clear BK399; clear HB; have BK399 := n0_; have HB := n1_; have BK400 := n2_; have GW400 := n3_; have GE400 := n4_; have NB399_400 := n5_; have NB400_399 := n6_; clear n0_ n1_ n2_ n3_ n4_ n5_ n6_; clear hb hbox hg))
  (try simp only [Act.put, List.setIfInBounds_toArray, List.set_cons_zero, List.set_cons_succ])
  go_cut [34] (fun v34 wc => ∃ (kq : Nat) (x34_2 : Bool), v34 = .bool x34_2 ∧ Aside0 (folkmootref15_Same.j0 kq x34_2 a0_0 a0_1 a0_2 a0_3 l0_4 l0_5 a0_6 l0_7 a1_0 a1_1 a1_2 a1_3 l1_4 l1_5 a1_6 l1_7 = some r) ∧ Aside0 (kq ≤ k) ∧ Aside0 (wc.heap[gb399]? = some (.cells #[.int .i64 a0_0, .int .i64 a0_1, .int .i64 a0_2, .int .i64 a0_3, (.slice A0_4 l0_4.length c0_4), (.slice A0_5 l0_5.length c0_5), .string a0_6, (.slice A0_7 l0_7.length c0_7)] 30 (0, 0))) ∧ Aside0 (wc.heap[gb400]? = some (.cells #[.int .i64 a1_0, .int .i64 a1_1, .int .i64 a1_2, .int .i64 a1_3, (.slice A1_4 l1_4.length c1_4), (.slice A1_5 l1_5.length c1_5), .string a1_6, (.slice A1_7 l1_7.length c1_7)] 30 (0, 0))) ∧ Aside0 (Below w.heap.size w wc))
  case first =>
    have H := HC3.out
    clear HC3
    by_cases c6 : a0_0 = a1_0
    · rw [if_pos c6] at H
      have c6b0 : (a0_0 == a1_0) = true := beq_iff_eq.mpr c6
      have c6b1 : (a0_0 != a1_0) = false := bne_eq_false_iff_eq.mpr c6
      clear c6
      (first | rw [c6b0] | (simp only [i64_w, i32_w]; rw [c6b0]) | skip)
      by_cases c7 : a0_1 = a1_1
      · rw [if_pos c7] at H
        have c7b0 : (a0_1 == a1_1) = true := beq_iff_eq.mpr c7
        have c7b1 : (a0_1 != a1_1) = false := bne_eq_false_iff_eq.mpr c7
        clear c7
        replace H := Option.bind_eq_some_iff.mp H
        obtain ⟨t401, A80, H⟩ := H
        replace H : (if t401 = true then (folkmootref15_Same.j0 k ((l0_7.length : Int) != (l1_7.length : Int)) a0_0 a0_1 a0_2 a0_3 l0_4 l0_5 a0_6 l0_7 a1_0 a1_1 a1_2 a1_3 l1_4 l1_5 a1_6 l1_7) else (folkmootref15_Same.j0 k true a0_0 a0_1 a0_2 a0_3 l0_4 l0_5 a0_6 l0_7 a1_0 a1_1 a1_2 a1_3 l1_4 l1_5 a1_6 l1_7)) = some r := H
        have A8 := Aside0.mk A80
        clear A80
        by_cases c9 : t401 = true
        · subst c9
          have H1 : (folkmootref15_Same.j0 k ((l0_7.length : Int) != (l1_7.length : Int)) a0_0 a0_1 a0_2 a0_3 l0_4 l0_5 a0_6 l0_7 a1_0 a1_1 a1_2 a1_3 l1_4 l1_5 a1_6 l1_7) = some r := by rw [if_pos rfl] at H; exact H
          clear H
          have H := H1
          clear H1
          have H' := Aside0.mk H
          clear H
          have hnb10 := NB399_400.out
          have hnc10 := NB400_399.out
          have hcz11_0 : w5.cell? ⟨gb399, 0, none⟩ = some (.int .i64 a0_0) := (blk_cell BK399.out 0).trans rfl
          have hcz11_1 : w5.cell? ⟨gb399, 1, none⟩ = some (.int .i64 a0_1) := (blk_cell BK399.out 1).trans rfl
          have hcz11_2 : w5.cell? ⟨gb399, 2, none⟩ = some (.int .i64 a0_2) := (blk_cell BK399.out 2).trans rfl
          have hcz11_3 : w5.cell? ⟨gb399, 3, none⟩ = some (.int .i64 a0_3) := (blk_cell BK399.out 3).trans rfl
          have hcz11_4 : w5.cell? ⟨gb399, 4, none⟩ = some (.slice A0_4 l0_4.length c0_4) := (blk_cell BK399.out 4).trans rfl
          have hcz11_5 : w5.cell? ⟨gb399, 5, none⟩ = some (.slice A0_5 l0_5.length c0_5) := (blk_cell BK399.out 5).trans rfl
          have hcz11_6 : w5.cell? ⟨gb399, 6, none⟩ = some (.string a0_6) := (blk_cell BK399.out 6).trans rfl
          have hcz11_7 : w5.cell? ⟨gb399, 7, none⟩ = some (.slice A0_7 l0_7.length c0_7) := (blk_cell BK399.out 7).trans rfl
          have hfz11_0 := blk_frozen BK399.out 0
          have hfz11_1 := blk_frozen BK399.out 1
          have hfz11_2 := blk_frozen BK399.out 2
          have hfz11_3 := blk_frozen BK399.out 3
          have hfz11_4 := blk_frozen BK399.out 4
          have hfz11_5 := blk_frozen BK399.out 5
          have hfz11_6 := blk_frozen BK399.out 6
          have hfz11_7 := blk_frozen BK399.out 7
          have hcz12_0 : w5.cell? ⟨gb400, 0, none⟩ = some (.int .i64 a1_0) := (blk_cell BK400.out 0).trans rfl
          have hcz12_1 : w5.cell? ⟨gb400, 1, none⟩ = some (.int .i64 a1_1) := (blk_cell BK400.out 1).trans rfl
          have hcz12_2 : w5.cell? ⟨gb400, 2, none⟩ = some (.int .i64 a1_2) := (blk_cell BK400.out 2).trans rfl
          have hcz12_3 : w5.cell? ⟨gb400, 3, none⟩ = some (.int .i64 a1_3) := (blk_cell BK400.out 3).trans rfl
          have hcz12_4 : w5.cell? ⟨gb400, 4, none⟩ = some (.slice A1_4 l1_4.length c1_4) := (blk_cell BK400.out 4).trans rfl
          have hcz12_5 : w5.cell? ⟨gb400, 5, none⟩ = some (.slice A1_5 l1_5.length c1_5) := (blk_cell BK400.out 5).trans rfl
          have hcz12_6 : w5.cell? ⟨gb400, 6, none⟩ = some (.string a1_6) := (blk_cell BK400.out 6).trans rfl
          have hcz12_7 : w5.cell? ⟨gb400, 7, none⟩ = some (.slice A1_7 l1_7.length c1_7) := (blk_cell BK400.out 7).trans rfl
          have hfz12_0 := blk_frozen BK400.out 0
          have hfz12_1 := blk_frozen BK400.out 1
          have hfz12_2 := blk_frozen BK400.out 2
          have hfz12_3 := blk_frozen BK400.out 3
          have hfz12_4 := blk_frozen BK400.out 4
          have hfz12_5 := blk_frozen BK400.out 5
          have hfz12_6 := blk_frozen BK400.out 6
          have hfz12_7 := blk_frozen BK400.out 7
          go_wp2_with (first | (go_at_call 41; (with_reducible refine (folkmootref15_Snaps.calls k a0_2 a0_3 _ _ l0_4 _ _ l0_5 a0_6 a1_2 a1_3 _ _ l1_4 _ _ l1_5 a1_6 true _ ?side1 ?side2 ?side3 ?side4 ?side5 ?side6 ?side7 ?side8 A8.out).mono ?_); (case side1 => repeat (first | exact (Kd.C_below HR0_4.out HB.out) | (with_reducible refine Kd.C_alloc ?_ _) | (with_reducible refine Kd.C_drewN ?_ _) | (with_reducible refine Kd.C_drew ?_))); (case side2 => exact HC0_4.out); (case side3 => repeat (first | exact (Kd.C_below HR0_5.out HB.out) | (with_reducible refine Kd.C_alloc ?_ _) | (with_reducible refine Kd.C_drewN ?_ _) | (with_reducible refine Kd.C_drew ?_))); (case side4 => exact HC0_5.out); (case side5 => repeat (first | exact (Kd.C_below HR1_4.out HB.out) | (with_reducible refine Kd.C_alloc ?_ _) | (with_reducible refine Kd.C_drewN ?_ _) | (with_reducible refine Kd.C_drew ?_))); (case side6 => exact HC1_4.out); (case side7 => repeat (first | exact (Kd.C_below HR1_5.out HB.out) | (with_reducible refine Kd.C_alloc ?_ _) | (with_reducible refine Kd.C_drewN ?_ _) | (with_reducible refine Kd.C_drew ?_))); (case side8 => exact HC1_5.out); rintro e w13 ⟨rfl, hb⟩; have n0_ := Aside0.mk (blk_below (g := gb399) (o := .cells #[.int .i64 a0_0, .int .i64 a0_1, .int .i64 a0_2, .int .i64 a0_3, .slice A0_4 l0_4.length c0_4, .slice A0_5 l0_5.length c0_5, .string a0_6, .slice A0_7 l0_7.length c0_7] 30 (0, 0)) (by (with_reducible repeat (first | refine blk_drewN ?_ _ | refine blk_drew ?_ | refine blk_alloc ?_ _)); exact BK399.out) hb); have n1_ := Aside0.mk (blk_below (g := gb400) (o := .cells #[.int .i64 a1_0, .int .i64 a1_1, .int .i64 a1_2, .int .i64 a1_3, .slice A1_4 l1_4.length c1_4, .slice A1_5 l1_5.length c1_5, .string a1_6, .slice A1_7 l1_7.length c1_7] 30 (0, 0)) (by (with_reducible repeat (first | refine blk_drewN ?_ _ | refine blk_drew ?_ | refine blk_alloc ?_ _)); exact BK400.out) hb); have n2_ := Aside0.mk (below_step (by repeat (first | (with_reducible first | exact HB.out | apply below_alloc | apply pw_below_drewN | apply below_drew1 | refine below_set ?_ GE399.out | refine below_set ?_ GE400.out) | exact HB.out)) hb); clear BK399; clear BK400; clear HB; have BK399 := n0_; have BK400 := n1_; have HB := n2_; clear n0_ n1_ n2_; (try clear hb); (try clear hb2); (try clear hk); (try clear hi); have hcz14_0 : w13.cell? ⟨gb399, 0, none⟩ = some (.int .i64 a0_0) := (blk_cell BK399.out 0).trans rfl; have hcz14_1 : w13.cell? ⟨gb399, 1, none⟩ = some (.int .i64 a0_1) := (blk_cell BK399.out 1).trans rfl; have hcz14_2 : w13.cell? ⟨gb399, 2, none⟩ = some (.int .i64 a0_2) := (blk_cell BK399.out 2).trans rfl; have hcz14_3 : w13.cell? ⟨gb399, 3, none⟩ = some (.int .i64 a0_3) := (blk_cell BK399.out 3).trans rfl; have hcz14_4 : w13.cell? ⟨gb399, 4, none⟩ = some (.slice A0_4 l0_4.length c0_4) := (blk_cell BK399.out 4).trans rfl; have hcz14_5 : w13.cell? ⟨gb399, 5, none⟩ = some (.slice A0_5 l0_5.length c0_5) := (blk_cell BK399.out 5).trans rfl; have hcz14_6 : w13.cell? ⟨gb399, 6, none⟩ = some (.string a0_6) := (blk_cell BK399.out 6).trans rfl; have hcz14_7 : w13.cell? ⟨gb399, 7, none⟩ = some (.slice A0_7 l0_7.length c0_7) := (blk_cell BK399.out 7).trans rfl; have hfz14_0 := blk_frozen BK399.out 0; have hfz14_1 := blk_frozen BK399.out 1; have hfz14_2 := blk_frozen BK399.out 2; have hfz14_3 := blk_frozen BK399.out 3; have hfz14_4 := blk_frozen BK399.out 4; have hfz14_5 := blk_frozen BK399.out 5; have hfz14_6 := blk_frozen BK399.out 6; have hfz14_7 := blk_frozen BK399.out 7; have hcz15_0 : w13.cell? ⟨gb400, 0, none⟩ = some (.int .i64 a1_0) := (blk_cell BK400.out 0).trans rfl; have hcz15_1 : w13.cell? ⟨gb400, 1, none⟩ = some (.int .i64 a1_1) := (blk_cell BK400.out 1).trans rfl; have hcz15_2 : w13.cell? ⟨gb400, 2, none⟩ = some (.int .i64 a1_2) := (blk_cell BK400.out 2).trans rfl; have hcz15_3 : w13.cell? ⟨gb400, 3, none⟩ = some (.int .i64 a1_3) := (blk_cell BK400.out 3).trans rfl; have hcz15_4 : w13.cell? ⟨gb400, 4, none⟩ = some (.slice A1_4 l1_4.length c1_4) := (blk_cell BK400.out 4).trans rfl; have hcz15_5 : w13.cell? ⟨gb400, 5, none⟩ = some (.slice A1_5 l1_5.length c1_5) := (blk_cell BK400.out 5).trans rfl; have hcz15_6 : w13.cell? ⟨gb400, 6, none⟩ = some (.string a1_6) := (blk_cell BK400.out 6).trans rfl; have hcz15_7 : w13.cell? ⟨gb400, 7, none⟩ = some (.slice A1_7 l1_7.length c1_7) := (blk_cell BK400.out 7).trans rfl; have hfz15_0 := blk_frozen BK400.out 0; have hfz15_1 := blk_frozen BK400.out 1; have hfz15_2 := blk_frozen BK400.out 2; have hfz15_3 := blk_frozen BK400.out 3; have hfz15_4 := blk_frozen BK400.out 4; have hfz15_5 := blk_frozen BK400.out 5; have hfz15_6 := blk_frozen BK400.out 6; have hfz15_7 := blk_frozen BK400.out 7))
          go_meet
          case rel => exact ⟨_, (((l0_7.length : Int) != (l1_7.length : Int))), (by first | rfl | (simp; done) | (simp [*]; done)), H', ⟨by first | omega | exact Nat.le_refl _⟩, ⟨by (with_reducible repeat (first | refine blk_drewN ?_ _ | refine blk_drew ?_ | refine blk_alloc ?_ _)); exact BK399.out⟩, ⟨by (with_reducible repeat (first | refine blk_drewN ?_ _ | refine blk_drew ?_ | refine blk_alloc ?_ _)); exact BK400.out⟩, ⟨by repeat (first | (with_reducible first | exact HB.out | apply below_alloc | apply pw_below_drewN | apply below_drew1 | refine below_set ?_ GE399.out | refine below_set ?_ GE400.out) | exact HB.out)⟩⟩
        · replace c9 := Bool.eq_false_iff.mpr c9
          subst c9
          have H1 : (folkmootref15_Same.j0 k true a0_0 a0_1 a0_2 a0_3 l0_4 l0_5 a0_6 l0_7 a1_0 a1_1 a1_2 a1_3 l1_4 l1_5 a1_6 l1_7) = some r := by rw [if_neg (show ¬ (false = true) by decide)] at H; exact H
          clear H
          have H := H1
          clear H1
          have H' := Aside0.mk H
          clear H
          have hnb16 := NB399_400.out
          have hnc16 := NB400_399.out
          have hcz17_0 : w5.cell? ⟨gb399, 0, none⟩ = some (.int .i64 a0_0) := (blk_cell BK399.out 0).trans rfl
          have hcz17_1 : w5.cell? ⟨gb399, 1, none⟩ = some (.int .i64 a0_1) := (blk_cell BK399.out 1).trans rfl
          have hcz17_2 : w5.cell? ⟨gb399, 2, none⟩ = some (.int .i64 a0_2) := (blk_cell BK399.out 2).trans rfl
          have hcz17_3 : w5.cell? ⟨gb399, 3, none⟩ = some (.int .i64 a0_3) := (blk_cell BK399.out 3).trans rfl
          have hcz17_4 : w5.cell? ⟨gb399, 4, none⟩ = some (.slice A0_4 l0_4.length c0_4) := (blk_cell BK399.out 4).trans rfl
          have hcz17_5 : w5.cell? ⟨gb399, 5, none⟩ = some (.slice A0_5 l0_5.length c0_5) := (blk_cell BK399.out 5).trans rfl
          have hcz17_6 : w5.cell? ⟨gb399, 6, none⟩ = some (.string a0_6) := (blk_cell BK399.out 6).trans rfl
          have hcz17_7 : w5.cell? ⟨gb399, 7, none⟩ = some (.slice A0_7 l0_7.length c0_7) := (blk_cell BK399.out 7).trans rfl
          have hfz17_0 := blk_frozen BK399.out 0
          have hfz17_1 := blk_frozen BK399.out 1
          have hfz17_2 := blk_frozen BK399.out 2
          have hfz17_3 := blk_frozen BK399.out 3
          have hfz17_4 := blk_frozen BK399.out 4
          have hfz17_5 := blk_frozen BK399.out 5
          have hfz17_6 := blk_frozen BK399.out 6
          have hfz17_7 := blk_frozen BK399.out 7
          have hcz18_0 : w5.cell? ⟨gb400, 0, none⟩ = some (.int .i64 a1_0) := (blk_cell BK400.out 0).trans rfl
          have hcz18_1 : w5.cell? ⟨gb400, 1, none⟩ = some (.int .i64 a1_1) := (blk_cell BK400.out 1).trans rfl
          have hcz18_2 : w5.cell? ⟨gb400, 2, none⟩ = some (.int .i64 a1_2) := (blk_cell BK400.out 2).trans rfl
          have hcz18_3 : w5.cell? ⟨gb400, 3, none⟩ = some (.int .i64 a1_3) := (blk_cell BK400.out 3).trans rfl
          have hcz18_4 : w5.cell? ⟨gb400, 4, none⟩ = some (.slice A1_4 l1_4.length c1_4) := (blk_cell BK400.out 4).trans rfl
          have hcz18_5 : w5.cell? ⟨gb400, 5, none⟩ = some (.slice A1_5 l1_5.length c1_5) := (blk_cell BK400.out 5).trans rfl
          have hcz18_6 : w5.cell? ⟨gb400, 6, none⟩ = some (.string a1_6) := (blk_cell BK400.out 6).trans rfl
          have hcz18_7 : w5.cell? ⟨gb400, 7, none⟩ = some (.slice A1_7 l1_7.length c1_7) := (blk_cell BK400.out 7).trans rfl
          have hfz18_0 := blk_frozen BK400.out 0
          have hfz18_1 := blk_frozen BK400.out 1
          have hfz18_2 := blk_frozen BK400.out 2
          have hfz18_3 := blk_frozen BK400.out 3
          have hfz18_4 := blk_frozen BK400.out 4
          have hfz18_5 := blk_frozen BK400.out 5
          have hfz18_6 := blk_frozen BK400.out 6
          have hfz18_7 := blk_frozen BK400.out 7
          go_wp2_with (first | (go_at_call 41; (with_reducible refine (folkmootref15_Snaps.calls k a0_2 a0_3 _ _ l0_4 _ _ l0_5 a0_6 a1_2 a1_3 _ _ l1_4 _ _ l1_5 a1_6 false _ ?side1 ?side2 ?side3 ?side4 ?side5 ?side6 ?side7 ?side8 A8.out).mono ?_); (case side1 => repeat (first | exact (Kd.C_below HR0_4.out HB.out) | (with_reducible refine Kd.C_alloc ?_ _) | (with_reducible refine Kd.C_drewN ?_ _) | (with_reducible refine Kd.C_drew ?_))); (case side2 => exact HC0_4.out); (case side3 => repeat (first | exact (Kd.C_below HR0_5.out HB.out) | (with_reducible refine Kd.C_alloc ?_ _) | (with_reducible refine Kd.C_drewN ?_ _) | (with_reducible refine Kd.C_drew ?_))); (case side4 => exact HC0_5.out); (case side5 => repeat (first | exact (Kd.C_below HR1_4.out HB.out) | (with_reducible refine Kd.C_alloc ?_ _) | (with_reducible refine Kd.C_drewN ?_ _) | (with_reducible refine Kd.C_drew ?_))); (case side6 => exact HC1_4.out); (case side7 => repeat (first | exact (Kd.C_below HR1_5.out HB.out) | (with_reducible refine Kd.C_alloc ?_ _) | (with_reducible refine Kd.C_drewN ?_ _) | (with_reducible refine Kd.C_drew ?_))); (case side8 => exact HC1_5.out); rintro e w19 ⟨rfl, hb⟩; have n0_ := Aside0.mk (blk_below (g := gb399) (o := .cells #[.int .i64 a0_0, .int .i64 a0_1, .int .i64 a0_2, .int .i64 a0_3, .slice A0_4 l0_4.length c0_4, .slice A0_5 l0_5.length c0_5, .string a0_6, .slice A0_7 l0_7.length c0_7] 30 (0, 0)) (by (with_reducible repeat (first | refine blk_drewN ?_ _ | refine blk_drew ?_ | refine blk_alloc ?_ _)); exact BK399.out) hb); have n1_ := Aside0.mk (blk_below (g := gb400) (o := .cells #[.int .i64 a1_0, .int .i64 a1_1, .int .i64 a1_2, .int .i64 a1_3, .slice A1_4 l1_4.length c1_4, .slice A1_5 l1_5.length c1_5, .string a1_6, .slice A1_7 l1_7.length c1_7] 30 (0, 0)) (by (with_reducible repeat (first | refine blk_drewN ?_ _ | refine blk_drew ?_ | refine blk_alloc ?_ _)); exact BK400.out) hb); have n2_ := Aside0.mk (below_step (by repeat (first | (with_reducible first | exact HB.out | apply below_alloc | apply pw_below_drewN | apply below_drew1 | refine below_set ?_ GE399.out | refine below_set ?_ GE400.out) | exact HB.out)) hb); clear BK399; clear BK400; clear HB; have BK399 := n0_; have BK400 := n1_; have HB := n2_; clear n0_ n1_ n2_; (try clear hb); (try clear hb2); (try clear hk); (try clear hi)))
          go_meet
          case rel => exact ⟨_, (true), (by first | rfl | (simp; done) | (simp [*]; done)), H', ⟨by first | omega | exact Nat.le_refl _⟩, ⟨by (with_reducible repeat (first | refine blk_drewN ?_ _ | refine blk_drew ?_ | refine blk_alloc ?_ _)); exact BK399.out⟩, ⟨by (with_reducible repeat (first | refine blk_drewN ?_ _ | refine blk_drew ?_ | refine blk_alloc ?_ _)); exact BK400.out⟩, ⟨by repeat (first | (with_reducible first | exact HB.out | apply below_alloc | apply pw_below_drewN | apply below_drew1 | refine below_set ?_ GE399.out | refine below_set ?_ GE400.out) | exact HB.out)⟩⟩
      · rw [if_neg c7] at H
        have c7b0 : (a0_1 == a1_1) = false := beq_eq_false_iff_ne.mpr c7
        have c7b1 : (a0_1 != a1_1) = true := bne_iff_ne.mpr c7
        have H' := Aside0.mk H
        clear H
        have hnb20 := NB399_400.out
        have hnc20 := NB400_399.out
        have hcz21_0 : w5.cell? ⟨gb399, 0, none⟩ = some (.int .i64 a0_0) := (blk_cell BK399.out 0).trans rfl
        have hcz21_1 : w5.cell? ⟨gb399, 1, none⟩ = some (.int .i64 a0_1) := (blk_cell BK399.out 1).trans rfl
        have hcz21_2 : w5.cell? ⟨gb399, 2, none⟩ = some (.int .i64 a0_2) := (blk_cell BK399.out 2).trans rfl
        have hcz21_3 : w5.cell? ⟨gb399, 3, none⟩ = some (.int .i64 a0_3) := (blk_cell BK399.out 3).trans rfl
        have hcz21_4 : w5.cell? ⟨gb399, 4, none⟩ = some (.slice A0_4 l0_4.length c0_4) := (blk_cell BK399.out 4).trans rfl
        have hcz21_5 : w5.cell? ⟨gb399, 5, none⟩ = some (.slice A0_5 l0_5.length c0_5) := (blk_cell BK399.out 5).trans rfl
        have hcz21_6 : w5.cell? ⟨gb399, 6, none⟩ = some (.string a0_6) := (blk_cell BK399.out 6).trans rfl
        have hcz21_7 : w5.cell? ⟨gb399, 7, none⟩ = some (.slice A0_7 l0_7.length c0_7) := (blk_cell BK399.out 7).trans rfl
        have hfz21_0 := blk_frozen BK399.out 0
        have hfz21_1 := blk_frozen BK399.out 1
        have hfz21_2 := blk_frozen BK399.out 2
        have hfz21_3 := blk_frozen BK399.out 3
        have hfz21_4 := blk_frozen BK399.out 4
        have hfz21_5 := blk_frozen BK399.out 5
        have hfz21_6 := blk_frozen BK399.out 6
        have hfz21_7 := blk_frozen BK399.out 7
        have hcz22_0 : w5.cell? ⟨gb400, 0, none⟩ = some (.int .i64 a1_0) := (blk_cell BK400.out 0).trans rfl
        have hcz22_1 : w5.cell? ⟨gb400, 1, none⟩ = some (.int .i64 a1_1) := (blk_cell BK400.out 1).trans rfl
        have hcz22_2 : w5.cell? ⟨gb400, 2, none⟩ = some (.int .i64 a1_2) := (blk_cell BK400.out 2).trans rfl
        have hcz22_3 : w5.cell? ⟨gb400, 3, none⟩ = some (.int .i64 a1_3) := (blk_cell BK400.out 3).trans rfl
        have hcz22_4 : w5.cell? ⟨gb400, 4, none⟩ = some (.slice A1_4 l1_4.length c1_4) := (blk_cell BK400.out 4).trans rfl
        have hcz22_5 : w5.cell? ⟨gb400, 5, none⟩ = some (.slice A1_5 l1_5.length c1_5) := (blk_cell BK400.out 5).trans rfl
        have hcz22_6 : w5.cell? ⟨gb400, 6, none⟩ = some (.string a1_6) := (blk_cell BK400.out 6).trans rfl
        have hcz22_7 : w5.cell? ⟨gb400, 7, none⟩ = some (.slice A1_7 l1_7.length c1_7) := (blk_cell BK400.out 7).trans rfl
        have hfz22_0 := blk_frozen BK400.out 0
        have hfz22_1 := blk_frozen BK400.out 1
        have hfz22_2 := blk_frozen BK400.out 2
        have hfz22_3 := blk_frozen BK400.out 3
        have hfz22_4 := blk_frozen BK400.out 4
        have hfz22_5 := blk_frozen BK400.out 5
        have hfz22_6 := blk_frozen BK400.out 6
        have hfz22_7 := blk_frozen BK400.out 7
        go_wp2
        go_meet
        case rel => exact ⟨_, (true), (by first | rfl | (simp; done) | (simp [*]; done)), H', ⟨by first | omega | exact Nat.le_refl _⟩, ⟨by (with_reducible repeat (first | refine blk_drewN ?_ _ | refine blk_drew ?_ | refine blk_alloc ?_ _)); exact BK399.out⟩, ⟨by (with_reducible repeat (first | refine blk_drewN ?_ _ | refine blk_drew ?_ | refine blk_alloc ?_ _)); exact BK400.out⟩, ⟨by repeat (first | (with_reducible first | exact HB.out | apply below_alloc | apply pw_below_drewN | apply below_drew1 | refine below_set ?_ GE399.out | refine below_set ?_ GE400.out) | exact HB.out)⟩⟩
    · rw [if_neg c6] at H
      have c6b0 : (a0_0 == a1_0) = false := beq_eq_false_iff_ne.mpr c6
      have c6b1 : (a0_0 != a1_0) = true := bne_iff_ne.mpr c6
      (first | rw [c6b0] | (simp only [i64_w, i32_w]; rw [c6b0]) | skip)
      have H' := Aside0.mk H
      clear H
      have hnb23 := NB399_400.out
      have hnc23 := NB400_399.out
      have hcz24_0 : w5.cell? ⟨gb399, 0, none⟩ = some (.int .i64 a0_0) := (blk_cell BK399.out 0).trans rfl
      have hcz24_1 : w5.cell? ⟨gb399, 1, none⟩ = some (.int .i64 a0_1) := (blk_cell BK399.out 1).trans rfl
      have hcz24_2 : w5.cell? ⟨gb399, 2, none⟩ = some (.int .i64 a0_2) := (blk_cell BK399.out 2).trans rfl
      have hcz24_3 : w5.cell? ⟨gb399, 3, none⟩ = some (.int .i64 a0_3) := (blk_cell BK399.out 3).trans rfl
      have hcz24_4 : w5.cell? ⟨gb399, 4, none⟩ = some (.slice A0_4 l0_4.length c0_4) := (blk_cell BK399.out 4).trans rfl
      have hcz24_5 : w5.cell? ⟨gb399, 5, none⟩ = some (.slice A0_5 l0_5.length c0_5) := (blk_cell BK399.out 5).trans rfl
      have hcz24_6 : w5.cell? ⟨gb399, 6, none⟩ = some (.string a0_6) := (blk_cell BK399.out 6).trans rfl
      have hcz24_7 : w5.cell? ⟨gb399, 7, none⟩ = some (.slice A0_7 l0_7.length c0_7) := (blk_cell BK399.out 7).trans rfl
      have hfz24_0 := blk_frozen BK399.out 0
      have hfz24_1 := blk_frozen BK399.out 1
      have hfz24_2 := blk_frozen BK399.out 2
      have hfz24_3 := blk_frozen BK399.out 3
      have hfz24_4 := blk_frozen BK399.out 4
      have hfz24_5 := blk_frozen BK399.out 5
      have hfz24_6 := blk_frozen BK399.out 6
      have hfz24_7 := blk_frozen BK399.out 7
      have hcz25_0 : w5.cell? ⟨gb400, 0, none⟩ = some (.int .i64 a1_0) := (blk_cell BK400.out 0).trans rfl
      have hcz25_1 : w5.cell? ⟨gb400, 1, none⟩ = some (.int .i64 a1_1) := (blk_cell BK400.out 1).trans rfl
      have hcz25_2 : w5.cell? ⟨gb400, 2, none⟩ = some (.int .i64 a1_2) := (blk_cell BK400.out 2).trans rfl
      have hcz25_3 : w5.cell? ⟨gb400, 3, none⟩ = some (.int .i64 a1_3) := (blk_cell BK400.out 3).trans rfl
      have hcz25_4 : w5.cell? ⟨gb400, 4, none⟩ = some (.slice A1_4 l1_4.length c1_4) := (blk_cell BK400.out 4).trans rfl
      have hcz25_5 : w5.cell? ⟨gb400, 5, none⟩ = some (.slice A1_5 l1_5.length c1_5) := (blk_cell BK400.out 5).trans rfl
      have hcz25_6 : w5.cell? ⟨gb400, 6, none⟩ = some (.string a1_6) := (blk_cell BK400.out 6).trans rfl
      have hcz25_7 : w5.cell? ⟨gb400, 7, none⟩ = some (.slice A1_7 l1_7.length c1_7) := (blk_cell BK400.out 7).trans rfl
      have hfz25_0 := blk_frozen BK400.out 0
      have hfz25_1 := blk_frozen BK400.out 1
      have hfz25_2 := blk_frozen BK400.out 2
      have hfz25_3 := blk_frozen BK400.out 3
      have hfz25_4 := blk_frozen BK400.out 4
      have hfz25_5 := blk_frozen BK400.out 5
      have hfz25_6 := blk_frozen BK400.out 6
      have hfz25_7 := blk_frozen BK400.out 7
      go_wp2
      go_meet
      case rel => exact ⟨_, (true), (by first | rfl | (simp; done) | (simp [*]; done)), H', ⟨by first | omega | exact Nat.le_refl _⟩, ⟨by (with_reducible repeat (first | refine blk_drewN ?_ _ | refine blk_drew ?_ | refine blk_alloc ?_ _)); exact BK399.out⟩, ⟨by (with_reducible repeat (first | refine blk_drewN ?_ _ | refine blk_drew ?_ | refine blk_alloc ?_ _)); exact BK400.out⟩, ⟨by repeat (first | (with_reducible first | exact HB.out | apply below_alloc | apply pw_below_drewN | apply below_drew1 | refine below_set ?_ GE399.out | refine below_set ?_ GE400.out) | exact HB.out)⟩⟩
  case rest =>
    clear HC3
    try clear c1
    try clear c2
    try clear p2
    try clear c6
    try clear c6b0
    try clear c6b1
    try clear c7
    try clear c7b0
    try clear c7b1
    try clear c9
    try clear c10
    try clear c16
    try clear c20
    try clear c23
    try clear hcz11_0
    try clear hcz11_1
    try clear hcz11_2
    try clear hcz11_3
    try clear hcz11_4
    try clear hcz11_5
    try clear hcz11_6
    try clear hcz11_7
    try clear hcz12_0
    try clear hcz12_1
    try clear hcz12_2
    try clear hcz12_3
    try clear hcz12_4
    try clear hcz12_5
    try clear hcz12_6
    try clear hcz12_7
    try clear hcz14_0
    try clear hcz14_1
    try clear hcz14_2
    try clear hcz14_3
    try clear hcz14_4
    try clear hcz14_5
    try clear hcz14_6
    try clear hcz14_7
    try clear hcz15_0
    try clear hcz15_1
    try clear hcz15_2
    try clear hcz15_3
    try clear hcz15_4
    try clear hcz15_5
    try clear hcz15_6
    try clear hcz15_7
    try clear hcz17_0
    try clear hcz17_1
    try clear hcz17_2
    try clear hcz17_3
    try clear hcz17_4
    try clear hcz17_5
    try clear hcz17_6
    try clear hcz17_7
    try clear hcz18_0
    try clear hcz18_1
    try clear hcz18_2
    try clear hcz18_3
    try clear hcz18_4
    try clear hcz18_5
    try clear hcz18_6
    try clear hcz18_7
    try clear hcz21_0
    try clear hcz21_1
    try clear hcz21_2
    try clear hcz21_3
    try clear hcz21_4
    try clear hcz21_5
    try clear hcz21_6
    try clear hcz21_7
    try clear hcz22_0
    try clear hcz22_1
    try clear hcz22_2
    try clear hcz22_3
    try clear hcz22_4
    try clear hcz22_5
    try clear hcz22_6
    try clear hcz22_7
    try clear hcz24_0
    try clear hcz24_1
    try clear hcz24_2
    try clear hcz24_3
    try clear hcz24_4
    try clear hcz24_5
    try clear hcz24_6
    try clear hcz24_7
    try clear hcz25_0
    try clear hcz25_1
    try clear hcz25_2
    try clear hcz25_3
    try clear hcz25_4
    try clear hcz25_5
    try clear hcz25_6
    try clear hcz25_7
    try clear hfz11_0
    try clear hfz11_1
    try clear hfz11_2
    try clear hfz11_3
    try clear hfz11_4
    try clear hfz11_5
    try clear hfz11_6
    try clear hfz11_7
    try clear hfz12_0
    try clear hfz12_1
    try clear hfz12_2
    try clear hfz12_3
    try clear hfz12_4
    try clear hfz12_5
    try clear hfz12_6
    try clear hfz12_7
    try clear hfz14_0
    try clear hfz14_1
    try clear hfz14_2
    try clear hfz14_3
    try clear hfz14_4
    try clear hfz14_5
    try clear hfz14_6
    try clear hfz14_7
    try clear hfz15_0
    try clear hfz15_1
    try clear hfz15_2
    try clear hfz15_3
    try clear hfz15_4
    try clear hfz15_5
    try clear hfz15_6
    try clear hfz15_7
    try clear hfz17_0
    try clear hfz17_1
    try clear hfz17_2
    try clear hfz17_3
    try clear hfz17_4
    try clear hfz17_5
    try clear hfz17_6
    try clear hfz17_7
    try clear hfz18_0
    try clear hfz18_1
    try clear hfz18_2
    try clear hfz18_3
    try clear hfz18_4
    try clear hfz18_5
    try clear hfz18_6
    try clear hfz18_7
    try clear hfz21_0
    try clear hfz21_1
    try clear hfz21_2
    try clear hfz21_3
    try clear hfz21_4
    try clear hfz21_5
    try clear hfz21_6
    try clear hfz21_7
    try clear hfz22_0
    try clear hfz22_1
    try clear hfz22_2
    try clear hfz22_3
    try clear hfz22_4
    try clear hfz22_5
    try clear hfz22_6
    try clear hfz22_7
    try clear hfz24_0
    try clear hfz24_1
    try clear hfz24_2
    try clear hfz24_3
    try clear hfz24_4
    try clear hfz24_5
    try clear hfz24_6
    try clear hfz24_7
    try clear hfz25_0
    try clear hfz25_1
    try clear hfz25_2
    try clear hfz25_3
    try clear hfz25_4
    try clear hfz25_5
    try clear hfz25_6
    try clear hfz25_7
    obtain ⟨kq, x34_2, rfl, HA, HJ2, BK399, BK400, HB⟩ := hcut
    cases kq with
    | zero => exact absurd HA.out (by simp [folkmootref15_Same.j0])
    | succ kj2 =>
      have H := HA.out
      clear HA
      simp only [folkmootref15_Same.j0] at H
      by_cases c26 : x34_2 = true
      · subst c26
        have H1 : (some false) = some r := by rw [if_pos rfl] at H; exact H
        clear H
        have H := H1
        clear H1
        obtain rfl := Option.some.inj H
        go_wp2
        go_ret
        exact ⟨by first | rfl | (simp [errW_none, errW_some] <;> rfl) | (simp [*, errW_none, errW_some] <;> rfl), by repeat (first | (with_reducible first | exact HB.out | apply below_alloc | apply pw_below_drewN | apply below_drew1 | refine below_set ?_ GE399.out | refine below_set ?_ GE400.out) | exact HB.out)⟩
      · replace c26 := Bool.eq_false_iff.mpr c26
        subst c26
        have H1 : (folkmootref15_Same.l0 kj2 0 a0_0 a0_1 a0_2 a0_3 l0_4 l0_5 a0_6 l0_7 a1_0 a1_1 a1_2 a1_3 l1_4 l1_5 a1_6 l1_7) = some r := by rw [if_neg (show ¬ (false = true) by decide)] at H; exact H
        clear H
        have H := H1
        clear H1
        have H' := Aside0.mk H
        clear H
        go_wp2
        go_loopg [5] kj2 (fun kq v5 w' => ∃ (x5_2 : Int), v5 = .int .i64 x5_2 ∧ Aside0 (folkmootref15_Same.l0 kq x5_2 a0_0 a0_1 a0_2 a0_3 l0_4 l0_5 a0_6 l0_7 a1_0 a1_1 a1_2 a1_3 l1_4 l1_5 a1_6 l1_7 = some r) ∧ Aside0 (kq ≤ kj2) ∧ Aside0 (w'.heap[gb399]? = some (.cells #[.int .i64 a0_0, .int .i64 a0_1, .int .i64 a0_2, .int .i64 a0_3, (.slice A0_4 l0_4.length c0_4), (.slice A0_5 l0_5.length c0_5), .string a0_6, (.slice A0_7 l0_7.length c0_7)] 30 (0, 0))) ∧ Aside0 (w'.heap[gb400]? = some (.cells #[.int .i64 a1_0, .int .i64 a1_1, .int .i64 a1_2, .int .i64 a1_3, (.slice A1_4 l1_4.length c1_4), (.slice A1_5 l1_5.length c1_5), .string a1_6, (.slice A1_7 l1_7.length c1_7)] 30 (0, 0))) ∧ Aside0 (Below w.heap.size w w'))
        case atStart => exact ⟨(0), (by first | rfl | (simp; done) | (simp [*]; done)), H', ⟨Nat.le_refl _⟩, ⟨by (with_reducible repeat (first | refine blk_drewN ?_ _ | refine blk_drew ?_ | refine blk_alloc ?_ _)); exact BK399.out⟩, ⟨by (with_reducible repeat (first | refine blk_drewN ?_ _ | refine blk_drew ?_ | refine blk_alloc ?_ _)); exact BK400.out⟩, ⟨by repeat (first | (with_reducible first | exact HB.out | apply below_alloc | apply pw_below_drewN | apply below_drew1 | refine below_set ?_ GE399.out | refine below_set ?_ GE400.out) | exact HB.out)⟩⟩
        case round =>
          clear H'
          try clear c1
          try clear c2
          try clear p2
          try clear c6
          try clear c6b0
          try clear c6b1
          try clear c7
          try clear c7b0
          try clear c7b1
          try clear c9
          try clear c10
          try clear c16
          try clear c20
          try clear c23
          try clear c26
          try clear hcz11_0
          try clear hcz11_1
          try clear hcz11_2
          try clear hcz11_3
          try clear hcz11_4
          try clear hcz11_5
          try clear hcz11_6
          try clear hcz11_7
          try clear hcz12_0
          try clear hcz12_1
          try clear hcz12_2
          try clear hcz12_3
          try clear hcz12_4
          try clear hcz12_5
          try clear hcz12_6
          try clear hcz12_7
          try clear hcz14_0
          try clear hcz14_1
          try clear hcz14_2
          try clear hcz14_3
          try clear hcz14_4
          try clear hcz14_5
          try clear hcz14_6
          try clear hcz14_7
          try clear hcz15_0
          try clear hcz15_1
          try clear hcz15_2
          try clear hcz15_3
          try clear hcz15_4
          try clear hcz15_5
          try clear hcz15_6
          try clear hcz15_7
          try clear hcz17_0
          try clear hcz17_1
          try clear hcz17_2
          try clear hcz17_3
          try clear hcz17_4
          try clear hcz17_5
          try clear hcz17_6
          try clear hcz17_7
          try clear hcz18_0
          try clear hcz18_1
          try clear hcz18_2
          try clear hcz18_3
          try clear hcz18_4
          try clear hcz18_5
          try clear hcz18_6
          try clear hcz18_7
          try clear hcz21_0
          try clear hcz21_1
          try clear hcz21_2
          try clear hcz21_3
          try clear hcz21_4
          try clear hcz21_5
          try clear hcz21_6
          try clear hcz21_7
          try clear hcz22_0
          try clear hcz22_1
          try clear hcz22_2
          try clear hcz22_3
          try clear hcz22_4
          try clear hcz22_5
          try clear hcz22_6
          try clear hcz22_7
          try clear hcz24_0
          try clear hcz24_1
          try clear hcz24_2
          try clear hcz24_3
          try clear hcz24_4
          try clear hcz24_5
          try clear hcz24_6
          try clear hcz24_7
          try clear hcz25_0
          try clear hcz25_1
          try clear hcz25_2
          try clear hcz25_3
          try clear hcz25_4
          try clear hcz25_5
          try clear hcz25_6
          try clear hcz25_7
          try clear hfz11_0
          try clear hfz11_1
          try clear hfz11_2
          try clear hfz11_3
          try clear hfz11_4
          try clear hfz11_5
          try clear hfz11_6
          try clear hfz11_7
          try clear hfz12_0
          try clear hfz12_1
          try clear hfz12_2
          try clear hfz12_3
          try clear hfz12_4
          try clear hfz12_5
          try clear hfz12_6
          try clear hfz12_7
          try clear hfz14_0
          try clear hfz14_1
          try clear hfz14_2
          try clear hfz14_3
          try clear hfz14_4
          try clear hfz14_5
          try clear hfz14_6
          try clear hfz14_7
          try clear hfz15_0
          try clear hfz15_1
          try clear hfz15_2
          try clear hfz15_3
          try clear hfz15_4
          try clear hfz15_5
          try clear hfz15_6
          try clear hfz15_7
          try clear hfz17_0
          try clear hfz17_1
          try clear hfz17_2
          try clear hfz17_3
          try clear hfz17_4
          try clear hfz17_5
          try clear hfz17_6
          try clear hfz17_7
          try clear hfz18_0
          try clear hfz18_1
          try clear hfz18_2
          try clear hfz18_3
          try clear hfz18_4
          try clear hfz18_5
          try clear hfz18_6
          try clear hfz18_7
          try clear hfz21_0
          try clear hfz21_1
          try clear hfz21_2
          try clear hfz21_3
          try clear hfz21_4
          try clear hfz21_5
          try clear hfz21_6
          try clear hfz21_7
          try clear hfz22_0
          try clear hfz22_1
          try clear hfz22_2
          try clear hfz22_3
          try clear hfz22_4
          try clear hfz22_5
          try clear hfz22_6
          try clear hfz22_7
          try clear hfz24_0
          try clear hfz24_1
          try clear hfz24_2
          try clear hfz24_3
          try clear hfz24_4
          try clear hfz24_5
          try clear hfz24_6
          try clear hfz24_7
          try clear hfz25_0
          try clear hfz25_1
          try clear hfz25_2
          try clear hfz25_3
          try clear hfz25_4
          try clear hfz25_5
          try clear hfz25_6
          try clear hfz25_7
          try clear p2
          obtain ⟨x5_2, rfl, HA, HK2, BK399, BK400, HB⟩ := hrel
          cases gk with
          | zero => exact absurd HA.out (by simp [folkmootref15_Same.l0])
          | succ k2 =>
            have H := HA.out
            clear HA
            simp only [folkmootref15_Same.l0] at H
            by_cases c27 : x5_2 < (l0_7.length : Int)
            · rw [if_pos c27] at H
              have c27b0 : decide (x5_2 < (l0_7.length : Int)) = true := decide_eq_true c27
              clear c27
              by_cases c28 : 0 ≤ x5_2
              · rw [if_pos c28] at H
                have c28b0 : decide (0 ≤ x5_2) = true := decide_eq_true c28
                clear c28
                by_cases c29 : x5_2 < (l1_7.length : Int)
                · rw [if_pos c29] at H
                  have c29b0 : decide (x5_2 < (l1_7.length : Int)) = true := decide_eq_true c29
                  clear c29
                  replace H := Option.bind_eq_some_iff.mp H
                  obtain ⟨t404, A300, H⟩ := H
                  replace H : (if t404 = true then (folkmootref15_Same.l0 k2 (wrap64 (x5_2 + 1)) a0_0 a0_1 a0_2 a0_3 l0_4 l0_5 a0_6 l0_7 a1_0 a1_1 a1_2 a1_3 l1_4 l1_5 a1_6 l1_7) else (some false)) = some r := H
                  have A30 := Aside0.mk A300
                  clear A300
                  by_cases c31 : t404 = true
                  · subst c31
                    have H1 : (folkmootref15_Same.l0 k2 (wrap64 (x5_2 + 1)) a0_0 a0_1 a0_2 a0_3 l0_4 l0_5 a0_6 l0_7 a1_0 a1_1 a1_2 a1_3 l1_4 l1_5 a1_6 l1_7) = some r := by rw [if_pos rfl] at H; exact H
                    clear H
                    have H := H1
                    clear H1
                    have H' := Aside0.mk H
                    clear H
                    have hnb32 := NB399_400.out
                    have hnc32 := NB400_399.out
                    have hcz33_0 : wr.cell? ⟨gb399, 0, none⟩ = some (.int .i64 a0_0) := (blk_cell BK399.out 0).trans rfl
                    have hcz33_1 : wr.cell? ⟨gb399, 1, none⟩ = some (.int .i64 a0_1) := (blk_cell BK399.out 1).trans rfl
                    have hcz33_2 : wr.cell? ⟨gb399, 2, none⟩ = some (.int .i64 a0_2) := (blk_cell BK399.out 2).trans rfl
                    have hcz33_3 : wr.cell? ⟨gb399, 3, none⟩ = some (.int .i64 a0_3) := (blk_cell BK399.out 3).trans rfl
                    have hcz33_4 : wr.cell? ⟨gb399, 4, none⟩ = some (.slice A0_4 l0_4.length c0_4) := (blk_cell BK399.out 4).trans rfl
                    have hcz33_5 : wr.cell? ⟨gb399, 5, none⟩ = some (.slice A0_5 l0_5.length c0_5) := (blk_cell BK399.out 5).trans rfl
                    have hcz33_6 : wr.cell? ⟨gb399, 6, none⟩ = some (.string a0_6) := (blk_cell BK399.out 6).trans rfl
                    have hcz33_7 : wr.cell? ⟨gb399, 7, none⟩ = some (.slice A0_7 l0_7.length c0_7) := (blk_cell BK399.out 7).trans rfl
                    have hfz33_0 := blk_frozen BK399.out 0
                    have hfz33_1 := blk_frozen BK399.out 1
                    have hfz33_2 := blk_frozen BK399.out 2
                    have hfz33_3 := blk_frozen BK399.out 3
                    have hfz33_4 := blk_frozen BK399.out 4
                    have hfz33_5 := blk_frozen BK399.out 5
                    have hfz33_6 := blk_frozen BK399.out 6
                    have hfz33_7 := blk_frozen BK399.out 7
                    try go_wp2
                    have n0_ := Aside0.mk (blk_drew BK399.out)
                    have n1_ := Aside0.mk (blk_drew BK400.out)
                    have n2_ := Aside0.mk (below_drew1 HB.out)
                    clear BK399
                    clear BK400
                    clear HB
                    have BK399 := n0_
                    have BK400 := n1_
                    have HB := n2_
                    clear n0_ n1_ n2_
                    have p402 : 0 ≤ (x5_2 : Int) := of_decide_eq_true (by first | (with_reducible assumption) | assumption)
                    have q402 : x5_2 < (l0_7.length : Int) := of_decide_eq_true (by first | (with_reducible assumption) | assumption)
                    obtain ⟨ad402, A402_3, c402_3, A402_4, c402_4, e402, hx402_0, hx402_1, hx402_2, hx402_3, hx402_4, hx402_5, hl402_3, hi402_3, hl402_4, hi402_4⟩ := at_T54 HR0_7.out x5_2 p402 q402
                    have hw402_5 := hx402_5
                    have hw402_4 := hx402_4
                    have hw402_3 := hx402_3
                    have hw402_2 := hx402_2
                    have hw402_1 := hx402_1
                    have hw402_0 := hx402_0
                    cases e402
                    replace hx402_0 := (HB.out.cell (World.block_lt_of_cell? w _ hx402_0)).trans hx402_0
                    replace hx402_1 := (HB.out.cell (World.block_lt_of_cell? w _ hx402_1)).trans hx402_1
                    replace hx402_2 := (HB.out.cell (World.block_lt_of_cell? w _ hx402_2)).trans hx402_2
                    replace hx402_3 := (HB.out.cell (World.block_lt_of_cell? w _ hx402_3)).trans hx402_3
                    replace hx402_4 := (HB.out.cell (World.block_lt_of_cell? w _ hx402_4)).trans hx402_4
                    replace hx402_5 := (HB.out.cell (World.block_lt_of_cell? w _ hx402_5)).trans hx402_5
                    have HR402_3 := Aside0.mk hi402_3
                    have HC402_3 := Aside0.mk hl402_3
                    clear hi402_3 hl402_3
                    have HR402_4 := Aside0.mk hi402_4
                    have HC402_4 := Aside0.mk hl402_4
                    clear hi402_4 hl402_4
                    replace p402 := eq_true p402
                    replace q402 := eq_true q402
                    have p403 : 0 ≤ (x5_2 : Int) := of_decide_eq_true (by first | (with_reducible assumption) | assumption)
                    have q403 : x5_2 < (l1_7.length : Int) := of_decide_eq_true (by first | (with_reducible assumption) | assumption)
                    obtain ⟨ad403, A403_3, c403_3, A403_4, c403_4, e403, hx403_0, hx403_1, hx403_2, hx403_3, hx403_4, hx403_5, hl403_3, hi403_3, hl403_4, hi403_4⟩ := at_T54 HR1_7.out x5_2 p403 q403
                    have hw403_5 := hx403_5
                    have hw403_4 := hx403_4
                    have hw403_3 := hx403_3
                    have hw403_2 := hx403_2
                    have hw403_1 := hx403_1
                    have hw403_0 := hx403_0
                    cases e403
                    replace hx403_0 := (HB.out.cell (World.block_lt_of_cell? w _ hx403_0)).trans hx403_0
                    replace hx403_1 := (HB.out.cell (World.block_lt_of_cell? w _ hx403_1)).trans hx403_1
                    replace hx403_2 := (HB.out.cell (World.block_lt_of_cell? w _ hx403_2)).trans hx403_2
                    replace hx403_3 := (HB.out.cell (World.block_lt_of_cell? w _ hx403_3)).trans hx403_3
                    replace hx403_4 := (HB.out.cell (World.block_lt_of_cell? w _ hx403_4)).trans hx403_4
                    replace hx403_5 := (HB.out.cell (World.block_lt_of_cell? w _ hx403_5)).trans hx403_5
                    have HR403_3 := Aside0.mk hi403_3
                    have HC403_3 := Aside0.mk hl403_3
                    clear hi403_3 hl403_3
                    have HR403_4 := Aside0.mk hi403_4
                    have HC403_4 := Aside0.mk hl403_4
                    clear hi403_4 hl403_4
                    replace p403 := eq_true p403
                    replace q403 := eq_true q403
                    refine start_ (n := 12) (S := fun w' => w'.cell? ⟨gb399, 0, none⟩ = some (.int .i64 a0_0) ∧ w'.cell? ⟨gb399, 1, none⟩ = some (.int .i64 a0_1) ∧ w'.cell? ⟨gb399, 2, none⟩ = some (.int .i64 a0_2) ∧ w'.cell? ⟨gb399, 3, none⟩ = some (.int .i64 a0_3) ∧ w'.cell? ⟨gb399, 4, none⟩ = some (.slice A0_4 l0_4.length c0_4) ∧ w'.cell? ⟨gb399, 5, none⟩ = some (.slice A0_5 l0_5.length c0_5) ∧ w'.cell? ⟨gb399, 6, none⟩ = some (.string a0_6) ∧ w'.cell? ⟨gb399, 7, none⟩ = some (.slice (some ad402) l0_7.length c0_7) ∧ w'.cell? ⟨gb400, 0, none⟩ = some (.int .i64 a1_0) ∧ w'.cell? ⟨gb400, 1, none⟩ = some (.int .i64 a1_1) ∧ w'.cell? ⟨gb400, 2, none⟩ = some (.int .i64 a1_2) ∧ w'.cell? ⟨gb400, 3, none⟩ = some (.int .i64 a1_3) ∧ w'.cell? ⟨gb400, 4, none⟩ = some (.slice A1_4 l1_4.length c1_4) ∧ w'.cell? ⟨gb400, 5, none⟩ = some (.slice A1_5 l1_5.length c1_5) ∧ w'.cell? ⟨gb400, 6, none⟩ = some (.string a1_6) ∧ w'.cell? ⟨gb400, 7, none⟩ = some (.slice (some ad403) l1_7.length c1_7) ∧ w'.cell? (ad402.add ((x5_2).toNat * 6)) = some (.int .i64 ((rd_T54 l0_7 x5_2).f0)) ∧ w'.cell? ⟨(ad402.add ((x5_2).toNat * 6)).block, (ad402.add ((x5_2).toNat * 6)).off + 1, none⟩ = some (.int .i64 ((rd_T54 l0_7 x5_2).f1)) ∧ w'.cell? ⟨(ad402.add ((x5_2).toNat * 6)).block, (ad402.add ((x5_2).toNat * 6)).off + 2, none⟩ = some (.int .i64 ((rd_T54 l0_7 x5_2).f2)) ∧ w'.cell? ⟨(ad402.add ((x5_2).toNat * 6)).block, (ad402.add ((x5_2).toNat * 6)).off + 3, none⟩ = some (.slice A402_3 ((rd_T54 l0_7 x5_2).f3.f0).length c402_3) ∧ w'.cell? ⟨(ad402.add ((x5_2).toNat * 6)).block, (ad402.add ((x5_2).toNat * 6)).off + 4, none⟩ = some (.slice A402_4 ((rd_T54 l0_7 x5_2).f3.f1).length c402_4) ∧ w'.cell? ⟨(ad402.add ((x5_2).toNat * 6)).block, (ad402.add ((x5_2).toNat * 6)).off + 5, none⟩ = some (.string ((rd_T54 l0_7 x5_2).f4)) ∧ w'.cell? (ad403.add ((x5_2).toNat * 6)) = some (.int .i64 ((rd_T54 l1_7 x5_2).f0)) ∧ w'.cell? ⟨(ad403.add ((x5_2).toNat * 6)).block, (ad403.add ((x5_2).toNat * 6)).off + 1, none⟩ = some (.int .i64 ((rd_T54 l1_7 x5_2).f1)) ∧ w'.cell? ⟨(ad403.add ((x5_2).toNat * 6)).block, (ad403.add ((x5_2).toNat * 6)).off + 2, none⟩ = some (.int .i64 ((rd_T54 l1_7 x5_2).f2)) ∧ w'.cell? ⟨(ad403.add ((x5_2).toNat * 6)).block, (ad403.add ((x5_2).toNat * 6)).off + 3, none⟩ = some (.slice A403_3 ((rd_T54 l1_7 x5_2).f3.f0).length c403_3) ∧ w'.cell? ⟨(ad403.add ((x5_2).toNat * 6)).block, (ad403.add ((x5_2).toNat * 6)).off + 4, none⟩ = some (.slice A403_4 ((rd_T54 l1_7 x5_2).f3.f1).length c403_4) ∧ w'.cell? ⟨(ad403.add ((x5_2).toNat * 6)).block, (ad403.add ((x5_2).toNat * 6)).off + 5, none⟩ = some (.string ((rd_T54 l1_7 x5_2).f4))) (ds := []) #[false, false, false, false, false, false, false, false, false, false, false, false] (by kernel_rfl) rfl rfl ⟨(blk_cell BK399.out 0).trans rfl, (blk_cell BK399.out 1).trans rfl, (blk_cell BK399.out 2).trans rfl, (blk_cell BK399.out 3).trans rfl, (blk_cell BK399.out 4).trans rfl, (blk_cell BK399.out 5).trans rfl, (blk_cell BK399.out 6).trans rfl, (blk_cell BK399.out 7).trans rfl, (blk_cell BK400.out 0).trans rfl, (blk_cell BK400.out 1).trans rfl, (blk_cell BK400.out 2).trans rfl, (blk_cell BK400.out 3).trans rfl, (blk_cell BK400.out 4).trans rfl, (blk_cell BK400.out 5).trans rfl, (blk_cell BK400.out 6).trans rfl, (blk_cell BK400.out 7).trans rfl, ((HB.out.cell (World.block_lt_of_cell? w _ hw402_0)).trans hw402_0), ((HB.out.cell (World.block_lt_of_cell? w _ hw402_1)).trans hw402_1), ((HB.out.cell (World.block_lt_of_cell? w _ hw402_2)).trans hw402_2), ((HB.out.cell (World.block_lt_of_cell? w _ hw402_3)).trans hw402_3), ((HB.out.cell (World.block_lt_of_cell? w _ hw402_4)).trans hw402_4), ((HB.out.cell (World.block_lt_of_cell? w _ hw402_5)).trans hw402_5), ((HB.out.cell (World.block_lt_of_cell? w _ hw403_0)).trans hw403_0), ((HB.out.cell (World.block_lt_of_cell? w _ hw403_1)).trans hw403_1), ((HB.out.cell (World.block_lt_of_cell? w _ hw403_2)).trans hw403_2), ((HB.out.cell (World.block_lt_of_cell? w _ hw403_3)).trans hw403_3), ((HB.out.cell (World.block_lt_of_cell? w _ hw403_4)).trans hw403_4), ((HB.out.cell (World.block_lt_of_cell? w _ hw403_5)).trans hw403_5)⟩ (fun hHeld => ?_); refine with_tabW folkmootref15_Same.tab6 folkmootref15_Same.bits6 (fun HT_ HW_ => ?_)
                    generalize wr.drew = w34 at BK399 BK400 HB HR402_3 HR402_4 HR403_3 HR403_4 hx402_0 hx402_1 hx402_2 hx402_3 hx402_4 hx402_5 hx403_0 hx403_1 hx403_2 hx403_3 hx403_4 hx403_5 hHeld ⊢
                    refine pure_ (i := 0) (N := some 42) (v := ?_) (a' := ?_) #[true, false, false, false, false, false, false, false, false, false, false, false] rfl rfl (any_of HT_.out (by kernel_rfl)) (fun _ _ _ h => h) (Or.inl ⟨by rfl, ?_⟩) ?_ ?_
                    rotate_left
                    · intro w'
                      go_simp
                      with_reducible rfl
                    rotate_left
                    · simp only [Act.put, List.setIfInBounds_toArray, List.set_cons_zero, List.set_cons_succ, i64_w, i32_w]
                      rfl
                    refine pure_ (i := 2) (N := some 44) (v := ?_) (a' := ?_) #[true, false, true, false, false, false, false, false, false, false, false, false] rfl rfl (any_of HT_.out (by kernel_rfl)) (fun _ _ _ h => h) (Or.inl ⟨by rfl, ?_⟩) ?_ ?_
                    rotate_left
                    · intro w'
                      go_simp
                      with_reducible rfl
                    rotate_left
                    · simp only [Act.put, List.setIfInBounds_toArray, List.set_cons_zero, List.set_cons_succ, i64_w, i32_w]
                      rfl
                    refine pure_ (i := 5) (N := some 47) (v := ?_) (a' := ?_) #[true, false, true, false, false, true, false, false, false, false, false, false] rfl rfl (any_of HT_.out (by kernel_rfl)) (fun _ _ _ h => h) (Or.inl ⟨by rfl, ?_⟩) ?_ ?_
                    rotate_left
                    · intro w'
                      go_simp
                      with_reducible rfl
                    rotate_left
                    · simp only [Act.put, List.setIfInBounds_toArray, List.set_cons_zero, List.set_cons_succ, i64_w, i32_w]
                      rfl
                    refine pure_ (i := 7) (N := some 49) (v := ?_) (a' := ?_) #[true, false, true, false, false, true, false, true, false, false, false, false] rfl rfl (any_of HT_.out (by kernel_rfl)) (fun _ _ _ h => h) (Or.inl ⟨by rfl, ?_⟩) ?_ ?_
                    rotate_left
                    · intro w'
                      go_simp
                      with_reducible rfl
                    rotate_left
                    · simp only [Act.put, List.setIfInBounds_toArray, List.set_cons_zero, List.set_cons_succ, i64_w, i32_w]
                      rfl
                    refine take_ (i := 1) (N := some 43) (v := ?_) (a' := ?_) #[true, true, true, false, false, true, false, true, false, false, false, false] rfl rfl (take_ofW HT_.out HW_.out (by kernel_rfl)) (fun _ _ _ h => h) (Or.inl ⟨by rfl, ?_⟩) hHeld ?_ ?_
                    rotate_left
                    · rintro w' ⟨s0, s1, s2, s3, s4, s5, s6, s7, s8, s9, s10, s11, s12, s13, s14, s15, s16, s17, s18, s19, s20, s21, s22, s23, s24, s25, s26, s27⟩
                      go_simp
                      with_reducible rfl
                    rotate_left
                    · simp only [Act.put, List.setIfInBounds_toArray, List.set_cons_zero, List.set_cons_succ, i64_w, i32_w]
                      rfl
                    refine pure_ (i := 3) (N := some 45) (v := ?_) (a' := ?_) #[true, true, true, true, false, true, false, true, false, false, false, false] rfl rfl (any_of HT_.out (by kernel_rfl)) (fun _ _ _ h => h) (Or.inl ⟨by rfl, ?_⟩) ?_ ?_
                    rotate_left
                    · intro w'
                      go_simp
                      with_reducible rfl
                    rotate_left
                    · simp only [Act.put, List.setIfInBounds_toArray, List.set_cons_zero, List.set_cons_succ, i64_w, i32_w]
                      rfl
                    refine take_ (i := 4) (N := some 46) (v := ?_) (a' := ?_) #[true, true, true, true, true, true, false, true, false, false, false, false] rfl rfl (take_ofW HT_.out HW_.out (by kernel_rfl)) (fun _ _ _ h => h) (Or.inl ⟨by rfl, ?_⟩) hHeld ?_ ?_
                    rotate_left
                    · rintro w' ⟨s0, s1, s2, s3, s4, s5, s6, s7, s8, s9, s10, s11, s12, s13, s14, s15, s16, s17, s18, s19, s20, s21, s22, s23, s24, s25, s26, s27⟩
                      go_simp
                      with_reducible rfl
                    rotate_left
                    · simp only [Act.put, List.setIfInBounds_toArray, List.set_cons_zero, List.set_cons_succ, i64_w, i32_w]
                      rfl
                    refine take_ (i := 6) (N := some 48) (v := ?_) (a' := ?_) #[true, true, true, true, true, true, true, true, false, false, false, false] rfl rfl (take_ofW HT_.out HW_.out (by kernel_rfl)) (fun _ _ _ h => h) (Or.inl ⟨by rfl, ?_⟩) hHeld ?_ ?_
                    rotate_left
                    · rintro w' ⟨s0, s1, s2, s3, s4, s5, s6, s7, s8, s9, s10, s11, s12, s13, s14, s15, s16, s17, s18, s19, s20, s21, s22, s23, s24, s25, s26, s27⟩
                      go_simp
                      with_reducible rfl
                    rotate_left
                    · simp only [Act.put, List.setIfInBounds_toArray, List.set_cons_zero, List.set_cons_succ, i64_w, i32_w]
                      rfl
                    refine pure_ (i := 8) (N := some 50) (v := ?_) (a' := ?_) #[true, true, true, true, true, true, true, true, true, false, false, false] rfl rfl (any_of HT_.out (by kernel_rfl)) (fun _ _ _ h => h) (Or.inl ⟨by rfl, ?_⟩) ?_ ?_
                    rotate_left
                    · intro w'
                      go_simp
                      with_reducible rfl
                    rotate_left
                    · simp only [Act.put, List.setIfInBounds_toArray, List.set_cons_zero, List.set_cons_succ, i64_w, i32_w]
                      rfl
                    refine take_ (i := 9) (N := some 51) (v := ?_) (a' := ?_) #[true, true, true, true, true, true, true, true, true, true, false, false] rfl rfl (take_ofW HT_.out HW_.out (by kernel_rfl)) (fun _ _ _ h => h) (Or.inl ⟨by rfl, ?_⟩) hHeld ?_ ?_
                    rotate_left
                    · rintro w' ⟨s0, s1, s2, s3, s4, s5, s6, s7, s8, s9, s10, s11, s12, s13, s14, s15, s16, s17, s18, s19, s20, s21, s22, s23, s24, s25, s26, s27⟩
                      go_simp
                      with_reducible rfl
                    rotate_left
                    · simp only [Act.put, List.setIfInBounds_toArray, List.set_cons_zero, List.set_cons_succ, i64_w, i32_w]
                      rfl
                    refine one_ (i := 10) (N := some 52) #[true, true, true, true, true, true, true, true, true, true, true, false] rfl rfl (one_of HT_.out (by kernel_rfl)) (by decide) (fun K hK => ?_)
                    refine goes_ Try.func35 (by kernel_rfl) rfl #[.agg #[.int .i64 ((rd_T54 l0_7 x5_2).f0), .int .i64 ((rd_T54 l0_7 x5_2).f1), .int .i64 ((rd_T54 l0_7 x5_2).f2), .slice A402_3 ((rd_T54 l0_7 x5_2).f3.f0).length c402_3, .slice A402_4 ((rd_T54 l0_7 x5_2).f3.f1).length c402_4, .string ((rd_T54 l0_7 x5_2).f4)], .agg #[.int .i64 ((rd_T54 l1_7 x5_2).f0), .int .i64 ((rd_T54 l1_7 x5_2).f1), .int .i64 ((rd_T54 l1_7 x5_2).f2), .slice A403_3 ((rd_T54 l1_7 x5_2).f3.f0).length c403_3, .slice A403_4 ((rd_T54 l1_7 x5_2).f3.f1).length c403_4, .string ((rd_T54 l1_7 x5_2).f4)]] (by rfl) rfl rfl (by (try simp only [List.map_toArray, List.map_cons, List.map_nil]); first | done | rfl | (simp only [List.length_drop, List.length_take]; rfl)) ?_
                    with_reducible refine (folkmootref15_Entries.calls k2 ((rd_T54 l0_7 x5_2).f0) ((rd_T54 l0_7 x5_2).f1) ((rd_T54 l0_7 x5_2).f2) _ _ ((rd_T54 l0_7 x5_2).f3.f0) _ _ ((rd_T54 l0_7 x5_2).f3.f1) ((rd_T54 l0_7 x5_2).f4) ((rd_T54 l1_7 x5_2).f0) ((rd_T54 l1_7 x5_2).f1) ((rd_T54 l1_7 x5_2).f2) _ _ ((rd_T54 l1_7 x5_2).f3.f0) _ _ ((rd_T54 l1_7 x5_2).f3.f1) ((rd_T54 l1_7 x5_2).f4) true _ ?side1 ?side2 ?side3 ?side4 ?side5 ?side6 ?side7 ?side8 A30.out).mono ?_
                    (case side1 => repeat (first | exact (Kd.C_below HR402_3.out HB.out) | (with_reducible refine Kd.C_alloc ?_ _) | (with_reducible refine Kd.C_drewN ?_ _) | (with_reducible refine Kd.C_drew ?_)))
                    (case side2 => exact HC402_3.out)
                    (case side3 => repeat (first | exact (Kd.C_below HR402_4.out HB.out) | (with_reducible refine Kd.C_alloc ?_ _) | (with_reducible refine Kd.C_drewN ?_ _) | (with_reducible refine Kd.C_drew ?_)))
                    (case side4 => exact HC402_4.out)
                    (case side5 => repeat (first | exact (Kd.C_below HR403_3.out HB.out) | (with_reducible refine Kd.C_alloc ?_ _) | (with_reducible refine Kd.C_drewN ?_ _) | (with_reducible refine Kd.C_drew ?_)))
                    (case side6 => exact HC403_3.out)
                    (case side7 => repeat (first | exact (Kd.C_below HR403_4.out HB.out) | (with_reducible refine Kd.C_alloc ?_ _) | (with_reducible refine Kd.C_drewN ?_ _) | (with_reducible refine Kd.C_drew ?_)))
                    (case side8 => exact HC403_4.out)
                    rintro e w35 ⟨rfl, hb⟩
                    refine ⟨_, rfl, ?_⟩
                    have n0_ := Aside0.mk (blk_below (g := gb399) (o := .cells #[.int .i64 a0_0, .int .i64 a0_1, .int .i64 a0_2, .int .i64 a0_3, .slice A0_4 l0_4.length c0_4, .slice A0_5 l0_5.length c0_5, .string a0_6, .slice (some ad402) l0_7.length c0_7] 30 (0, 0)) (by (with_reducible repeat (first | refine blk_drewN ?_ _ | refine blk_drew ?_ | refine blk_alloc ?_ _)); exact BK399.out) hb)
                    have n1_ := Aside0.mk (blk_below (g := gb400) (o := .cells #[.int .i64 a1_0, .int .i64 a1_1, .int .i64 a1_2, .int .i64 a1_3, .slice A1_4 l1_4.length c1_4, .slice A1_5 l1_5.length c1_5, .string a1_6, .slice (some ad403) l1_7.length c1_7] 30 (0, 0)) (by (with_reducible repeat (first | refine blk_drewN ?_ _ | refine blk_drew ?_ | refine blk_alloc ?_ _)); exact BK400.out) hb)
                    have n2_ := Aside0.mk (below_step (by repeat (first | (with_reducible first | exact HB.out | apply below_alloc | apply pw_below_drewN | apply below_drew1 | refine below_set ?_ GE399.out | refine below_set ?_ GE400.out) | exact HB.out)) hb)
                    clear BK399
                    clear BK400
                    clear HB
                    have BK399 := n0_
                    have BK400 := n1_
                    have HB := n2_
                    clear n0_ n1_ n2_
                    (try clear hb)
                    (try clear hb2)
                    (try clear hk)
                    (try clear hi)
                    refine hK.out _ _ ⟨(blk_cell BK399.out 0).trans rfl, (blk_cell BK399.out 1).trans rfl, (blk_cell BK399.out 2).trans rfl, (blk_cell BK399.out 3).trans rfl, (blk_cell BK399.out 4).trans rfl, (blk_cell BK399.out 5).trans rfl, (blk_cell BK399.out 6).trans rfl, (blk_cell BK399.out 7).trans rfl, (blk_cell BK400.out 0).trans rfl, (blk_cell BK400.out 1).trans rfl, (blk_cell BK400.out 2).trans rfl, (blk_cell BK400.out 3).trans rfl, (blk_cell BK400.out 4).trans rfl, (blk_cell BK400.out 5).trans rfl, (blk_cell BK400.out 6).trans rfl, (blk_cell BK400.out 7).trans rfl, ((HB.out.cell (World.block_lt_of_cell? w _ hw402_0)).trans hw402_0), ((HB.out.cell (World.block_lt_of_cell? w _ hw402_1)).trans hw402_1), ((HB.out.cell (World.block_lt_of_cell? w _ hw402_2)).trans hw402_2), ((HB.out.cell (World.block_lt_of_cell? w _ hw402_3)).trans hw402_3), ((HB.out.cell (World.block_lt_of_cell? w _ hw402_4)).trans hw402_4), ((HB.out.cell (World.block_lt_of_cell? w _ hw402_5)).trans hw402_5), ((HB.out.cell (World.block_lt_of_cell? w _ hw403_0)).trans hw403_0), ((HB.out.cell (World.block_lt_of_cell? w _ hw403_1)).trans hw403_1), ((HB.out.cell (World.block_lt_of_cell? w _ hw403_2)).trans hw403_2), ((HB.out.cell (World.block_lt_of_cell? w _ hw403_3)).trans hw403_3), ((HB.out.cell (World.block_lt_of_cell? w _ hw403_4)).trans hw403_4), ((HB.out.cell (World.block_lt_of_cell? w _ hw403_5)).trans hw403_5)⟩ (fun hHeld => ?_)
                    clear hK K
                    refine norm_ (a' := ?_) ?_ ?_
                    rotate_left
                    · show Act.put _ (some 52) _ = _
                      simp only [Act.put, List.setIfInBounds_toArray, List.set_cons_zero, List.set_cons_succ, i64_w, i32_w]
                      rfl
                    refine pure_ (i := 11) (N := some 53) (v := ?_) (a' := ?_) #[true, true, true, true, true, true, true, true, true, true, true, true] rfl rfl (any_of HT_.out (by kernel_rfl)) (fun _ _ _ h => h) (Or.inl ⟨by rfl, ?_⟩) ?_ ?_
                    rotate_left
                    · intro w'
                      go_simp
                      with_reducible rfl
                    rotate_left
                    · simp only [Act.put, List.setIfInBounds_toArray, List.set_cons_zero, List.set_cons_succ, i64_w, i32_w]
                      rfl
                    refine done_ (done_of HT_.out (by kernel_rfl)) ?_
                    try go_wp2
                    go_roundg k2
                    case measure => have := HJ2.out; have := HK2.out; omega
                    case rel => exact ⟨(wrap64 (x5_2 + 1)), (by first | rfl | (simp; done) | (simp [*]; done)), H', ⟨by have := HJ2.out; have := HK2.out; omega⟩, ⟨by (with_reducible repeat (first | refine blk_drewN ?_ _ | refine blk_drew ?_ | refine blk_alloc ?_ _)); exact BK399.out⟩, ⟨by (with_reducible repeat (first | refine blk_drewN ?_ _ | refine blk_drew ?_ | refine blk_alloc ?_ _)); exact BK400.out⟩, ⟨by repeat (first | (with_reducible first | exact HB.out | apply below_alloc | apply pw_below_drewN | apply below_drew1 | refine below_set ?_ GE399.out | refine below_set ?_ GE400.out) | exact HB.out)⟩⟩
                  · replace c31 := Bool.eq_false_iff.mpr c31
                    subst c31
                    have H1 : (some false) = some r := by rw [if_neg (show ¬ (false = true) by decide)] at H; exact H
                    clear H
                    have H := H1
                    clear H1
                    obtain rfl := Option.some.inj H
                    have hnb36 := NB399_400.out
                    have hnc36 := NB400_399.out
                    have hcz37_0 : wr.cell? ⟨gb399, 0, none⟩ = some (.int .i64 a0_0) := (blk_cell BK399.out 0).trans rfl
                    have hcz37_1 : wr.cell? ⟨gb399, 1, none⟩ = some (.int .i64 a0_1) := (blk_cell BK399.out 1).trans rfl
                    have hcz37_2 : wr.cell? ⟨gb399, 2, none⟩ = some (.int .i64 a0_2) := (blk_cell BK399.out 2).trans rfl
                    have hcz37_3 : wr.cell? ⟨gb399, 3, none⟩ = some (.int .i64 a0_3) := (blk_cell BK399.out 3).trans rfl
                    have hcz37_4 : wr.cell? ⟨gb399, 4, none⟩ = some (.slice A0_4 l0_4.length c0_4) := (blk_cell BK399.out 4).trans rfl
                    have hcz37_5 : wr.cell? ⟨gb399, 5, none⟩ = some (.slice A0_5 l0_5.length c0_5) := (blk_cell BK399.out 5).trans rfl
                    have hcz37_6 : wr.cell? ⟨gb399, 6, none⟩ = some (.string a0_6) := (blk_cell BK399.out 6).trans rfl
                    have hcz37_7 : wr.cell? ⟨gb399, 7, none⟩ = some (.slice A0_7 l0_7.length c0_7) := (blk_cell BK399.out 7).trans rfl
                    have hfz37_0 := blk_frozen BK399.out 0
                    have hfz37_1 := blk_frozen BK399.out 1
                    have hfz37_2 := blk_frozen BK399.out 2
                    have hfz37_3 := blk_frozen BK399.out 3
                    have hfz37_4 := blk_frozen BK399.out 4
                    have hfz37_5 := blk_frozen BK399.out 5
                    have hfz37_6 := blk_frozen BK399.out 6
                    have hfz37_7 := blk_frozen BK399.out 7
                    try go_wp2
                    have n0_ := Aside0.mk (blk_drew BK399.out)
                    have n1_ := Aside0.mk (blk_drew BK400.out)
                    have n2_ := Aside0.mk (below_drew1 HB.out)
                    clear BK399
                    clear BK400
                    clear HB
                    have BK399 := n0_
                    have BK400 := n1_
                    have HB := n2_
                    clear n0_ n1_ n2_
                    have p402 : 0 ≤ (x5_2 : Int) := of_decide_eq_true (by first | (with_reducible assumption) | assumption)
                    have q402 : x5_2 < (l0_7.length : Int) := of_decide_eq_true (by first | (with_reducible assumption) | assumption)
                    obtain ⟨ad402, A402_3, c402_3, A402_4, c402_4, e402, hx402_0, hx402_1, hx402_2, hx402_3, hx402_4, hx402_5, hl402_3, hi402_3, hl402_4, hi402_4⟩ := at_T54 HR0_7.out x5_2 p402 q402
                    have hw402_5 := hx402_5
                    have hw402_4 := hx402_4
                    have hw402_3 := hx402_3
                    have hw402_2 := hx402_2
                    have hw402_1 := hx402_1
                    have hw402_0 := hx402_0
                    cases e402
                    replace hx402_0 := (HB.out.cell (World.block_lt_of_cell? w _ hx402_0)).trans hx402_0
                    replace hx402_1 := (HB.out.cell (World.block_lt_of_cell? w _ hx402_1)).trans hx402_1
                    replace hx402_2 := (HB.out.cell (World.block_lt_of_cell? w _ hx402_2)).trans hx402_2
                    replace hx402_3 := (HB.out.cell (World.block_lt_of_cell? w _ hx402_3)).trans hx402_3
                    replace hx402_4 := (HB.out.cell (World.block_lt_of_cell? w _ hx402_4)).trans hx402_4
                    replace hx402_5 := (HB.out.cell (World.block_lt_of_cell? w _ hx402_5)).trans hx402_5
                    have HR402_3 := Aside0.mk hi402_3
                    have HC402_3 := Aside0.mk hl402_3
                    clear hi402_3 hl402_3
                    have HR402_4 := Aside0.mk hi402_4
                    have HC402_4 := Aside0.mk hl402_4
                    clear hi402_4 hl402_4
                    replace p402 := eq_true p402
                    replace q402 := eq_true q402
                    have p403 : 0 ≤ (x5_2 : Int) := of_decide_eq_true (by first | (with_reducible assumption) | assumption)
                    have q403 : x5_2 < (l1_7.length : Int) := of_decide_eq_true (by first | (with_reducible assumption) | assumption)
                    obtain ⟨ad403, A403_3, c403_3, A403_4, c403_4, e403, hx403_0, hx403_1, hx403_2, hx403_3, hx403_4, hx403_5, hl403_3, hi403_3, hl403_4, hi403_4⟩ := at_T54 HR1_7.out x5_2 p403 q403
                    have hw403_5 := hx403_5
                    have hw403_4 := hx403_4
                    have hw403_3 := hx403_3
                    have hw403_2 := hx403_2
                    have hw403_1 := hx403_1
                    have hw403_0 := hx403_0
                    cases e403
                    replace hx403_0 := (HB.out.cell (World.block_lt_of_cell? w _ hx403_0)).trans hx403_0
                    replace hx403_1 := (HB.out.cell (World.block_lt_of_cell? w _ hx403_1)).trans hx403_1
                    replace hx403_2 := (HB.out.cell (World.block_lt_of_cell? w _ hx403_2)).trans hx403_2
                    replace hx403_3 := (HB.out.cell (World.block_lt_of_cell? w _ hx403_3)).trans hx403_3
                    replace hx403_4 := (HB.out.cell (World.block_lt_of_cell? w _ hx403_4)).trans hx403_4
                    replace hx403_5 := (HB.out.cell (World.block_lt_of_cell? w _ hx403_5)).trans hx403_5
                    have HR403_3 := Aside0.mk hi403_3
                    have HC403_3 := Aside0.mk hl403_3
                    clear hi403_3 hl403_3
                    have HR403_4 := Aside0.mk hi403_4
                    have HC403_4 := Aside0.mk hl403_4
                    clear hi403_4 hl403_4
                    replace p403 := eq_true p403
                    replace q403 := eq_true q403
                    refine start_ (n := 12) (S := fun w' => w'.cell? ⟨gb399, 0, none⟩ = some (.int .i64 a0_0) ∧ w'.cell? ⟨gb399, 1, none⟩ = some (.int .i64 a0_1) ∧ w'.cell? ⟨gb399, 2, none⟩ = some (.int .i64 a0_2) ∧ w'.cell? ⟨gb399, 3, none⟩ = some (.int .i64 a0_3) ∧ w'.cell? ⟨gb399, 4, none⟩ = some (.slice A0_4 l0_4.length c0_4) ∧ w'.cell? ⟨gb399, 5, none⟩ = some (.slice A0_5 l0_5.length c0_5) ∧ w'.cell? ⟨gb399, 6, none⟩ = some (.string a0_6) ∧ w'.cell? ⟨gb399, 7, none⟩ = some (.slice (some ad402) l0_7.length c0_7) ∧ w'.cell? ⟨gb400, 0, none⟩ = some (.int .i64 a1_0) ∧ w'.cell? ⟨gb400, 1, none⟩ = some (.int .i64 a1_1) ∧ w'.cell? ⟨gb400, 2, none⟩ = some (.int .i64 a1_2) ∧ w'.cell? ⟨gb400, 3, none⟩ = some (.int .i64 a1_3) ∧ w'.cell? ⟨gb400, 4, none⟩ = some (.slice A1_4 l1_4.length c1_4) ∧ w'.cell? ⟨gb400, 5, none⟩ = some (.slice A1_5 l1_5.length c1_5) ∧ w'.cell? ⟨gb400, 6, none⟩ = some (.string a1_6) ∧ w'.cell? ⟨gb400, 7, none⟩ = some (.slice (some ad403) l1_7.length c1_7) ∧ w'.cell? (ad402.add ((x5_2).toNat * 6)) = some (.int .i64 ((rd_T54 l0_7 x5_2).f0)) ∧ w'.cell? ⟨(ad402.add ((x5_2).toNat * 6)).block, (ad402.add ((x5_2).toNat * 6)).off + 1, none⟩ = some (.int .i64 ((rd_T54 l0_7 x5_2).f1)) ∧ w'.cell? ⟨(ad402.add ((x5_2).toNat * 6)).block, (ad402.add ((x5_2).toNat * 6)).off + 2, none⟩ = some (.int .i64 ((rd_T54 l0_7 x5_2).f2)) ∧ w'.cell? ⟨(ad402.add ((x5_2).toNat * 6)).block, (ad402.add ((x5_2).toNat * 6)).off + 3, none⟩ = some (.slice A402_3 ((rd_T54 l0_7 x5_2).f3.f0).length c402_3) ∧ w'.cell? ⟨(ad402.add ((x5_2).toNat * 6)).block, (ad402.add ((x5_2).toNat * 6)).off + 4, none⟩ = some (.slice A402_4 ((rd_T54 l0_7 x5_2).f3.f1).length c402_4) ∧ w'.cell? ⟨(ad402.add ((x5_2).toNat * 6)).block, (ad402.add ((x5_2).toNat * 6)).off + 5, none⟩ = some (.string ((rd_T54 l0_7 x5_2).f4)) ∧ w'.cell? (ad403.add ((x5_2).toNat * 6)) = some (.int .i64 ((rd_T54 l1_7 x5_2).f0)) ∧ w'.cell? ⟨(ad403.add ((x5_2).toNat * 6)).block, (ad403.add ((x5_2).toNat * 6)).off + 1, none⟩ = some (.int .i64 ((rd_T54 l1_7 x5_2).f1)) ∧ w'.cell? ⟨(ad403.add ((x5_2).toNat * 6)).block, (ad403.add ((x5_2).toNat * 6)).off + 2, none⟩ = some (.int .i64 ((rd_T54 l1_7 x5_2).f2)) ∧ w'.cell? ⟨(ad403.add ((x5_2).toNat * 6)).block, (ad403.add ((x5_2).toNat * 6)).off + 3, none⟩ = some (.slice A403_3 ((rd_T54 l1_7 x5_2).f3.f0).length c403_3) ∧ w'.cell? ⟨(ad403.add ((x5_2).toNat * 6)).block, (ad403.add ((x5_2).toNat * 6)).off + 4, none⟩ = some (.slice A403_4 ((rd_T54 l1_7 x5_2).f3.f1).length c403_4) ∧ w'.cell? ⟨(ad403.add ((x5_2).toNat * 6)).block, (ad403.add ((x5_2).toNat * 6)).off + 5, none⟩ = some (.string ((rd_T54 l1_7 x5_2).f4))) (ds := []) #[false, false, false, false, false, false, false, false, false, false, false, false] (by kernel_rfl) rfl rfl ⟨(blk_cell BK399.out 0).trans rfl, (blk_cell BK399.out 1).trans rfl, (blk_cell BK399.out 2).trans rfl, (blk_cell BK399.out 3).trans rfl, (blk_cell BK399.out 4).trans rfl, (blk_cell BK399.out 5).trans rfl, (blk_cell BK399.out 6).trans rfl, (blk_cell BK399.out 7).trans rfl, (blk_cell BK400.out 0).trans rfl, (blk_cell BK400.out 1).trans rfl, (blk_cell BK400.out 2).trans rfl, (blk_cell BK400.out 3).trans rfl, (blk_cell BK400.out 4).trans rfl, (blk_cell BK400.out 5).trans rfl, (blk_cell BK400.out 6).trans rfl, (blk_cell BK400.out 7).trans rfl, ((HB.out.cell (World.block_lt_of_cell? w _ hw402_0)).trans hw402_0), ((HB.out.cell (World.block_lt_of_cell? w _ hw402_1)).trans hw402_1), ((HB.out.cell (World.block_lt_of_cell? w _ hw402_2)).trans hw402_2), ((HB.out.cell (World.block_lt_of_cell? w _ hw402_3)).trans hw402_3), ((HB.out.cell (World.block_lt_of_cell? w _ hw402_4)).trans hw402_4), ((HB.out.cell (World.block_lt_of_cell? w _ hw402_5)).trans hw402_5), ((HB.out.cell (World.block_lt_of_cell? w _ hw403_0)).trans hw403_0), ((HB.out.cell (World.block_lt_of_cell? w _ hw403_1)).trans hw403_1), ((HB.out.cell (World.block_lt_of_cell? w _ hw403_2)).trans hw403_2), ((HB.out.cell (World.block_lt_of_cell? w _ hw403_3)).trans hw403_3), ((HB.out.cell (World.block_lt_of_cell? w _ hw403_4)).trans hw403_4), ((HB.out.cell (World.block_lt_of_cell? w _ hw403_5)).trans hw403_5)⟩ (fun hHeld => ?_); refine with_tabW folkmootref15_Same.tab6 folkmootref15_Same.bits6 (fun HT_ HW_ => ?_)
                    generalize wr.drew = w38 at BK399 BK400 HB HR402_3 HR402_4 HR403_3 HR403_4 hx402_0 hx402_1 hx402_2 hx402_3 hx402_4 hx402_5 hx403_0 hx403_1 hx403_2 hx403_3 hx403_4 hx403_5 hHeld ⊢
                    refine pure_ (i := 0) (N := some 42) (v := ?_) (a' := ?_) #[true, false, false, false, false, false, false, false, false, false, false, false] rfl rfl (any_of HT_.out (by kernel_rfl)) (fun _ _ _ h => h) (Or.inl ⟨by rfl, ?_⟩) ?_ ?_
                    rotate_left
                    · intro w'
                      go_simp
                      with_reducible rfl
                    rotate_left
                    · simp only [Act.put, List.setIfInBounds_toArray, List.set_cons_zero, List.set_cons_succ, i64_w, i32_w]
                      rfl
                    refine pure_ (i := 2) (N := some 44) (v := ?_) (a' := ?_) #[true, false, true, false, false, false, false, false, false, false, false, false] rfl rfl (any_of HT_.out (by kernel_rfl)) (fun _ _ _ h => h) (Or.inl ⟨by rfl, ?_⟩) ?_ ?_
                    rotate_left
                    · intro w'
                      go_simp
                      with_reducible rfl
                    rotate_left
                    · simp only [Act.put, List.setIfInBounds_toArray, List.set_cons_zero, List.set_cons_succ, i64_w, i32_w]
                      rfl
                    refine pure_ (i := 5) (N := some 47) (v := ?_) (a' := ?_) #[true, false, true, false, false, true, false, false, false, false, false, false] rfl rfl (any_of HT_.out (by kernel_rfl)) (fun _ _ _ h => h) (Or.inl ⟨by rfl, ?_⟩) ?_ ?_
                    rotate_left
                    · intro w'
                      go_simp
                      with_reducible rfl
                    rotate_left
                    · simp only [Act.put, List.setIfInBounds_toArray, List.set_cons_zero, List.set_cons_succ, i64_w, i32_w]
                      rfl
                    refine pure_ (i := 7) (N := some 49) (v := ?_) (a' := ?_) #[true, false, true, false, false, true, false, true, false, false, false, false] rfl rfl (any_of HT_.out (by kernel_rfl)) (fun _ _ _ h => h) (Or.inl ⟨by rfl, ?_⟩) ?_ ?_
                    rotate_left
                    · intro w'
                      go_simp
                      with_reducible rfl
                    rotate_left
                    · simp only [Act.put, List.setIfInBounds_toArray, List.set_cons_zero, List.set_cons_succ, i64_w, i32_w]
                      rfl
                    refine take_ (i := 1) (N := some 43) (v := ?_) (a' := ?_) #[true, true, true, false, false, true, false, true, false, false, false, false] rfl rfl (take_ofW HT_.out HW_.out (by kernel_rfl)) (fun _ _ _ h => h) (Or.inl ⟨by rfl, ?_⟩) hHeld ?_ ?_
                    rotate_left
                    · rintro w' ⟨s0, s1, s2, s3, s4, s5, s6, s7, s8, s9, s10, s11, s12, s13, s14, s15, s16, s17, s18, s19, s20, s21, s22, s23, s24, s25, s26, s27⟩
                      go_simp
                      with_reducible rfl
                    rotate_left
                    · simp only [Act.put, List.setIfInBounds_toArray, List.set_cons_zero, List.set_cons_succ, i64_w, i32_w]
                      rfl
                    refine pure_ (i := 3) (N := some 45) (v := ?_) (a' := ?_) #[true, true, true, true, false, true, false, true, false, false, false, false] rfl rfl (any_of HT_.out (by kernel_rfl)) (fun _ _ _ h => h) (Or.inl ⟨by rfl, ?_⟩) ?_ ?_
                    rotate_left
                    · intro w'
                      go_simp
                      with_reducible rfl
                    rotate_left
                    · simp only [Act.put, List.setIfInBounds_toArray, List.set_cons_zero, List.set_cons_succ, i64_w, i32_w]
                      rfl
                    refine take_ (i := 4) (N := some 46) (v := ?_) (a' := ?_) #[true, true, true, true, true, true, false, true, false, false, false, false] rfl rfl (take_ofW HT_.out HW_.out (by kernel_rfl)) (fun _ _ _ h => h) (Or.inl ⟨by rfl, ?_⟩) hHeld ?_ ?_
                    rotate_left
                    · rintro w' ⟨s0, s1, s2, s3, s4, s5, s6, s7, s8, s9, s10, s11, s12, s13, s14, s15, s16, s17, s18, s19, s20, s21, s22, s23, s24, s25, s26, s27⟩
                      go_simp
                      with_reducible rfl
                    rotate_left
                    · simp only [Act.put, List.setIfInBounds_toArray, List.set_cons_zero, List.set_cons_succ, i64_w, i32_w]
                      rfl
                    refine take_ (i := 6) (N := some 48) (v := ?_) (a' := ?_) #[true, true, true, true, true, true, true, true, false, false, false, false] rfl rfl (take_ofW HT_.out HW_.out (by kernel_rfl)) (fun _ _ _ h => h) (Or.inl ⟨by rfl, ?_⟩) hHeld ?_ ?_
                    rotate_left
                    · rintro w' ⟨s0, s1, s2, s3, s4, s5, s6, s7, s8, s9, s10, s11, s12, s13, s14, s15, s16, s17, s18, s19, s20, s21, s22, s23, s24, s25, s26, s27⟩
                      go_simp
                      with_reducible rfl
                    rotate_left
                    · simp only [Act.put, List.setIfInBounds_toArray, List.set_cons_zero, List.set_cons_succ, i64_w, i32_w]
                      rfl
                    refine pure_ (i := 8) (N := some 50) (v := ?_) (a' := ?_) #[true, true, true, true, true, true, true, true, true, false, false, false] rfl rfl (any_of HT_.out (by kernel_rfl)) (fun _ _ _ h => h) (Or.inl ⟨by rfl, ?_⟩) ?_ ?_
                    rotate_left
                    · intro w'
                      go_simp
                      with_reducible rfl
                    rotate_left
                    · simp only [Act.put, List.setIfInBounds_toArray, List.set_cons_zero, List.set_cons_succ, i64_w, i32_w]
                      rfl
                    refine take_ (i := 9) (N := some 51) (v := ?_) (a' := ?_) #[true, true, true, true, true, true, true, true, true, true, false, false] rfl rfl (take_ofW HT_.out HW_.out (by kernel_rfl)) (fun _ _ _ h => h) (Or.inl ⟨by rfl, ?_⟩) hHeld ?_ ?_
                    rotate_left
                    · rintro w' ⟨s0, s1, s2, s3, s4, s5, s6, s7, s8, s9, s10, s11, s12, s13, s14, s15, s16, s17, s18, s19, s20, s21, s22, s23, s24, s25, s26, s27⟩
                      go_simp
                      with_reducible rfl
                    rotate_left
                    · simp only [Act.put, List.setIfInBounds_toArray, List.set_cons_zero, List.set_cons_succ, i64_w, i32_w]
                      rfl
                    refine one_ (i := 10) (N := some 52) #[true, true, true, true, true, true, true, true, true, true, true, false] rfl rfl (one_of HT_.out (by kernel_rfl)) (by decide) (fun K hK => ?_)
                    refine goes_ Try.func35 (by kernel_rfl) rfl #[.agg #[.int .i64 ((rd_T54 l0_7 x5_2).f0), .int .i64 ((rd_T54 l0_7 x5_2).f1), .int .i64 ((rd_T54 l0_7 x5_2).f2), .slice A402_3 ((rd_T54 l0_7 x5_2).f3.f0).length c402_3, .slice A402_4 ((rd_T54 l0_7 x5_2).f3.f1).length c402_4, .string ((rd_T54 l0_7 x5_2).f4)], .agg #[.int .i64 ((rd_T54 l1_7 x5_2).f0), .int .i64 ((rd_T54 l1_7 x5_2).f1), .int .i64 ((rd_T54 l1_7 x5_2).f2), .slice A403_3 ((rd_T54 l1_7 x5_2).f3.f0).length c403_3, .slice A403_4 ((rd_T54 l1_7 x5_2).f3.f1).length c403_4, .string ((rd_T54 l1_7 x5_2).f4)]] (by rfl) rfl rfl (by (try simp only [List.map_toArray, List.map_cons, List.map_nil]); first | done | rfl | (simp only [List.length_drop, List.length_take]; rfl)) ?_
                    with_reducible refine (folkmootref15_Entries.calls k2 ((rd_T54 l0_7 x5_2).f0) ((rd_T54 l0_7 x5_2).f1) ((rd_T54 l0_7 x5_2).f2) _ _ ((rd_T54 l0_7 x5_2).f3.f0) _ _ ((rd_T54 l0_7 x5_2).f3.f1) ((rd_T54 l0_7 x5_2).f4) ((rd_T54 l1_7 x5_2).f0) ((rd_T54 l1_7 x5_2).f1) ((rd_T54 l1_7 x5_2).f2) _ _ ((rd_T54 l1_7 x5_2).f3.f0) _ _ ((rd_T54 l1_7 x5_2).f3.f1) ((rd_T54 l1_7 x5_2).f4) false _ ?side1 ?side2 ?side3 ?side4 ?side5 ?side6 ?side7 ?side8 A30.out).mono ?_
                    (case side1 => repeat (first | exact (Kd.C_below HR402_3.out HB.out) | (with_reducible refine Kd.C_alloc ?_ _) | (with_reducible refine Kd.C_drewN ?_ _) | (with_reducible refine Kd.C_drew ?_)))
                    (case side2 => exact HC402_3.out)
                    (case side3 => repeat (first | exact (Kd.C_below HR402_4.out HB.out) | (with_reducible refine Kd.C_alloc ?_ _) | (with_reducible refine Kd.C_drewN ?_ _) | (with_reducible refine Kd.C_drew ?_)))
                    (case side4 => exact HC402_4.out)
                    (case side5 => repeat (first | exact (Kd.C_below HR403_3.out HB.out) | (with_reducible refine Kd.C_alloc ?_ _) | (with_reducible refine Kd.C_drewN ?_ _) | (with_reducible refine Kd.C_drew ?_)))
                    (case side6 => exact HC403_3.out)
                    (case side7 => repeat (first | exact (Kd.C_below HR403_4.out HB.out) | (with_reducible refine Kd.C_alloc ?_ _) | (with_reducible refine Kd.C_drewN ?_ _) | (with_reducible refine Kd.C_drew ?_)))
                    (case side8 => exact HC403_4.out)
                    rintro e w39 ⟨rfl, hb⟩
                    refine ⟨_, rfl, ?_⟩
                    have n0_ := Aside0.mk (blk_below (g := gb399) (o := .cells #[.int .i64 a0_0, .int .i64 a0_1, .int .i64 a0_2, .int .i64 a0_3, .slice A0_4 l0_4.length c0_4, .slice A0_5 l0_5.length c0_5, .string a0_6, .slice (some ad402) l0_7.length c0_7] 30 (0, 0)) (by (with_reducible repeat (first | refine blk_drewN ?_ _ | refine blk_drew ?_ | refine blk_alloc ?_ _)); exact BK399.out) hb)
                    have n1_ := Aside0.mk (blk_below (g := gb400) (o := .cells #[.int .i64 a1_0, .int .i64 a1_1, .int .i64 a1_2, .int .i64 a1_3, .slice A1_4 l1_4.length c1_4, .slice A1_5 l1_5.length c1_5, .string a1_6, .slice (some ad403) l1_7.length c1_7] 30 (0, 0)) (by (with_reducible repeat (first | refine blk_drewN ?_ _ | refine blk_drew ?_ | refine blk_alloc ?_ _)); exact BK400.out) hb)
                    have n2_ := Aside0.mk (below_step (by repeat (first | (with_reducible first | exact HB.out | apply below_alloc | apply pw_below_drewN | apply below_drew1 | refine below_set ?_ GE399.out | refine below_set ?_ GE400.out) | exact HB.out)) hb)
                    clear BK399
                    clear BK400
                    clear HB
                    have BK399 := n0_
                    have BK400 := n1_
                    have HB := n2_
                    clear n0_ n1_ n2_
                    (try clear hb)
                    (try clear hb2)
                    (try clear hk)
                    (try clear hi)
                    refine hK.out _ _ ⟨(blk_cell BK399.out 0).trans rfl, (blk_cell BK399.out 1).trans rfl, (blk_cell BK399.out 2).trans rfl, (blk_cell BK399.out 3).trans rfl, (blk_cell BK399.out 4).trans rfl, (blk_cell BK399.out 5).trans rfl, (blk_cell BK399.out 6).trans rfl, (blk_cell BK399.out 7).trans rfl, (blk_cell BK400.out 0).trans rfl, (blk_cell BK400.out 1).trans rfl, (blk_cell BK400.out 2).trans rfl, (blk_cell BK400.out 3).trans rfl, (blk_cell BK400.out 4).trans rfl, (blk_cell BK400.out 5).trans rfl, (blk_cell BK400.out 6).trans rfl, (blk_cell BK400.out 7).trans rfl, ((HB.out.cell (World.block_lt_of_cell? w _ hw402_0)).trans hw402_0), ((HB.out.cell (World.block_lt_of_cell? w _ hw402_1)).trans hw402_1), ((HB.out.cell (World.block_lt_of_cell? w _ hw402_2)).trans hw402_2), ((HB.out.cell (World.block_lt_of_cell? w _ hw402_3)).trans hw402_3), ((HB.out.cell (World.block_lt_of_cell? w _ hw402_4)).trans hw402_4), ((HB.out.cell (World.block_lt_of_cell? w _ hw402_5)).trans hw402_5), ((HB.out.cell (World.block_lt_of_cell? w _ hw403_0)).trans hw403_0), ((HB.out.cell (World.block_lt_of_cell? w _ hw403_1)).trans hw403_1), ((HB.out.cell (World.block_lt_of_cell? w _ hw403_2)).trans hw403_2), ((HB.out.cell (World.block_lt_of_cell? w _ hw403_3)).trans hw403_3), ((HB.out.cell (World.block_lt_of_cell? w _ hw403_4)).trans hw403_4), ((HB.out.cell (World.block_lt_of_cell? w _ hw403_5)).trans hw403_5)⟩ (fun hHeld => ?_)
                    clear hK K
                    refine norm_ (a' := ?_) ?_ ?_
                    rotate_left
                    · show Act.put _ (some 52) _ = _
                      simp only [Act.put, List.setIfInBounds_toArray, List.set_cons_zero, List.set_cons_succ, i64_w, i32_w]
                      rfl
                    refine pure_ (i := 11) (N := some 53) (v := ?_) (a' := ?_) #[true, true, true, true, true, true, true, true, true, true, true, true] rfl rfl (any_of HT_.out (by kernel_rfl)) (fun _ _ _ h => h) (Or.inl ⟨by rfl, ?_⟩) ?_ ?_
                    rotate_left
                    · intro w'
                      go_simp
                      with_reducible rfl
                    rotate_left
                    · simp only [Act.put, List.setIfInBounds_toArray, List.set_cons_zero, List.set_cons_succ, i64_w, i32_w]
                      rfl
                    refine done_ (done_of HT_.out (by kernel_rfl)) ?_
                    try go_wp2
                    go_ret
                    exact ⟨by first | rfl | (simp [errW_none, errW_some] <;> rfl) | (simp [*, errW_none, errW_some] <;> rfl), by repeat (first | (with_reducible first | exact HB.out | apply below_alloc | apply pw_below_drewN | apply below_drew1 | refine below_set ?_ GE399.out | refine below_set ?_ GE400.out) | exact HB.out)⟩
                · rw [if_neg c29] at H
                  exact absurd H (by simp)
              · rw [if_neg c28] at H
                exact absurd H (by simp)
            · rw [if_neg c27] at H
              have c27b0 : decide (x5_2 < (l0_7.length : Int)) = false := decide_eq_false c27
              clear c27
              obtain rfl := Option.some.inj H
              have hnb40 := NB399_400.out
              have hnc40 := NB400_399.out
              have hcz41_0 : wr.cell? ⟨gb399, 0, none⟩ = some (.int .i64 a0_0) := (blk_cell BK399.out 0).trans rfl
              have hcz41_1 : wr.cell? ⟨gb399, 1, none⟩ = some (.int .i64 a0_1) := (blk_cell BK399.out 1).trans rfl
              have hcz41_2 : wr.cell? ⟨gb399, 2, none⟩ = some (.int .i64 a0_2) := (blk_cell BK399.out 2).trans rfl
              have hcz41_3 : wr.cell? ⟨gb399, 3, none⟩ = some (.int .i64 a0_3) := (blk_cell BK399.out 3).trans rfl
              have hcz41_4 : wr.cell? ⟨gb399, 4, none⟩ = some (.slice A0_4 l0_4.length c0_4) := (blk_cell BK399.out 4).trans rfl
              have hcz41_5 : wr.cell? ⟨gb399, 5, none⟩ = some (.slice A0_5 l0_5.length c0_5) := (blk_cell BK399.out 5).trans rfl
              have hcz41_6 : wr.cell? ⟨gb399, 6, none⟩ = some (.string a0_6) := (blk_cell BK399.out 6).trans rfl
              have hcz41_7 : wr.cell? ⟨gb399, 7, none⟩ = some (.slice A0_7 l0_7.length c0_7) := (blk_cell BK399.out 7).trans rfl
              have hfz41_0 := blk_frozen BK399.out 0
              have hfz41_1 := blk_frozen BK399.out 1
              have hfz41_2 := blk_frozen BK399.out 2
              have hfz41_3 := blk_frozen BK399.out 3
              have hfz41_4 := blk_frozen BK399.out 4
              have hfz41_5 := blk_frozen BK399.out 5
              have hfz41_6 := blk_frozen BK399.out 6
              have hfz41_7 := blk_frozen BK399.out 7
              go_wp2
              go_ret
              exact ⟨by first | rfl | (simp [errW_none, errW_some] <;> rfl) | (simp [*, errW_none, errW_some] <;> rfl), by repeat (first | (with_reducible first | exact HB.out | apply below_alloc | apply pw_below_drewN | apply below_drew1 | refine below_set ?_ GE399.out | refine below_set ?_ GE400.out) | exact HB.out)⟩

end Go.Proofs.Ytbjhjimkljbjlaa.PA
/- The law RaftlogSlice, walked. -/
namespace Go.Proofs.Ytbjhjimkljbjlaa.PA
open Go.RowKit Go.Proofs.YtbjhjimkljbjlaaW.PrintWords Go.Proofs.YtbjhjimkljbjlaaW.PrintLast
set_option linter.unusedVariables false

end Go.Proofs.Ytbjhjimkljbjlaa.PA
